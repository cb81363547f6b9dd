/- The document's numbers as bytes, plainly: they come to the same. -/
import Derived.Test.YtnmpojodadlnmaaX12
import Derived.Test.YtnmpojodadlnmaaX13
import Derived.Test.YtnmpojodadlnmaaX18
import Derived.Test.YtnmpojodadlnmaaX19
import Derived.Test.YtnmpojodadlnmaaLeFacts
import Derived.Test.YtnmpojodadlnmaaLeZig
namespace Go.Proofs.Ytnmpojodadlnmaa.RefLe
open Go.RowKit Go.Proofs.Ytnmpojodadlnmaa.X Go.Proofs.YtnmpojodadlnmaaW.PrintWords Go.Proofs.YtnmpojodadlnmaaW.PrintLast Go.Proofs.YtnmpojodadlnmaaW.PrintMore
open Go.Proofs.Ytnmpojodadlnmaa.Leb Go.Proofs.Ytnmpojodadlnmaa.LeFacts Go.Proofs.Ytnmpojodadlnmaa.LeZig
set_option linter.unusedVariables false
set_option linter.unusedSimpArgs false

theorem wrapN (n : Nat) : IntKind.u64.wrap (n : Int) = ((n % 18446744073709551616 : Nat) : Int) := by
  rw [wrap_u64]; rfl
theorem wrapN' (n : Nat) (h : n < 18446744073709551616) : IntKind.u64.wrap (n : Int) = (n : Int) := by
  rw [wrapN, Nat.mod_eq_of_lt h]
theorem refPut_l0 : ∀ (n k : Nat) (acc : List Int), n < 18446744073709551616 → (leb n).length ≤ k → acc.length + (leb n).length < 140737488355328 → towncrierref01_Put.l0 k (n : Int) acc = some (acc ++ leb n) := by
  intro n
  induction n using Nat.strongRecOn with
  | ind n ih =>
    intro k acc hn hk hl
    have hpos := leb_pos n
    obtain ⟨k, rfl⟩ : ∃ m, k = m + 1 := ⟨k - 1, by omega⟩
    unfold towncrierref01_Put.l0
    by_cases h : n < 128
    · rw [if_neg (by omega), if_pos (by omega), leb_small h]
      have e : (n : Int) % 256 = n := by omega
      rw [e]
    · rw [leb_big h] at hk hl ⊢
      simp only [List.length_cons] at hk hl
      have e1 : Int.tdiv (n : Int) 128 = ((n / 128 : Nat) : Int) := by rw [Int.tdiv_eq_ediv_of_nonneg (by omega)]; omega
      have e2 : (Int.tmod (n : Int) 128 + 128) % 256 = ((n % 128 : Nat) : Int) + 128 := by rw [Int.tmod_eq_emod_of_nonneg (by omega)]; omega
      rw [if_pos (by omega), if_pos (by omega), e1, e2, wrapN' _ (by omega), ih (n / 128) (by omega) k _ (by omega) (by omega) (by simp only [List.length_append, List.length_cons, List.length_nil]; omega)]
      simp
theorem refPut_f (n k : Nat) (hk : 10 ≤ k) (hn : n < 18446744073709551616) : towncrierref01_Put.f k (n : Int) = some (leb n) := by
  have h := leb_len10 hn
  unfold towncrierref01_Put.f
  rw [refPut_l0 n k [] hn (by omega) (by simp only [List.length_nil]; omega)]
  rfl
theorem refZig_f (a : Int) (h1 : -9223372036854775808 ≤ a) (h2 : a < 9223372036854775808) : towncrierref01_Zig.f a = some (zig a) := by
  unfold towncrierref01_Zig.f zig
  by_cases h : a ≥ 0
  · rw [if_pos h, if_pos h, wrap_u64, wrap_u64]
    congr 1; omega
  · rw [if_neg h, if_neg h, wrap_u64, wrap_u64, wrap_u64]
    have e1 : wrap64 (a + 1) = a + 1 := by unfold wrap64; omega
    have e2 : wrap64 (-(a + 1)) = -(a + 1) := by unfold wrap64; omega
    rw [e1, e2]
    congr 1; omega
theorem refZag_f (n : Int) (h1 : 0 ≤ n) (h2 : n < 18446744073709551616) : towncrierref01_Zag.f n = some (zag n) := by
  unfold towncrierref01_Zag.f zag
  rw [Int.tmod_eq_emod_of_nonneg h1, Int.tdiv_eq_ediv_of_nonneg h1, wrap_u64]
  have e0 : n / 2 % 18446744073709551616 = n / 2 := by omega
  have e1 : wrap64 (n / 2) = n / 2 := by unfold wrap64; omega
  have e2 : wrap64 (-(n / 2)) = -(n / 2) := by unfold wrap64; omega
  have e3 : wrap64 (-(n / 2) - 1) = -(n / 2) - 1 := by unfold wrap64; omega
  rw [e0, e1, e2, e3]
  by_cases h : n % 2 = 0
  · rw [if_pos h, if_pos h]
  · rw [if_neg h, if_neg h]
/-- The value of groups. -/
def valN : List Int → Nat
  | [] => 0
  | b :: r => (b % 128).toNat + 128 * valN r
theorem valN_snoc (l : List Int) (b : Int) : valN (l ++ [b]) = valN l + (b % 128).toNat * 128 ^ l.length := by
  induction l with
  | nil => simp [valN]
  | cons a r ih =>
    rw [List.cons_append]
    simp only [valN, ih, List.length_cons]
    rw [Nat.pow_succ, Nat.mul_add, Nat.add_assoc]
    congr 2
    rw [Nat.mul_comm (128 ^ r.length) 128, ← Nat.mul_assoc, ← Nat.mul_assoc, Nat.mul_comm 128]
theorem valN_leb : ∀ n : Nat, valN (leb n) = n := by
  intro n
  induction n using Nat.strongRecOn with
  | ind n ih =>
    by_cases h : n < 128
    · rw [leb_small h]; simp only [valN]; omega
    · rw [leb_big h]
      simp only [valN]
      rw [ih (n / 128) (by omega)]
      omega
theorem acc_mod (A c P M : Nat) : (A % M + c * (P % M) % M) % M = (A + c * P) % M := by
  simp [Nat.add_mod, Nat.mul_mod]
/-- A number is told: its bytes end where the first byte below 128 stands. -/
theorem get_ends {l : List Int} (hb : ∀ x ∈ l, 0 ≤ x ∧ x < 256) {y u : Nat} (h : getL l 0 0 = (y, u, true)) : ∃ f c r, l = f ++ c :: r ∧ u = f.length + 1 ∧ c < 128 ∧ (∀ x ∈ f, 128 ≤ x) ∧ leb y = f ++ [c] ∧ u ≤ 10 ∧ y < 18446744073709551616 := by
  obtain ⟨m, e1, e2, _, e4, e5, e6, e7⟩ := get_some l 0 0 y u hb h
  have hm : y = m := by omega
  subst hm
  obtain ⟨f, c, hf, hc, hc0, _, hx⟩ := leb_form y
  rw [Nat.sub_zero] at e7
  have hu : u = f.length + 1 := by
    have h1 := congrArg List.length (e7.symm.trans hf)
    rw [List.length_take] at h1
    simp only [List.length_append, List.length_cons, List.length_nil] at h1
    omega
  refine ⟨f, c, l.drop u, ?_, hu, hc, hx, hf, e6, by omega⟩
  have h2 := List.take_append_drop u l
  rw [← e7, hf, List.append_assoc] at h2
  exact h2.symm
theorem first_low {f f' : List Int} {c c' : Int} {r r' : List Int} (h : f ++ c :: r = f' ++ c' :: r') (hf : ∀ x ∈ f, 128 ≤ x) (hc : c < 128) (hf' : ∀ x ∈ f', 128 ≤ x) (hc' : c' < 128) : f = f' ∧ c = c' := by
  induction f generalizing f' with
  | nil =>
    cases f' with
    | nil => simp only [List.nil_append, List.cons.injEq] at h; exact ⟨rfl, h.1⟩
    | cons a f' =>
      simp only [List.nil_append, List.cons_append, List.cons.injEq] at h
      have := hf' a (by simp)
      omega
  | cons a f ih =>
    cases f' with
    | nil =>
      simp only [List.nil_append, List.cons_append, List.cons.injEq] at h
      have := hf a (by simp)
      omega
    | cons a' f' =>
      simp only [List.cons_append, List.cons.injEq] at h
      obtain ⟨e1, e2⟩ := ih h.2 (fun x hx => hf x (by simp [hx])) (fun x hx => hf' x (by simp [hx]))
      exact ⟨by rw [h.1, e1], e2⟩
def fail : Int × Int × Bool := (0, 0, false)
theorem fail_of {l : List Int} (h : (getL l 0 0).2.2 = false) : castG (getL l 0 0) = fail := by rw [get_none l 0 0 h]; rfl
/-- Where the first byte below 128 stands. -/
theorem refGet_end (l : List Int) (hb : ∀ x ∈ l, 0 ≤ x ∧ x < 256) (f : List Int) (c : Int) (r : List Int) (hl : l = f ++ c :: r) (hf : ∀ x ∈ f, 128 ≤ x) (hc : c < 128) (hf9 : f.length < 10) :
    (if leb (valN (f ++ [c]) % 18446744073709551616) = f ++ [c] then (((valN (f ++ [c]) % 18446744073709551616 : Nat) : Int), ((f.length + 1 : Nat) : Int), true) else fail) = castG (getL l 0 0) := by
  have hvlt : valN (f ++ [c]) % 18446744073709551616 < 18446744073709551616 := Nat.mod_lt _ (by decide)
  by_cases he : leb (valN (f ++ [c]) % 18446744073709551616) = f ++ [c]
  · rw [if_pos he]
    have h1 := get_leb r (valN (f ++ [c]) % 18446744073709551616) 0 0 (by omega) (by omega) (.inl rfl)
    have e : leb (valN (f ++ [c]) % 18446744073709551616) ++ r = l := by rw [he, hl]; simp
    have el : (leb (valN (f ++ [c]) % 18446744073709551616)).length = f.length + 1 := by rw [he]; simp
    rw [e, el] at h1
    rw [h1]
    simp [castG]
  · rw [if_neg he]
    cases hg : (getL l 0 0).2.2 with
    | false => exact (fail_of hg).symm
    | true =>
      exfalso
      obtain ⟨y, u, hyu⟩ : ∃ y u, getL l 0 0 = (y, u, true) := ⟨_, _, by rw [← hg]⟩
      obtain ⟨f', c', r', h1, h2, h3, h4, h5, _, h7⟩ := get_ends hb hyu
      obtain ⟨e1, e2⟩ := first_low (hl.symm.trans h1) hf hc h4 h3
      subst e1 e2
      apply he
      rw [← h5, valN_leb, Nat.mod_eq_of_lt h7]
theorem refGet_none (l : List Int) (hb : ∀ x ∈ l, 0 ≤ x ∧ x < 256) (i : Nat) (hi : i ≤ l.length) (hf : ∀ x ∈ l.take i, 128 ≤ x) (h : i = l.length ∨ i = 10) : castG (getL l 0 0) = fail := by
  cases hg : (getL l 0 0).2.2 with
  | false => exact fail_of hg
  | true =>
    exfalso
    obtain ⟨y, u, hyu⟩ : ∃ y u, getL l 0 0 = (y, u, true) := ⟨_, _, by rw [← hg]⟩
    obtain ⟨f', c', r', h1, h2, h3, h4, h5, h6, h7⟩ := get_ends hb hyu
    have hlen : l.length = f'.length + 1 + r'.length := by rw [h1]; simp only [List.length_append, List.length_cons]; omega
    have hmem : c' ∈ l.take i := by
      rw [h1, List.take_append, List.mem_append]
      right
      obtain ⟨j, hj⟩ : ∃ j, i - f'.length = j + 1 := ⟨i - f'.length - 1, by omega⟩
      rw [hj, List.take_succ_cons]
      simp
    have := hf c' hmem
    omega
theorem step_wrap (i : Nat) (h : i ≤ 1000000) : wrap64 ((i : Int) + 1) = ((i + 1 : Nat) : Int) := by unfold wrap64; omega
theorem step_acc (A P : Nat) (c : Int) (h0 : 0 ≤ c) (h1 : c < 256) : IntKind.u64.wrap (((A % 18446744073709551616 : Nat) : Int) + IntKind.u64.wrap (IntKind.u64.wrap (Int.tmod c 128) * ((P % 18446744073709551616 : Nat) : Int))) = (((A + (c % 128).toNat * P) % 18446744073709551616 : Nat) : Int) := by
  have hcm : IntKind.u64.wrap (Int.tmod c 128) = (((c % 128).toNat : Nat) : Int) := by
    rw [Int.tmod_eq_emod_of_nonneg h0, wrap_u64]; omega
  rw [hcm, ← Int.natCast_mul, wrapN, ← Int.natCast_add, wrapN, acc_mod]
theorem step_pow (i : Nat) : IntKind.u64.wrap (((128 ^ i % 18446744073709551616 : Nat) : Int) * 128) = ((128 ^ (i + 1) % 18446744073709551616 : Nat) : Int) := by
  rw [show (128 : Int) = ((128 : Nat) : Int) from rfl, ← Int.natCast_mul, wrapN, Nat.pow_succ]
  congr 1
  simp [Nat.mul_mod]
theorem refGet_l0 (l : List Int) (hb : ∀ x ∈ l, 0 ≤ x ∧ x < 256) (hl : l.length ≤ 1000000) : ∀ (d i k : Nat), 10 - i = d → i ≤ 10 → i ≤ l.length → 2 * d + 14 ≤ k → (∀ x ∈ l.take i, 128 ≤ x) →
    towncrierref01_Get.l0 k l ((valN (l.take i) % 18446744073709551616 : Nat) : Int) ((128 ^ i % 18446744073709551616 : Nat) : Int) (i : Int) = some (castG (getL l 0 0)) := by
  intro d
  induction d with
  | zero =>
    intro i k hd hi hil hk hf
    have h10 : i = 10 := by omega
    obtain ⟨k, rfl⟩ : ∃ m, k = m + 2 := ⟨k - 2, by omega⟩
    have hn : decide ((i : Int) < 10) = false := decide_eq_false (by rw [h10]; decide)
    have hz : towncrierref01_Get.j1 (k + 1) l ((valN (l.take i) % 18446744073709551616 : Nat) : Int) ((128 ^ i % 18446744073709551616 : Nat) : Int) (i : Int) false = some fail := by
      simp only [towncrierref01_Get.j1]; rfl
    simp only [towncrierref01_Get.l0]
    rw [hn, hz, ite_self, refGet_none l hb i hil hf (.inr h10)]
  | succ d ih =>
    intro i k hd hi hil hk hf
    obtain ⟨k, rfl⟩ : ∃ m, k = m + 2 := ⟨k - 2, by omega⟩
    simp only [towncrierref01_Get.l0]
    by_cases hlt : i < l.length
    · have hy : decide ((i : Int) < 10) = true := decide_eq_true (by omega)
      have i1 : (0 : Int) ≤ (i : Int) := by omega
      have i2 : (i : Int) < (l.length : Int) := by omega
      have i3 : (0 : Int) ≤ ((i + 1 : Nat) : Int) := by omega
      have i4 : ((i + 1 : Nat) : Int) ≤ (l.length : Int) := by omega
      have i5 : 10 ≤ k := by omega
      have i6 : i < 10 := by omega
      have j1 : 10 - (i + 1) = d := by omega
      have j2 : 2 * d + 14 ≤ k := by omega
      rw [if_pos (by omega), hy]
      simp only [towncrierref01_Get.j1]
      obtain ⟨c, hc⟩ : ∃ c, l[i] = c := ⟨_, rfl⟩
      have hrd : rd l (i : Int) = c := by unfold rd; rw [List.getD_eq_getElem?_getD, Int.toNat_natCast, List.getElem?_eq_getElem hlt, hc]; rfl
      have hcb := hb c (by rw [← hc]; exact List.getElem_mem _)
      have htk : l.take (i + 1) = l.take i ++ [c] := by rw [List.take_succ_eq_append_getElem hlt, hc]
      have hti : (l.take i).length = i := by rw [List.length_take]; omega
      have hv : valN (l.take i ++ [c]) = valN (l.take i) + (c % 128).toNat * 128 ^ i := by rw [valN_snoc, hti]
      have hw : wrap64 ((i : Int) + 1) = ((i + 1 : Nat) : Int) := step_wrap i (Nat.le_trans hil hl)
      rw [if_pos trivial, if_pos i1, if_pos i2, hrd, step_acc _ _ c hcb.1 hcb.2, ← hv, hw]
      by_cases h128 : c < 128
      · rw [if_pos h128, refPut_f _ k i5 (Nat.mod_lt _ (by decide)), Option.bind_some, if_pos i3, if_pos i4, Int.toNat_natCast, htk]
        have hsplit : l = l.take i ++ c :: l.drop (i + 1) := by
          conv => lhs; rw [← List.take_append_drop i l, List.drop_eq_getElem_cons hlt, hc]
        have hend := refGet_end l hb (l.take i) c (l.drop (i + 1)) hsplit hf h128 (by rw [hti]; exact i6)
        rw [hti] at hend
        rw [← hend]
        have hby : ∀ x ∈ l.take i ++ [c], 0 ≤ x ∧ x < 256 := by rw [← htk]; exact fun x hx => hb x (List.mem_of_mem_take hx)
        have hs := str_inj (leb_bytes (valN (l.take i ++ [c]) % 18446744073709551616)) hby
        by_cases he : leb (valN (l.take i ++ [c]) % 18446744073709551616) = l.take i ++ [c]
        · rw [if_pos he, if_pos (hs.2 he)]
        · rw [if_neg he, if_neg (fun q => he (hs.1 q))]; rfl
      · rw [if_neg h128, step_pow, ← htk]
        refine ih (i + 1) k j1 i6 hlt j2 (fun x hx => ?_)
        rw [htk, List.mem_append, List.mem_singleton] at hx
        rcases hx with hx | hx
        · exact hf x hx
        · rw [hx]; exact Int.not_lt.mp h128
    · have hz : towncrierref01_Get.j1 (k + 1) l ((valN (l.take i) % 18446744073709551616 : Nat) : Int) ((128 ^ i % 18446744073709551616 : Nat) : Int) (i : Int) false = some fail := by
        simp only [towncrierref01_Get.j1]; rfl
      rw [if_neg (by omega), hz, refGet_none l hb i hil hf (.inl (by omega))]
theorem refGet_f (l : List Int) (hb : ∀ x ∈ l, 0 ≤ x ∧ x < 256) (hl : l.length ≤ 1000000) (k : Nat) (hk : 34 ≤ k) : towncrierref01_Get.f k l = some (castG (getL l 0 0)) :=
  refGet_l0 l hb hl 10 0 k rfl (by omega) (Nat.zero_le _) (by omega) (by simp)
end Go.Proofs.Ytnmpojodadlnmaa.RefLe
