/- Numbers as groups of seven bits, on plain lists: what is put is got, what is got is put as the same bytes, no number's groups begin by another one's. No condition. -/
import Derived.Laws.BitsAllLaws
import Derived.Laws.BitsLemmas
import Derived.Laws.BytesArg
import Derived.RowKit
import Derived.Laws.Strings
namespace Go.Proofs.Ytgijidifmhccpaa.Leb

/-- A number's groups. -/
def leb (n : Nat) : List Int := if h : n < 128 then [(n : Int)] else (((n % 128 : Nat) : Int) + 128) :: leb (n / 128)
termination_by n
decreasing_by omega

theorem leb_small {n : Nat} (h : n < 128) : leb n = [(n : Int)] := by rw [leb]; simp [h]
theorem leb_big {n : Nat} (h : ¬ n < 128) : leb n = (((n % 128 : Nat) : Int) + 128) :: leb (n / 128) := by rw [leb]; simp [h]

theorem leb_ne (n : Nat) : leb n ≠ [] := by
  by_cases h : n < 128
  · rw [leb_small h]; simp
  · rw [leb_big h]; simp

theorem leb_pos (n : Nat) : 1 ≤ (leb n).length := by
  have := List.length_pos_iff.2 (leb_ne n)
  omega

theorem leb_len (d : Nat) : ∀ n : Nat, n < 128 ^ d → 1 ≤ d → (leb n).length ≤ d := by
  induction d with
  | zero => intro n _ h; omega
  | succ d ih =>
    intro n hn _
    by_cases h : n < 128
    · rw [leb_small h]; simp
    · rw [leb_big h]
      have hd : 1 ≤ d := by
        rcases Nat.eq_zero_or_pos d with h0 | h0
        · subst h0; simp at hn; omega
        · exact h0
      have h1 : n / 128 < 128 ^ d := by
        rw [Nat.div_lt_iff_lt_mul (by omega)]
        rw [Nat.pow_succ] at hn; exact hn
      have := ih (n / 128) h1 hd
      simp only [List.length_cons]; omega

theorem leb_len10 {n : Nat} (h : n < 18446744073709551616) : (leb n).length ≤ 10 := leb_len 10 n (by omega) (by omega)

theorem leb_bytes (n : Nat) : ∀ x ∈ leb n, 0 ≤ x ∧ x < 256 := by
  induction n using Nat.strongRecOn with
  | _ n ih =>
    intro x hx
    by_cases h : n < 128
    · rw [leb_small h] at hx
      simp at hx; omega
    · rw [leb_big h] at hx
      rcases List.mem_cons.1 hx with rfl | hx
      · omega
      · exact ih (n / 128) (by omega) x hx

theorem leb_mono : ∀ m n : Nat, n ≤ m → (leb n).length ≤ (leb m).length := by
  intro m
  induction m using Nat.strongRecOn with
  | _ m ih =>
    intro n h
    by_cases hm : m < 128
    · rw [leb_small hm, leb_small (by omega)]; simp
    · by_cases hn : n < 128
      · rw [leb_small hn]; simpa using leb_pos m
      · rw [leb_big hm, leb_big hn]
        have := ih (m / 128) (by omega) (n / 128) (by omega)
        simpa using this

/-- The last group is below 128, and not 0 where it isn't alone; all the others are not below 128. -/
theorem leb_form (n : Nat) : ∃ (f : List Int) (c : Int), leb n = f ++ [c] ∧ c < 128 ∧ 0 ≤ c ∧ (f ≠ [] → c ≠ 0) ∧ ∀ x ∈ f, 128 ≤ x := by
  induction n using Nat.strongRecOn with
  | _ n ih =>
    by_cases h : n < 128
    · exact ⟨[], n, by rw [leb_small h]; rfl, by omega, by omega, by simp, by simp⟩
    · obtain ⟨f, c, he, h1, h2, h3, h4⟩ := ih (n / 128) (by omega)
      refine ⟨(((n % 128 : Nat) : Int) + 128) :: f, c, by rw [leb_big h, he]; rfl, h1, h2, fun _ => ?_, ?_⟩
      · by_cases hf : f = []
        · subst hf
          by_cases h5 : n / 128 < 128
          · rw [leb_small h5] at he
            simp at he; omega
          · rw [leb_big h5] at he
            have h7 := congrArg List.length he
            have h6 := leb_pos (n / 128 / 128)
            simp only [List.length_cons, List.length_append, List.length_nil] at h7
            omega
        · exact h3 hf
      · intro x hx
        rcases List.mem_cons.1 hx with rfl | hx
        · omega
        · exact h4 x hx

/-- Got, from group i on, with n so far. -/
def getL : List Int → Nat → Nat → Nat × Nat × Bool
  | [], _, _ => (0, 0, false)
  | c :: r, i, n => if 10 ≤ i then (0, 0, false) else if 128 ≤ c then getL r (i + 1) (n + (c.toNat - 128) * 128 ^ i)
      else if (0 < i ∧ c = 0) ∨ (i = 9 ∧ 1 < c) then (0, 0, false) else (n + c.toNat * 128 ^ i, i + 1, true)

theorem pow_split (i : Nat) : 128 ^ (i + 1) = 128 * 128 ^ i := by rw [Nat.pow_succ, Nat.mul_comm]

theorem pow_mono {i j : Nat} (h : i ≤ j) : 128 ^ i ≤ 128 ^ j := Nat.pow_le_pow_right (by omega) h

/-- What is put is got, whatever stands behind. -/
theorem get_leb (rest : List Int) : ∀ m i n : Nat, m * 128 ^ i < 18446744073709551616 → i < 10 → (i = 0 ∨ m ≠ 0) → getL (leb m ++ rest) i n = (n + m * 128 ^ i, i + (leb m).length, true) := by
  intro m
  induction m using Nat.strongRecOn with
  | _ m ih =>
    intro i n hm hi h0
    by_cases h : m < 128
    · rw [leb_small h]
      have h9 : ¬ ((0 < i ∧ (m : Int) = 0) ∨ (i = 9 ∧ 1 < (m : Int))) := by
        rintro (⟨h1, h2⟩ | ⟨h1, h2⟩)
        · omega
        · subst h1
          have : 2 * 128 ^ 9 ≤ m * 128 ^ 9 := Nat.mul_le_mul_right _ (by omega)
          omega
      simp only [List.cons_append, List.nil_append, getL]
      rw [if_neg (by omega), if_neg (by omega), if_neg h9]
      simp
    · rw [leb_big h]
      have h1 : 128 * 128 ^ i ≤ m * 128 ^ i := Nat.mul_le_mul_right _ (by omega)
      have hi' : i + 1 < 10 := by
        apply Classical.byContradiction
        intro hc
        have : 128 ^ 9 ≤ 128 ^ i := pow_mono (by omega)
        omega
      have h2 : m / 128 * 128 ^ (i + 1) ≤ m * 128 ^ i := by
        rw [pow_split, ← Nat.mul_assoc]
        exact Nat.mul_le_mul_right _ (by omega)
      simp only [List.cons_append, getL]
      rw [if_neg (by omega), if_pos (by omega)]
      rw [ih (m / 128) (by omega) (i + 1) _ (by omega) hi' (.inr (by omega))]
      have e1 : (((m % 128 : Nat) : Int) + 128).toNat - 128 = m % 128 := by omega
      have e2 : m % 128 * 128 ^ i + m / 128 * 128 ^ (i + 1) = m * 128 ^ i := by
        have e3 : m % 128 + m / 128 * 128 = m := by omega
        rw [pow_split, ← Nat.mul_assoc, ← Nat.add_mul, e3]
      simp only [List.length_cons, Prod.mk.injEq]
      rw [e1]
      refine ⟨by omega, by omega, trivial⟩

theorem get_none : ∀ (l : List Int) (i n : Nat), (getL l i n).2.2 = false → getL l i n = (0, 0, false) := by
  intro l
  induction l with
  | nil => intro i n _; rfl
  | cons c r ih =>
    intro i n h
    simp only [getL] at h ⊢
    by_cases h1 : 10 ≤ i
    · rw [if_pos h1]
    · rw [if_neg h1] at h ⊢
      by_cases h2 : 128 ≤ c
      · rw [if_pos h2] at h ⊢; exact ih _ _ h
      · rw [if_neg h2] at h ⊢
        by_cases h3 : (0 < i ∧ c = 0) ∨ (i = 9 ∧ 1 < c)
        · rw [if_pos h3]
        · rw [if_neg h3] at h; simp at h

/-- What is got is put as the same bytes. -/
theorem get_some : ∀ (l : List Int) (i n y u : Nat), (∀ x ∈ l, 0 ≤ x ∧ x < 256) → getL l i n = (y, u, true) →
    ∃ m, y = n + m * 128 ^ i ∧ m * 128 ^ i < 18446744073709551616 ∧ (i = 0 ∨ m ≠ 0) ∧ i < u ∧ u ≤ i + l.length ∧ u ≤ 10 ∧ leb m = l.take (u - i) := by
  intro l
  induction l with
  | nil => intro i n y u _ h; simp [getL] at h
  | cons c r ih =>
    intro i n y u hb h
    have hc := hb c (List.mem_cons_self)
    simp only [getL] at h
    by_cases h1 : 10 ≤ i
    · rw [if_pos h1] at h; simp at h
    · rw [if_neg h1] at h
      by_cases h2 : 128 ≤ c
      · rw [if_pos h2] at h
        obtain ⟨m, e1, e2, e3, e4, e5, e5', e6⟩ := ih _ _ _ _ (fun x hx => hb x (List.mem_cons_of_mem _ hx)) h
        have em : m ≠ 0 := by rcases e3 with e3 | e3 <;> omega
        have hs : (c.toNat - 128 + 128 * m) * 128 ^ i = (c.toNat - 128) * 128 ^ i + m * 128 ^ (i + 1) := by
          rw [pow_split, Nat.add_mul]; congr 1; rw [Nat.mul_comm 128 m, Nat.mul_assoc]
        have hm1 : 128 ^ (i + 1) ≤ m * 128 ^ (i + 1) := Nat.le_mul_of_pos_left _ (by omega)
        have hcl : (c.toNat - 128) * 128 ^ i < 128 ^ (i + 1) := by
          rw [pow_split]; exact Nat.mul_lt_mul_of_pos_right (by omega) (Nat.pow_pos (by omega))
        have hi8 : i ≤ 8 := by
          apply Classical.byContradiction
          intro hq
          have : 128 ^ 10 ≤ 128 ^ (i + 1) := pow_mono (by omega)
          omega
        refine ⟨c.toNat - 128 + 128 * m, by rw [hs]; omega, ?_, .inr (by omega), by omega, by simp only [List.length_cons]; omega, e5', ?_⟩
        · rw [hs]
          -- whole multiples of 128^(i+1) below 2^64
          have hd : 18446744073709551616 = 18446744073709551616 / 128 ^ (i + 1) * 128 ^ (i + 1) := by
            have : i = 0 ∨ i = 1 ∨ i = 2 ∨ i = 3 ∨ i = 4 ∨ i = 5 ∨ i = 6 ∨ i = 7 ∨ i = 8 := by omega
            rcases this with rfl | rfl | rfl | rfl | rfl | rfl | rfl | rfl | rfl <;> decide
          have hq : m + 1 ≤ 18446744073709551616 / 128 ^ (i + 1) := by
            apply Classical.byContradiction
            intro hq
            have : 18446744073709551616 / 128 ^ (i + 1) * 128 ^ (i + 1) ≤ m * 128 ^ (i + 1) := Nat.mul_le_mul_right _ (by omega)
            omega
          have := Nat.mul_le_mul_right (128 ^ (i + 1)) hq
          rw [Nat.add_mul, Nat.one_mul] at this
          omega
        · rw [leb_big (by omega)]
          have e7 : (c.toNat - 128 + 128 * m) / 128 = m := by omega
          have e8 : (((c.toNat - 128 + 128 * m) % 128 : Nat) : Int) + 128 = c := by omega
          rw [e7, e8, e6]
          have e9 : u - i = (u - (i + 1)) + 1 := by omega
          rw [e9, List.take_succ_cons]
      · rw [if_neg h2] at h
        by_cases h3 : (0 < i ∧ c = 0) ∨ (i = 9 ∧ 1 < c)
        · rw [if_pos h3] at h; simp at h
        · rw [if_neg h3] at h
          simp only [Prod.mk.injEq, and_true] at h
          obtain ⟨rfl, rfl⟩ := h
          refine ⟨c.toNat, rfl, ?_, by omega, by omega, by simp only [List.length_cons]; omega, by omega, ?_⟩
          · have : i = 9 ∨ i ≤ 8 := by omega
            rcases this with rfl | hi
            · have : c.toNat * 128 ^ 9 ≤ 1 * 128 ^ 9 := Nat.mul_le_mul_right _ (by omega)
              omega
            · have h5 : c.toNat * 128 ^ i ≤ 127 * 128 ^ 8 := Nat.mul_le_mul (by omega) (pow_mono hi)
              omega
          · rw [leb_small (by omega)]
            have : i + 1 - i = 1 := by omega
            rw [this]; simp; omega

/-- No number's groups begin by another one's. -/
theorem leb_prefix {n m : Nat} {r : List Int} (hn : n < 18446744073709551616) (hm : m < 18446744073709551616) (h : leb m = leb n ++ r) : n = m ∧ r = [] := by
  have h1 := get_leb r n 0 0 (by simpa using hn) (by omega) (.inl rfl)
  have h2 := get_leb [] m 0 0 (by simpa using hm) (by omega) (.inl rfl)
  rw [List.append_nil, h, h1] at h2
  simp at h2
  exact ⟨h2.1, h2.2⟩

/-- A beginning of a number's groups is none. -/
theorem get_cut {n : Nat} (hn : n < 18446744073709551616) (a : Nat) (ha : a < (leb n).length) : getL ((leb n).take a) 0 0 = (0, 0, false) := by
  apply get_none
  cases hb : (getL ((leb n).take a) 0 0).2.2 with
  | false => rfl
  | true =>
    exfalso
    obtain ⟨y, u, hyu⟩ : ∃ y u, getL ((leb n).take a) 0 0 = (y, u, true) := ⟨_, _, by rw [← hb]⟩
    obtain ⟨m, e1, e2, _, e4, e5, _, e6⟩ := get_some _ 0 0 y u (fun x hx => leb_bytes n x (List.mem_of_mem_take hx)) hyu
    rw [List.take_take] at e6
    have hp : leb n = leb m ++ (leb n).drop (min (u - 0) a) := by rw [e6, List.take_append_drop]
    obtain ⟨_, h0⟩ := leb_prefix (by simpa using e2) hn hp
    have := congrArg List.length h0
    simp at this
    omega

/-- A number's groups with the last one made longer by a 0 are none. -/
theorem get_long {n : Nat} {f : List Int} {c : Int} (h : leb n = f ++ [c]) : getL (f ++ [c + 128] ++ [0]) 0 0 = (0, 0, false) := by
  obtain ⟨f', c', h', hc, hc0, _, hf⟩ := leb_form n
  rw [h'] at h
  obtain ⟨rfl, h2⟩ := List.append_inj' h rfl
  injection h2 with h2 _
  subst h2
  apply get_none
  cases hb : (getL (f' ++ [c' + 128] ++ [0]) 0 0).2.2 with
  | false => rfl
  | true =>
    exfalso
    obtain ⟨y, u, hyu⟩ : ∃ y u, getL (f' ++ [c' + 128] ++ [0]) 0 0 = (y, u, true) := ⟨_, _, by rw [← hb]⟩
    have hby : ∀ x ∈ f' ++ [c' + 128] ++ [0], 0 ≤ x ∧ x < 256 := by
      intro x hx
      simp only [List.mem_append, List.mem_singleton] at hx
      rcases hx with (hx | hx) | hx
      · exact leb_bytes n x (by rw [h']; simp [hx])
      · omega
      · omega
    obtain ⟨m, e1, e2, _, e4, e5, _, e6⟩ := get_some _ 0 0 y u hby hyu
    obtain ⟨g, d, hg, hd, _, hd0, _⟩ := leb_form m
    rw [hg] at e6
    simp only [Nat.sub_zero] at e6
    have hl : (g ++ [d]).length = u := by
      rw [e6, List.length_take]
      simp only [List.length_append, List.length_cons, List.length_nil] at e5 ⊢
      omega
    simp only [List.length_append, List.length_cons, List.length_nil] at hl e5
    have hd' : (f' ++ [c' + 128] ++ [0])[g.length]? = some d := by
      have h1 : (g ++ [d])[g.length]? = some d := by simp
      rw [e6, List.getElem?_take] at h1
      rw [if_pos (by omega)] at h1
      exact h1
    by_cases hlast : g.length = f'.length + 1
    · rw [hlast] at hd'
      simp at hd'
      have : g ≠ [] := by intro hg0; rw [hg0] at hlast; simp at hlast
      exact hd0 this hd'.symm
    · have hlt : g.length < (f' ++ [c' + 128]).length := by simp; omega
      rw [List.getElem?_append_left hlt] at hd'
      have hmem : d ∈ f' ++ [c' + 128] := List.mem_of_getElem? hd'
      simp only [List.mem_append, List.mem_singleton] at hmem
      rcases hmem with hmem | hmem
      · have := hf d hmem; omega
      · omega

/-- Strings of bytes are the same just if the bytes are. -/
theorem str_inj {a b : List Int} (ha : ∀ x ∈ a, 0 ≤ x ∧ x < 256) (hb : ∀ x ∈ b, 0 ≤ x ∧ x < 256) : (strOfNums a).toList = (strOfNums b).toList ↔ a = b := by
  constructor
  · intro h
    have h1 : a.map (fun n => UInt8.ofNat n.toNat) = b.map (fun n => UInt8.ofNat n.toNat) := by
      have e : ∀ l : List Int, (strOfNums l).toList = l.map (fun n => UInt8.ofNat n.toNat) := fun l => by
        rw [← strOfNums_data, ByteArray.toList_eq]
      rw [e, e] at h; exact h
    clear h
    induction a generalizing b with
    | nil => cases b <;> simp_all
    | cons x a ih =>
      cases b with
      | nil => simp at h1
      | cons y b =>
        simp only [List.map_cons, List.cons.injEq] at h1
        have hx := ha x (List.mem_cons_self)
        have hy := hb y (List.mem_cons_self)
        have e := congrArg UInt8.toNat h1.1
        simp only [UInt8.toNat_ofNat'] at e
        have : x = y := by omega
        rw [this, ih (fun z hz => ha z (List.mem_cons_of_mem _ hz)) (fun z hz => hb z (List.mem_cons_of_mem _ hz)) h1.2]
  · rintro rfl; rfl

end Go.Proofs.Ytgijidifmhccpaa.Leb
