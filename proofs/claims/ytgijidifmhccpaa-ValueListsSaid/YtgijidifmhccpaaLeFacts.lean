/- What le.Put and le.Get (as printed) come to, as plain lists of groups. No condition but that bytes are bytes. -/
import Derived.Test.YtgijidifmhccpaaX3
import Derived.Test.YtgijidifmhccpaaX7
import Derived.Test.YtgijidifmhccpaaLeb
namespace Go.Proofs.Ytgijidifmhccpaa.LeFacts
open Go.RowKit Go.Proofs.Ytgijidifmhccpaa.X Go.Proofs.YtgijidifmhccpaaW.PrintWords Go.Proofs.YtgijidifmhccpaaW.PrintLast Go.Proofs.YtgijidifmhccpaaW.PrintMore
open Go.Proofs.Ytgijidifmhccpaa.Leb

theorem or128 : ∀ x : Nat, x < 256 → x ||| 128 = x % 128 + 128 := by decide +kernel
theorem not128 : ∀ x : Nat, x < 256 → x &&& 18446744073709551487 = x % 128 := by decide +kernel

theorem put_step (n : Nat) : Go.bits .or .u8 ((n : Int) % 256) 128 = ((n % 128 : Nat) : Int) + 128 := by
  have e : ((n : Int) % 256) = ((n % 256 : Nat) : Int) := by omega
  rw [e, show (128 : Int) = ((128 : Nat) : Int) from rfl, u8_or_nat _ _ (by omega) (by omega), or128 _ (by omega)]
  omega

theorem put_l0 : ∀ (n k : Nat) (acc : List Int), (leb n).length ≤ k → acc.length + (leb n).length < 140737488355328 → le_Put.l0 k (n : Int) acc = some (acc ++ leb n) := by
  intro n
  induction n using Nat.strongRecOn with
  | _ n ih =>
    intro k acc hk ha
    have := leb_pos n
    obtain ⟨k, rfl⟩ : ∃ m, k = m + 1 := ⟨k - 1, by omega⟩
    simp only [le_Put.l0]
    by_cases h : n < 128
    · rw [if_pos (by omega), if_pos (by omega), leb_small h]
      congr 3; omega
    · rw [leb_big h] at hk ha ⊢
      simp only [List.length_cons] at hk ha
      rw [if_neg (by omega), if_pos (by omega), put_step]
      have e : ((n : Int) / 128) = ((n / 128 : Nat) : Int) := by omega
      rw [e, ih (n / 128) (by omega) k _ (by omega) (by simp only [List.length_append, List.length_cons, List.length_nil]; omega)]
      simp

theorem put_f (n k : Nat) (hk : 10 ≤ k) (hn : n < 18446744073709551616) : le_Put.f k (n : Int) = some (leb n) := by
  have := leb_len10 hn
  rw [le_Put.f, put_l0 n k [] (by omega) (by simp; omega)]
  simp

def castG (r : Nat × Nat × Bool) : Int × Int × Bool := ((r.1 : Int), (r.2.1 : Int), r.2.2)

theorem wrap7 (i : Nat) (h : i ≤ 10) : wrap64 (7 * (i : Int)) = ((7 * i : Nat) : Int) := by
  have e : (7 * (i : Int)) = ((7 * i : Nat) : Int) := by omega
  have hj : 7 * i ≤ 70 := by omega
  rw [e]
  generalize 7 * i = j at hj
  unfold wrap64; omega

theorem get_acc (n i : Nat) (c : Nat) (hc : c < 256) (hn : n < 128 ^ i) (hi : i ≤ 8 ∨ i = 9 ∧ c ≤ 1) :
    Go.bits .or .u64 (n : Int) (shl .u64 (Go.bits .andNot .u64 (IntKind.u64.wrap (c : Int)) 128) (wrap64 (7 * (i : Int)))) = ((n + c % 128 * 128 ^ i : Nat) : Int) := by
  have w1 : IntKind.u64.wrap (c : Int) = (c : Int) := by simp [IntKind.wrap, IntKind.bits, IntKind.signed]; omega
  have w2 := wrap7 i (by omega)
  rw [w1, w2, show (128 : Int) = ((128 : Nat) : Int) from rfl, u64_andNot_nat _ _ (by omega) (by omega), not128 _ hc]
  have hp : (128 : Nat) ^ i = 2 ^ (7 * i) := by rw [Nat.pow_mul]
  have hlt : c % 128 * 128 ^ i < 18446744073709551616 := by
    rcases hi with hi | ⟨rfl, hi⟩
    · have : c % 128 * 128 ^ i ≤ 127 * 128 ^ 8 := Nat.mul_le_mul (by omega) (pow_mono hi)
      omega
    · have : c % 128 * 128 ^ 9 ≤ 1 * 128 ^ 9 := Nat.mul_le_mul_right _ (by omega)
      omega
  have hn64 : n < 18446744073709551616 := by
    have : 128 ^ i ≤ 128 ^ 9 := pow_mono (by omega)
    omega
  have hs : shl .u64 ((c % 128 : Nat) : Int) ((7 * i : Nat) : Int) = ((c % 128 * 128 ^ i : Nat) : Int) := by
    unfold shl
    have hm : min ((7 * i : Nat) : Int).toNat IntKind.u64.bits = 7 * i := by
      show min ((7 * i : Nat) : Int).toNat 64 = 7 * i
      omega
    rw [hm]
    have e : ((c % 128 : Nat) : Int) * 2 ^ (7 * i) = ((c % 128 * 128 ^ i : Nat) : Int) := by
      rw [hp]; simp
    rw [e]
    simp only [IntKind.wrap, IntKind.bits, IntKind.signed]
    simp only [Bool.false_and, Bool.false_eq_true, if_false]
    omega
  rw [hs, u64_or_nat _ _ hn64 hlt, Nat.or_comm, nat_join (7 * i) _ _ (by rw [hp]; exact Nat.mul_mod_left _ _) (by rw [← hp]; exact hn)]
  rw [Nat.add_comm]

theorem rd_drop {l : List Int} {i : Nat} {c : Int} {r : List Int} (h : l.drop i = c :: r) : rd l (i : Int) = c := by
  unfold rd
  have : l[i]? = some c := by
    have := congrArg (·[0]?) h
    simpa using this
  simp [List.getD_eq_getElem?_getD, this]

theorem get_l0 (l : List Int) (hb : ∀ x ∈ l, 0 ≤ x ∧ x < 256) : ∀ (d i n k : Nat), 10 - i = d → i ≤ 10 → d < k → (i ≤ 9 → n < 128 ^ i) →
    ∀ (n' : Int), (i ≤ 9 → n' = (n : Int)) → le_Get.l0 k l n' (mn (l.length : Int) 10) (i : Int) = some (castG (getL (l.drop i) i n)) := by
  intro d
  induction d with
  | zero =>
    intro i n k hd hi hk _ n' _
    obtain ⟨k, rfl⟩ : ∃ m, k = m + 1 := ⟨k - 1, by omega⟩
    obtain rfl : i = 10 := by omega
    simp only [le_Get.l0]
    rw [if_neg (by unfold mn; split <;> omega)]
    cases h : l.drop 10 with
    | nil => simp [getL, castG]
    | cons c r => simp [getL, castG]
  | succ d ih =>
    intro i n k hd hi hk hn n' hn'
    obtain ⟨k, rfl⟩ : ∃ m, k = m + 1 := ⟨k - 1, by omega⟩
    obtain rfl := hn' (by omega)
    have hn := hn (by omega)
    simp only [le_Get.l0]
    cases h : l.drop i with
    | nil =>
      have hl : l.length ≤ i := by
        have := congrArg List.length h
        simp at this; omega
      rw [if_neg (by unfold mn; split <;> omega)]
      simp [getL, castG]
    | cons c r =>
      have hl : i < l.length := by
        have := congrArg List.length h
        simp at this; omega
      have hc := hb c (List.mem_of_mem_drop (by rw [h]; exact List.mem_cons_self))
      have hr : l.drop (i + 1) = r := by
        rw [← List.drop_drop, h]; rfl
      obtain ⟨cn, rfl⟩ := Int.eq_ofNat_of_zero_le hc.1
      have hcn : cn < 256 := by omega
      have w1 : IntKind.u64.wrap (cn : Int) = (cn : Int) := by simp [IntKind.wrap, IntKind.bits, IntKind.signed]; omega
      have w3 : wrap64 ((i : Int) + 1) = ((i + 1 : Nat) : Int) := by unfold wrap64; omega
      rw [if_pos (by unfold mn; split <;> omega), if_pos (by omega), if_pos (by omega), if_pos (by rw [wrap7 i (by omega)]; omega), rd_drop h]
      have hR : getL ((cn : Int) :: r) i n = if 128 ≤ (cn : Int) then getL r (i + 1) (n + ((cn : Int).toNat - 128) * 128 ^ i)
          else if (0 < i ∧ (cn : Int) = 0) ∨ (i = 9 ∧ 1 < (cn : Int)) then (0, 0, false) else (n + (cn : Int).toNat * 128 ^ i, i + 1, true) := by
        simp only [getL]; rw [if_neg (by omega)]
      have e0 : (cn : Int).toNat = cn := by omega
      by_cases h1 : cn ≥ 128
      · rw [if_pos (by rw [w1]; omega), w3, hR, if_pos (by omega), ← hr]
        refine ih (i + 1) _ k (by omega) (by omega) (by omega) (fun h9 => ?_) _ (fun h9 => ?_)
        · rw [pow_split]
          have : (((cn : Int).toNat - 128) * 128 ^ i) ≤ 127 * 128 ^ i := Nat.mul_le_mul_right _ (by omega)
          omega
        · rw [get_acc n i cn hcn hn (by omega), e0]
          have : cn % 128 = cn - 128 := by omega
          rw [this]
      · rw [if_neg (by rw [w1]; omega), hR, w1, w3]
        have hv : (i ≤ 8 ∨ i = 9 ∧ cn ≤ 1) → _ := get_acc n i cn hcn hn
        rw [w1, Nat.mod_eq_of_lt (by omega : cn < 128)] at hv
        by_cases h9 : i = 9
        · subst h9
          rw [if_pos (by omega)]
          by_cases h0 : cn = 0
          · subst h0
            rw [if_pos (by rfl), if_neg (by omega), if_pos (.inl ⟨by omega, by rfl⟩)]; rfl
          · rw [if_neg (by omega), if_pos (by rfl)]
            by_cases h2 : cn > 1
            · rw [if_pos (by omega), if_neg (by omega), if_pos (.inr ⟨rfl, by omega⟩)]; rfl
            · rw [if_neg (by omega), if_neg (by omega), if_neg (by omega), hv (by omega), e0]
              rfl
        · by_cases h0 : i > 0
          · rw [if_pos (by omega)]
            by_cases hz : cn = 0
            · subst hz
              rw [if_pos (by rfl), if_neg (by omega), if_pos (.inl ⟨by omega, by rfl⟩)]; rfl
            · rw [if_neg (by omega), if_neg (by omega), if_neg (by omega), if_neg (by omega), hv (by omega), e0]; rfl
          · rw [if_neg (by omega), if_neg (by omega), if_neg (by omega), if_neg (by omega), hv (by omega), e0]; rfl

theorem get_f (l : List Int) (hb : ∀ x ∈ l, 0 ≤ x ∧ x < 256) (k : Nat) (hk : 11 ≤ k) : le_Get.f k l = some (castG (getL l 0 0)) := by
  have := get_l0 l hb 10 0 0 k (by omega) (by omega) (by omega) (by simp) 0 (by simp)
  rw [le_Get.f]
  simpa using this

end Go.Proofs.Ytgijidifmhccpaa.LeFacts
