/- Values, plainly: which is less; the chapter's example. -/
import Derived.Test.YtgijidifmhccpaaVaPure
import Derived.Test.YtgijidifmhccpaaX15
import Derived.Test.YtgijidifmhccpaaX16
import Derived.Test.YtgijidifmhccpaaX17
namespace Go.Proofs.Ytgijidifmhccpaa.Va
open Go.RowKit Go.Proofs.Ytgijidifmhccpaa.X Go.Proofs.YtgijidifmhccpaaW.PrintWords Go.Proofs.YtgijidifmhccpaaW.PrintLast Go.Proofs.YtgijidifmhccpaaW.PrintMore
open Go.Proofs.Ytgijidifmhccpaa.Leb Go.Proofs.Ytgijidifmhccpaa.LeFacts Go.Proofs.Ytgijidifmhccpaa.LeZig
set_option linter.unusedVariables false
set_option linter.unusedSimpArgs false

theorem bl_irr : ∀ l : List UInt8, Op.bytesLess l l = false
  | [] => rfl
  | a :: r => by simp [Op.bytesLess, bl_irr r, UInt8.lt_irrefl]
theorem bl_asym : ∀ a b : List UInt8, Op.bytesLess a b = true → Op.bytesLess b a = false
  | _, [], h => by simp [Op.bytesLess] at h
  | [], b :: y, h => by simp [Op.bytesLess]
  | a :: x, b :: y, h => by
    simp only [Op.bytesLess, Bool.or_eq_true, decide_eq_true_eq, Bool.and_eq_true, beq_iff_eq] at h
    simp only [Op.bytesLess, Bool.or_eq_false_iff, decide_eq_false_iff_not, Bool.and_eq_false_iff, beq_eq_false_iff_ne]
    rcases h with h | ⟨rfl, h⟩
    · rw [UInt8.lt_iff_toNat_lt] at h ⊢
      refine ⟨by omega, .inl ?_⟩
      rintro rfl; omega
    · exact ⟨UInt8.lt_irrefl _, .inr (bl_asym x y h)⟩
theorem bl_total : ∀ a b : List UInt8, a ≠ b → Op.bytesLess a b = true ∨ Op.bytesLess b a = true
  | [], [], h => absurd rfl h
  | [], b :: y, _ => .inl (by simp [Op.bytesLess])
  | a :: x, [], _ => .inr (by simp [Op.bytesLess])
  | a :: x, b :: y, h => by
    simp only [Op.bytesLess, Bool.or_eq_true, decide_eq_true_eq, Bool.and_eq_true, beq_iff_eq]
    by_cases e : a = b
    · subst e
      have h' : x ≠ y := fun e => h (by rw [e])
      rcases bl_total x y h' with h1 | h1
      · exact .inl (.inr ⟨rfl, h1⟩)
      · exact .inr (.inr ⟨rfl, h1⟩)
    · have : a.toNat ≠ b.toNat := fun q => e (UInt8.toNat_inj.1 q)
      rw [UInt8.lt_iff_toNat_lt, UInt8.lt_iff_toNat_lt]
      by_cases q : a.toNat < b.toNat
      · exact .inl (.inl q)
      · exact .inr (.inl (by omega))
theorem bl_trans : ∀ a b c : List UInt8, Op.bytesLess a b = true → Op.bytesLess b c = true → Op.bytesLess a c = true
  | _, [], _, h, _ => by simp [Op.bytesLess] at h
  | _, _ :: _, [], _, h => by simp [Op.bytesLess] at h
  | [], b :: y, c :: z, _, _ => by simp [Op.bytesLess]
  | a :: x, b :: y, c :: z, h, h' => by
    simp only [Op.bytesLess, Bool.or_eq_true, decide_eq_true_eq, Bool.and_eq_true, beq_iff_eq] at h h' ⊢
    rcases h with h | ⟨rfl, h⟩
    · rcases h' with h' | ⟨rfl, h'⟩
      · rw [UInt8.lt_iff_toNat_lt] at *; exact .inl (by omega)
      · exact .inl h
    · rcases h' with h' | ⟨rfl, h'⟩
      · exact .inl h'
      · exact .inr ⟨rfl, bl_trans x y z h h'⟩
/-- Of one kind, which is less. -/
def lt (n : Int) (s : ByteArray) (n' : Int) (s' : ByteArray) : Bool := decide (n < n') || (decide (n = n') && Op.bytesLess s.toList s'.toList)
theorem lt_irr (n : Int) (s : ByteArray) : lt n s n s = false := by simp [lt, bl_irr]
theorem lt_asym {n : Int} {s : ByteArray} {n' : Int} {s' : ByteArray} (h : lt n s n' s' = true) : lt n' s' n s = false := by
  simp only [lt, Bool.or_eq_true, decide_eq_true_eq, Bool.and_eq_true] at h
  simp only [lt, Bool.or_eq_false_iff, decide_eq_false_iff_not, Bool.and_eq_false_iff]
  rcases h with h | ⟨rfl, h⟩
  · exact ⟨by omega, .inl (by omega)⟩
  · exact ⟨by omega, .inr (bl_asym _ _ h)⟩
theorem lt_total {n : Int} {s : ByteArray} {n' : Int} {s' : ByteArray} (h : ¬ (n = n' ∧ s.toList = s'.toList)) : lt n s n' s' = true ∨ lt n' s' n s = true := by
  simp only [lt, Bool.or_eq_true, decide_eq_true_eq, Bool.and_eq_true]
  by_cases e : n = n'
  · subst e
    rcases bl_total s.toList s'.toList (fun q => h ⟨rfl, q⟩) with q | q
    · exact .inl (.inr ⟨rfl, q⟩)
    · exact .inr (.inr ⟨rfl, q⟩)
  · by_cases q : n < n'
    · exact .inl (.inl q)
    · exact .inr (.inl (by omega))
theorem lt_trans {n : Int} {s : ByteArray} {n' : Int} {s' : ByteArray} {n'' : Int} {s'' : ByteArray} (h : lt n s n' s' = true) (h' : lt n' s' n'' s'' = true) : lt n s n'' s'' = true := by
  simp only [lt, Bool.or_eq_true, decide_eq_true_eq, Bool.and_eq_true] at h h' ⊢
  rcases h with h | ⟨rfl, h⟩
  · rcases h' with h' | ⟨rfl, h'⟩
    · exact .inl (by omega)
    · exact .inl h
  · rcases h' with h' | ⟨rfl, h'⟩
    · exact .inl h'
    · exact .inr ⟨rfl, bl_trans _ _ _ h h'⟩
theorem lt_ne {n : Int} {s : ByteArray} {n' : Int} {s' : ByteArray} (h : lt n s n' s' = true) : ¬ (n = n' ∧ s.toList = s'.toList) := by
  rintro ⟨rfl, e⟩
  simp only [lt, e, bl_irr] at h
  simp at h
/-- (n, s) are not (n', s'), as the laws ask it. -/
def dif (n : Int) (s : ByteArray) (n' : Int) (s' : ByteArray) : Bool := (!(n == n') || (!(s.toList == s'.toList)))
theorem dif_iff {n : Int} {s : ByteArray} {n' : Int} {s' : ByteArray} : dif n s n' s' = true ↔ ¬ (n = n' ∧ s.toList = s'.toList) := by
  unfold dif
  by_cases h : n = n' <;> by_cases h2 : s.toList = s'.toList <;> simp [h, h2]
theorem cmpi_f (a b : Int) : cmp_Compare_int.f a b = some (if a < b then -1 else if a > b then 1 else 0) := by
  unfold cmp_Compare_int.f cmp_isNaN_int.f
  simp only [Option.bind_some, bne_self_eq_false]
  rw [if_neg (by decide), if_neg (by decide)]
  split
  · rfl
  · split <;> rfl
theorem cmps_f (a b : ByteArray) : cmp_Compare_string.f a b = some (if Op.bytesLess a.toList b.toList = true then -1 else if a.toList = b.toList then 0 else 1) := by
  unfold cmp_Compare_string.f cmp_isNaN_string.f
  simp only [Option.bind_some, bne_self_eq_false]
  rw [if_neg (by decide), if_neg (by decide)]
  by_cases h : Op.bytesLess a.toList b.toList = true
  · rw [if_pos h, if_pos h]
  · rw [if_neg h, if_neg h]
    by_cases h2 : a.toList = b.toList
    · rw [if_pos h2, if_pos (by simp [h2])]
    · rw [if_neg h2, if_neg (by simp [h2, h])]
theorem or_f (j : Nat) (hj : 3 ≤ j) (x y : Int) : cmp_Or_int.f j [x, y] = some (if x = 0 then y else x) := by
  obtain ⟨j, rfl⟩ : ∃ m, j = m + 3 := ⟨j - 3, by omega⟩
  unfold cmp_Or_int.f
  simp only [cmp_Or_int.l0]
  by_cases h : x = 0
  · subst h
    by_cases h2 : y = 0
    · subst h2; simp [rd, wrap64]
    · simp [rd, wrap64, h2]
  · simp [rd, h]
theorem less_f (j : Nat) (hj : 4 ≤ j) (k n : Int) (s : ByteArray) (k' n' : Int) (s' : ByteArray) :
    value_Less.f j k n s k' n' s' = some (if value_May.b k n s = true ∧ value_May.b k' n' s' = true ∧ k = k' then (lt n s n' s', true) else (false, false)) := by
  obtain ⟨j, rfl⟩ : ∃ m, j = m + 1 := ⟨j - 1, by omega⟩
  unfold value_Less.f
  rw [may_f, may_f, Option.bind_some, Option.bind_some]
  by_cases h1 : value_May.b k n s = true
  · rw [if_pos h1]
    by_cases h2 : value_May.b k' n' s' = true
    · rw [if_pos h2]
      by_cases h3 : k = k'
      · rw [if_pos ⟨h1, h2, h3⟩]
        subst h3
        simp only [value_Less.j0, bne_self_eq_false]
        rw [if_neg (by decide), cmpi_f, Option.bind_some, cmps_f, Option.bind_some, or_f j (by omega), Option.bind_some]
        congr 2
        unfold lt
        by_cases c1 : n < n'
        · rw [if_pos c1, if_neg (by decide)]; simp [c1]
        · rw [if_neg c1]
          by_cases c2 : n > n'
          · rw [if_pos c2, if_neg (by decide)]
            have : ¬ n = n' := by omega
            simp [c1, this]
          · rw [if_neg c2, if_pos rfl]
            have : n = n' := by omega
            subst this
            by_cases c3 : Op.bytesLess s.toList s'.toList = true
            · rw [if_pos c3]; simp [c3]
            · rw [if_neg c3]
              have c4 := Bool.eq_false_iff.mpr c3
              split <;> simp [c4]
      · rw [if_neg (fun h => h3 h.2.2)]
        have : (k != k') = true := bne_iff_ne.mpr h3
        simp only [value_Less.j0, this, if_true]
    · rw [if_neg h2, if_neg (fun h => h2 h.2.1)]
      simp only [value_Less.j0, if_true]
  · rw [if_neg h1, if_neg (fun h => h1 h.1)]
    simp only [value_Less.j0, if_true]
theorem in0 : In64 0 := by unfold In64; omega
theorem awake_f : towncrierlaw04_awake.f 40 = some true := by
  have e1 : leb 1 = [1] := leb_small (by decide)
  have h1 : In64 (-1) := by unfold In64; omega
  have o1 : Ok 0 (-1) ⟨#[]⟩ := .inl ⟨rfl, rfl⟩
  have ez : num 0 (-1) ⟨#[]⟩ = 1 := by decide
  have ev : vb 0 (-1) ⟨#[]⟩ = [0, 1] := by unfold vb; rw [ez, e1]; decide
  unfold towncrierlaw04_awake.f
  rw [vput_ok 40 (by decide) _ _ _ h1 o1, Option.bind_some]
  have hg := g_vb 0 (-1) ⟨#[]⟩ h1 o1 []
  rw [ev] at hg ⊢
  rw [vget_f 40 (by decide) [0, 1] (by unfold Byt; decide) (by decide), Option.bind_some, less_f 40 (by decide), Option.bind_some]
  rw [List.append_nil] at hg
  rw [hg]
  have m1 : value_May.b 0 (-1) ⟨#[]⟩ = true := (may_ok _ _ _ h1).2 o1
  have m2 : value_May.b 2 0 ⟨#[97]⟩ = true := (may_ok _ _ _ in0).2 (.inr (.inr (.inl ⟨rfl, rfl, by decide⟩)))
  have m3 : value_May.b 2 0 ⟨#[97, 98]⟩ = true := (may_ok _ _ _ in0).2 (.inr (.inr (.inl ⟨rfl, rfl, by decide⟩)))
  have e2 : (⟨#[97]⟩ : ByteArray).toList = [97] := by rw [ByteArray.toList_eq]
  have e3 : (⟨#[97, 98]⟩ : ByteArray).toList = [97, 98] := by rw [ByteArray.toList_eq]
  have l1 : lt 0 ⟨#[97]⟩ 0 ⟨#[97, 98]⟩ = true := by unfold lt; rw [e2, e3]; decide
  simp [m2, m3, l1, m1, may_f, rd]
theorem few_f (k n : Int) (s : ByteArray) : towncrierlaw04_few.f k n s = some (decide ((s.size : Int) ≤ 100)) := rfl
theorem wf_in {n : Int} (h : (Lit.int .i64 n).wf = true) : In64 n := by
  unfold In64
  simp only [Lit.wf, IntKind.min, IntKind.max, IntKind.signed, IntKind.bits, Bool.and_eq_true] at h
  simp at h; omega
end Go.Proofs.Ytgijidifmhccpaa.Va
