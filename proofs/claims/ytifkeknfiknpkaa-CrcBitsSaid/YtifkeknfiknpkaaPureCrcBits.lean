/- The law CrcBits: of three lists of as many bytes the bits that an odd number of their checks has are the check of those that an odd number of them has. No condition. -/
import Derived.Test.YtifkeknfiknpkaaX11
import Derived.Test.YtifkeknfiknpkaaCrcLaws
namespace Go.Proofs.Ytifkeknfiknpkaa.Pure
open Go.RowKit Go.Proofs.Ytifkeknfiknpkaa.X Go.Proofs.YtifkeknfiknpkaaW.PrintWords Go.Proofs.YtifkeknfiknpkaaW.PrintLast Go.Proofs.YtifkeknfiknpkaaW.PrintMore
open Go.Proofs.Ytifkeknfiknpkaa.Crc Go.Proofs.Ytifkeknfiknpkaa.CrcFacts Go.Proofs.Ytifkeknfiknpkaa.CrcLaws

theorem wrap_succ (i : Nat) (h : i ≤ 1000) : wrap64 ((i : Int) + 1) = ((i + 1 : Nat) : Int) := by unfold wrap64; omega

theorem loop (a b c : List Int) (ha : ∀ x ∈ a, 0 ≤ x ∧ x < 256) (hb : ∀ x ∈ b, 0 ≤ x ∧ x < 256) (hc : ∀ x ∈ c, 0 ≤ x ∧ x < 256) (hla : a.length ≤ 100) (hlb : b.length = a.length) (hlc : c.length = a.length) :
    ∀ (d i k : Nat) (x : List Int), i + d = a.length → d < k → x.length = a.length → (∀ y ∈ x, 0 ≤ y ∧ y < 256) → (∀ j, j < i → byteB (x.getD j 0) = byteB (a.getD j 0) ^^^ byteB (b.getD j 0) ^^^ byteB (c.getD j 0)) →
    towncrierlaw02_CrcBits.l0 k a b c x (i : Int) = some true := by
  intro d
  induction d with
  | zero =>
    intro i k x hi hk hx hx2 h
    obtain ⟨k, rfl⟩ : ∃ m, k = m + 1 := ⟨k - 1, by omega⟩
    unfold towncrierlaw02_CrcBits.l0
    rw [if_neg (by omega), of_f x hx2 (by omega), Option.bind_some, of_f a ha (by omega), Option.bind_some, of_f b hb (by omega), Option.bind_some, of_f c hc (by omega), Option.bind_some, xor_u32, xor_u32]
    have e : sumB 0#32 x = sumB 0#32 a ^^^ sumB 0#32 b ^^^ sumB 0#32 c := by
      unfold sumB
      have h3 := crcB_three a b c x (~~~0#32) (~~~0#32) (~~~0#32) hlb hlc hx (fun j hj => h j (by omega))
      rw [show (~~~0#32 ^^^ ~~~0#32 ^^^ ~~~0#32 : BitVec 32) = ~~~0#32 from by decide] at h3
      rw [h3]
      ext i hi
      simp only [BitVec.getElem_xor, BitVec.getElem_not]
      cases (crcB a (~~~0#32))[i] <;> cases (crcB b (~~~0#32))[i] <;> cases (crcB c (~~~0#32))[i] <;> rfl
    rw [e]; simp
  | succ d ih =>
    intro i k x hi hk hx hx2 h
    obtain ⟨k, rfl⟩ : ∃ m, k = m + 1 := ⟨k - 1, by omega⟩
    have hr : ∀ l : List Int, i < l.length → rd l (i : Int) = l.getD i 0 := fun l _ => by unfold rd; rw [Int.toNat_natCast]
    have hg : ∀ l : List Int, (∀ x ∈ l, 0 ≤ x ∧ x < 256) → i < l.length → 0 ≤ l.getD i 0 ∧ l.getD i 0 < 256 := fun l hl hi => by
      rw [List.getD_eq_getElem?_getD, List.getElem?_eq_getElem hi]; exact hl _ (List.getElem_mem hi)
    have ga := hg a ha (by omega)
    have gb := hg b hb (by omega)
    have gc := hg c hc (by omega)
    obtain ⟨p, hp⟩ := Int.eq_ofNat_of_zero_le ga.1
    obtain ⟨q, hq⟩ := Int.eq_ofNat_of_zero_le gb.1
    obtain ⟨s, hs⟩ := Int.eq_ofNat_of_zero_le gc.1
    have hpq : p ^^^ q < 256 := Nat.xor_lt_two_pow (n := 8) (by omega) (by omega)
    have hpqs : p ^^^ q ^^^ s < 256 := Nat.xor_lt_two_pow (n := 8) hpq (by omega)
    unfold towncrierlaw02_CrcBits.l0
    rw [if_pos (by omega), if_pos (by omega), if_pos (by omega), if_pos (by omega), if_pos (by omega), hr a (by omega), hr b (by omega), hr c (by omega), hp, hq, hs, u8_xor_nat _ _ (by omega) (by omega),
      u8_xor_nat _ _ hpq (by omega), wrap_succ i (by omega), Int.toNat_natCast]
    refine ih (i + 1) k _ (by omega) (by omega) (by rw [List.length_set]; exact hx) (fun y hy => ?_) (fun j hj => ?_)
    · rcases List.mem_or_eq_of_mem_set hy with hy | rfl
      · exact hx2 y hy
      · omega
    · by_cases hji : j = i
      · subst hji
        have : (x.set j ((p ^^^ q ^^^ s : Nat) : Int)).getD j 0 = ((p ^^^ q ^^^ s : Nat) : Int) := by
          rw [List.getD_eq_getElem?_getD, List.getElem?_set_self (by omega)]; rfl
        rw [this, hp, hq, hs, byteB_xor _ _ hpq (by omega), byteB_xor _ _ (by omega) (by omega)]
      · have : (x.set i ((p ^^^ q ^^^ s : Nat) : Int)).getD j 0 = x.getD j 0 := by
          rw [List.getD_eq_getElem?_getD, List.getElem?_set_ne (fun h => hji h.symm), List.getD_eq_getElem?_getD]
        rw [this]
        exact h j (by omega)

theorem CrcBits : towncrierlaw02_CrcBits.Pure := by
  intro a b c _ _ ha _ _ hb _ _ hc
  have ha := wf_bytes ha
  have hb := wf_bytes hb
  have hc := wf_bytes hc
  refine ⟨200, ?_⟩
  unfold towncrierlaw02_CrcBits.f
  rw [awake_f, Option.bind_some, if_pos rfl]
  simp only [towncrierlaw02_CrcBits.j0]
  by_cases hl : (a.length : Int) > 100
  · rw [if_pos hl, if_pos trivial]
  · rw [if_neg hl]
    by_cases h1 : (b.length : Int) = (a.length : Int)
    · rw [if_pos h1]
      by_cases h2 : (c.length : Int) = (a.length : Int)
      · rw [if_neg (by simp; omega), if_pos (by simp; omega), List.nil_append]
        have := loop a b c ha hb hc (by omega) (by omega) (by omega) a.length 0 199 a (by omega) (by omega) rfl ha (fun j hj => by omega)
        exact this
      · rw [if_pos (by simp; omega)]
    · rw [if_neg h1, if_pos trivial]

end Go.Proofs.Ytifkeknfiknpkaa.Pure
