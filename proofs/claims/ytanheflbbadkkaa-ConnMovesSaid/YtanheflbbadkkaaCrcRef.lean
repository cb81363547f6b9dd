/- What the document's answer for checks (as printed) comes to: the same plain checks. Asked: bytes are bytes, a sum is one of 32 bits. -/
import Derived.Test.YtanheflbbadkkaaX24
import Derived.Test.YtanheflbbadkkaaX25
import Derived.Test.YtanheflbbadkkaaCrcFacts
namespace Go.Proofs.Ytanheflbbadkkaa.CrcRef
open Go.RowKit Go.Proofs.Ytanheflbbadkkaa.X Go.Proofs.YtanheflbbadkkaaW.PrintWords Go.Proofs.YtanheflbbadkkaaW.PrintLast Go.Proofs.YtanheflbbadkkaaW.PrintMore
open Go.Proofs.Ytanheflbbadkkaa.Crc Go.Proofs.Ytanheflbbadkkaa.CrcFacts

theorem steps_front (k : Nat) (x : BitVec 32) : steps (k + 1) x = steps k (stepB x) := by
  induction k generalizing x with
  | zero => rfl
  | succ k ih => rw [steps, ih]; rfl

theorem refStep (x : BitVec 32) : towncrierref02_step.f (x.toNat : Int) = some ((stepB x).toNat : Int) := by
  unfold towncrierref02_step.f stepB
  have hlt := x.isLt
  have e1 : Int.tmod (x.toNat : Int) 2 = ((x.toNat % 2 : Nat) : Int) := by rw [Int.tmod_eq_emod_of_nonneg (by omega)]; omega
  have e2 : (Int.tdiv (x.toNat : Int) 2) % (4294967296 : Int) = ((x >>> 1).toNat : Int) := by
    rw [Int.tdiv_eq_ediv_of_nonneg (by omega), half]
    have := (x >>> 1).isLt
    omega
  rw [e1, e2, lsb_mod]
  cases x.getLsbD 0 with
  | true =>
    rw [if_pos (by rfl), show (3988292384 : Int) = (poly.toNat : Int) from rfl, xor_u32]; rfl
  | false =>
    rw [if_neg (by decide)]; simp

theorem ref_l1 (l : List Int) (x6 : Int) : ∀ (d j k : Nat) (x : BitVec 32), j + d = 8 →
    towncrierref02_Next.l1 (k + d + 1) l (x.toNat : Int) x6 (j : Int) = towncrierref02_Next.l0 k l ((steps d x).toNat : Int) (wrap64 (x6 + 1)) := by
  intro d
  induction d with
  | zero =>
    intro j k x h
    rw [show k + 0 + 1 = k + 1 from rfl]
    conv => lhs; unfold towncrierref02_Next.l1
    rw [if_neg (by omega)]; rfl
  | succ d ih =>
    intro j k x h
    rw [show k + (d + 1) + 1 = (k + d + 1) + 1 from by omega]
    conv => lhs; unfold towncrierref02_Next.l1
    have w : wrap64 ((j : Int) + 1) = ((j + 1 : Nat) : Int) := by unfold wrap64; omega
    rw [if_pos (by omega), refStep, Option.bind_some, w, ih (j + 1) k _ (by omega), steps_front]

theorem ref_l0 (l : List Int) (hb : ∀ x ∈ l, 0 ≤ x ∧ x < 256) (hl : l.length ≤ 1000000) : ∀ (r : List Int) (i k : Nat) (x : BitVec 32), l.drop i = r → 10 * r.length < k →
    towncrierref02_Next.l0 k l (x.toNat : Int) (i : Int) = some ((~~~(crcB r x)).toNat : Int) := by
  intro r
  induction r with
  | nil =>
    intro i k x h hk
    obtain ⟨k, rfl⟩ : ∃ m, k = m + 1 := ⟨k - 1, by omega⟩
    have hlen := congrArg List.length h
    simp at hlen
    conv => lhs; unfold towncrierref02_Next.l0
    rw [if_neg (by omega), show (4294967295 : Int) = ((BitVec.allOnes 32).toNat : Int) from by decide, xor_u32, BitVec.xor_allOnes]; rfl
  | cons c r ih =>
    intro i k x h hk
    simp only [List.length_cons] at hk
    obtain ⟨k, rfl⟩ : ∃ m, k = m + 8 + 1 + 1 := ⟨k - 10, by omega⟩
    have hlen := congrArg List.length h
    simp at hlen
    have hc := hb c (List.mem_of_mem_drop (by rw [h]; exact List.mem_cons_self))
    have hr : l.drop (i + 1) = r := by rw [← List.drop_drop, h]; rfl
    have hrd : rd l (i : Int) = c := by
      unfold rd
      have : l[i]? = some c := by
        have := congrArg (·[0]?) h
        simpa using this
      simp [List.getD_eq_getElem?_getD, this]
    have e : c % 4294967296 = ((byteB c).toNat : Int) := by
      simp only [byteB, BitVec.toNat_ofNat]; omega
    have w : wrap64 ((i : Int) + 1) = ((i + 1 : Nat) : Int) := by unfold wrap64; omega
    conv => lhs; unfold towncrierref02_Next.l0
    rw [if_pos (by omega), if_pos (by omega), hrd, e, xor_u32]
    have := ref_l1 l (i : Int) 8 0 k (x ^^^ byteB c) (by omega)
    rw [show ((0 : Nat) : Int) = 0 from rfl] at this
    rw [this, w, ih (i + 1) k _ hr (by omega)]
    rfl

theorem refNext_f (s : BitVec 32) (l : List Int) (hb : ∀ x ∈ l, 0 ≤ x ∧ x < 256) (hl : l.length ≤ 1000000) (k : Nat) (hk : 10 * l.length < k) :
    towncrierref02_Next.f k (s.toNat : Int) l = some ((sumB s l).toNat : Int) := by
  unfold towncrierref02_Next.f
  rw [show (4294967295 : Int) = ((BitVec.allOnes 32).toNat : Int) from by decide, xor_u32, BitVec.xor_allOnes]
  have := ref_l0 l hb hl l 0 k (~~~s) rfl hk
  rw [show ((0 : Nat) : Int) = 0 from rfl] at this
  rw [this]; rfl
theorem refOf_f (l : List Int) (hb : ∀ x ∈ l, 0 ≤ x ∧ x < 256) (hl : l.length ≤ 1000000) (k : Nat) (hk : 10 * l.length < k) :
    towncrierref02_Of.f k l = some ((sumB 0#32 l).toNat : Int) := by
  unfold towncrierref02_Of.f
  rw [show (0 : Int) = ((0#32).toNat : Int) from rfl, refNext_f _ l hb hl k hk]; rfl

end Go.Proofs.Ytanheflbbadkkaa.CrcRef
