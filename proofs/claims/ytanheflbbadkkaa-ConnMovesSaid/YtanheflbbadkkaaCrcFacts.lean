/- What crc.Next and crc.Of (as their contracts say) come to: the plain checks. Asked: bytes are bytes, a sum is one of 32 bits. -/
import Derived.Test.YtanheflbbadkkaaX6
import Derived.Test.YtanheflbbadkkaaX7
import Derived.Test.YtanheflbbadkkaaCrc
import Derived.Laws.BitsLemmas
namespace Go.Proofs.Ytanheflbbadkkaa.CrcFacts
open Go.RowKit Go.Proofs.Ytanheflbbadkkaa.X Go.Proofs.YtanheflbbadkkaaW.PrintWords Go.Proofs.YtanheflbbadkkaaW.PrintLast Go.Proofs.YtanheflbbadkkaaW.PrintMore
open Go.Proofs.Ytanheflbbadkkaa.Crc

theorem xor_u32 (a b : BitVec 32) : Go.bits .xor .u32 (a.toNat : Int) (b.toNat : Int) = ((a ^^^ b).toNat : Int) := by
  rw [u32_xor_nat _ _ (by have := a.isLt; omega) (by have := b.isLt; omega), BitVec.toNat_xor]
theorem and_u32 (a b : BitVec 32) : Go.bits .and .u32 (a.toNat : Int) (b.toNat : Int) = ((a &&& b).toNat : Int) := by
  rw [u32_and_nat _ _ (by have := a.isLt; omega) (by have := b.isLt; omega), BitVec.toNat_and]

theorem half (x : BitVec 32) : ((x.toNat : Int) / (2 : Int)) = ((x >>> 1).toNat : Int) := by
  rw [BitVec.toNat_ushiftRight, Nat.shiftRight_eq_div_pow]; omega
theorem eighth (x : BitVec 32) : ((x.toNat : Int) / (256 : Int)) = ((x >>> 8).toNat : Int) := by
  rw [BitVec.toNat_ushiftRight, Nat.shiftRight_eq_div_pow]; omega
theorem lsb_mod (x : BitVec 32) : x.toNat % 2 = if x.getLsbD 0 then 1 else 0 := by
  unfold BitVec.getLsbD
  rw [Nat.testBit_zero]
  by_cases h : x.toNat % 2 = 1
  · simp [h]
  · have : x.toNat % 2 = 0 := by omega
    simp [this]

theorem stepI_cast (x : BitVec 32) : stepI (x.toNat : Int) = ((stepB x).toNat : Int) := by
  unfold stepI stepB
  have e1 : Go.bits .and .u32 (x.toNat : Int) 1 = ((x.toNat % 2 : Nat) : Int) := by
    rw [show (1 : Int) = ((1 : Nat) : Int) from rfl, u32_and_nat _ _ (by have := x.isLt; omega) (by omega), Nat.and_one_is_mod]
  rw [e1, half, lsb_mod]
  cases x.getLsbD 0 with
  | true =>
    have e2 : Go.bits .and .u32 3988292384 ((-(((if true = true then 1 else 0 : Nat) : Nat) : Int)) % 4294967296) = (poly.toNat : Int) := by decide
    rw [e2, xor_u32]; rfl
  | false =>
    have e2 : Go.bits .and .u32 3988292384 ((-(((if false = true then 1 else 0 : Nat) : Nat) : Int)) % 4294967296) = ((0#32).toNat : Int) := by decide
    rw [e2, xor_u32]; rfl

theorem stepsI_cast (k : Nat) (x : BitVec 32) : stepsI k (x.toNat : Int) = ((steps k x).toNat : Int) := by
  induction k with
  | zero => rfl
  | succ k ih => simp only [stepsI, steps, ih, stepI_cast]

theorem last_byte (x : BitVec 32) {c : Int} (h : 0 ≤ c ∧ c < 256) : Go.bits .xor .u8 ((x.toNat : Int) % 256) c = (((x &&& 255#32) ^^^ byteB c).toNat : Int) := by
  obtain ⟨n, rfl⟩ := Int.eq_ofNat_of_zero_le h.1
  have e : ((x.toNat : Int) % 256) = ((x.toNat % 256 : Nat) : Int) := by omega
  rw [e, u8_xor_nat _ _ (by omega) (by omega), BitVec.toNat_xor, BitVec.toNat_and]
  have e2 : x.toNat &&& (255#32).toNat = x.toNat % 256 := Nat.and_two_pow_sub_one_eq_mod x.toNat 8
  have e3 : (byteB (n : Int)).toNat = n := by
    simp only [byteB, BitVec.toNat_ofNat, Int.toNat_natCast]; omega
  rw [e2, e3]

theorem crcI_cast (l : List Int) (hb : ∀ x ∈ l, 0 ≤ x ∧ x < 256) (x : BitVec 32) : crcI l (x.toNat : Int) = ((crcB l x).toNat : Int) := by
  induction l generalizing x with
  | nil => rfl
  | cons c r ih =>
    simp only [crcI, crcB]
    rw [last_byte x (hb c List.mem_cons_self), stepsI_cast, eighth, xor_u32, ← steps_byte]
    exact ih (fun y hy => hb y (List.mem_cons_of_mem _ hy)) _

theorem not_u32 (x : BitVec 32) : Go.bits .xor .u32 IntKind.u32.max (x.toNat : Int) = ((~~~x).toNat : Int) := by
  have e : IntKind.u32.max = ((BitVec.allOnes 32).toNat : Int) := by decide
  rw [e, xor_u32, BitVec.xor_comm, BitVec.xor_allOnes]

/-- The check of bytes behind a sum. -/
def sumB (s : BitVec 32) (l : List Int) : BitVec 32 := ~~~(crcB l (~~~s))

theorem next_f (s : BitVec 32) (l : List Int) (hb : ∀ x ∈ l, 0 ≤ x ∧ x < 256) (hl : l.length < 140737488355328) : crc_Next.f (s.toNat : Int) l = some ((sumB s l).toNat : Int) := by
  unfold crc_Next.f
  rw [if_pos hl, not_u32, crcI_cast l hb, not_u32]; rfl
theorem of_f (l : List Int) (hb : ∀ x ∈ l, 0 ≤ x ∧ x < 256) (hl : l.length < 140737488355328) : crc_Of.f l = some ((sumB 0#32 l).toNat : Int) := by
  unfold crc_Of.f
  rw [show (0 : Int) = ((0#32).toNat : Int) from rfl, next_f _ l hb hl]; rfl

theorem not_inj {a b : BitVec 32} (h : ~~~a = ~~~b) : a = b := by
  have := congrArg (~~~ ·) h
  simpa using this
theorem toNat_inj {a b : BitVec 32} : ((a.toNat : Int) = (b.toNat : Int)) ↔ a = b := by
  rw [← BitVec.toNat_inj]; omega
theorem sumB_nil (s : BitVec 32) : sumB s [] = s := by simp [sumB, crcB]
theorem sumB_append (s : BitVec 32) (l r : List Int) : sumB (sumB s l) r = sumB s (l ++ r) := by
  unfold sumB; rw [crcB_append, BitVec.not_not]
theorem sumB_inj {s t : BitVec 32} {l : List Int} (h : sumB s l = sumB t l) : s = t := not_inj (crcB_inj l (not_inj h))

theorem of_u32 {a : Int} (h : 0 ≤ a ∧ a < 4294967296) : ∃ s : BitVec 32, a = (s.toNat : Int) := by
  refine ⟨BitVec.ofNat 32 a.toNat, ?_⟩
  rw [BitVec.toNat_ofNat]; omega

end Go.Proofs.Ytanheflbbadkkaa.CrcFacts
