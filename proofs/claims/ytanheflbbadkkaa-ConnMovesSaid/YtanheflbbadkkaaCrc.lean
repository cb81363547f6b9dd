/- Checks on plain 32-bit words: a step is linear and loses nothing; eight steps of a word are those of its last byte, and its other bytes; checks of lists. No condition. -/
import Derived.Laws.BitsAllLaws
namespace Go.Proofs.Ytanheflbbadkkaa.Crc

def poly : BitVec 32 := 3988292384#32
def stepB (x : BitVec 32) : BitVec 32 := (x >>> 1) ^^^ (if x.getLsbD 0 then poly else 0#32)

theorem xor_sel (p q : Bool) : (if (p ^^ q) = true then poly else 0#32) = (if p = true then poly else 0#32) ^^^ (if q = true then poly else 0#32) := by
  cases p <;> cases q <;> simp

theorem xor_comm4 (a b c d : BitVec 32) : (a ^^^ b) ^^^ (c ^^^ d) = (a ^^^ c) ^^^ (b ^^^ d) := by
  ext i; simp only [BitVec.getElem_xor]
  cases a[i] <;> cases b[i] <;> cases c[i] <;> cases d[i] <;> rfl

theorem step_lin (a b : BitVec 32) : stepB (a ^^^ b) = stepB a ^^^ stepB b := by
  unfold stepB
  rw [BitVec.getLsbD_xor, xor_sel, BitVec.ushiftRight_xor_distrib, xor_comm4]

theorem step_zero {x : BitVec 32} (h : stepB x = 0#32) : x = 0#32 := by
  unfold stepB at h
  cases hb : x.getLsbD 0 with
  | true =>
    exfalso
    rw [hb, if_pos rfl] at h
    have h31 := congrArg (fun y => BitVec.getLsbD y 31) h
    simp [poly] at h31
  | false =>
    rw [hb] at h
    simp at h
    apply BitVec.eq_of_getLsbD_eq
    intro i hi
    cases i with
    | zero => rw [hb]; simp
    | succ i =>
      have := congrArg (fun y => BitVec.getLsbD y i) h
      simp at this
      rw [Nat.add_comm] at this
      simp [this]

def steps : Nat → BitVec 32 → BitVec 32
  | 0, x => x
  | k + 1, x => stepB (steps k x)

theorem steps_lin (k : Nat) (a b : BitVec 32) : steps k (a ^^^ b) = steps k a ^^^ steps k b := by
  induction k with
  | zero => rfl
  | succ k ih => simp only [steps, ih, step_lin]

theorem steps_zero (k : Nat) {x : BitVec 32} (h : steps k x = 0#32) : x = 0#32 := by
  induction k with
  | zero => exact h
  | succ k ih => exact ih (step_zero h)

theorem steps_inj (k : Nat) {x y : BitVec 32} (h : steps k x = steps k y) : x = y := by
  have : steps k (x ^^^ y) = 0#32 := by rw [steps_lin, h, BitVec.xor_self]
  have := steps_zero k this
  exact BitVec.xor_eq_zero_iff.1 this

theorem steps_shift (k : Nat) (x : BitVec 32) (h : ∀ j, j < k → x.getLsbD j = false) : steps k x = x >>> k := by
  induction k with
  | zero => simp [steps]
  | succ k ih =>
    simp only [steps]
    rw [ih (fun j hj => h j (by omega))]
    unfold stepB
    have : (x >>> k).getLsbD 0 = false := by simpa using h k (by omega)
    rw [this, BitVec.shiftRight_add]
    simp

/-- Eight steps, by the last byte. -/
theorem steps_byte (x c : BitVec 32) : steps 8 (x ^^^ c) = steps 8 ((x &&& 255#32) ^^^ c) ^^^ (x >>> 8) := by
  have e : x ^^^ c = ((x &&& 255#32) ^^^ c) ^^^ (x &&& ~~~255#32) := by
    ext i hi
    simp only [BitVec.getElem_xor, BitVec.getElem_and, BitVec.getElem_not]
    cases x[i] <;> cases c[i] <;> cases (255#32)[i] <;> rfl
  rw [e, steps_lin]
  congr 1
  rw [steps_shift 8 _ (fun j hj => by
    have : (255#32).getLsbD j = true := by
      have : j = 0 ∨ j = 1 ∨ j = 2 ∨ j = 3 ∨ j = 4 ∨ j = 5 ∨ j = 6 ∨ j = 7 := by omega
      rcases this with rfl | rfl | rfl | rfl | rfl | rfl | rfl | rfl <;> rfl
    rw [BitVec.getLsbD_and, BitVec.getLsbD_not, this]; simp)]
  apply BitVec.eq_of_getLsbD_eq
  intro i hi
  rw [BitVec.getLsbD_ushiftRight, BitVec.getLsbD_ushiftRight, BitVec.getLsbD_and, BitVec.getLsbD_not]
  have : (255#32).getLsbD (8 + i) = false := by
    rw [BitVec.getLsbD_ofNat]
    have : Nat.testBit 255 (8 + i) = false := Nat.testBit_lt_two_pow (Nat.lt_of_lt_of_le (by decide : 255 < 2 ^ 8) (Nat.pow_le_pow_right (by decide) (by omega)))
    rw [this]; simp
  rw [this]
  by_cases hj : 8 + i < 32
  · simp [hj]
  · rw [BitVec.getLsbD_of_ge _ _ (by omega)]; simp

def byteB (c : Int) : BitVec 32 := BitVec.ofNat 32 c.toNat
/-- The state behind bytes. -/
def crcB : List Int → BitVec 32 → BitVec 32
  | [], x => x
  | c :: r, x => crcB r (steps 8 (x ^^^ byteB c))

theorem crcB_append (l r : List Int) (x : BitVec 32) : crcB (l ++ r) x = crcB r (crcB l x) := by
  induction l generalizing x with
  | nil => rfl
  | cons c l ih => exact ih _

theorem crcB_inj (l : List Int) {x y : BitVec 32} (h : crcB l x = crcB l y) : x = y := by
  induction l generalizing x y with
  | nil => exact h
  | cons c l ih =>
    have := steps_inj 8 (ih h)
    have h2 := congrArg (· ^^^ byteB c) this
    simpa [BitVec.xor_assoc] using h2

theorem byteB_inj {c d : Int} (hc : 0 ≤ c ∧ c < 256) (hd : 0 ≤ d ∧ d < 256) (h : byteB c = byteB d) : c = d := by
  have := congrArg BitVec.toNat h
  simp only [byteB, BitVec.toNat_ofNat] at this
  omega

/-- Bytes that differ in one place alone. -/
theorem crcB_one (l r : List Int) {c d : Int} (hc : 0 ≤ c ∧ c < 256) (hd : 0 ≤ d ∧ d < 256) (x : BitVec 32) (h : crcB (l ++ c :: r) x = crcB (l ++ d :: r) x) : c = d := by
  rw [crcB_append, crcB_append] at h
  have h1 := steps_inj 8 (crcB_inj r h)
  have h2 := congrArg (crcB l x ^^^ ·) h1
  simp only [← BitVec.xor_assoc, BitVec.xor_self, BitVec.zero_xor] at h2
  exact byteB_inj hc hd h2

theorem byteB_xor (a b : Nat) (ha : a < 256) (hb : b < 256) : byteB ((a ^^^ b : Nat) : Int) = byteB (a : Int) ^^^ byteB (b : Int) := by
  apply BitVec.eq_of_toNat_eq
  have : a ^^^ b < 256 := Nat.xor_lt_two_pow (n := 8) ha hb
  simp only [byteB, BitVec.toNat_xor, BitVec.toNat_ofNat, Int.toNat_natCast]
  rw [Nat.mod_eq_of_lt (by omega), Nat.mod_eq_of_lt (by omega), Nat.mod_eq_of_lt (by omega)]

/-- Of three lists of as many bytes. -/
theorem crcB_three : ∀ (a b c l : List Int) (x y z : BitVec 32), b.length = a.length → c.length = a.length → l.length = a.length → (∀ i, i < a.length → byteB (l.getD i 0) = byteB (a.getD i 0) ^^^ byteB (b.getD i 0) ^^^ byteB (c.getD i 0)) →
    crcB l (x ^^^ y ^^^ z) = crcB a x ^^^ crcB b y ^^^ crcB c z := by
  intro a
  induction a with
  | nil =>
    intro b c l x y z hb hc hl _
    obtain rfl := List.eq_nil_of_length_eq_zero (by simpa using hb)
    obtain rfl := List.eq_nil_of_length_eq_zero (by simpa using hc)
    obtain rfl := List.eq_nil_of_length_eq_zero (by simpa using hl)
    rfl
  | cons p a ih =>
    intro b c l x y z hb hc hl h
    match b, c, l, hb, hc, hl with
    | q :: b, s :: c, t :: l, hb, hc, hl =>
      have h0 := h 0 (by simp)
      simp only [List.getD_cons_zero] at h0
      simp only [crcB]
      have e : (x ^^^ y ^^^ z) ^^^ byteB t = (x ^^^ byteB p) ^^^ (y ^^^ byteB q) ^^^ (z ^^^ byteB s) := by
        rw [h0]
        ext i hi
        simp only [BitVec.getElem_xor]
        cases x[i] <;> cases y[i] <;> cases z[i] <;> cases (byteB p)[i] <;> cases (byteB q)[i] <;> cases (byteB s)[i] <;> rfl
      rw [e, steps_lin, steps_lin]
      refine ih b c l _ _ _ (by simpa using hb) (by simpa using hc) (by simpa using hl) (fun i hi => ?_)
      have := h (i + 1) (by simpa using hi)
      simpa using this

end Go.Proofs.Ytanheflbbadkkaa.Crc
