/- What le.Zig and le.Zag (as printed) come to, at every number of their kind. -/
import Derived.Test.YtgijidifmhccpaaX4
import Derived.Test.YtgijidifmhccpaaX8
import Derived.Laws.BitsAllLaws
namespace Go.Proofs.Ytgijidifmhccpaa.LeZig
open Go.RowKit Go.Proofs.Ytgijidifmhccpaa.X Go.Proofs.YtgijidifmhccpaaW.PrintWords Go.Proofs.YtgijidifmhccpaaW.PrintLast Go.Proofs.YtgijidifmhccpaaW.PrintMore

theorem wrap_u64 (n : Int) : IntKind.u64.wrap n = n % 18446744073709551616 := by simp [IntKind.wrap, IntKind.bits, IntKind.signed]

theorem ones_toNat (x : Int) : ((BitVec.ofInt 64 x) ^^^ (BitVec.ofInt 64 (-1))).toNat = 18446744073709551615 - (BitVec.ofInt 64 x).toNat := by
  have e : BitVec.ofInt 64 (-1) = BitVec.allOnes 64 := by decide
  rw [e, BitVec.xor_allOnes, BitVec.toNat_not]

theorem toNat_ofInt (x : Int) : ((BitVec.ofInt 64 x).toNat : Int) = x % 18446744073709551616 := by
  rw [BitVec.toNat_ofInt]; simp; omega

/-- Zig, as arithmetic. -/
def zig (a : Int) : Int := if 0 ≤ a then 2 * a else -2 * a - 1
/-- Zag, as arithmetic. -/
def zag (n : Int) : Int := if n % 2 = 0 then n / 2 else -(n / 2) - 1

theorem xor_ones_u64 (x : Int) : Go.bits .xor .u64 x 18446744073709551615 = 18446744073709551615 - x % 18446744073709551616 := by
  have e : BitVec.ofInt 64 18446744073709551615 = BitVec.ofInt 64 (-1) := by decide
  show IntKind.u64.wrap ((BitVec.ofInt 64 x ^^^ BitVec.ofInt 64 18446744073709551615).toNat : Int) = _
  rw [e, ones_toNat, wrap_u64]
  have := toNat_ofInt x
  have h := (BitVec.ofInt 64 x).isLt
  omega
theorem xor_zero_u64 (x : Int) : Go.bits .xor .u64 x 0 = x % 18446744073709551616 := by
  show IntKind.u64.wrap ((BitVec.ofInt 64 x ^^^ BitVec.ofInt 64 0).toNat : Int) = _
  have e : BitVec.ofInt 64 0 = 0#64 := by decide
  rw [e, BitVec.xor_zero, wrap_u64]
  have := toNat_ofInt x
  omega
theorem xor_ones_i64 (x : Int) (h1 : 0 ≤ x) (h2 : x < 9223372036854775808) : Go.bits .xor .i64 x (-1) = -x - 1 := by
  show IntKind.i64.wrap ((BitVec.ofInt 64 x ^^^ BitVec.ofInt 64 (-1)).toNat : Int) = _
  rw [ones_toNat, IntKind.wrap_i64]
  have := toNat_ofInt x
  have h := (BitVec.ofInt 64 x).isLt
  omega
theorem xor_zero_i64 (x : Int) (h1 : 0 ≤ x) (h2 : x < 9223372036854775808) : Go.bits .xor .i64 x 0 = x := by
  show IntKind.i64.wrap ((BitVec.ofInt 64 x ^^^ BitVec.ofInt 64 0).toNat : Int) = _
  have e : BitVec.ofInt 64 0 = 0#64 := by decide
  rw [e, BitVec.xor_zero, IntKind.wrap_i64]
  have := toNat_ofInt x
  omega

theorem zig_f (a : Int) (h1 : -9223372036854775808 ≤ a) (h2 : a < 9223372036854775808) : le_Zig.f a = some (zig a) := by
  unfold le_Zig.f zig
  by_cases h : 0 ≤ a
  · have e : a / 9223372036854775808 = 0 := by omega
    rw [e, if_pos h, show IntKind.u64.wrap 0 = 0 from by rw [wrap_u64]; rfl, xor_zero_u64, wrap_u64, wrap_u64]
    congr 1; omega
  · have e : a / 9223372036854775808 = -1 := by omega
    rw [e, if_neg h, show IntKind.u64.wrap (-1) = 18446744073709551615 from by rw [wrap_u64]; rfl, xor_ones_u64, wrap_u64, wrap_u64]
    congr 1; omega

theorem and_one (n : Int) (h1 : 0 ≤ n) (h2 : n < 18446744073709551616) : Go.bits .and .u64 n 1 = n % 2 := by
  obtain ⟨m, rfl⟩ := Int.eq_ofNat_of_zero_le h1
  rw [show (1 : Int) = ((1 : Nat) : Int) from rfl, u64_and_nat _ _ (by omega) (by omega), Nat.and_one_is_mod]
  omega

theorem zag_f (n : Int) (h1 : 0 ≤ n) (h2 : n < 18446744073709551616) : le_Zag.f n = some (zag n) := by
  unfold le_Zag.f zag
  rw [and_one n h1 h2]
  have e1 : wrap64 (n / 2) = n / 2 := by unfold wrap64; omega
  by_cases h : n % 2 = 0
  · rw [if_pos h, h, e1, show wrap64 (-(wrap64 0)) = 0 from by unfold wrap64; rfl, xor_zero_i64 _ (by omega) (by omega)]
  · have h' : n % 2 = 1 := by omega
    rw [if_neg h, h', e1, show wrap64 (-(wrap64 1)) = -1 from by unfold wrap64; rfl, xor_ones_i64 _ (by omega) (by omega)]

theorem zig_range (a : Int) (h1 : -9223372036854775808 ≤ a) (h2 : a < 9223372036854775808) : 0 ≤ zig a ∧ zig a < 18446744073709551616 := by unfold zig; split <;> omega
theorem zag_range (n : Int) (h1 : 0 ≤ n) (h2 : n < 18446744073709551616) : -9223372036854775808 ≤ zag n ∧ zag n < 9223372036854775808 := by unfold zag; split <;> omega
theorem zag_zig (a : Int) : zag (zig a) = a := by unfold zag zig; split <;> split <;> omega
theorem zig_zag (n : Int) (h : 0 ≤ n) : zig (zag n) = n := by unfold zag zig; split <;> split <;> omega

end Go.Proofs.Ytgijidifmhccpaa.LeZig
