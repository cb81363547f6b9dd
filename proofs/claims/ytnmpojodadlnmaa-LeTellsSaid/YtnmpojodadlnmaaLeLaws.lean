/- The chapter's examples hold (awake), and what the laws' parts come to. -/
import Derived.Test.YtnmpojodadlnmaaX5
import Derived.Test.YtnmpojodadlnmaaLeFacts
import Derived.Test.YtnmpojodadlnmaaLeZig
namespace Go.Proofs.Ytnmpojodadlnmaa.LeLaws
open Go.RowKit Go.Proofs.Ytnmpojodadlnmaa.X Go.Proofs.YtnmpojodadlnmaaW.PrintWords Go.Proofs.YtnmpojodadlnmaaW.PrintLast Go.Proofs.YtnmpojodadlnmaaW.PrintMore
open Go.Proofs.Ytnmpojodadlnmaa.Leb Go.Proofs.Ytnmpojodadlnmaa.LeFacts Go.Proofs.Ytnmpojodadlnmaa.LeZig

theorem awake_f (k : Nat) (hk : 11 ≤ k) : towncrierlaw01_awake.f k = some true := by
  unfold towncrierlaw01_awake.f
  have h1 := put_f 300 k (by omega) (by omega)
  have e1 : leb 300 = [172, 2] := by rw [leb_big (by omega), leb_small (by omega)]; rfl
  rw [e1] at h1
  have h2 := get_f [172, 2] (by decide) k hk
  have h3 := zig_f (-2) (by omega) (by omega)
  have h4 := zag_f 3 (by omega) (by omega)
  have e2 : castG (getL [172, 2] 0 0) = (300, 2, true) := by decide
  rw [e2] at h2
  rw [show (300 : Int) = ((300 : Nat) : Int) from rfl, h1]
  simp only [Option.bind_some]
  rw [h2]
  simp only [Option.bind_some]
  rw [h3]
  simp only [Option.bind_some]
  rw [h4]
  decide

theorem wf_u64 {a : Int} (h : (Lit.int .u64 a).wf = true) : 0 ≤ a ∧ a < 18446744073709551616 := by
  simp only [Lit.wf, IntKind.min, IntKind.max, IntKind.signed, IntKind.bits, Bool.and_eq_true] at h
  simp at h; omega
theorem wf_i64 {a : Int} (h : (Lit.int .i64 a).wf = true) : -9223372036854775808 ≤ a ∧ a < 9223372036854775808 := by
  simp only [Lit.wf, IntKind.min, IntKind.max, IntKind.signed, IntKind.bits, Bool.and_eq_true, decide_eq_true_eq] at h
  simp at h; omega
theorem wf_u32 {a : Int} (h : (Lit.int .u32 a).wf = true) : 0 ≤ a ∧ a < 4294967296 := by
  simp only [Lit.wf, IntKind.min, IntKind.max, IntKind.signed, IntKind.bits, Bool.and_eq_true] at h
  simp at h; omega
theorem wf_u8 {a : Int} (h : (Lit.int .u8 a).wf = true) : 0 ≤ a ∧ a < 256 := by
  simp only [Lit.wf, IntKind.min, IntKind.max, IntKind.signed, IntKind.bits, Bool.and_eq_true] at h
  simp at h; omega
theorem wf_bytes {l : List Int} (h : ∀ x ∈ l, (Lit.int .u8 x).wf = true) : ∀ x ∈ l, 0 ≤ x ∧ x < 256 := fun x hx => wf_u8 (h x hx)

end Go.Proofs.Ytnmpojodadlnmaa.LeLaws
