/- The chapter's example of checks holds (awake); numbers of their kinds. No condition. -/
import Derived.Test.YtifkeknfiknpkaaX4
import Derived.Test.YtifkeknfiknpkaaCrcFacts
namespace Go.Proofs.Ytifkeknfiknpkaa.CrcLaws
open Go.RowKit Go.Proofs.Ytifkeknfiknpkaa.X Go.Proofs.YtifkeknfiknpkaaW.PrintWords Go.Proofs.YtifkeknfiknpkaaW.PrintLast Go.Proofs.YtifkeknfiknpkaaW.PrintMore
open Go.Proofs.Ytifkeknfiknpkaa.Crc Go.Proofs.Ytifkeknfiknpkaa.CrcFacts

theorem awake_f : towncrierlaw02_awake.f = some true := by
  unfold towncrierlaw02_awake.f
  have e : (sumB 0#32 [49, 50, 51, 52, 53, 54, 55, 56, 57]).toNat = 3421780262 := by decide +kernel
  rw [of_f _ (by decide) (by decide), Option.bind_some, e, if_pos (by rfl), of_f [] (by decide) (by decide), Option.bind_some, sumB_nil]
  rfl

theorem wf_i64 {a : Int} (h : (Lit.int .i64 a).wf = true) : -9223372036854775808 ≤ a ∧ a < 9223372036854775808 := by
  simp only [Lit.wf, IntKind.min, IntKind.max, IntKind.signed, IntKind.bits, Bool.and_eq_true, decide_eq_true_eq] at h
  simp at h; omega
theorem wf_u32 {a : Int} (h : (Lit.int .u32 a).wf = true) : 0 ≤ a ∧ a < 4294967296 := by
  simp only [Lit.wf, IntKind.min, IntKind.max, IntKind.signed, IntKind.bits, Bool.and_eq_true] at h
  simp at h; omega
theorem wf_u8 {a : Int} (h : (Lit.int .u8 a).wf = true) : 0 ≤ a ∧ a < 256 := by
  simp only [Lit.wf, IntKind.min, IntKind.max, IntKind.signed, IntKind.bits, Bool.and_eq_true] at h
  simp at h; omega
theorem wf_bytes {l : List Int} (h : ∀ x ∈ l, (Lit.int .u8 x).wf = true) : ∀ x ∈ l, 0 ≤ x ∧ x < 256 := fun x hx => wf_u8 (h x hx)

end Go.Proofs.Ytifkeknfiknpkaa.CrcLaws
