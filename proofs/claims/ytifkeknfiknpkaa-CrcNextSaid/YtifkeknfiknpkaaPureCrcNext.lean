/- The law CrcNext: checks of the same bytes behind two others differ just if those do. No condition. -/
import Derived.Test.YtifkeknfiknpkaaX12
import Derived.Test.YtifkeknfiknpkaaCrcLaws
namespace Go.Proofs.Ytifkeknfiknpkaa.Pure
open Go.RowKit Go.Proofs.Ytifkeknfiknpkaa.X Go.Proofs.YtifkeknfiknpkaaW.PrintWords Go.Proofs.YtifkeknfiknpkaaW.PrintLast Go.Proofs.YtifkeknfiknpkaaW.PrintMore
open Go.Proofs.Ytifkeknfiknpkaa.Crc Go.Proofs.Ytifkeknfiknpkaa.CrcFacts Go.Proofs.Ytifkeknfiknpkaa.CrcLaws

theorem CrcNext : towncrierlaw02_CrcNext.Pure := by
  intro a b x ha hb' _ _ hx
  obtain ⟨A, rfl⟩ := of_u32 (wf_u32 ha)
  obtain ⟨B, rfl⟩ := of_u32 (wf_u32 hb')
  have hx := wf_bytes hx
  refine ⟨2, ?_⟩
  unfold towncrierlaw02_CrcNext.f
  rw [awake_f, Option.bind_some, if_pos rfl]
  simp only [towncrierlaw02_CrcNext.j0]
  by_cases hl : (x.length : Int) > 100
  · rw [if_pos (by simpa using hl)]
  · rw [if_neg (by simpa using hl), next_f A x hx (by omega), Option.bind_some, next_f B x hx (by omega), Option.bind_some]
    have e : ((((sumB A x).toNat : Int) == ((sumB B x).toNat : Int)) == ((A.toNat : Int) == (B.toNat : Int))) = true := by
      by_cases h : A = B
      · subst h; simp
      · have h1 : ¬ (A.toNat : Int) = (B.toNat : Int) := fun e => h (toNat_inj.1 e)
        have h2 : ¬ ((sumB A x).toNat : Int) = ((sumB B x).toNat : Int) := fun e => h (sumB_inj (toNat_inj.1 e))
        rw [beq_eq_false_iff_ne.2 h1, beq_eq_false_iff_ne.2 h2]; rfl
    rw [if_pos e, next_f A [] (by simp) (by decide), Option.bind_some, sumB_nil]
    simp

end Go.Proofs.Ytifkeknfiknpkaa.Pure
