/- The law CrcTells: the check of any bytes, and of more behind some, is what the document says. No condition. -/
import Derived.Test.YtifkeknfiknpkaaX8
import Derived.Test.YtifkeknfiknpkaaCrcLaws
import Derived.Test.YtifkeknfiknpkaaCrcRef
namespace Go.Proofs.Ytifkeknfiknpkaa.Pure
open Go.RowKit Go.Proofs.Ytifkeknfiknpkaa.X Go.Proofs.YtifkeknfiknpkaaW.PrintWords Go.Proofs.YtifkeknfiknpkaaW.PrintLast Go.Proofs.YtifkeknfiknpkaaW.PrintMore
open Go.Proofs.Ytifkeknfiknpkaa.Crc Go.Proofs.Ytifkeknfiknpkaa.CrcFacts Go.Proofs.Ytifkeknfiknpkaa.CrcLaws Go.Proofs.Ytifkeknfiknpkaa.CrcRef

theorem CrcTells : towncrierlaw02_CrcTells.Pure := by
  intro s b hs _ _ hb
  obtain ⟨S, rfl⟩ := of_u32 (wf_u32 hs)
  have hb := wf_bytes hb
  refine ⟨5002, ?_⟩
  unfold towncrierlaw02_CrcTells.f
  rw [awake_f, Option.bind_some, if_pos rfl]
  simp only [towncrierlaw02_CrcTells.j0]
  by_cases hl : (b.length : Int) > 400
  · rw [if_pos (by simpa using hl)]
  · rw [if_neg (by simpa using hl), next_f S b hb (by omega), Option.bind_some, refNext_f S b hb (by omega) 5001 (by omega), Option.bind_some, if_pos rfl,
      of_f b hb (by omega), Option.bind_some, refOf_f b hb (by omega) 5001 (by omega), Option.bind_some]
    simp

end Go.Proofs.Ytifkeknfiknpkaa.Pure
