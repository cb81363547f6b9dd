/- The law CrcParts: the check of all is that of a part, and of the rest behind it. No condition. -/
import Derived.Test.YtifkeknfiknpkaaX9
import Derived.Test.YtifkeknfiknpkaaCrcLaws
namespace Go.Proofs.Ytifkeknfiknpkaa.Pure
open Go.RowKit Go.Proofs.Ytifkeknfiknpkaa.X Go.Proofs.YtifkeknfiknpkaaW.PrintWords Go.Proofs.YtifkeknfiknpkaaW.PrintLast Go.Proofs.YtifkeknfiknpkaaW.PrintMore
open Go.Proofs.Ytifkeknfiknpkaa.Crc Go.Proofs.Ytifkeknfiknpkaa.CrcFacts Go.Proofs.Ytifkeknfiknpkaa.CrcLaws

theorem CrcParts : towncrierlaw02_CrcParts.Pure := by
  intro b a _ _ hb ha
  have hb := wf_bytes hb
  have ha := wf_i64 ha
  refine ⟨2, ?_⟩
  unfold towncrierlaw02_CrcParts.f
  rw [awake_f, Option.bind_some, if_pos rfl]
  simp only [towncrierlaw02_CrcParts.j0]
  by_cases hl : (b.length : Int) > 400
  · rw [if_pos hl, if_pos trivial]
  · rw [if_neg hl]
    by_cases h1 : a < 0
    · rw [if_pos h1, if_pos trivial]
    · rw [if_neg h1]
      by_cases h2 : a > (b.length : Int)
      · rw [if_pos (by simpa using h2)]
      · have h3 : 0 ≤ a := Int.not_lt.1 h1
        have h4 : a ≤ (b.length : Int) := Int.not_lt.1 h2
        have h5 : b.length < 140737488355328 := by omega
        rw [if_neg (by simpa using h2), if_pos h3, if_pos h4, of_f _ (fun x hx => hb x (List.mem_of_mem_take hx)) (by rw [List.length_take]; omega), Option.bind_some,
          next_f _ _ (fun x hx => hb x (List.mem_of_mem_drop hx)) (by rw [List.length_drop]; omega), Option.bind_some, sumB_append, List.take_append_drop, of_f b hb h5, Option.bind_some, if_pos rfl,
          Option.bind_some, next_f _ [] (by simp) (by decide), Option.bind_some, sumB_nil, Option.bind_some]
        simp

end Go.Proofs.Ytifkeknfiknpkaa.Pure
