/- The law ValueCut: a beginning of a value's bytes is none. -/
import Derived.Test.YtgijidifmhccpaaVaLaws
import Derived.Test.YtgijidifmhccpaaX31
namespace Go.Proofs.Ytgijidifmhccpaa.X
open Go.RowKit Go.Proofs.Ytgijidifmhccpaa.Va Go.Proofs.YtgijidifmhccpaaW.PrintWords Go.Proofs.YtgijidifmhccpaaW.PrintLast Go.Proofs.YtgijidifmhccpaaW.PrintMore
set_option linter.unusedVariables false
set_option linter.unusedSimpArgs false
theorem cut_pure (k n : Int) (s : ByteArray) (a : Int) (hn : In64 n) (ha : In64 a) : towncrierlaw04_ValueCut.f 40 k n s a = some true := by
  unfold towncrierlaw04_ValueCut.f
  rw [awake_f, Option.bind_some]
  by_cases h : Ok k n s
  · rw [vput_ok 40 (by decide) k n s hn h, Option.bind_some, if_pos rfl, if_pos rfl]
    have hl := vb_len hn h
    by_cases h1 : a < 0
    · rw [if_pos h1]
    · rw [if_neg h1]
      by_cases h2 : a ≥ ((vb k n s).length : Int)
      · rw [if_pos h2]
      · rw [if_neg h2, if_pos (by omega), if_pos (show a ≤ ((vb k n s).length : Int) by omega), vget_f 40 (by decide) _ (fun x hx => vb_byt hn h x (List.mem_of_mem_take hx)) (by rw [List.length_take]; omega), Option.bind_some, g_cut k n s hn h a.toNat (by omega)]
        have e : (⟨#[]⟩ : ByteArray).toList = [] := by rw [ByteArray.toList_eq]
        simp [none5, e]
  · rw [vput_no 40 k n s hn h, Option.bind_some, if_pos rfl, if_neg (by decide)]
theorem law_ValueCut.calls (k n : Int) (s : ByteArray) (a : Int) (w : World) (h1 : (Lit.int .i64 k).wf = true) (h2 : (Lit.int .i64 n).wf = true) (h3 : s.size ≤ maxLen) (h4 : (Lit.int .i64 a).wf = true) :
    Calls Try.prog 8 #[.agg #[.int .i64 k, .int .i64 n, .string s], .int .i64 a] w fun e w' => e = .returned (.bool true) ∧ Below w.heap.size w w' :=
  towncrierlaw04_ValueCut.calls 40 k n s a true w (cut_pure k n s a (wf_in h2) (wf_in h4))
end Go.Proofs.Ytgijidifmhccpaa.X
