/- The law ValueBack: what is put is got, whatever stands behind; what is got may be, and is put as the same bytes. -/
import Derived.Test.YtgijidifmhccpaaVaLaws
import Derived.Test.YtgijidifmhccpaaX27
namespace Go.Proofs.Ytgijidifmhccpaa.X
open Go.RowKit Go.Proofs.Ytgijidifmhccpaa.Va Go.Proofs.YtgijidifmhccpaaW.PrintWords Go.Proofs.YtgijidifmhccpaaW.PrintLast Go.Proofs.YtgijidifmhccpaaW.PrintMore
set_option linter.unusedVariables false
set_option linter.unusedSimpArgs false
theorem back_j1 (l : List Int) (hb : Byt l) (hl : l.length ≤ 100) : towncrierlaw04_ValueBack.j1 39 l = some true := by
  simp only [towncrierlaw04_ValueBack.j1]
  rw [vget_f 38 (by decide) l hb (by omega), Option.bind_some]
  rcases g_some l hb with h | ⟨k, n, s, hn, ho, hle, hg, ht⟩
  · rw [h]
    have e : (⟨#[]⟩ : ByteArray).toList = [] := by rw [ByteArray.toList_eq]
    simp [none5, e]
  · rw [hg]
    simp only [if_true]
    rw [vput_ok 38 (by decide) k n s hn ho, Option.bind_some, if_pos rfl, may_f, (may_ok k n s hn).2 ho, Option.bind_some, if_pos rfl, if_pos (by omega), if_pos (by omega)]
    rw [Int.toNat_natCast, ht]
    simp
theorem back_pure (k n : Int) (s : ByteArray) (l : List Int) (hn : In64 n) (hb : Byt l) : towncrierlaw04_ValueBack.f 40 k n s l = some true := by
  unfold towncrierlaw04_ValueBack.f
  have up : towncrierlaw04_ValueBack.j0 40 l true true k n s = some true := by simp only [towncrierlaw04_ValueBack.j0, if_true]
  simp only [awake_f, few_f, Option.bind_some, if_true, up]
  by_cases f1 : decide ((s.size : Int) ≤ 100) = true
  case neg => rw [if_neg f1]
  rw [if_pos f1]
  by_cases f2 : (l.length : Int) > 100
  · rw [decide_eq_true f2, up]
  rw [decide_eq_false f2]
  simp only [towncrierlaw04_ValueBack.j0]
  rw [if_neg (by decide)]
  have hj := back_j1 l hb (by omega)
  by_cases ho : Ok k n s
  · have hlen := vb_len hn ho
    rw [vput_ok 39 (by decide) k n s hn ho, Option.bind_some, may_f, (may_ok k n s hn).2 ho, Option.bind_some, if_neg (by simp), if_pos rfl, if_pos (show ([] : List Int).length + (vb k n s).length < 140737488355328 by simp only [List.length_nil]; omega), Option.bind_some, if_pos (by simp only [List.length_append, List.length_nil]; omega), List.nil_append,
      vget_f 39 (by decide) _ ((vb_byt hn ho).append hb) (by simp only [List.length_append]; omega), Option.bind_some, g_vb k n s hn ho l]
    simp only [if_true, beq_self_eq_true, Bool.not_true, Bool.or_self]
    rw [if_neg (by decide), hj]
  · have hm : value_May.b k n s = false := Bool.eq_false_iff.mpr (fun e => ho ((may_ok k n s hn).1 e))
    rw [vput_no 39 k n s hn ho, Option.bind_some, may_f, hm, Option.bind_some, if_neg (by decide), if_neg (by decide), hj]
theorem law_ValueBack.calls (k n : Int) (s : ByteArray) (A1 : Option Addr) (c1 : Nat) (l1 : List Int) (w : World) (h1 : (Lit.int .i64 k).wf = true) (h2 : (Lit.int .i64 n).wf = true) (h3 : s.size ≤ maxLen) (hr1 : Kd.C (Kd.int .u8) w A1 l1.length l1) (hc1 : l1.length ≤ c1) (hb1 : Byt l1) :
    Calls Try.prog 4 #[.agg #[.int .i64 k, .int .i64 n, .string s], .slice A1 l1.length c1] w fun e w' => e = .returned (.bool true) ∧ Below w.heap.size w w' :=
  towncrierlaw04_ValueBack.calls 40 k n s A1 c1 l1 true w hr1 hc1 (back_pure k n s l1 (wf_in h2) hb1)
end Go.Proofs.Ytgijidifmhccpaa.X
