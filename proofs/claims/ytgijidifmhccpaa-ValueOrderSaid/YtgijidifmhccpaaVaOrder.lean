/- The law ValueOrder: of two values of one kind one is less, or they are the same; of three it goes on; of two kinds none is. -/
import Derived.Test.YtgijidifmhccpaaVaLaws
import Derived.Test.YtgijidifmhccpaaX28
namespace Go.Proofs.Ytgijidifmhccpaa.X
open Go.RowKit Go.Proofs.Ytgijidifmhccpaa.Va Go.Proofs.YtgijidifmhccpaaW.PrintWords Go.Proofs.YtgijidifmhccpaaW.PrintLast Go.Proofs.YtgijidifmhccpaaW.PrintMore
set_option linter.unusedVariables false
set_option linter.unusedSimpArgs false
theorem order_up (k n : Int) (s : ByteArray) (k' n' : Int) (s' : ByteArray) (k'' n'' : Int) (s'' : ByteArray) : towncrierlaw04_ValueOrder.j0 40 true true k n s k' n' s' k'' n'' s'' = some true := by
  simp only [towncrierlaw04_ValueOrder.j0, if_true]
theorem order_pure (k n : Int) (s : ByteArray) (k' n' : Int) (s' : ByteArray) (k'' n'' : Int) (s'' : ByteArray) : towncrierlaw04_ValueOrder.f 40 k n s k' n' s' k'' n'' s'' = some true := by
  unfold towncrierlaw04_ValueOrder.f
  simp only [awake_f, few_f, may_f, Option.bind_some, if_true, order_up]
  by_cases f1 : decide ((s.size : Int) ≤ 100) = true
  case neg => rw [if_neg f1]
  by_cases f2 : decide ((s'.size : Int) ≤ 100) = true
  case neg => rw [if_pos f1, if_neg f2]
  by_cases f3 : decide ((s''.size : Int) ≤ 100) = true
  case neg => rw [if_pos f1, if_pos f2, if_neg f3]
  rw [if_pos f1, if_pos f2, if_pos f3]
  by_cases m1 : value_May.b k n s = true
  case neg => rw [if_neg m1]
  by_cases m2 : value_May.b k' n' s' = true
  case neg => rw [if_pos m1, if_neg m2]
  rw [if_pos m1, if_pos m2]
  by_cases m3 : value_May.b k'' n'' s'' = true
  case neg =>
    rw [Bool.eq_false_iff.mpr m3]
    exact order_up k n s k' n' s' k'' n'' s''
  rw [m3]
  simp only [towncrierlaw04_ValueOrder.j0, Bool.not_true]
  rw [if_neg (by decide), less_f 39 (by decide), less_f 39 (by decide), less_f 39 (by decide), less_f 39 (by decide)]
  simp only [Option.bind_some, m1, m2, m3, true_and]
  by_cases hk : k = k'
  · subst hk
    rw [if_pos rfl]
    simp only [bne_self_eq_false, beq_self_eq_true, if_true]
    rw [if_neg (by decide), if_neg (by decide)]
    have hd : (!true || (!(n == n') || !(s.toList == s'.toList))) = dif n s n' s' := by simp [dif]
    rw [hd]
    cases hab : lt n s n' s' with
    | true =>
      rw [if_pos rfl, lt_asym hab, if_neg (by decide), dif_iff.2 (lt_ne hab), if_pos (by decide)]
      by_cases hk2 : k = k''
      · subst hk2
        simp only [if_true]
        cases hbc : lt n' s' n'' s'' with
        | true => rw [if_pos rfl, lt_trans hab hbc]
        | false => rw [if_neg (by decide)]
      · simp only [if_neg hk2]
        rw [if_neg (by decide)]
    | false =>
      rw [if_neg (by decide)]
      have : (lt n' s' n s == dif n s n' s') = true := by
        cases hba : lt n' s' n s with
        | true =>
          rw [dif_iff.2 (fun h => lt_ne hba ⟨h.1.symm, h.2.symm⟩)]; rfl
        | false =>
          have : ¬ dif n s n' s' = true := fun h => by
            rcases lt_total (dif_iff.1 h) with q | q
            · rw [hab] at q; cases q
            · rw [hba] at q; cases q
          rw [Bool.eq_false_iff.mpr this]; rfl
      rw [this, if_pos rfl]
  · have hk' : ¬ k' = k := fun e => hk e.symm
    have hb : (k == k') = false := beq_eq_false_iff_ne.mpr hk
    simp only [if_neg hk, if_neg hk', hb]
    simp
theorem law_ValueOrder.calls (k n : Int) (s : ByteArray) (k' n' : Int) (s' : ByteArray) (k'' n'' : Int) (s'' : ByteArray) (w : World) (_ : (Lit.int .i64 k).wf = true) (_ : (Lit.int .i64 n).wf = true) (_ : s.size ≤ maxLen) (_ : (Lit.int .i64 k').wf = true) (_ : (Lit.int .i64 n').wf = true) (_ : s'.size ≤ maxLen) (_ : (Lit.int .i64 k'').wf = true) (_ : (Lit.int .i64 n'').wf = true) (_ : s''.size ≤ maxLen) :
    Calls Try.prog 5 #[.agg #[.int .i64 k, .int .i64 n, .string s], .agg #[.int .i64 k', .int .i64 n', .string s'], .agg #[.int .i64 k'', .int .i64 n'', .string s'']] w fun e w' => e = .returned (.bool true) ∧ Below w.heap.size w w' :=
  towncrierlaw04_ValueOrder.calls 40 k n s k' n' s' k'' n'' s'' true w (order_pure k n s k' n' s' k'' n'' s'')
end Go.Proofs.Ytgijidifmhccpaa.X
