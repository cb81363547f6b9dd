/- The law ValueKinds: no value of one kind has the bytes of one of another kind; the first byte tells the kind. -/
import Derived.Test.YtgijidifmhccpaaVaLaws
import Derived.Test.YtgijidifmhccpaaX29
namespace Go.Proofs.Ytgijidifmhccpaa.X
open Go.RowKit Go.Proofs.Ytgijidifmhccpaa.Va Go.Proofs.YtgijidifmhccpaaW.PrintWords Go.Proofs.YtgijidifmhccpaaW.PrintLast Go.Proofs.YtgijidifmhccpaaW.PrintMore
set_option linter.unusedVariables false
set_option linter.unusedSimpArgs false
theorem kinds_str {a b : List Int} (ha : Byt a) (hb : Byt b) : ((strOfNums a).toList == (strOfNums b).toList) = decide (a = b) := by
  have h := Leb.str_inj ha hb
  by_cases e : a = b
  · rw [decide_eq_true e, e]; simp
  · rw [decide_eq_false e]; exact beq_eq_false_iff_ne.mpr (fun q => e (h.1 q))
theorem kinds_pure (k n : Int) (s : ByteArray) (k' n' : Int) (s' : ByteArray) (hn : In64 n) (hn' : In64 n') : towncrierlaw04_ValueKinds.f 40 k n s k' n' s' = some true := by
  unfold towncrierlaw04_ValueKinds.f
  simp only [awake_f, few_f, Option.bind_some, if_true]
  by_cases h1 : Ok k n s
  · rw [vput_ok 40 (by decide) k n s hn h1]
    by_cases h2 : Ok k' n' s'
    · rw [vput_ok 40 (by decide) k' n' s' hn' h2]
      simp only [Option.bind_some, if_true]
      by_cases f1 : decide ((s.size : Int) ≤ 100) = true
      case neg => rw [if_neg f1]
      by_cases f2 : decide ((s'.size : Int) ≤ 100) = true
      case neg => rw [if_pos f1, if_neg f2]
      have hl := vb_len hn h1
      have e0 : rd (vb k n s) 0 = k := rfl
      have hk : wrap64 k = k := wrap64_id k (by unfold In64; rcases h1 with ⟨h, _⟩ | ⟨h, _⟩ | ⟨h, _⟩ | ⟨h, _⟩ <;> omega)
      rw [if_pos f1, if_pos f2, if_pos (by omega), e0, hk, if_pos rfl, kinds_str (vb_byt hn h1) (vb_byt hn' h2)]
      have he : decide (vb k n s = vb k' n' s') = (k == k' && (n == n' && (s.toList == s'.toList))) := by
        by_cases e : vb k n s = vb k' n' s'
        · obtain ⟨rfl, rfl, rfl⟩ := vb_inj hn h1 hn' h2 e
          simp
        · rw [decide_eq_false e]
          symm
          rw [Bool.eq_false_iff]
          intro q
          simp only [Bool.and_eq_true, beq_iff_eq] at q
          obtain ⟨rfl, rfl, q⟩ := q
          rw [ByteArray.toList_eq, ByteArray.toList_eq] at q
          exact e (by rw [ByteArray.ext (Array.toList_inj.1 q)])
      rw [he]
      have hg : decide (((vb k n s).length : Int) ≥ 2) = true := decide_eq_true (by omega)
      simp [hg]
      try omega
    · rw [vput_no 40 k' n' s' hn' h2]
      simp
  · rw [vput_no 40 k n s hn h1]
    by_cases h2 : Ok k' n' s'
    · rw [vput_ok 40 (by decide) k' n' s' hn' h2]; simp
    · rw [vput_no 40 k' n' s' hn' h2]; simp
theorem law_ValueKinds.calls (k n : Int) (s : ByteArray) (k' n' : Int) (s' : ByteArray) (w : World) (h1 : (Lit.int .i64 k).wf = true) (h2 : (Lit.int .i64 n).wf = true) (h3 : s.size ≤ maxLen) (h4 : (Lit.int .i64 k').wf = true) (h5 : (Lit.int .i64 n').wf = true) (h6 : s'.size ≤ maxLen) :
    Calls Try.prog 6 #[.agg #[.int .i64 k, .int .i64 n, .string s], .agg #[.int .i64 k', .int .i64 n', .string s']] w fun e w' => e = .returned (.bool true) ∧ Below w.heap.size w w' :=
  towncrierlaw04_ValueKinds.calls 40 k n s k' n' s' true w (kinds_pure k n s k' n' s' (wf_in h2) (wf_in h5))
end Go.Proofs.Ytgijidifmhccpaa.X
