/- The law LeWords: four bytes are read as what was put, and put as what was read; no others are. No condition. -/
import Derived.Test.YtnmpojodadlnmaaX21
import Derived.Test.YtnmpojodadlnmaaLeLaws
import Derived.Test.YtnmpojodadlnmaaLeWord
namespace Go.Proofs.Ytnmpojodadlnmaa.Pure
open Go.RowKit Go.Proofs.Ytnmpojodadlnmaa.X Go.Proofs.YtnmpojodadlnmaaW.PrintWords Go.Proofs.YtnmpojodadlnmaaW.PrintLast Go.Proofs.YtnmpojodadlnmaaW.PrintMore
open Go.Proofs.Ytnmpojodadlnmaa.Leb Go.Proofs.Ytnmpojodadlnmaa.LeFacts Go.Proofs.Ytnmpojodadlnmaa.LeZig Go.Proofs.Ytnmpojodadlnmaa.LeLaws Go.Proofs.Ytnmpojodadlnmaa.LeWord

theorem LeWords : towncrierlaw01_LeWords.Pure := by
  intro n b hn _ _ hb
  have hn := wf_u32 hn
  have hb := wf_bytes hb
  obtain ⟨n, rfl⟩ := Int.eq_ofNat_of_zero_le hn.1
  refine ⟨20, ?_⟩
  unfold towncrierlaw01_LeWords.f
  rw [awake_f 20 (by decide), Option.bind_some, if_pos rfl]
  simp only [towncrierlaw01_LeWords.j0]
  by_cases hl : (b.length : Int) > 100
  · rw [if_pos (by simpa using hl)]
  · rw [if_neg (by simpa using hl), word_f n 19 (by decide), Option.bind_some, read_f _ (wd_bytes n) 19 (by decide), Option.bind_some, read_f b hb 19 (by decide), Option.bind_some]
    rw [if_pos (by rfl), if_pos (by rfl), rdw_wd n (by omega), if_pos rfl]
    have e : (decide (b.length = 4) == ((b.length : Int) == 4)) = true := by
      by_cases h : b.length = 4
      · simp [h]
      · have : ¬ (b.length : Int) = 4 := by omega
        simp [h, this]
    rw [if_pos e]
    by_cases h : b.length = 4
    · rw [if_pos (by simpa using h), word_f _ 19 (by decide), Option.bind_some, wd_rdw b hb h]
      simp
    · rw [if_neg (by simpa using h)]
      have : rdw b = 0 := by
        unfold rdw
        split
        · exact absurd rfl h
        · rfl
      rw [this]; rfl

end Go.Proofs.Ytnmpojodadlnmaa.Pure
