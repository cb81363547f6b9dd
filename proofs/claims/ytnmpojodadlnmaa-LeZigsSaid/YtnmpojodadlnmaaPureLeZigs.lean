/- The law LeZigs, as plain arithmetic: Zag of Zig is the number, Zig of Zag too, and what is nearer to 0 has a lesser Zig. No condition. -/
import Derived.Test.YtnmpojodadlnmaaX7
import Derived.Test.YtnmpojodadlnmaaLeLaws
namespace Go.Proofs.Ytnmpojodadlnmaa.Pure
open Go.RowKit Go.Proofs.Ytnmpojodadlnmaa.X Go.Proofs.YtnmpojodadlnmaaW.PrintWords Go.Proofs.YtnmpojodadlnmaaW.PrintLast Go.Proofs.YtnmpojodadlnmaaW.PrintMore
open Go.Proofs.Ytnmpojodadlnmaa.Leb Go.Proofs.Ytnmpojodadlnmaa.LeFacts Go.Proofs.Ytnmpojodadlnmaa.LeZig Go.Proofs.Ytnmpojodadlnmaa.LeLaws

theorem e1 (a k : Int) (h : 0 ≤ a) (h' : 0 ≤ k) : decide (a < k) = decide (zig a < zig k) := by
  rw [decide_eq_decide]; unfold zig; rw [if_pos h, if_pos h']; omega
theorem e2 (a k : Int) (h : 0 ≤ a) (h' : 0 ≤ k) : decide (a < k) = decide (zig (-a) < zig (-k)) := by
  rw [decide_eq_decide]; unfold zig; split <;> split <;> omega
theorem w1 (a : Int) (h : 0 ≤ a) (h' : a < 9223372036854775808) : wrap64 (-a) = -a := by unfold wrap64; omega
theorem neg_lo (a : Int) (h : 0 ≤ a) (h' : a < 9223372036854775808) : -9223372036854775808 ≤ -a ∧ -a < 9223372036854775808 := by omega

theorem LeZigs : towncrierlaw01_LeZigs.Pure := by
  intro a m k ha hm hk
  have ha := wf_i64 ha
  have hm := wf_u64 hm
  have hk := wf_i64 hk
  refine ⟨20, ?_⟩
  unfold towncrierlaw01_LeZigs.f
  have za := zig_range a ha.1 ha.2
  have zm := zag_range m hm.1 hm.2
  rw [awake_f 20 (by decide), Option.bind_some, if_pos rfl, zig_f a ha.1 ha.2, Option.bind_some, zag_f _ za.1 za.2, zag_zig, Option.bind_some, if_pos rfl, zag_f m hm.1 hm.2, Option.bind_some,
    zig_f _ zm.1 zm.2, zig_zag m hm.1, Option.bind_some, bne_self_eq_false]
  simp only [towncrierlaw01_LeZigs.j0]
  rw [if_neg (by simp)]
  by_cases h1 : a < 0
  · rw [if_pos h1]; simp [towncrierlaw01_LeZigs.j1]
  · rw [if_neg h1]
    simp only [towncrierlaw01_LeZigs.j1]
    by_cases h2 : k < 0
    · rw [if_pos (by simp [h2])]
    · rw [if_neg (by simp [h2]), zig_f a ha.1 ha.2]
      simp only [Option.bind_some]
      rw [zig_f k hk.1 hk.2]
      simp only [Option.bind_some]
      have ha0 : 0 ≤ a := Int.not_lt.1 h1
      have hk0 : 0 ≤ k := Int.not_lt.1 h2
      have na := neg_lo a ha0 ha.2
      have nk := neg_lo k hk0 hk.2
      rw [w1 a ha0 ha.2, w1 k hk0 hk.2, zig_f (-a) na.1 na.2, zig_f (-k) nk.1 nk.2, ← e1 a k ha0 hk0]
      simp only [Option.bind_some]
      rw [← e2 a k ha0 hk0]
      simp

end Go.Proofs.Ytnmpojodadlnmaa.Pure
