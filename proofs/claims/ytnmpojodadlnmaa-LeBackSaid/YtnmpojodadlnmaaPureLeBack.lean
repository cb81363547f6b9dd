/- The law LeBack: what is put is got, with whatever stands behind; what is got is put as the same bytes. No condition. -/
import Derived.Test.YtnmpojodadlnmaaX6
import Derived.Test.YtnmpojodadlnmaaLeLaws
namespace Go.Proofs.Ytnmpojodadlnmaa.Pure
open Go.RowKit Go.Proofs.Ytnmpojodadlnmaa.X Go.Proofs.YtnmpojodadlnmaaW.PrintWords Go.Proofs.YtnmpojodadlnmaaW.PrintLast Go.Proofs.YtnmpojodadlnmaaW.PrintMore
open Go.Proofs.Ytnmpojodadlnmaa.Leb Go.Proofs.Ytnmpojodadlnmaa.LeFacts Go.Proofs.Ytnmpojodadlnmaa.LeZig Go.Proofs.Ytnmpojodadlnmaa.LeLaws

theorem LeBack : towncrierlaw01_LeBack.Pure := by
  intro n b hn _ hb1 hb
  have hn := wf_u64 hn
  have hb := wf_bytes hb
  obtain ⟨n, rfl⟩ := Int.eq_ofNat_of_zero_le hn.1
  refine ⟨20, ?_⟩
  unfold towncrierlaw01_LeBack.f
  rw [awake_f 20 (by decide)]
  simp only [Option.bind_some, if_true]
  simp only [towncrierlaw01_LeBack.j0]
  by_cases hl : (b.length : Int) > 100
  · rw [if_pos (by simpa using hl)]
  · rw [if_neg (by simpa using hl), put_f n 19 (by omega) (by omega)]
    have hlen := leb_len10 (n := n) (by omega)
    have hpos := leb_pos n
    simp only [Option.bind_some]
    rw [if_pos (by simp; omega)]
    simp only [List.nil_append]
    rw [if_pos (by omega), get_f _ (fun x hx => (List.mem_append.1 hx).elim (leb_bytes n x) (hb x)) 19 (by omega),
      get_leb b n 0 0 (by omega) (by omega) (.inl rfl)]
    simp only [Option.bind_some, castG]
    rw [if_pos (by simp), if_pos (by simp), if_pos (by simp), if_neg (by omega)]
    have hj : decide (((0 + (leb n).length : Nat) : Int) > 10) = false := decide_eq_false (by omega)
    rw [hj]
    simp only [towncrierlaw01_LeBack.j1]
    rw [if_neg (by simp)]
    cases hg : (getL b 0 0).2.2 with
    | false =>
      have hf : le_Get.f 18 b = some (0, 0, false) := by rw [get_f b hb 18 (by omega), get_none b 0 0 hg]; rfl
      rw [hf]
      rfl
    | true =>
      obtain ⟨y, u, hyu⟩ : ∃ y u, getL b 0 0 = (y, u, true) := ⟨_, _, by rw [← hg]⟩
      obtain ⟨m, e1, e2, _, e4, e5, _, e6⟩ := get_some b 0 0 y u hb hyu
      have hy : y = m := by omega
      subst hy
      have hf : le_Get.f 18 b = some ((y : Int), (u : Int), true) := by rw [get_f b hb 18 (by omega), hyu]; rfl
      rw [hf]
      simp only [Option.bind_some, if_true]
      rw [if_pos (by omega), if_pos (by omega), put_f y 18 (by omega) (by omega)]
      simp only [Option.bind_some]
      rw [if_pos (by omega), e6]
      simp

end Go.Proofs.Ytnmpojodadlnmaa.Pure
