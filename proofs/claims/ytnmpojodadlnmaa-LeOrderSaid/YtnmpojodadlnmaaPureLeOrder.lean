/- The law LeOrder: a greater number has no fewer bytes, and no number of which the bytes begin by those of another one. No condition. -/
import Derived.Test.YtnmpojodadlnmaaX8
import Derived.Test.YtnmpojodadlnmaaLeLaws
namespace Go.Proofs.Ytnmpojodadlnmaa.Pure
open Go.RowKit Go.Proofs.Ytnmpojodadlnmaa.X Go.Proofs.YtnmpojodadlnmaaW.PrintWords Go.Proofs.YtnmpojodadlnmaaW.PrintLast Go.Proofs.YtnmpojodadlnmaaW.PrintMore
open Go.Proofs.Ytnmpojodadlnmaa.Leb Go.Proofs.Ytnmpojodadlnmaa.LeFacts Go.Proofs.Ytnmpojodadlnmaa.LeZig Go.Proofs.Ytnmpojodadlnmaa.LeLaws

theorem LeOrder : towncrierlaw01_LeOrder.Pure := by
  intro n m hn hm
  have hn := wf_u64 hn
  have hm := wf_u64 hm
  obtain ⟨n, rfl⟩ := Int.eq_ofNat_of_zero_le hn.1
  obtain ⟨m, rfl⟩ := Int.eq_ofNat_of_zero_le hm.1
  refine ⟨20, ?_⟩
  unfold towncrierlaw01_LeOrder.f
  rw [awake_f 20 (by decide), put_f n 20 (by omega) (by omega), put_f m 20 (by omega) (by omega)]
  simp only [Option.bind_some, if_true]
  have key : n ≠ m → (leb n).length ≤ (leb m).length →
      ((strOfNums (leb n)).toList != (strOfNums ((leb m).take (((leb n).length : Int)).toNat)).toList) = true := by
    intro hne hl
    rw [bne_iff_ne]
    intro h
    have h := (str_inj (leb_bytes n) (fun x hx => leb_bytes m x (List.mem_of_mem_take hx))).1 h
    have hp : leb m = leb n ++ (leb m).drop (leb n).length := by
      conv => lhs; rw [← List.take_append_drop (leb n).length (leb m)]
      congr 1
      rw [h]; simp
    exact hne (leb_prefix (by omega) (by omega) hp).1
  by_cases h1 : (n : Int) < m
  · have := leb_mono m n (by omega)
    rw [if_pos h1, if_neg (by omega), if_neg (by omega), if_pos (by omega), if_pos (by omega), key (by omega) this]
  · rw [if_neg h1]
    by_cases h2 : (n : Int) = m
    · rw [if_pos h2]
    · rw [if_neg h2]
      by_cases h3 : ((leb n).length : Int) > (leb m).length
      · rw [if_pos h3]
      · rw [if_neg h3, if_pos (by omega), if_pos (by omega), key (by omega) (by omega)]

end Go.Proofs.Ytnmpojodadlnmaa.Pure
