/- The law LeCut: a beginning of a number and its bytes is none; with a last byte of 0 more it is none. No condition. -/
import Derived.Test.YtnmpojodadlnmaaX10
import Derived.Test.YtnmpojodadlnmaaLeLaws
namespace Go.Proofs.Ytnmpojodadlnmaa.Pure
open Go.RowKit Go.Proofs.Ytnmpojodadlnmaa.X Go.Proofs.YtnmpojodadlnmaaW.PrintWords Go.Proofs.YtnmpojodadlnmaaW.PrintLast Go.Proofs.YtnmpojodadlnmaaW.PrintMore
open Go.Proofs.Ytnmpojodadlnmaa.Leb Go.Proofs.Ytnmpojodadlnmaa.LeFacts Go.Proofs.Ytnmpojodadlnmaa.LeZig Go.Proofs.Ytnmpojodadlnmaa.LeLaws

theorem LeCut : towncrierlaw01_LeCut.Pure := by
  intro n a hn ha
  have hn := wf_u64 hn
  have ha := wf_i64 ha
  obtain ⟨n, rfl⟩ := Int.eq_ofNat_of_zero_le hn.1
  refine ⟨20, ?_⟩
  unfold towncrierlaw01_LeCut.f
  rw [awake_f 20 (by decide), put_f n 20 (by omega) (by omega)]
  simp only [Option.bind_some, if_true]
  have hlen := leb_len10 (n := n) (by omega)
  have hpos := leb_pos n
  by_cases h1 : a < 0
  · rw [if_pos h1]; simp [towncrierlaw01_LeCut.j0]
  · rw [if_neg h1]
    simp only [towncrierlaw01_LeCut.j0]
    by_cases h2 : a ≥ ((leb n).length : Int)
    · rw [if_pos (by simpa using h2)]
    · rw [if_neg (by simpa using h2), if_pos (by omega), if_pos (by omega), get_f _ (fun x hx => leb_bytes n x (List.mem_of_mem_take hx)) 19 (by omega),
        get_cut (by omega) a.toNat (by omega)]
      simp only [Option.bind_some, castG]
      rw [if_pos (by simp; omega)]
      simp only [List.nil_append]
      have w : wrap64 (((leb n).length : Int) - 1) = (((leb n).length - 1 : Nat) : Int) := by unfold wrap64; omega
      rw [w, if_pos (by omega), if_pos (by omega)]
      obtain ⟨f, c, he, hc1, hc0, _, hf⟩ := leb_form n
      have hset : (leb n).set (((leb n).length - 1 : Nat) : Int).toNat (((rd (leb n) (((leb n).length - 1 : Nat) : Int)) + 128) % 256) = f ++ [c + 128] := by
        have e1 : (((leb n).length - 1 : Nat) : Int).toNat = f.length := by rw [he]; simp
        have e2 : rd (leb n) (((leb n).length - 1 : Nat) : Int) = c := by
          unfold rd; rw [e1, he]; simp [List.getD_eq_getElem?_getD]
        rw [e2, e1, he]
        have e3 : (c + 128) % 256 = c + 128 := by omega
        rw [e3]; simp
      rw [hset]
      (try simp only [Option.bind_some])
      have hfl : f.length + 1 = (leb n).length := by rw [he]; simp
      have hby : ∀ x ∈ f ++ [c + 128] ++ [0], 0 ≤ x ∧ x < 256 := by
        intro x hx
        simp only [List.mem_append, List.mem_singleton] at hx
        rcases hx with (hx | hx) | hx
        · exact leb_bytes n x (by rw [he]; simp [hx])
        · omega
        · omega
      rw [if_pos (by simp; omega), get_f _ hby 19 (by omega), get_long he]
      rfl

end Go.Proofs.Ytnmpojodadlnmaa.Pure
