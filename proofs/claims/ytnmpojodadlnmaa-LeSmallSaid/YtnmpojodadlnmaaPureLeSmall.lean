/- The law LeSmall: a number below 128 is one byte, each seven bits more are one more, and the last byte is below 128. No condition. -/
import Derived.Test.YtnmpojodadlnmaaX9
import Derived.Test.YtnmpojodadlnmaaLeLaws
namespace Go.Proofs.Ytnmpojodadlnmaa.Pure
open Go.RowKit Go.Proofs.Ytnmpojodadlnmaa.X Go.Proofs.YtnmpojodadlnmaaW.PrintWords Go.Proofs.YtnmpojodadlnmaaW.PrintLast Go.Proofs.YtnmpojodadlnmaaW.PrintMore
open Go.Proofs.Ytnmpojodadlnmaa.Leb Go.Proofs.Ytnmpojodadlnmaa.LeFacts Go.Proofs.Ytnmpojodadlnmaa.LeZig Go.Proofs.Ytnmpojodadlnmaa.LeLaws

theorem loop (l : List Int) : ∀ (n k : Nat) (j : Nat), n < 18446744073709551616 → (leb n).length ≤ k → 1 ≤ j → l.length = j + (leb n).length - 1 → l.length ≤ 20 → (∀ c, l[l.length - 1]? = some c → c < 128) → l ≠ [] →
    towncrierlaw01_LeSmall.l0 k true l (j : Int) (n : Int) = some true := by
  intro n
  induction n using Nat.strongRecOn with
  | _ n ih =>
    intro k j hn hk h0 h1 h2 h3 h4
    have := leb_pos n
    have hl := List.length_pos_iff.2 h4
    obtain ⟨k, rfl⟩ : ∃ m, k = m + 1 := ⟨k - 1, by omega⟩
    simp only [towncrierlaw01_LeSmall.l0]
    by_cases h : n < 128
    · rw [leb_small h] at h1
      simp only [List.length_cons, List.length_nil] at h1
      have w : wrap64 ((l.length : Int) - 1) = ((l.length - 1 : Nat) : Int) := by unfold wrap64; omega
      rw [if_neg (by omega), if_pos trivial, if_pos (by omega), w, if_pos (by omega), if_pos (by omega)]
      have hr : rd l ((l.length - 1 : Nat) : Int) < 128 := by
        have hg : l[l.length - 1]? = some (l[l.length - 1]'(by omega)) := List.getElem?_eq_getElem (by omega)
        have := h3 _ hg
        unfold rd
        rw [show (((l.length - 1 : Nat) : Int)).toNat = l.length - 1 from by omega, List.getD_eq_getElem?_getD, hg]
        exact this
      rw [decide_eq_true hr]
    · rw [leb_big h] at hk h1
      simp only [List.length_cons] at hk h1
      have e1 : IntKind.u64.wrap (Int.tdiv (n : Int) 128) = ((n / 128 : Nat) : Int) := by
        rw [Int.tdiv_eq_ediv_of_nonneg (by omega), wrap_u64]; omega
      have e2 : wrap64 ((j : Int) + 1) = ((j + 1 : Nat) : Int) := by unfold wrap64; omega
      rw [if_pos (by omega), e1, e2]
      exact ih (n / 128) (by omega) k (j + 1) (by omega) (by omega) (by omega) (by omega) h2 h3 h4

theorem LeSmall : towncrierlaw01_LeSmall.Pure := by
  intro n hn
  have hn := wf_u64 hn
  obtain ⟨n, rfl⟩ := Int.eq_ofNat_of_zero_le hn.1
  have hlen := leb_len10 (n := n) (by omega)
  have hpos := leb_pos n
  refine ⟨20, ?_⟩
  unfold towncrierlaw01_LeSmall.f
  rw [awake_f 20 (by decide), put_f n 20 (by decide) (by omega), Option.bind_some, Option.bind_some]
  refine loop (leb n) n 20 1 (by omega) (by omega) (by omega) (by omega) (by omega) (fun c hc => ?_) (leb_ne n)
  obtain ⟨f, d, he, h1, _⟩ := leb_form n
  rw [he] at hc
  simp at hc
  omega

end Go.Proofs.Ytnmpojodadlnmaa.Pure
