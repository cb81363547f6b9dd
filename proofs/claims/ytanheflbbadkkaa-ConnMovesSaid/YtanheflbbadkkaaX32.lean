/- Functions of the translation as plain Lean functions, and proofs that the calls come to what these say. No condition. Written by a program of this session (wip/xprint.py); not trusted: Lean checks it. -/
import Derived.Test.YtanheflbbadkkaaX0
namespace Go.Proofs.Ytanheflbbadkkaa.X
open Go.RowKit Go.Proofs.YtanheflbbadkkaaW.PrintWords Go.Proofs.YtanheflbbadkkaaW.PrintLast Go.Proofs.YtanheflbbadkkaaW.PrintMore
attribute [local go_sem] max2_int min2_int max_two min_two max_three min_three max_four min_four   -- for this text's walks alone
set_option linter.unusedVariables false
set_option linter.unusedSimpArgs false

/-! ### towncrierref01_Read: function 39 -/
def towncrierref01_Read.f (l0 : List Int) : Option (Int × Bool) := if (l0.length : Int) = 4 then (if 0 < (l0.length : Int) then (if 1 < (l0.length : Int) then (if 2 < (l0.length : Int) then (if 3 < (l0.length : Int) then (some (((((rd l0 0) + (256 * ((rd l0 1) % 4294967296))) + (65536 * ((rd l0 2) % 4294967296))) + (16777216 * ((rd l0 3) % 4294967296))) % 4294967296, true)) else (none)) else (none)) else (none)) else (none)) else (some (0, false))
set_option maxHeartbeats 8000000 in
set_option maxRecDepth 100000 in
theorem towncrierref01_Read.calls (A0 : Option Addr) (c0 : Nat) (l0 : List Int) (r1 : Int) (r2 : Bool) (w : World) (hr0 : Kd.C (Kd.int .u8) w A0 l0.length l0) (hc0 : l0.length ≤ c0) (h : towncrierref01_Read.f l0 = some (r1, r2)) :
    Calls Try.prog 39 #[.slice A0 l0.length c0] w fun e w' => e = .returned (.tuple #[.int .u32 r1, .bool r2]) ∧ Drawn0 w w' := by
  have HR0 := Aside0.mk hr0
  have HC0 := Aside0.mk hc0
  clear hr0 hc0
  have H : (if (l0.length : Int) = 4 then (if 0 < (l0.length : Int) then (if 1 < (l0.length : Int) then (if 2 < (l0.length : Int) then (if 3 < (l0.length : Int) then (some (((((rd l0 0) + (256 * ((rd l0 1) % 4294967296))) + (65536 * ((rd l0 2) % 4294967296))) + (16777216 * ((rd l0 3) % 4294967296))) % 4294967296, true)) else (none)) else (none)) else (none)) else (none)) else (some (0, false))) = some (r1, r2) := h
  clear h
  by_cases c2 : (l0.length : Int) = 4
  · rw [if_pos c2] at H
    have c2b0 : ((l0.length : Int) == 4) = true := beq_iff_eq.mpr c2
    have c2b1 : ((l0.length : Int) != 4) = false := bne_eq_false_iff_eq.mpr c2
    clear c2
    by_cases c3 : 0 < (l0.length : Int)
    · rw [if_pos c3] at H
      have c3b0 : decide (0 < (l0.length : Int)) = true := decide_eq_true c3
      have c3b1 : decide (0 < l0.length) = true := decide_eq_true (by omega)
      clear c3
      by_cases c4 : 1 < (l0.length : Int)
      · rw [if_pos c4] at H
        have c4b0 : decide (1 < (l0.length : Int)) = true := decide_eq_true c4
        have c4b1 : decide (1 < l0.length) = true := decide_eq_true (by omega)
        clear c4
        by_cases c5 : 2 < (l0.length : Int)
        · rw [if_pos c5] at H
          have c5b0 : decide (2 < (l0.length : Int)) = true := decide_eq_true c5
          have c5b1 : decide (2 < l0.length) = true := decide_eq_true (by omega)
          clear c5
          by_cases c6 : 3 < (l0.length : Int)
          · rw [if_pos c6] at H
            have c6b0 : decide (3 < (l0.length : Int)) = true := decide_eq_true c6
            have c6b1 : decide (3 < l0.length) = true := decide_eq_true (by omega)
            clear c6
            simp only [Option.some.injEq, Prod.mk.injEq] at H
            obtain ⟨rfl, rfl⟩ := H
            have p258 : 0 ≤ (0 : Int) := (by omega)
            have q258 : 0 < (l0.length : Int) := of_decide_eq_true (by first | (with_reducible assumption) | assumption)
            obtain ⟨ad258, e258, hx258_0⟩ := Kd.at_int HR0.out 0 p258 q258
            cases e258
            have qi258 : (0 < l0.length) = True := eq_true (by omega)
            (try rw [show ((0 : Int)).toNat = 0 from rfl] at hx258_0)
            (try rw [Addr.add_zero'] at hx258_0)
            replace p258 := eq_true p258
            replace q258 := eq_true q258
            have p259 : 0 ≤ (1 : Int) := (by omega)
            have q259 : 1 < (l0.length : Int) := of_decide_eq_true (by first | (with_reducible assumption) | assumption)
            obtain ⟨ad259, e259, hx259_0⟩ := Kd.at_int HR0.out 1 p259 q259
            obtain rfl : ad258 = ad259 := (by injection e259)
            (try simp only [show (1 : Int).toNat = 1 from rfl, Nat.reduceMul, Nat.reduceEqDiff, Go.Addr.add, ↓reduceIte] at hx259_0)
            have qi259 : (1 < l0.length) = True := eq_true (by omega)
            (try rw [show ((1 : Int)).toNat = 1 from rfl] at hx259_0)
            replace p259 := eq_true p259
            replace q259 := eq_true q259
            have p260 : 0 ≤ (2 : Int) := (by omega)
            have q260 : 2 < (l0.length : Int) := of_decide_eq_true (by first | (with_reducible assumption) | assumption)
            obtain ⟨ad260, e260, hx260_0⟩ := Kd.at_int HR0.out 2 p260 q260
            obtain rfl : ad258 = ad260 := (by injection e260)
            (try simp only [show (2 : Int).toNat = 2 from rfl, Nat.reduceMul, Nat.reduceEqDiff, Go.Addr.add, ↓reduceIte] at hx260_0)
            have qi260 : (2 < l0.length) = True := eq_true (by omega)
            (try rw [show ((2 : Int)).toNat = 2 from rfl] at hx260_0)
            replace p260 := eq_true p260
            replace q260 := eq_true q260
            have p261 : 0 ≤ (3 : Int) := (by omega)
            have q261 : 3 < (l0.length : Int) := of_decide_eq_true (by first | (with_reducible assumption) | assumption)
            obtain ⟨ad261, e261, hx261_0⟩ := Kd.at_int HR0.out 3 p261 q261
            obtain rfl : ad258 = ad261 := (by injection e261)
            (try simp only [show (3 : Int).toNat = 3 from rfl, Nat.reduceMul, Nat.reduceEqDiff, Go.Addr.add, ↓reduceIte] at hx261_0)
            have qi261 : (3 < l0.length) = True := eq_true (by omega)
            (try rw [show ((3 : Int)).toNat = 3 from rfl] at hx261_0)
            replace p261 := eq_true p261
            replace q261 := eq_true q261
            go_enter Try.func39, Try.ntmps39
            go_wp2
            repeat (go_quiet (fail); try go_wp2)
            go_ret2
            exact ⟨by first | rfl | (simp; done) | (simp [*]; done), by repeat (first | exact Drawn0.refl _ | apply Drawn0.step)⟩
          · rw [if_neg c6] at H
            exact absurd H (by simp)
        · rw [if_neg c5] at H
          exact absurd H (by simp)
      · rw [if_neg c4] at H
        exact absurd H (by simp)
    · rw [if_neg c3] at H
      exact absurd H (by simp)
  · rw [if_neg c2] at H
    have c2b0 : ((l0.length : Int) == 4) = false := beq_eq_false_iff_ne.mpr c2
    have c2b1 : ((l0.length : Int) != 4) = true := bne_iff_ne.mpr c2
    simp only [Option.some.injEq, Prod.mk.injEq] at H
    obtain ⟨rfl, rfl⟩ := H
    go_enter Try.func39, Try.ntmps39
    go_wp2
    repeat (go_quiet (fail); try go_wp2)
    go_ret2
    exact ⟨by first | rfl | (simp; done) | (simp [*]; done), by repeat (first | exact Drawn0.refl _ | apply Drawn0.step)⟩

end Go.Proofs.Ytanheflbbadkkaa.X
