/- Functions of the translation as plain Lean functions, and proofs that the calls come to what these say. No condition. Written by a program of this session (wip/xprint.py); not trusted: Lean checks it. -/
import Derived.Test.YtanheflbbadkkaaX0
namespace Go.Proofs.Ytanheflbbadkkaa.X
open Go.RowKit Go.Proofs.YtanheflbbadkkaaW.PrintWords Go.Proofs.YtanheflbbadkkaaW.PrintLast Go.Proofs.YtanheflbbadkkaaW.PrintMore
attribute [local go_sem] max2_int min2_int max_two min_two max_three min_three max_four min_four   -- for this text's walks alone
set_option linter.unusedVariables false
set_option linter.unusedSimpArgs false

/-! ### le_Read: function 38 -/
def le_Read.l0 : Nat → List Int → Int → Int → Option (Int × Bool)
  | 0, _, _, _ => none
  | k + 1, x0, x4, x9 => if x9 < 4 then (if 0 ≤ x9 then (if x9 < (x0.length : Int) then (if 0 ≤ (wrap64 (8 * x9)) then (le_Read.l0 k x0 (Go.bits .or .u32 x4 (shl .u32 ((rd x0 x9) % 4294967296) (wrap64 (8 * x9)))) (wrap64 (x9 + 1))) else (none)) else (none)) else (none)) else (some (x4, true))
def le_Read.f (k : Nat) (l0 : List Int) : Option (Int × Bool) := if (l0.length : Int) = 4 then (le_Read.l0 k l0 0 0) else (some (0, false))
theorem le_Read.mono_l : ∀ k, (∀ y0 y1 y2, LeO (le_Read.l0 k y0 y1 y2) (le_Read.l0 (k + 1) y0 y1 y2))
  | 0 => fun _ _ _ r h => by simp [le_Read.l0] at h
  | k + 1 => by
    have ih0 := le_Read.mono_l k
    · intro y0 y1 y2
      unfold le_Read.l0
      repeat' first
      | (with_reducible exact ih0 _ _ _)
      | (with_reducible exact LeO.refl _)
      | (with_reducible exact LeO.none _)
      | (with_reducible refine LeO.ite ?_ ?_)
      | (with_reducible refine LeO.bind ?_ (fun _ => ?_))
      | exact ih0 _ _ _
      | exact LeO.none _
      | refine LeO.ite ?_ ?_
      | refine LeO.bind ?_ (fun _ => ?_)
theorem le_Read.mono : ∀ a0 k, LeO (le_Read.f k a0) (le_Read.f (k + 1) a0) := by
  intro a0 k
  have ih0 := le_Read.mono_l k
  unfold le_Read.f
  repeat' first
      | (with_reducible exact ih0 _ _ _)
      | (with_reducible exact LeO.refl _)
      | (with_reducible exact LeO.none _)
      | (with_reducible refine LeO.ite ?_ ?_)
      | (with_reducible refine LeO.bind ?_ (fun _ => ?_))
      | exact ih0 _ _ _
      | exact LeO.none _
      | refine LeO.ite ?_ ?_
      | refine LeO.bind ?_ (fun _ => ?_)
set_option maxHeartbeats 8000000 in
set_option maxRecDepth 100000 in
theorem le_Read.calls (k : Nat) (A0 : Option Addr) (c0 : Nat) (l0 : List Int) (r1 : Int) (r2 : Bool) (w : World) (hr0 : Kd.C (Kd.int .u8) w A0 l0.length l0) (hc0 : l0.length ≤ c0) (h : le_Read.f k l0 = some (r1, r2)) :
    Calls Try.prog 38 #[.slice A0 l0.length c0] w fun e w' => e = .returned (.tuple #[.int .u32 r1, .bool r2]) ∧ Drawn0 w w' := by
  have HR0 := Aside0.mk hr0
  have HC0 := Aside0.mk hc0
  clear hr0 hc0
  have H : (if (l0.length : Int) = 4 then (le_Read.l0 k l0 0 0) else (some (0, false))) = some (r1, r2) := h
  clear h
  by_cases c2 : (l0.length : Int) = 4
  · rw [if_pos c2] at H
    have c2b0 : ((l0.length : Int) == 4) = true := beq_iff_eq.mpr c2
    have c2b1 : ((l0.length : Int) != 4) = false := bne_eq_false_iff_eq.mpr c2
    clear c2
    have H' := Aside0.mk H
    clear H
    go_enter Try.func38, Try.ntmps38
    go_wp2
    go_loopg [4, 9] k (fun kq v4 v9 w' => ∃ (x4_1 : Int) (x9_1 : Int), v4 = .int .u32 x4_1 ∧ v9 = .int .i64 x9_1 ∧ Aside0 (le_Read.l0 kq l0 x4_1 x9_1 = some (r1, r2)) ∧ Aside0 (kq ≤ k) ∧ Drawn0 w w')
    case atStart => exact ⟨(0), (0), (by first | rfl | (simp; done) | (simp [*]; done) | exact congrArg Value.bool ((fun l : List UInt8 => by cases l <;> rfl : ∀ l : List UInt8, (!l.isEmpty) = (l != [])) _)), (by first | rfl | (simp; done) | (simp [*]; done) | exact congrArg Value.bool ((fun l : List UInt8 => by cases l <;> rfl : ∀ l : List UInt8, (!l.isEmpty) = (l != [])) _)), H', ⟨Nat.le_refl _⟩, by repeat (first | exact Drawn0.refl _ | apply Drawn0.step)⟩
    case round =>
      clear H'
      try clear c2
      try clear c2b0
      try clear c2b1
      try clear p2
      obtain ⟨x4_1, x9_1, rfl, rfl, HA, HK1, ⟨m1, rfl⟩⟩ := hrel
      cases gk with
      | zero => exact absurd HA.out (by simp [le_Read.l0])
      | succ k1 =>
        have H := HA.out
        clear HA
        simp only [le_Read.l0] at H
        by_cases c3 : x9_1 < 4
        · rw [if_pos c3] at H
          have c3b0 : decide (x9_1 < 4) = true := decide_eq_true c3
          clear c3
          by_cases c4 : 0 ≤ x9_1
          · rw [if_pos c4] at H
            have c4b0 : decide (0 ≤ x9_1) = true := decide_eq_true c4
            clear c4
            by_cases c5 : x9_1 < (l0.length : Int)
            · rw [if_pos c5] at H
              have c5b0 : decide (x9_1 < (l0.length : Int)) = true := decide_eq_true c5
              clear c5
              obtain ⟨ji6, hji6⟩ : ∃ j_ : Int, (wrap64 (8 * x9_1)) = j_ := ⟨_, rfl⟩
              replace H : (if 0 ≤ (ji6) then (le_Read.l0 k1 l0 (Go.bits .or .u32 x4_1 (shl .u32 ((rd l0 x9_1) % 4294967296) (ji6))) (wrap64 (x9_1 + 1))) else (none)) = some (r1, r2) := by first | (rw [hji6] at H; exact H) | (simp only [hji6] at H ⊢; exact H)
              have hji6w : (IntKind.i64.wrap (8 * x9_1)) = ji6 := (i64_w _).trans hji6
              by_cases c7 : 0 ≤ (ji6)
              · rw [if_pos c7] at H
                have c7b0 := eq_true c7
                have c7b1 : decide (0 ≤ (ji6)) = true := decide_eq_true c7
                clear c7
                obtain ⟨ji8, hji8⟩ : ∃ j_ : Int, (shl .u32 ((rd l0 x9_1) % 4294967296) (ji6)) = j_ := ⟨_, rfl⟩
                replace H : (le_Read.l0 k1 l0 (Go.bits .or .u32 x4_1 (ji8)) (wrap64 (x9_1 + 1))) = some (r1, r2) := by first | (rw [hji8] at H; exact H) | (simp only [hji8] at H ⊢; exact H)
                have hji8_ : (IntKind.u32.wrap (((rd l0 x9_1) % 4294967296) * 2 ^ min (ji6).toNat 32)) = ji8 := hji8
                have hji8z : (ji6) ≤ 32 → (IntKind.u32.wrap (((rd l0 x9_1) % 4294967296) * 2 ^ (ji6).toNat)) = ji8 := shl_small hji8
                have H' := Aside0.mk H
                clear H
                have p224 : 0 ≤ (x9_1 : Int) := of_decide_eq_true (by first | (with_reducible assumption) | assumption)
                have q224 : x9_1 < (l0.length : Int) := of_decide_eq_true (by first | (with_reducible assumption) | assumption)
                obtain ⟨ad224, e224, hx224_0⟩ := Kd.at_int HR0.out x9_1 p224 q224
                cases e224
                replace p224 := eq_true p224
                replace q224 := eq_true q224
                go_wp2
                go_roundg k1
                case measure => have := HK1.out; omega
                case rel => exact ⟨(Go.bits .or .u32 x4_1 (ji8)), (wrap64 (x9_1 + 1)), (by first | rfl | (simp; done) | (simp only [← hji8] <;> (first | rfl | simp)) | (simp [*]; done)), (by first | rfl | (simp; done) | (simp [*]; done) | exact congrArg Value.bool ((fun l : List UInt8 => by cases l <;> rfl : ∀ l : List UInt8, (!l.isEmpty) = (l != [])) _)), H', ⟨by have := HK1.out; omega⟩, by repeat (first | exact Drawn0.refl _ | apply Drawn0.step)⟩
              · rw [if_neg c7] at H
                exact absurd H (by simp)
            · rw [if_neg c5] at H
              exact absurd H (by simp)
          · rw [if_neg c4] at H
            exact absurd H (by simp)
        · rw [if_neg c3] at H
          have c3b0 : decide (x9_1 < 4) = false := decide_eq_false c3
          clear c3
          simp only [Option.some.injEq, Prod.mk.injEq] at H
          obtain ⟨rfl, rfl⟩ := H
          go_wp2
          go_ret2
          exact ⟨by first | rfl | (simp; done) | (simp [*]; done), by repeat (first | exact Drawn0.refl _ | apply Drawn0.step)⟩
  · rw [if_neg c2] at H
    have c2b0 : ((l0.length : Int) == 4) = false := beq_eq_false_iff_ne.mpr c2
    have c2b1 : ((l0.length : Int) != 4) = true := bne_iff_ne.mpr c2
    simp only [Option.some.injEq, Prod.mk.injEq] at H
    obtain ⟨rfl, rfl⟩ := H
    go_enter Try.func38, Try.ntmps38
    go_wp2
    go_ret2
    exact ⟨by first | rfl | (simp; done) | (simp [*]; done), by repeat (first | exact Drawn0.refl _ | apply Drawn0.step)⟩

end Go.Proofs.Ytanheflbbadkkaa.X
