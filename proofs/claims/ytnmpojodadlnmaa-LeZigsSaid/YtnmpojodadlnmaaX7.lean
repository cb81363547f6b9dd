/- Functions of the translation as plain Lean functions, and proofs that the calls come to what these say. No condition. Written by a program of this session (wip/xprint.py); not trusted: Lean checks it. -/
import Derived.Test.YtnmpojodadlnmaaX0
import Derived.Test.YtnmpojodadlnmaaX3
import Derived.Test.YtnmpojodadlnmaaX4
import Derived.Test.YtnmpojodadlnmaaX5
namespace Go.Proofs.Ytnmpojodadlnmaa.X
open Go.RowKit Go.Proofs.YtnmpojodadlnmaaW.PrintWords Go.Proofs.YtnmpojodadlnmaaW.PrintLast Go.Proofs.YtnmpojodadlnmaaW.PrintMore
attribute [local go_sem] max2_int min2_int max_two min_two max_three min_three max_four min_four   -- for this text's walks alone
set_option linter.unusedVariables false
set_option linter.unusedSimpArgs false

/-! ### towncrierlaw01_LeZigs: function 4 -/
mutual
def towncrierlaw01_LeZigs.j0 : Nat → Int → Int → Bool → Option (Bool)
  | 0, _, _, _ => none
  | k + 1, x0, x2, x24 => if x24 = true then (some false) else (if x0 < 0 then (towncrierlaw01_LeZigs.j1 k x0 x2 true) else (towncrierlaw01_LeZigs.j1 k x0 x2 (decide (x2 < 0))))
def towncrierlaw01_LeZigs.j1 : Nat → Int → Int → Bool → Option (Bool)
  | 0, _, _, _ => none
  | k + 1, x0, x2, x30 => if x30 = true then (some true) else ((le_Zig.f x0).bind fun t143 => ((le_Zig.f x2).bind fun t144 => (if ((decide (x0 < x2)) == (decide (t143 < t144))) = true then ((le_Zig.f (wrap64 (-x0))).bind fun t145 => ((le_Zig.f (wrap64 (-x2))).bind fun t146 => (some ((decide (x0 < x2)) == (decide (t145 < t146)))))) else (some false))))
end
def towncrierlaw01_LeZigs.f (k : Nat) (a0 : Int) (a1 : Int) (a2 : Int) : Option (Bool) := (towncrierlaw01_awake.f k).bind fun t138 => (if t138 = true then ((le_Zig.f a0).bind fun t139 => ((le_Zag.f t139).bind fun t140 => (if t140 = a0 then ((le_Zag.f a1).bind fun t141 => ((le_Zig.f t141).bind fun t142 => (towncrierlaw01_LeZigs.j0 k a0 a2 (t142 != a1)))) else (towncrierlaw01_LeZigs.j0 k a0 a2 true)))) else (towncrierlaw01_LeZigs.j0 k a0 a2 true))
theorem towncrierlaw01_LeZigs.mono_l : ∀ k, (∀ y0 y1 y2, LeO (towncrierlaw01_LeZigs.j0 k y0 y1 y2) (towncrierlaw01_LeZigs.j0 (k + 1) y0 y1 y2)) ∧ (∀ y0 y1 y2, LeO (towncrierlaw01_LeZigs.j1 k y0 y1 y2) (towncrierlaw01_LeZigs.j1 (k + 1) y0 y1 y2))
  | 0 => ⟨fun _ _ _ r h => by simp [towncrierlaw01_LeZigs.j0] at h, fun _ _ _ r h => by simp [towncrierlaw01_LeZigs.j1] at h⟩
  | k + 1 => by
    obtain ⟨ih0, ih1⟩ := towncrierlaw01_LeZigs.mono_l k
    refine ⟨?_, ?_⟩
    · intro y0 y1 y2
      unfold towncrierlaw01_LeZigs.j0
      repeat' first
      | (with_reducible exact ih0 _ _ _)
      | (with_reducible exact ih1 _ _ _)
      | (with_reducible exact towncrierlaw01_awake.mono _)
      | (with_reducible exact LeO.refl _)
      | (with_reducible exact LeO.none _)
      | (with_reducible refine LeO.ite ?_ ?_)
      | (with_reducible refine LeO.bind ?_ (fun _ => ?_))
      | exact ih0 _ _ _
      | exact ih1 _ _ _
      | exact towncrierlaw01_awake.mono _
      | exact LeO.none _
      | refine LeO.ite ?_ ?_
      | refine LeO.bind ?_ (fun _ => ?_)
    · intro y0 y1 y2
      unfold towncrierlaw01_LeZigs.j1
      repeat' first
      | (with_reducible exact ih0 _ _ _)
      | (with_reducible exact ih1 _ _ _)
      | (with_reducible exact towncrierlaw01_awake.mono _)
      | (with_reducible exact LeO.refl _)
      | (with_reducible exact LeO.none _)
      | (with_reducible refine LeO.ite ?_ ?_)
      | (with_reducible refine LeO.bind ?_ (fun _ => ?_))
      | exact ih0 _ _ _
      | exact ih1 _ _ _
      | exact towncrierlaw01_awake.mono _
      | exact LeO.none _
      | refine LeO.ite ?_ ?_
      | refine LeO.bind ?_ (fun _ => ?_)
theorem towncrierlaw01_LeZigs.mono : ∀ a0 a1 a2 k, LeO (towncrierlaw01_LeZigs.f k a0 a1 a2) (towncrierlaw01_LeZigs.f (k + 1) a0 a1 a2) := by
  intro a0 a1 a2 k
  obtain ⟨ih0, ih1⟩ := towncrierlaw01_LeZigs.mono_l k
  unfold towncrierlaw01_LeZigs.f
  repeat' first
      | (with_reducible exact ih0 _ _ _)
      | (with_reducible exact ih1 _ _ _)
      | (with_reducible exact towncrierlaw01_awake.mono _)
      | (with_reducible exact LeO.refl _)
      | (with_reducible exact LeO.none _)
      | (with_reducible refine LeO.ite ?_ ?_)
      | (with_reducible refine LeO.bind ?_ (fun _ => ?_))
      | exact ih0 _ _ _
      | exact ih1 _ _ _
      | exact towncrierlaw01_awake.mono _
      | exact LeO.none _
      | refine LeO.ite ?_ ?_
      | refine LeO.bind ?_ (fun _ => ?_)
set_option maxHeartbeats 8000000 in
set_option maxRecDepth 100000 in
theorem towncrierlaw01_LeZigs.calls (k : Nat) (a0 : Int) (a1 : Int) (a2 : Int) (r : Bool) (w : World) (h : towncrierlaw01_LeZigs.f k a0 a1 a2 = some r) :
    Calls Try.prog 4 #[.int .i64 a0, .int .u64 a1, .int .i64 a2] w fun e w' => e = .returned (.bool r) ∧ Below w.heap.size w w' := by
  have HB := Aside0.mk (Below.refl w.heap.size w)
  have H : ((towncrierlaw01_awake.f k).bind fun t138 => (if t138 = true then ((le_Zig.f a0).bind fun t139 => ((le_Zag.f t139).bind fun t140 => (if t140 = a0 then ((le_Zag.f a1).bind fun t141 => ((le_Zig.f t141).bind fun t142 => (towncrierlaw01_LeZigs.j0 k a0 a2 (t142 != a1)))) else (towncrierlaw01_LeZigs.j0 k a0 a2 true)))) else (towncrierlaw01_LeZigs.j0 k a0 a2 true))) = some r := h
  clear h
  replace H := Option.bind_eq_some_iff.mp H
  obtain ⟨t138, A40, H⟩ := H
  replace H : (if t138 = true then ((le_Zig.f a0).bind fun t139 => ((le_Zag.f t139).bind fun t140 => (if t140 = a0 then ((le_Zag.f a1).bind fun t141 => ((le_Zig.f t141).bind fun t142 => (towncrierlaw01_LeZigs.j0 k a0 a2 (t142 != a1)))) else (towncrierlaw01_LeZigs.j0 k a0 a2 true)))) else (towncrierlaw01_LeZigs.j0 k a0 a2 true)) = some r := H
  have A4 := Aside0.mk A40
  clear A40
  have HC5 := Aside0.mk H
  clear H
  go_enter Try.func4, Try.ntmps4
  go_upto_region 2 with (first | ((with_reducible refine gate_callee (f := 11) rfl ?_); refine goesL_ (some 8) rfl rfl Try.func11 (by kernel_rfl) rfl #[] rfl (by (try simp only [List.map_toArray, List.map_cons, List.map_nil]); first | done | rfl | (simp only [List.length_drop, List.length_take]; rfl)) ?_; (with_reducible refine (towncrierlaw01_awake.calls k  t138 _ A4.out).mono ?_); rintro e w6 ⟨rfl, hb⟩; refine ⟨_, rfl, ?_⟩; have n0_ := Aside0.mk (below_step (by repeat (first | (with_reducible first | exact HB.out | apply below_alloc | apply pw_below_drewN | apply below_drew1) | exact HB.out)) hb); clear HB; have HB := n0_; clear n0_; (try clear hb); (try clear hb2); (try clear hk); (try clear hi)))
  (try simp only [Act.put, List.setIfInBounds_toArray, List.set_cons_zero, List.set_cons_succ])
  go_cut [24] (fun v24 wc => ∃ (kq : Nat) (x24_4 : Bool), v24 = .bool x24_4 ∧ Aside0 (towncrierlaw01_LeZigs.j0 kq a0 a2 x24_4 = some r) ∧ Aside0 (kq ≤ k) ∧ Aside0 (Below w.heap.size w wc))
  case first =>
    have H := HC5.out
    clear HC5
    by_cases c7 : t138 = true
    · subst c7
      have H1 : ((le_Zig.f a0).bind fun t139 => ((le_Zag.f t139).bind fun t140 => (if t140 = a0 then ((le_Zag.f a1).bind fun t141 => ((le_Zig.f t141).bind fun t142 => (towncrierlaw01_LeZigs.j0 k a0 a2 (t142 != a1)))) else (towncrierlaw01_LeZigs.j0 k a0 a2 true)))) = some r := by rw [if_pos rfl] at H; exact H
      clear H
      have H := H1
      clear H1
      replace H := Option.bind_eq_some_iff.mp H
      obtain ⟨t139, A80, H⟩ := H
      replace H : ((le_Zag.f t139).bind fun t140 => (if t140 = a0 then ((le_Zag.f a1).bind fun t141 => ((le_Zig.f t141).bind fun t142 => (towncrierlaw01_LeZigs.j0 k a0 a2 (t142 != a1)))) else (towncrierlaw01_LeZigs.j0 k a0 a2 true))) = some r := H
      have A8 := Aside0.mk A80
      clear A80
      replace H := Option.bind_eq_some_iff.mp H
      obtain ⟨t140, A90, H⟩ := H
      replace H : (if t140 = a0 then ((le_Zag.f a1).bind fun t141 => ((le_Zig.f t141).bind fun t142 => (towncrierlaw01_LeZigs.j0 k a0 a2 (t142 != a1)))) else (towncrierlaw01_LeZigs.j0 k a0 a2 true)) = some r := H
      have A9 := Aside0.mk A90
      clear A90
      by_cases c10 : t140 = a0
      · rw [if_pos c10] at H
        have c10b0 : (t140 == a0) = true := beq_iff_eq.mpr c10
        have c10b1 : (t140 != a0) = false := bne_eq_false_iff_eq.mpr c10
        clear c10
        (first | rw [c10b0] | (simp only [i64_w, i32_w]; rw [c10b0]) | skip)
        replace H := Option.bind_eq_some_iff.mp H
        obtain ⟨t141, A110, H⟩ := H
        replace H : ((le_Zig.f t141).bind fun t142 => (towncrierlaw01_LeZigs.j0 k a0 a2 (t142 != a1))) = some r := H
        have A11 := Aside0.mk A110
        clear A110
        replace H := Option.bind_eq_some_iff.mp H
        obtain ⟨t142, A120, H⟩ := H
        replace H : (towncrierlaw01_LeZigs.j0 k a0 a2 (t142 != a1)) = some r := H
        have A12 := Aside0.mk A120
        clear A120
        have H' := Aside0.mk H
        clear H
        go_wp2_with (first | (go_at_call 15; (with_reducible refine (le_Zig.calls a0 t139 _ A8.out).mono ?_); rintro e w' ⟨rfl, ⟨nd, rfl⟩⟩) | (go_at_call 14; (with_reducible refine (le_Zag.calls t139 t140 _ A9.out).mono ?_); rintro e w' ⟨rfl, ⟨nd, rfl⟩⟩) | (go_at_call 14; (with_reducible refine (le_Zag.calls a1 t141 _ A11.out).mono ?_); rintro e w' ⟨rfl, ⟨nd, rfl⟩⟩) | (go_at_call 15; (with_reducible refine (le_Zig.calls t141 t142 _ A12.out).mono ?_); rintro e w' ⟨rfl, ⟨nd, rfl⟩⟩))
        go_meet
        case rel => exact ⟨_, ((t142 != a1)), (by first | rfl | (simp; done) | (simp [*]; done)), H', ⟨by first | omega | exact Nat.le_refl _⟩, ⟨by repeat (first | (with_reducible first | exact HB.out | apply below_alloc | apply pw_below_drewN | apply below_drew1) | exact HB.out)⟩⟩
      · rw [if_neg c10] at H
        have c10b0 : (t140 == a0) = false := beq_eq_false_iff_ne.mpr c10
        have c10b1 : (t140 != a0) = true := bne_iff_ne.mpr c10
        (first | rw [c10b0] | (simp only [i64_w, i32_w]; rw [c10b0]) | skip)
        have H' := Aside0.mk H
        clear H
        go_wp2_with (first | (go_at_call 15; (with_reducible refine (le_Zig.calls a0 t139 _ A8.out).mono ?_); rintro e w' ⟨rfl, ⟨nd, rfl⟩⟩) | (go_at_call 14; (with_reducible refine (le_Zag.calls t139 t140 _ A9.out).mono ?_); rintro e w' ⟨rfl, ⟨nd, rfl⟩⟩))
        go_meet
        case rel => exact ⟨_, (true), (by first | rfl | (simp; done) | (simp [*]; done)), H', ⟨by first | omega | exact Nat.le_refl _⟩, ⟨by repeat (first | (with_reducible first | exact HB.out | apply below_alloc | apply pw_below_drewN | apply below_drew1) | exact HB.out)⟩⟩
    · replace c7 := Bool.eq_false_iff.mpr c7
      subst c7
      have H1 : (towncrierlaw01_LeZigs.j0 k a0 a2 true) = some r := by rw [if_neg (show ¬ (false = true) by decide)] at H; exact H
      clear H
      have H := H1
      clear H1
      have H' := Aside0.mk H
      clear H
      go_wp2
      go_meet
      case rel => exact ⟨_, (true), (by first | rfl | (simp; done) | (simp [*]; done)), H', ⟨by first | omega | exact Nat.le_refl _⟩, ⟨by repeat (first | (with_reducible first | exact HB.out | apply below_alloc | apply pw_below_drewN | apply below_drew1) | exact HB.out)⟩⟩
  case rest =>
    clear HC5
    try clear c1
    try clear p2
    try clear c4
    try clear c7
    try clear c10
    try clear c10b0
    try clear c10b1
    try clear c11
    obtain ⟨kq, x24_4, rfl, HA, HJ4, HB⟩ := hcut
    cases kq with
    | zero => exact absurd HA.out (by simp [towncrierlaw01_LeZigs.j0])
    | succ kj4 =>
      have H := HA.out
      clear HA
      simp only [towncrierlaw01_LeZigs.j0] at H
      by_cases c13 : x24_4 = true
      · subst c13
        have H1 : (some false) = some r := by rw [if_pos rfl] at H; exact H
        clear H
        have H := H1
        clear H1
        obtain rfl := Option.some.inj H
        go_wp2
        go_ret
        exact ⟨by first | rfl | (simp [errW_none, errW_some] <;> rfl) | (simp [*, errW_none, errW_some] <;> rfl), by repeat (first | (with_reducible first | exact HB.out | apply below_alloc | apply pw_below_drewN | apply below_drew1) | exact HB.out)⟩
      · replace c13 := Bool.eq_false_iff.mpr c13
        subst c13
        have H1 : (if a0 < 0 then (towncrierlaw01_LeZigs.j1 kj4 a0 a2 true) else (towncrierlaw01_LeZigs.j1 kj4 a0 a2 (decide (a2 < 0)))) = some r := by rw [if_neg (show ¬ (false = true) by decide)] at H; exact H
        clear H
        have H := H1
        clear H1
        have HC14 := Aside0.mk H
        clear H
        go_upto_region 4 with (fail)
        go_cut [30] (fun v30 wc => ∃ (kq : Nat) (x30_13 : Bool), v30 = .bool x30_13 ∧ Aside0 (towncrierlaw01_LeZigs.j1 kq a0 a2 x30_13 = some r) ∧ Aside0 (kq ≤ kj4) ∧ Aside0 (Below w.heap.size w wc))
        case first =>
          have H := HC14.out
          clear HC14
          by_cases c15 : a0 < 0
          · rw [if_pos c15] at H
            have c15b0 : decide (a0 < 0) = true := decide_eq_true c15
            clear c15
            (first | rw [c15b0] | (simp only [i64_w, i32_w]; rw [c15b0]) | skip)
            have H' := Aside0.mk H
            clear H
            go_wp2
            go_meet
            case rel => exact ⟨_, (true), (by first | rfl | (simp; done) | (simp [*]; done)), H', ⟨by have := HJ4.out; first | omega | exact Nat.le_refl _⟩, ⟨by repeat (first | (with_reducible first | exact HB.out | apply below_alloc | apply pw_below_drewN | apply below_drew1) | exact HB.out)⟩⟩
          · rw [if_neg c15] at H
            have c15b0 : decide (a0 < 0) = false := decide_eq_false c15
            clear c15
            (first | rw [c15b0] | (simp only [i64_w, i32_w]; rw [c15b0]) | skip)
            have H' := Aside0.mk H
            clear H
            go_wp2
            go_meet
            case rel => exact ⟨_, (decide (a2 < 0)), (by first | rfl | (simp; done) | (simp [*]; done)), H', ⟨by have := HJ4.out; first | omega | exact Nat.le_refl _⟩, ⟨by repeat (first | (with_reducible first | exact HB.out | apply below_alloc | apply pw_below_drewN | apply below_drew1) | exact HB.out)⟩⟩
        case rest =>
          clear HC14
          try clear c1
          try clear p2
          try clear c4
          try clear c7
          try clear c10
          try clear c10b0
          try clear c10b1
          try clear c11
          try clear c13
          try clear c15
          try clear c15b0
          try clear p2
          obtain ⟨kq, x30_13, rfl, HA, HJ13, HB⟩ := hcut
          cases kq with
          | zero => exact absurd HA.out (by simp [towncrierlaw01_LeZigs.j1])
          | succ kj13 =>
            have H := HA.out
            clear HA
            simp only [towncrierlaw01_LeZigs.j1] at H
            by_cases c16 : x30_13 = true
            · subst c16
              have H1 : (some true) = some r := by rw [if_pos rfl] at H; exact H
              clear H
              have H := H1
              clear H1
              obtain rfl := Option.some.inj H
              go_wp2
              go_ret
              exact ⟨by first | rfl | (simp [errW_none, errW_some] <;> rfl) | (simp [*, errW_none, errW_some] <;> rfl), by repeat (first | (with_reducible first | exact HB.out | apply below_alloc | apply pw_below_drewN | apply below_drew1) | exact HB.out)⟩
            · replace c16 := Bool.eq_false_iff.mpr c16
              subst c16
              have H1 : ((le_Zig.f a0).bind fun t143 => ((le_Zig.f a2).bind fun t144 => (if ((decide (a0 < a2)) == (decide (t143 < t144))) = true then ((le_Zig.f (wrap64 (-a0))).bind fun t145 => ((le_Zig.f (wrap64 (-a2))).bind fun t146 => (some ((decide (a0 < a2)) == (decide (t145 < t146)))))) else (some false)))) = some r := by rw [if_neg (show ¬ (false = true) by decide)] at H; exact H
              clear H
              have H := H1
              clear H1
              replace H := Option.bind_eq_some_iff.mp H
              obtain ⟨t143, A170, H⟩ := H
              replace H : ((le_Zig.f a2).bind fun t144 => (if ((decide (a0 < a2)) == (decide (t143 < t144))) = true then ((le_Zig.f (wrap64 (-a0))).bind fun t145 => ((le_Zig.f (wrap64 (-a2))).bind fun t146 => (some ((decide (a0 < a2)) == (decide (t145 < t146)))))) else (some false))) = some r := H
              have A17 := Aside0.mk A170
              clear A170
              replace H := Option.bind_eq_some_iff.mp H
              obtain ⟨t144, A180, H⟩ := H
              replace H : (if ((decide (a0 < a2)) == (decide (t143 < t144))) = true then ((le_Zig.f (wrap64 (-a0))).bind fun t145 => ((le_Zig.f (wrap64 (-a2))).bind fun t146 => (some ((decide (a0 < a2)) == (decide (t145 < t146)))))) else (some false)) = some r := H
              have A18 := Aside0.mk A180
              clear A180
              by_cases c19 : ((decide (a0 < a2)) == (decide (t143 < t144))) = true
              · rw [if_pos c19] at H
                have c19b0 : ((decide (a0 < a2)) == (decide (t143 < t144))) = true := c19
                (try (have c19b1 : decide ((decide (a0 < a2)) = (decide (t143 < t144))) = true := by simpa using c19))
                (try (have c19b2 : ((decide (a0 < a2)) == (decide (t143 < t144))) = true := by simpa using c19))
                clear c19
                replace H := Option.bind_eq_some_iff.mp H
                obtain ⟨t145, A200, H⟩ := H
                replace H : ((le_Zig.f (wrap64 (-a2))).bind fun t146 => (some ((decide (a0 < a2)) == (decide (t145 < t146))))) = some r := H
                have A20 := Aside0.mk A200
                clear A200
                replace H := Option.bind_eq_some_iff.mp H
                obtain ⟨t146, A210, H⟩ := H
                replace H : (some ((decide (a0 < a2)) == (decide (t145 < t146)))) = some r := H
                have A21 := Aside0.mk A210
                clear A210
                obtain rfl := Option.some.inj H
                go_wp2_with (first | ((with_reducible refine gate_callee (f := 15) rfl ?_); refine goesL_ (some 35) rfl rfl Try.func15 (by kernel_rfl) rfl #[.int .i64 a0] rfl (by (try simp only [List.map_toArray, List.map_cons, List.map_nil]); first | done | rfl | (simp only [List.length_drop, List.length_take]; rfl)) ?_; (with_reducible refine (le_Zig.calls a0 t143 _ A17.out).mono ?_); rintro e w' ⟨rfl, ⟨nd, rfl⟩⟩; refine ⟨_, rfl, ?_⟩) | ((with_reducible refine gate_callee (f := 15) rfl ?_); refine goesL_ (some 37) rfl rfl Try.func15 (by kernel_rfl) rfl #[.int .i64 a2] rfl (by (try simp only [List.map_toArray, List.map_cons, List.map_nil]); first | done | rfl | (simp only [List.length_drop, List.length_take]; rfl)) ?_; (with_reducible refine (le_Zig.calls a2 t144 _ A18.out).mono ?_); rintro e w' ⟨rfl, ⟨nd, rfl⟩⟩; refine ⟨_, rfl, ?_⟩) | (go_at_call 15; (with_reducible refine (le_Zig.calls (wrap64 (-a0)) t145 _ A20.out).mono ?_); rintro e w' ⟨rfl, ⟨nd, rfl⟩⟩) | (go_at_call 15; (with_reducible refine (le_Zig.calls (wrap64 (-a2)) t146 _ A21.out).mono ?_); rintro e w' ⟨rfl, ⟨nd, rfl⟩⟩))
                go_ret
                exact ⟨by first | rfl | (simp [errW_none, errW_some] <;> rfl) | (simp [*, errW_none, errW_some] <;> rfl), by repeat (first | (with_reducible first | exact HB.out | apply below_alloc | apply pw_below_drewN | apply below_drew1) | exact HB.out)⟩
              · rw [if_neg c19] at H
                have c19b0 : ((decide (a0 < a2)) == (decide (t143 < t144))) = false := by simpa using c19
                (try (have c19b1 : decide ((decide (a0 < a2)) = (decide (t143 < t144))) = false := by simpa using c19))
                (try (have c19b2 : ((decide (a0 < a2)) == (decide (t143 < t144))) = false := by simpa using c19))
                (try (have c19b3 : ¬ ((decide (a0 < a2)) = (decide (t143 < t144))) := by simpa using c19))
                clear c19
                obtain rfl := Option.some.inj H
                go_wp2_with (first | ((with_reducible refine gate_callee (f := 15) rfl ?_); refine goesL_ (some 35) rfl rfl Try.func15 (by kernel_rfl) rfl #[.int .i64 a0] rfl (by (try simp only [List.map_toArray, List.map_cons, List.map_nil]); first | done | rfl | (simp only [List.length_drop, List.length_take]; rfl)) ?_; (with_reducible refine (le_Zig.calls a0 t143 _ A17.out).mono ?_); rintro e w' ⟨rfl, ⟨nd, rfl⟩⟩; refine ⟨_, rfl, ?_⟩) | ((with_reducible refine gate_callee (f := 15) rfl ?_); refine goesL_ (some 37) rfl rfl Try.func15 (by kernel_rfl) rfl #[.int .i64 a2] rfl (by (try simp only [List.map_toArray, List.map_cons, List.map_nil]); first | done | rfl | (simp only [List.length_drop, List.length_take]; rfl)) ?_; (with_reducible refine (le_Zig.calls a2 t144 _ A18.out).mono ?_); rintro e w' ⟨rfl, ⟨nd, rfl⟩⟩; refine ⟨_, rfl, ?_⟩))
                go_ret
                exact ⟨by first | rfl | (simp [errW_none, errW_some] <;> rfl) | (simp [*, errW_none, errW_some] <;> rfl), by repeat (first | (with_reducible first | exact HB.out | apply below_alloc | apply pw_below_drewN | apply below_drew1) | exact HB.out)⟩

/-- THE ONE PURE STATEMENT of towncrierlaw01_LeZigs: yours. -/
def towncrierlaw01_LeZigs.Pure : Prop := ∀ (a0 : Int) (a1 : Int) (a2 : Int), (Lit.int .i64 a0).wf = true → (Lit.int .u64 a1).wf = true → (Lit.int .i64 a2).wf = true → ∃ k, towncrierlaw01_LeZigs.f k a0 a1 a2 = some true
theorem towncrierlaw01_LeZigs.walk (P : towncrierlaw01_LeZigs.Pure) (a0 : Int) (a1 : Int) (a2 : Int) (w : World) (w0 : (Lit.int .i64 a0).wf = true) (w1 : (Lit.int .u64 a1).wf = true) (w2 : (Lit.int .i64 a2).wf = true) :
    Calls Try.prog 4 #[.int .i64 a0, .int .u64 a1, .int .i64 a2] w fun e w' => e = .returned (.bool true) ∧ Below w.heap.size w w' := by
  obtain ⟨k, h⟩ := P a0 a1 a2 w0 w1 w2
  refine (towncrierlaw01_LeZigs.calls k a0 a1 a2 true w h).mono ?_
  rintro e w' ⟨rfl, hd⟩
  exact ⟨rfl, hd⟩

end Go.Proofs.Ytnmpojodadlnmaa.X
