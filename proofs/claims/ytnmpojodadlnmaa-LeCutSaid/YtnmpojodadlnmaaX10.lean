/- Functions of the translation as plain Lean functions, and proofs that the calls come to what these say. No condition. Written by a program of this session (wip/xprint.py); not trusted: Lean checks it. -/
import Derived.Test.YtnmpojodadlnmaaX0
import Derived.Test.YtnmpojodadlnmaaX1
import Derived.Test.YtnmpojodadlnmaaX2
import Derived.Test.YtnmpojodadlnmaaX5
namespace Go.Proofs.Ytnmpojodadlnmaa.X
open Go.RowKit Go.Proofs.YtnmpojodadlnmaaW.PrintWords Go.Proofs.YtnmpojodadlnmaaW.PrintLast Go.Proofs.YtnmpojodadlnmaaW.PrintMore
attribute [local go_sem] max2_int min2_int max_two min_two max_three min_three max_four min_four   -- for this text's walks alone
set_option linter.unusedVariables false
set_option linter.unusedSimpArgs false

/-! ### towncrierlaw01_LeCut: function 7 -/
def towncrierlaw01_LeCut.j0 : Nat → Int → Bool → List Int → Bool → Option (Bool)
  | 0, _, _, _, _ => none
  | k + 1, x1, x5, x6, x28 => if x28 = true then (some x5) else (if 0 ≤ x1 then (if x1 ≤ (x6.length : Int) then ((le_Get.f k (x6.take (x1 : Int).toNat)).bind fun bt175 => (if ([] : List Int).length + x6.length < 140737488355328 then ((some (([] : List Int) ++ x6 : List Int)).bind fun y178 => (if 0 ≤ (wrap64 ((y178.length : Int) - 1)) then (if (wrap64 ((y178.length : Int) - 1)) < (y178.length : Int) then ((some (y178.set ((wrap64 ((y178.length : Int) - 1)) : Int).toNat (((rd y178 (wrap64 ((y178.length : Int) - 1))) + 128) % 256) : List Int)).bind fun y182 => (if y182.length < 140737488355328 then ((le_Get.f k (y182 ++ [0])).bind fun bt186 => (if bt175.2.2 = true then (some false) else (some (!bt186.2.2)))) else (none))) else (none)) else (none))) else (none))) else (none)) else (none))
def towncrierlaw01_LeCut.f (k : Nat) (a0 : Int) (a1 : Int) : Option (Bool) := (towncrierlaw01_awake.f k).bind fun t167 => ((le_Put.f k a0).bind fun t168 => (if t167 = true then (if a1 < 0 then (towncrierlaw01_LeCut.j0 k a1 t167 t168 true) else (towncrierlaw01_LeCut.j0 k a1 t167 t168 (decide (a1 ≥ (t168.length : Int))))) else (towncrierlaw01_LeCut.j0 k a1 t167 t168 true)))
theorem towncrierlaw01_LeCut.mono_l : ∀ k, (∀ y0 y1 y2 y3, LeO (towncrierlaw01_LeCut.j0 k y0 y1 y2 y3) (towncrierlaw01_LeCut.j0 (k + 1) y0 y1 y2 y3))
  | 0 => fun _ _ _ _ r h => by simp [towncrierlaw01_LeCut.j0] at h
  | k + 1 => by
    have ih0 := towncrierlaw01_LeCut.mono_l k
    · intro y0 y1 y2 y3
      unfold towncrierlaw01_LeCut.j0
      repeat' first
      | (with_reducible exact ih0 _ _ _ _)
      | (with_reducible exact le_Get.mono _ _)
      | (with_reducible exact le_Put.mono _ _)
      | (with_reducible exact towncrierlaw01_awake.mono _)
      | (with_reducible exact LeO.refl _)
      | (with_reducible exact LeO.none _)
      | (with_reducible refine LeO.ite ?_ ?_)
      | (with_reducible refine LeO.bind ?_ (fun _ => ?_))
      | exact ih0 _ _ _ _
      | exact le_Get.mono _ _
      | exact le_Put.mono _ _
      | exact towncrierlaw01_awake.mono _
      | exact LeO.none _
      | refine LeO.ite ?_ ?_
      | refine LeO.bind ?_ (fun _ => ?_)
theorem towncrierlaw01_LeCut.mono : ∀ a0 a1 k, LeO (towncrierlaw01_LeCut.f k a0 a1) (towncrierlaw01_LeCut.f (k + 1) a0 a1) := by
  intro a0 a1 k
  have ih0 := towncrierlaw01_LeCut.mono_l k
  unfold towncrierlaw01_LeCut.f
  repeat' first
      | (with_reducible exact ih0 _ _ _ _)
      | (with_reducible exact le_Get.mono _ _)
      | (with_reducible exact le_Put.mono _ _)
      | (with_reducible exact towncrierlaw01_awake.mono _)
      | (with_reducible exact LeO.refl _)
      | (with_reducible exact LeO.none _)
      | (with_reducible refine LeO.ite ?_ ?_)
      | (with_reducible refine LeO.bind ?_ (fun _ => ?_))
      | exact ih0 _ _ _ _
      | exact le_Get.mono _ _
      | exact le_Put.mono _ _
      | exact towncrierlaw01_awake.mono _
      | exact LeO.none _
      | refine LeO.ite ?_ ?_
      | refine LeO.bind ?_ (fun _ => ?_)
set_option maxHeartbeats 8000000 in
set_option maxRecDepth 100000 in
theorem towncrierlaw01_LeCut.calls (k : Nat) (a0 : Int) (a1 : Int) (r : Bool) (w : World) (h : towncrierlaw01_LeCut.f k a0 a1 = some r) :
    Calls Try.prog 7 #[.int .u64 a0, .int .i64 a1] w fun e w' => e = .returned (.bool r) ∧ Below w.heap.size w w' := by
  have HB := Aside0.mk (Below.refl w.heap.size w)
  have H : ((towncrierlaw01_awake.f k).bind fun t167 => ((le_Put.f k a0).bind fun t168 => (if t167 = true then (if a1 < 0 then (towncrierlaw01_LeCut.j0 k a1 t167 t168 true) else (towncrierlaw01_LeCut.j0 k a1 t167 t168 (decide (a1 ≥ (t168.length : Int))))) else (towncrierlaw01_LeCut.j0 k a1 t167 t168 true)))) = some r := h
  clear h
  replace H := Option.bind_eq_some_iff.mp H
  obtain ⟨t167, A30, H⟩ := H
  replace H : ((le_Put.f k a0).bind fun t168 => (if t167 = true then (if a1 < 0 then (towncrierlaw01_LeCut.j0 k a1 t167 t168 true) else (towncrierlaw01_LeCut.j0 k a1 t167 t168 (decide (a1 ≥ (t168.length : Int))))) else (towncrierlaw01_LeCut.j0 k a1 t167 t168 true))) = some r := H
  have A3 := Aside0.mk A30
  clear A30
  replace H := Option.bind_eq_some_iff.mp H
  obtain ⟨t168, A40, H⟩ := H
  replace H : (if t167 = true then (if a1 < 0 then (towncrierlaw01_LeCut.j0 k a1 t167 t168 true) else (towncrierlaw01_LeCut.j0 k a1 t167 t168 (decide (a1 ≥ (t168.length : Int))))) else (towncrierlaw01_LeCut.j0 k a1 t167 t168 true)) = some r := H
  have A4 := Aside0.mk A40
  clear A40
  have HC5 := Aside0.mk H
  clear H
  go_enter Try.func7, Try.ntmps7
  go_upto_region 3 with (first | ((with_reducible refine gate_callee (f := 11) rfl ?_); refine goesL_ (some 14) rfl rfl Try.func11 (by kernel_rfl) rfl #[] rfl (by (try simp only [List.map_toArray, List.map_cons, List.map_nil]); first | done | rfl | (simp only [List.length_drop, List.length_take]; rfl)) ?_; (with_reducible refine (towncrierlaw01_awake.calls k  t167 _ A3.out).mono ?_); rintro e w6 ⟨rfl, hb⟩; refine ⟨_, rfl, ?_⟩; have n0_ := Aside0.mk (below_step (by repeat (first | (with_reducible first | exact HB.out | apply below_alloc | apply pw_below_drewN | apply below_drew1) | exact HB.out)) hb); clear HB; have HB := n0_; clear n0_; (try clear hb); (try clear hb2); (try clear hk); (try clear hi)) | ((with_reducible refine gate_callee (f := 12) rfl ?_); refine goesL_ (some 16) rfl rfl Try.func12 (by kernel_rfl) rfl #[.int .u64 a0] rfl (by (try simp only [List.map_toArray, List.map_cons, List.map_nil]); first | done | rfl | (simp only [List.length_drop, List.length_take]; rfl)) ?_; (with_reducible refine (le_Put.calls k a0 t168 _ A4.out).mono ?_); rintro e w7 ⟨v169, rfl, ho0, hb⟩; refine ⟨_, rfl, ?_⟩; have n0_ := Aside0.mk (Kd.R_lower ho0 (below_size (by repeat (first | (with_reducible first | exact HB.out | apply below_alloc | apply pw_below_drewN | apply below_drew1) | exact HB.out)))); have n1_ := Aside0.mk (below_step (by repeat (first | (with_reducible first | exact HB.out | apply below_alloc | apply pw_below_drewN | apply below_drew1) | exact HB.out)) hb); clear HB; have HO170 := n0_; have HB := n1_; clear n0_ n1_; (try clear hb); (try clear hb2); (try clear hk); (try clear hi); (try clear ho0)))
  (try simp only [Act.put, List.setIfInBounds_toArray, List.set_cons_zero, List.set_cons_succ])
  go_cut [28] (fun v28 wc => ∃ (kq : Nat) (x28_4 : Bool), v28 = .bool x28_4 ∧ Aside0 (towncrierlaw01_LeCut.j0 kq a1 t167 t168 x28_4 = some r) ∧ Aside0 (kq ≤ k) ∧ Aside0 (Kd.R (Kd.int .u8) 5 wc w.heap.size (fun _ => True) v169 t168) ∧ Aside0 (Below w.heap.size w wc))
  case first =>
    have H := HC5.out
    clear HC5
    by_cases c8 : t167 = true
    · subst c8
      have H1 : (if a1 < 0 then (towncrierlaw01_LeCut.j0 k a1 true t168 true) else (towncrierlaw01_LeCut.j0 k a1 true t168 (decide (a1 ≥ (t168.length : Int))))) = some r := by rw [if_pos rfl] at H; exact H
      clear H
      have H := H1
      clear H1
      by_cases c9 : a1 < 0
      · rw [if_pos c9] at H
        have c9b0 : decide (a1 < 0) = true := decide_eq_true c9
        clear c9
        (first | rw [c9b0] | (simp only [i64_w, i32_w]; rw [c9b0]) | skip)
        have H' := Aside0.mk H
        clear H
        go_wp2
        go_meet
        case rel => exact ⟨_, (true), (by first | rfl | (simp; done) | (simp [*]; done)), H', ⟨by first | omega | exact Nat.le_refl _⟩, ⟨by (with_reducible repeat (first | apply Kd.R_alloc | apply Kd.R_drewN | apply Kd.R_drew)); exact HO170.out⟩, ⟨by repeat (first | (with_reducible first | exact HB.out | apply below_alloc | apply pw_below_drewN | apply below_drew1) | exact HB.out)⟩⟩
      · rw [if_neg c9] at H
        have c9b0 : decide (a1 < 0) = false := decide_eq_false c9
        clear c9
        (first | rw [c9b0] | (simp only [i64_w, i32_w]; rw [c9b0]) | skip)
        have H' := Aside0.mk H
        clear H
        obtain ⟨Ao10, co10, eo10⟩ := Kd.R_slice HO170.out
        subst eo10
        go_wp2
        go_meet
        case rel => exact ⟨_, (decide (a1 ≥ (t168.length : Int))), (by first | rfl | (simp; done) | (simp [*]; done)), H', ⟨by first | omega | exact Nat.le_refl _⟩, ⟨by (with_reducible repeat (first | apply Kd.R_alloc | apply Kd.R_drewN | apply Kd.R_drew)); exact HO170.out⟩, ⟨by repeat (first | (with_reducible first | exact HB.out | apply below_alloc | apply pw_below_drewN | apply below_drew1) | exact HB.out)⟩⟩
    · replace c8 := Bool.eq_false_iff.mpr c8
      subst c8
      have H1 : (towncrierlaw01_LeCut.j0 k a1 false t168 true) = some r := by rw [if_neg (show ¬ (false = true) by decide)] at H; exact H
      clear H
      have H := H1
      clear H1
      have H' := Aside0.mk H
      clear H
      go_wp2
      go_meet
      case rel => exact ⟨_, (true), (by first | rfl | (simp; done) | (simp [*]; done)), H', ⟨by first | omega | exact Nat.le_refl _⟩, ⟨by (with_reducible repeat (first | apply Kd.R_alloc | apply Kd.R_drewN | apply Kd.R_drew)); exact HO170.out⟩, ⟨by repeat (first | (with_reducible first | exact HB.out | apply below_alloc | apply pw_below_drewN | apply below_drew1) | exact HB.out)⟩⟩
  case rest =>
    clear HC5
    try clear c1
    try clear p2
    try clear c7
    try clear c8
    try clear c9
    try clear c9b0
    obtain ⟨kq, x28_4, rfl, HA, HJ4, HO_6, HB⟩ := hcut
    cases kq with
    | zero => exact absurd HA.out (by simp [towncrierlaw01_LeCut.j0])
    | succ kj4 =>
      have H := HA.out
      clear HA
      simp only [towncrierlaw01_LeCut.j0] at H
      by_cases c11 : x28_4 = true
      · subst c11
        have H1 : (some t167) = some r := by rw [if_pos rfl] at H; exact H
        clear H
        have H := H1
        clear H1
        obtain rfl := Option.some.inj H
        go_wp2
        go_ret
        exact ⟨by first | rfl | (simp [errW_none, errW_some] <;> rfl) | (simp [*, errW_none, errW_some] <;> rfl), by repeat (first | (with_reducible first | exact HB.out | apply below_alloc | apply pw_below_drewN | apply below_drew1) | exact HB.out)⟩
      · replace c11 := Bool.eq_false_iff.mpr c11
        subst c11
        have H1 : (if 0 ≤ a1 then (if a1 ≤ (t168.length : Int) then ((le_Get.f kj4 (t168.take (a1 : Int).toNat)).bind fun bt175 => (if ([] : List Int).length + t168.length < 140737488355328 then ((some (([] : List Int) ++ t168 : List Int)).bind fun y178 => (if 0 ≤ (wrap64 ((y178.length : Int) - 1)) then (if (wrap64 ((y178.length : Int) - 1)) < (y178.length : Int) then ((some (y178.set ((wrap64 ((y178.length : Int) - 1)) : Int).toNat (((rd y178 (wrap64 ((y178.length : Int) - 1))) + 128) % 256) : List Int)).bind fun y182 => (if y182.length < 140737488355328 then ((le_Get.f kj4 (y182 ++ [0])).bind fun bt186 => (if bt175.2.2 = true then (some false) else (some (!bt186.2.2)))) else (none))) else (none)) else (none))) else (none))) else (none)) else (none)) = some r := by rw [if_neg (show ¬ (false = true) by decide)] at H; exact H
        clear H
        have H := H1
        clear H1
        by_cases c12 : 0 ≤ a1
        · rw [if_pos c12] at H
          have c12b0 := eq_true c12
          have c12b1 : decide (0 ≤ a1) = true := decide_eq_true c12
          clear c12
          by_cases c13 : a1 ≤ (t168.length : Int)
          · rw [if_pos c13] at H
            have c13b0 := eq_true c13
            have c13b1 : decide (a1 ≤ (t168.length : Int)) = true := decide_eq_true c13
            clear c13
            obtain ⟨y171, hy171⟩ : ∃ y_ : List Int, y_ = (t168.take (a1 : Int).toNat) := ⟨_, rfl⟩
            replace H : ((le_Get.f kj4 y171).bind fun bt175 => (if ([] : List Int).length + t168.length < 140737488355328 then ((some (([] : List Int) ++ t168 : List Int)).bind fun y178 => (if 0 ≤ (wrap64 ((y178.length : Int) - 1)) then (if (wrap64 ((y178.length : Int) - 1)) < (y178.length : Int) then ((some (y178.set ((wrap64 ((y178.length : Int) - 1)) : Int).toNat (((rd y178 (wrap64 ((y178.length : Int) - 1))) + 128) % 256) : List Int)).bind fun y182 => (if y182.length < 140737488355328 then ((le_Get.f kj4 (y182 ++ [0])).bind fun bt186 => (if bt175.2.2 = true then (some false) else (some (!bt186.2.2)))) else (none))) else (none)) else (none))) else (none))) = some r := by first | (rw [hy171]; with_reducible exact H) | (have H2_ := (Option.bind_some _ _).symm.trans H; rw [hy171]; with_reducible exact H2_) | (have H2_ := (Option.bind_some _ _).symm.trans H; with_reducible exact H2_) | with_reducible exact H | (rw [hy171]; exact H) | exact H
            have Ny171 := Aside0.mk hy171
            clear hy171
            replace H := Option.bind_eq_some_iff.mp H
            obtain ⟨⟨t175, t176, t177⟩, A140, H⟩ := H
            replace H : (if ([] : List Int).length + t168.length < 140737488355328 then ((some (([] : List Int) ++ t168 : List Int)).bind fun y178 => (if 0 ≤ (wrap64 ((y178.length : Int) - 1)) then (if (wrap64 ((y178.length : Int) - 1)) < (y178.length : Int) then ((some (y178.set ((wrap64 ((y178.length : Int) - 1)) : Int).toNat (((rd y178 (wrap64 ((y178.length : Int) - 1))) + 128) % 256) : List Int)).bind fun y182 => (if y182.length < 140737488355328 then ((le_Get.f kj4 (y182 ++ [0])).bind fun bt186 => (if t177 = true then (some false) else (some (!bt186.2.2)))) else (none))) else (none)) else (none))) else (none)) = some r := H
            have A14 := Aside0.mk A140
            clear A140
            by_cases c15 : ([] : List Int).length + t168.length < 140737488355328
            · rw [if_pos c15] at H
              have LMc15 := Aside0.mk c15
              clear c15
              obtain ⟨y178, hy178⟩ : ∃ y_ : List Int, y_ = (([] : List Int) ++ t168) := ⟨_, rfl⟩
              replace H : (if 0 ≤ (wrap64 ((y178.length : Int) - 1)) then (if (wrap64 ((y178.length : Int) - 1)) < (y178.length : Int) then ((some (y178.set ((wrap64 ((y178.length : Int) - 1)) : Int).toNat (((rd y178 (wrap64 ((y178.length : Int) - 1))) + 128) % 256) : List Int)).bind fun y182 => (if y182.length < 140737488355328 then ((le_Get.f kj4 (y182 ++ [0])).bind fun bt186 => (if t177 = true then (some false) else (some (!bt186.2.2)))) else (none))) else (none)) else (none)) = some r := by first | (rw [hy178]; with_reducible exact H) | (have H2_ := (Option.bind_some _ _).symm.trans H; rw [hy178]; with_reducible exact H2_) | (have H2_ := (Option.bind_some _ _).symm.trans H; with_reducible exact H2_) | with_reducible exact H | (rw [hy178]; exact H) | exact H
              have Ny178 := Aside0.mk hy178
              clear hy178
              obtain ⟨ji16, hji16⟩ : ∃ j_ : Int, (wrap64 ((y178.length : Int) - 1)) = j_ := ⟨_, rfl⟩
              replace H : (if 0 ≤ (ji16) then (if (ji16) < (y178.length : Int) then ((some (y178.set ((ji16) : Int).toNat (((rd y178 (ji16)) + 128) % 256) : List Int)).bind fun y182 => (if y182.length < 140737488355328 then ((le_Get.f kj4 (y182 ++ [0])).bind fun bt186 => (if t177 = true then (some false) else (some (!bt186.2.2)))) else (none))) else (none)) else (none)) = some r := by first | (rw [hji16] at H; exact H) | (simp only [hji16] at H ⊢; exact H)
              (try rw [hji16] at A14)
              have hji16w : (IntKind.i64.wrap ((y178.length : Int) - 1)) = ji16 := (i64_w _).trans hji16
              by_cases c17 : 0 ≤ (ji16)
              · rw [if_pos c17] at H
                have c17b0 : decide (0 ≤ (ji16)) = true := decide_eq_true c17
                clear c17
                by_cases c18 : (ji16) < (y178.length : Int)
                · rw [if_pos c18] at H
                  have c18b0 : decide ((ji16) < (y178.length : Int)) = true := decide_eq_true c18
                  clear c18
                  obtain ⟨y182, hy182⟩ : ∃ y_ : List Int, y_ = (y178.set ((ji16) : Int).toNat (((rd y178 (ji16)) + 128) % 256)) := ⟨_, rfl⟩
                  replace H : (if y182.length < 140737488355328 then ((le_Get.f kj4 (y182 ++ [0])).bind fun bt186 => (if t177 = true then (some false) else (some (!bt186.2.2)))) else (none)) = some r := by first | (rw [hy182]; with_reducible exact H) | (have H2_ := (Option.bind_some _ _).symm.trans H; rw [hy182]; with_reducible exact H2_) | (have H2_ := (Option.bind_some _ _).symm.trans H; with_reducible exact H2_) | with_reducible exact H | (rw [hy182]; exact H) | exact H
                  have Ny182 := Aside0.mk hy182
                  clear hy182
                  by_cases c20 : y182.length < 140737488355328
                  · rw [if_pos c20] at H
                    have LMc20 := Aside0.mk c20
                    clear c20
                    obtain ⟨y183, hy183⟩ : ∃ y_ : List Int, y_ = (y182 ++ [0]) := ⟨_, rfl⟩
                    replace H : ((le_Get.f kj4 y183).bind fun bt186 => (if t177 = true then (some false) else (some (!bt186.2.2)))) = some r := by first | (rw [hy183]; with_reducible exact H) | (have H2_ := (Option.bind_some _ _).symm.trans H; rw [hy183]; with_reducible exact H2_) | (have H2_ := (Option.bind_some _ _).symm.trans H; with_reducible exact H2_) | with_reducible exact H | (rw [hy183]; exact H) | exact H
                    have Ny183 := Aside0.mk hy183
                    clear hy183
                    replace H := Option.bind_eq_some_iff.mp H
                    obtain ⟨⟨t186, t187, t188⟩, A210, H⟩ := H
                    replace H : (if t177 = true then (some false) else (some (!t188))) = some r := H
                    have A21 := Aside0.mk A210
                    clear A210
                    by_cases c22 : t177 = true
                    · subst c22
                      have H1 : (some false) = some r := by rw [if_pos rfl] at H; exact H
                      clear H
                      have H := H1
                      clear H1
                      obtain rfl := Option.some.inj H
                      obtain ⟨Ao24, co24, eo24⟩ := Kd.R_slice HO_6.out
                      subst eo24
                      have q23 : (a1 : Int) ≤ ((t168.length : Int) : Int) := of_decide_eq_true (by first | (with_reducible assumption) | assumption)
                      obtain ⟨i023, hi023, _, hsz23, _⟩ := info_parts info5
                      have hroom23 : t168.length ≤ co24 := (Kd.R_reads' HO_6.out).2.1
                      have hC23 : Kd.C (Kd.int .u8) _ Ao24 t168.length t168 := (Kd.R_reads' HO_6.out).2.2
                      have hcut23 := cut_to (P := Try.prog) 23 5 .i64 Try.underlying23 hi023 Ao24 t168.length co24 a1 (of_decide_eq_true (by first | (with_reducible assumption) | assumption)) q23 hroom23
                      have hr23 := Kd.C_take (m := (a1 : Int).toNat) hC23 (by omega)
                      have hy23 : y171.length = (a1 : Int).toNat := (by rw [Ny171.out, List.length_take]; omega)
                      rw [← Ny171.out] at hr23
                      rw [← hy23] at hcut23
                      have HR174 := Aside0.mk hr23
                      have HC174 := Aside0.mk (show y171.length ≤ co24 from by omega)
                      clear hr23 hC23 hroom23 hi023 hsz23
                      have KY23 := Aside0.mk hy23
                      clear hy23
                      have KL23 := Aside0.mk (show (a1 : Int).toNat ≤ t168.length from by omega)
                      replace q23 := eq_true q23
                      go_wp2_with (first | ((with_reducible refine gate_callee (f := 13) rfl ?_); refine goesL_ (some 34) rfl rfl Try.func13 (by kernel_rfl) rfl #[.slice Ao24 y171.length co24] rfl (by (try simp only [List.map_toArray, List.map_cons, List.map_nil]); first | done | rfl | (simp only [List.length_drop, List.length_take]; rfl)) ?_; (with_reducible refine (le_Get.calls kj4 _ _ y171 t175 t176 true _ ?side1 ?side2 A14.out).mono ?_); (case side1 => repeat (first | exact (by repeat (first | (with_reducible exact HR174.out) | (with_reducible refine Kd.C_alloc ?_ _) | (with_reducible refine Kd.C_drewN ?_ _) | (with_reducible refine Kd.C_drew ?_) | exact HR174.out)) | (with_reducible refine Kd.C_alloc ?_ _) | (with_reducible refine Kd.C_drewN ?_ _) | (with_reducible refine Kd.C_drew ?_))); (case side2 => exact HC174.out); rintro e w25 ⟨rfl, hb⟩; refine ⟨_, rfl, ?_⟩; have n0_ := Aside0.mk (Kd.R_below (by (with_reducible repeat (first | apply Kd.R_alloc | apply Kd.R_drewN | apply Kd.R_drew)); exact HO_6.out) hb); have n1_ := Aside0.mk (Kd.C_below (by repeat (first | (with_reducible exact HR174.out) | (with_reducible refine Kd.C_alloc ?_ _) | (with_reducible refine Kd.C_drewN ?_ _) | (with_reducible refine Kd.C_drew ?_) | exact HR174.out)) hb); have n2_ := Aside0.mk (below_step (by repeat (first | (with_reducible first | exact HB.out | apply below_alloc | apply pw_below_drewN | apply below_drew1) | exact HB.out)) hb); clear HO_6; clear HR174; clear HB; have HO_6 := n0_; have HR174 := n1_; have HB := n2_; clear n0_ n1_ n2_; (try clear hb); (try clear hb2); (try clear hk); (try clear hi)) | ((with_reducible refine gate_builtin (b := .append) (xs := #[.const (.slice none 0 0), .tmp 38]) rfl ?_); (try (refine gate_guard (by rfl) ?_; dsimp only)); at_builtin; refine Kd.R_append_rows (Kd.int .u8) (w0 := w) w.heap.size rfl (.const (.slice none 0 0)) (.tmp 38) 23 5 (.int .u8 0) 1 rfl Try.underlying23 info5 rfl (by decide) (by omega) (.slice none 0 0) ([] : List Int) t168 _ _ _ (fun k_ => some k_ ≠ (.slice Ao24 t168.length co24 : Value).ownBlock) (fun _ => False) rfl rfl ?aO ?aR (fun _ _ h => h) (fun _ h => h.elim) ?aF ?aB ?aS ?aL ?_; (case aR => repeat (first | exact (Kd.R_reads' HO_6.out).2.2 | (with_reducible refine Kd.C_alloc ?_ _) | (with_reducible refine Kd.C_drewN ?_ _) | (with_reducible refine Kd.C_drew ?_))); (case aB => exact (by repeat (first | (with_reducible first | exact HB.out | apply below_alloc | apply pw_below_drewN | apply below_drew1) | exact HB.out))); (case aF => exact (fun k_ hk => Kd.fresh' (Kd.R_lt (by (with_reducible repeat (first | apply Kd.R_alloc | apply Kd.R_drewN | apply Kd.R_drew)); exact HO_6.out)) k_ hk)); (case aO => exact ((Kd.R_nil _ _ _ _ (fun k_ => some k_ ≠ (.slice Ao24 t168.length co24 : Value).ownBlock)))); (case aS => exact (below_size (by repeat (first | (with_reducible first | exact HB.out | apply below_alloc | apply pw_below_drewN | apply below_drew1) | exact HB.out)))); (case aL => have := LMc15.out; omega); intro v179 w26 ho hb hg hat; rw [← Ny178.out] at ho; have n0_ := Aside0.mk (Kd.R_after (Kd.R_apart_nil (by (with_reducible repeat (first | apply Kd.R_alloc | apply Kd.R_drewN | apply Kd.R_drew)); exact HO_6.out)) hg hat); have n1_ := Aside0.mk (hb); have n2_ := Aside0.mk ((show Kd.C (Kd.int .u8) w26 Ao24 y171.length y171 from by rw [Ny171.out]; exact Kd.C_take (m := (a1 : Int).toNat) ((Kd.R_reads' (Kd.R_after (Kd.R_apart_nil (by (with_reducible repeat (first | apply Kd.R_alloc | apply Kd.R_drewN | apply Kd.R_drew)); exact HO_6.out)) hg hat)).2.2) KL23.out)); have n3_ := Aside0.mk (ho); clear HO_6; clear HB; clear HR174; have HO_6 := n0_; have HB := n1_; have HR174 := n2_; have HO180 := n3_; clear n0_ n1_ n2_ n3_; clear ho hb hg hat; obtain ⟨Ao27, co27, eo27⟩ := Kd.R_slice HO180.out; subst eo27; have p181 : 0 ≤ ((ji16) : Int) := of_decide_eq_true (by first | (with_reducible assumption) | assumption); have q181 : (ji16) < (y178.length : Int) := of_decide_eq_true (by first | (with_reducible assumption) | assumption); obtain ⟨ad181, e181, hx181_0⟩ := Kd.at_int (Kd.R_reads' HO180.out).2.2 (ji16) p181 q181; cases e181; replace p181 := eq_true p181; replace q181 := eq_true q181; have p19 : 0 ≤ ((ji16) : Int) := of_decide_eq_true (by first | (with_reducible assumption) | assumption); have q19 : ((ji16) : Int) < ((y178.length : Int) : Int) := of_decide_eq_true (by first | (with_reducible assumption) | assumption); obtain ⟨go19, co19, eo19, gb19, gl19, cl19, HG19⟩ := Kd.R_form HO180.out (by omega); (first | cases eo19 | (injection eo19 with ea_ en_ ec_; (first | subst ea_ | (injection ea_ with ea_; subst ea_)); subst ec_; clear en_)); have GB19 := Aside0.mk gb19; have GG19 := Aside0.mk HG19; clear gb19 gl19 HG19; (first | simp only [add_plain] at hx181_0 | skip); obtain ⟨hx19_0, hf19_0⟩ := Kd.R_celln 0 HO180.out ((ji16) : Int) p19 q19; replace p19 := eq_true p19; replace q19 := eq_true q19; obtain ⟨hy28_, hz28_⟩ := Kd.R_celln 0 HO180.out ((ji16) : Int) (of_decide_eq_true (by first | (with_reducible assumption) | assumption)) (of_decide_eq_true (by first | (with_reducible assumption) | assumption)); have HP28 := Kd.R_putg HO180.out ((ji16) : Int) (((rd y178 (ji16)) + 128) % 256)) | ((with_reducible refine gate_store (t := 5) (p := 51) rfl ?_); refine store_event (t := 5) (p := 51) (v := ?vo_w29) (w1 := (w26.setCell ⟨go19, ((ji16) : Int).toNat, none⟩ (.int .u8 (((rd y178 (ji16)) + 128) % 256)))) ?hg ?ho ?hn ?hr ?_; (case ho => rfl); (case hg => rfl); (case hn => rfl); (case hr => first | (go_simp; done) | (go_simp; rfl)); intro w29 hw; have hg : w26.grownBy w29 (some go19) := (by rw [hw]; exact HP28.2); have hp_ : Kd.R (Kd.int .u8) 5 w29 w.heap.size (fun k_ => some k_ ≠ (.slice Ao24 t168.length co24 : Value).ownBlock) (.slice (some ⟨go19, 0, none⟩) y178.length co27) y182 := (by rw [hw, Ny182.out]; exact HP28.1); clear HP28; have n0_ := Aside0.mk (Kd.R_after (v := (.slice (some ⟨go19, 0, none⟩) y178.length co27)) (v1 := (.slice (some ⟨go19, 0, none⟩) y178.length co27)) (ok := (fun _ => True)) (by (with_reducible repeat (first | apply Kd.R_alloc | apply Kd.R_drewN | apply Kd.R_drew)); exact HO_6.out) hg (.inl rfl)); have n1_ := Aside0.mk (hp_); have n2_ := Aside0.mk ((by rw [hw]; exact below_set (HB.out) GB19.out : Below w.heap.size w w29)); have n3_ := Aside0.mk ((show Kd.C (Kd.int .u8) w29 Ao24 y171.length y171 from by rw [Ny171.out]; exact Kd.C_take (m := (a1 : Int).toNat) ((Kd.R_reads' (Kd.R_after (v := (.slice (some ⟨go19, 0, none⟩) y178.length co27)) (v1 := (.slice (some ⟨go19, 0, none⟩) y178.length co27)) (ok := (fun _ => True)) (by (with_reducible repeat (first | apply Kd.R_alloc | apply Kd.R_drewN | apply Kd.R_drew)); exact HO_6.out) hg (.inl rfl))).2.2) KL23.out)); clear HO_6; clear HO180; clear HB; clear HR174; have HO_6 := n0_; have HO180 := n1_; have HB := n2_; have HR174 := n3_; clear n0_ n1_ n2_ n3_; clear hg hw hp_) | ((with_reducible refine gate_builtin (b := .append) (xs := #[.tmp 52, .tmp 53]) rfl ?_); (try (refine gate_guard (by rfl) ?_; dsimp only)); at_builtin; refine Kd.R_append (Kd.int .u8) (w0 := w) w.heap.size rfl (.tmp 52) (.tmp 53) 23 5 (.int .u8 0) 1 rfl Try.underlying23 info5 rfl (by decide) (by omega) (.slice (some ⟨go19, 0, none⟩) y178.length co27) y182 0 [.int .u8 0] (fun k_ => some k_ ≠ (.slice Ao24 t168.length co24 : Value).ownBlock) (fun _ => False) rfl rfl ?aP (fun _ hk => hk.elim) ?aF ?aO ?aB ?aS ?aL ?_; (case aP => exact rfl); (case aB => exact (by repeat (first | (with_reducible first | exact HB.out | apply below_alloc | apply pw_below_drewN | apply below_drew1) | exact HB.out))); (case aF => exact (fun k_ hk => Kd.fresh' (Kd.R_lt (by (with_reducible repeat (first | apply Kd.R_alloc | apply Kd.R_drewN | apply Kd.R_drew)); exact HO_6.out)) k_ hk)); (case aO => exact (by (with_reducible repeat (first | apply Kd.R_alloc | apply Kd.R_drewN | apply Kd.R_drew)); exact HO180.out)); (case aS => exact (below_size (by repeat (first | (with_reducible first | exact HB.out | apply below_alloc | apply pw_below_drewN | apply below_drew1) | exact HB.out)))); (case aL => have := LMc20.out; omega); intro v184 w30 ho hb hg hat; rw [← Ny183.out] at ho; have n0_ := Aside0.mk (Kd.R_after (ok := (fun _ => True)) (by (with_reducible repeat (first | apply Kd.R_alloc | apply Kd.R_drewN | apply Kd.R_drew)); exact HO_6.out) hg hat); have n1_ := Aside0.mk (hb); have n2_ := Aside0.mk ((show Kd.C (Kd.int .u8) w30 Ao24 y171.length y171 from by rw [Ny171.out]; exact Kd.C_take (m := (a1 : Int).toNat) ((Kd.R_reads' (Kd.R_after (ok := (fun _ => True)) (by (with_reducible repeat (first | apply Kd.R_alloc | apply Kd.R_drewN | apply Kd.R_drew)); exact HO_6.out) hg hat)).2.2) KL23.out)); have n3_ := Aside0.mk (ho); clear HO_6; clear HB; clear HR174; clear HO180; have HO_6 := n0_; have HB := n1_; have HR174 := n2_; have HO185 := n3_; clear n0_ n1_ n2_ n3_; clear ho hb hg hat; obtain ⟨Ao31, co31, eo31⟩ := Kd.R_slice HO185.out; subst eo31) | ((with_reducible refine gate_callee (f := 13) rfl ?_); refine goesL_ (some 57) rfl rfl Try.func13 (by kernel_rfl) rfl #[.slice Ao31 y183.length co31] rfl (by (try simp only [List.map_toArray, List.map_cons, List.map_nil]); first | done | rfl | (simp only [List.length_drop, List.length_take]; rfl)) ?_; (with_reducible refine (le_Get.calls kj4 _ _ y183 t186 t187 t188 _ ?side1 ?side2 A21.out).mono ?_); (case side1 => repeat (first | exact (Kd.R_reads' HO185.out).2.2 | (with_reducible refine Kd.C_alloc ?_ _) | (with_reducible refine Kd.C_drewN ?_ _) | (with_reducible refine Kd.C_drew ?_))); (case side2 => exact (Kd.R_reads' HO185.out).2.1); rintro e w32 ⟨rfl, hb⟩; refine ⟨_, rfl, ?_⟩; have n0_ := Aside0.mk (Kd.R_below (by (with_reducible repeat (first | apply Kd.R_alloc | apply Kd.R_drewN | apply Kd.R_drew)); exact HO_6.out) hb); have n1_ := Aside0.mk (Kd.R_below (by (with_reducible repeat (first | apply Kd.R_alloc | apply Kd.R_drewN | apply Kd.R_drew)); exact HO185.out) hb); have n2_ := Aside0.mk (Kd.C_below (by repeat (first | (with_reducible exact HR174.out) | (with_reducible refine Kd.C_alloc ?_ _) | (with_reducible refine Kd.C_drewN ?_ _) | (with_reducible refine Kd.C_drew ?_) | exact HR174.out)) hb); have n3_ := Aside0.mk (below_step (by repeat (first | (with_reducible first | exact HB.out | apply below_alloc | apply pw_below_drewN | apply below_drew1) | exact HB.out)) hb); clear HO_6; clear HO185; clear HR174; clear HB; have HO_6 := n0_; have HO185 := n1_; have HR174 := n2_; have HB := n3_; clear n0_ n1_ n2_ n3_; (try clear hb); (try clear hb2); (try clear hk); (try clear hi)))
                      go_ret
                      exact ⟨by first | rfl | (simp [errW_none, errW_some] <;> rfl) | (simp only [← hji16]; first | rfl | (simp [errW_none, errW_some] <;> rfl)) | (simp [*, errW_none, errW_some] <;> rfl), by repeat (first | (with_reducible first | exact HB.out | apply below_alloc | apply pw_below_drewN | apply below_drew1) | exact HB.out)⟩
                    · replace c22 := Bool.eq_false_iff.mpr c22
                      subst c22
                      have H1 : (some (!t188)) = some r := by rw [if_neg (show ¬ (false = true) by decide)] at H; exact H
                      clear H
                      have H := H1
                      clear H1
                      obtain rfl := Option.some.inj H
                      obtain ⟨Ao34, co34, eo34⟩ := Kd.R_slice HO_6.out
                      subst eo34
                      have q33 : (a1 : Int) ≤ ((t168.length : Int) : Int) := of_decide_eq_true (by first | (with_reducible assumption) | assumption)
                      obtain ⟨i033, hi033, _, hsz33, _⟩ := info_parts info5
                      have hroom33 : t168.length ≤ co34 := (Kd.R_reads' HO_6.out).2.1
                      have hC33 : Kd.C (Kd.int .u8) _ Ao34 t168.length t168 := (Kd.R_reads' HO_6.out).2.2
                      have hcut33 := cut_to (P := Try.prog) 23 5 .i64 Try.underlying23 hi033 Ao34 t168.length co34 a1 (of_decide_eq_true (by first | (with_reducible assumption) | assumption)) q33 hroom33
                      have hr33 := Kd.C_take (m := (a1 : Int).toNat) hC33 (by omega)
                      have hy33 : y171.length = (a1 : Int).toNat := (by rw [Ny171.out, List.length_take]; omega)
                      rw [← Ny171.out] at hr33
                      rw [← hy33] at hcut33
                      have HR174 := Aside0.mk hr33
                      have HC174 := Aside0.mk (show y171.length ≤ co34 from by omega)
                      clear hr33 hC33 hroom33 hi033 hsz33
                      have KY33 := Aside0.mk hy33
                      clear hy33
                      have KL33 := Aside0.mk (show (a1 : Int).toNat ≤ t168.length from by omega)
                      replace q33 := eq_true q33
                      go_wp2_with (first | ((with_reducible refine gate_callee (f := 13) rfl ?_); refine goesL_ (some 34) rfl rfl Try.func13 (by kernel_rfl) rfl #[.slice Ao34 y171.length co34] rfl (by (try simp only [List.map_toArray, List.map_cons, List.map_nil]); first | done | rfl | (simp only [List.length_drop, List.length_take]; rfl)) ?_; (with_reducible refine (le_Get.calls kj4 _ _ y171 t175 t176 false _ ?side1 ?side2 A14.out).mono ?_); (case side1 => repeat (first | exact (by repeat (first | (with_reducible exact HR174.out) | (with_reducible refine Kd.C_alloc ?_ _) | (with_reducible refine Kd.C_drewN ?_ _) | (with_reducible refine Kd.C_drew ?_) | exact HR174.out)) | (with_reducible refine Kd.C_alloc ?_ _) | (with_reducible refine Kd.C_drewN ?_ _) | (with_reducible refine Kd.C_drew ?_))); (case side2 => exact HC174.out); rintro e w35 ⟨rfl, hb⟩; refine ⟨_, rfl, ?_⟩; have n0_ := Aside0.mk (Kd.R_below (by (with_reducible repeat (first | apply Kd.R_alloc | apply Kd.R_drewN | apply Kd.R_drew)); exact HO_6.out) hb); have n1_ := Aside0.mk (Kd.C_below (by repeat (first | (with_reducible exact HR174.out) | (with_reducible refine Kd.C_alloc ?_ _) | (with_reducible refine Kd.C_drewN ?_ _) | (with_reducible refine Kd.C_drew ?_) | exact HR174.out)) hb); have n2_ := Aside0.mk (below_step (by repeat (first | (with_reducible first | exact HB.out | apply below_alloc | apply pw_below_drewN | apply below_drew1) | exact HB.out)) hb); clear HO_6; clear HR174; clear HB; have HO_6 := n0_; have HR174 := n1_; have HB := n2_; clear n0_ n1_ n2_; (try clear hb); (try clear hb2); (try clear hk); (try clear hi)) | ((with_reducible refine gate_builtin (b := .append) (xs := #[.const (.slice none 0 0), .tmp 38]) rfl ?_); (try (refine gate_guard (by rfl) ?_; dsimp only)); at_builtin; refine Kd.R_append_rows (Kd.int .u8) (w0 := w) w.heap.size rfl (.const (.slice none 0 0)) (.tmp 38) 23 5 (.int .u8 0) 1 rfl Try.underlying23 info5 rfl (by decide) (by omega) (.slice none 0 0) ([] : List Int) t168 _ _ _ (fun k_ => some k_ ≠ (.slice Ao34 t168.length co34 : Value).ownBlock) (fun _ => False) rfl rfl ?aO ?aR (fun _ _ h => h) (fun _ h => h.elim) ?aF ?aB ?aS ?aL ?_; (case aR => repeat (first | exact (Kd.R_reads' HO_6.out).2.2 | (with_reducible refine Kd.C_alloc ?_ _) | (with_reducible refine Kd.C_drewN ?_ _) | (with_reducible refine Kd.C_drew ?_))); (case aB => exact (by repeat (first | (with_reducible first | exact HB.out | apply below_alloc | apply pw_below_drewN | apply below_drew1) | exact HB.out))); (case aF => exact (fun k_ hk => Kd.fresh' (Kd.R_lt (by (with_reducible repeat (first | apply Kd.R_alloc | apply Kd.R_drewN | apply Kd.R_drew)); exact HO_6.out)) k_ hk)); (case aO => exact ((Kd.R_nil _ _ _ _ (fun k_ => some k_ ≠ (.slice Ao34 t168.length co34 : Value).ownBlock)))); (case aS => exact (below_size (by repeat (first | (with_reducible first | exact HB.out | apply below_alloc | apply pw_below_drewN | apply below_drew1) | exact HB.out)))); (case aL => have := LMc15.out; omega); intro v179 w36 ho hb hg hat; rw [← Ny178.out] at ho; have n0_ := Aside0.mk (Kd.R_after (Kd.R_apart_nil (by (with_reducible repeat (first | apply Kd.R_alloc | apply Kd.R_drewN | apply Kd.R_drew)); exact HO_6.out)) hg hat); have n1_ := Aside0.mk (hb); have n2_ := Aside0.mk ((show Kd.C (Kd.int .u8) w36 Ao34 y171.length y171 from by rw [Ny171.out]; exact Kd.C_take (m := (a1 : Int).toNat) ((Kd.R_reads' (Kd.R_after (Kd.R_apart_nil (by (with_reducible repeat (first | apply Kd.R_alloc | apply Kd.R_drewN | apply Kd.R_drew)); exact HO_6.out)) hg hat)).2.2) KL33.out)); have n3_ := Aside0.mk (ho); clear HO_6; clear HB; clear HR174; have HO_6 := n0_; have HB := n1_; have HR174 := n2_; have HO180 := n3_; clear n0_ n1_ n2_ n3_; clear ho hb hg hat; obtain ⟨Ao37, co37, eo37⟩ := Kd.R_slice HO180.out; subst eo37; have p181 : 0 ≤ ((ji16) : Int) := of_decide_eq_true (by first | (with_reducible assumption) | assumption); have q181 : (ji16) < (y178.length : Int) := of_decide_eq_true (by first | (with_reducible assumption) | assumption); obtain ⟨ad181, e181, hx181_0⟩ := Kd.at_int (Kd.R_reads' HO180.out).2.2 (ji16) p181 q181; cases e181; replace p181 := eq_true p181; replace q181 := eq_true q181; have p19 : 0 ≤ ((ji16) : Int) := of_decide_eq_true (by first | (with_reducible assumption) | assumption); have q19 : ((ji16) : Int) < ((y178.length : Int) : Int) := of_decide_eq_true (by first | (with_reducible assumption) | assumption); obtain ⟨go19, co19, eo19, gb19, gl19, cl19, HG19⟩ := Kd.R_form HO180.out (by omega); (first | cases eo19 | (injection eo19 with ea_ en_ ec_; (first | subst ea_ | (injection ea_ with ea_; subst ea_)); subst ec_; clear en_)); have GB19 := Aside0.mk gb19; have GG19 := Aside0.mk HG19; clear gb19 gl19 HG19; (first | simp only [add_plain] at hx181_0 | skip); obtain ⟨hx19_0, hf19_0⟩ := Kd.R_celln 0 HO180.out ((ji16) : Int) p19 q19; replace p19 := eq_true p19; replace q19 := eq_true q19; obtain ⟨hy38_, hz38_⟩ := Kd.R_celln 0 HO180.out ((ji16) : Int) (of_decide_eq_true (by first | (with_reducible assumption) | assumption)) (of_decide_eq_true (by first | (with_reducible assumption) | assumption)); have HP38 := Kd.R_putg HO180.out ((ji16) : Int) (((rd y178 (ji16)) + 128) % 256)) | ((with_reducible refine gate_store (t := 5) (p := 51) rfl ?_); refine store_event (t := 5) (p := 51) (v := ?vo_w39) (w1 := (w36.setCell ⟨go19, ((ji16) : Int).toNat, none⟩ (.int .u8 (((rd y178 (ji16)) + 128) % 256)))) ?hg ?ho ?hn ?hr ?_; (case ho => rfl); (case hg => rfl); (case hn => rfl); (case hr => first | (go_simp; done) | (go_simp; rfl)); intro w39 hw; have hg : w36.grownBy w39 (some go19) := (by rw [hw]; exact HP38.2); have hp_ : Kd.R (Kd.int .u8) 5 w39 w.heap.size (fun k_ => some k_ ≠ (.slice Ao34 t168.length co34 : Value).ownBlock) (.slice (some ⟨go19, 0, none⟩) y178.length co37) y182 := (by rw [hw, Ny182.out]; exact HP38.1); clear HP38; have n0_ := Aside0.mk (Kd.R_after (v := (.slice (some ⟨go19, 0, none⟩) y178.length co37)) (v1 := (.slice (some ⟨go19, 0, none⟩) y178.length co37)) (ok := (fun _ => True)) (by (with_reducible repeat (first | apply Kd.R_alloc | apply Kd.R_drewN | apply Kd.R_drew)); exact HO_6.out) hg (.inl rfl)); have n1_ := Aside0.mk (hp_); have n2_ := Aside0.mk ((by rw [hw]; exact below_set (HB.out) GB19.out : Below w.heap.size w w39)); have n3_ := Aside0.mk ((show Kd.C (Kd.int .u8) w39 Ao34 y171.length y171 from by rw [Ny171.out]; exact Kd.C_take (m := (a1 : Int).toNat) ((Kd.R_reads' (Kd.R_after (v := (.slice (some ⟨go19, 0, none⟩) y178.length co37)) (v1 := (.slice (some ⟨go19, 0, none⟩) y178.length co37)) (ok := (fun _ => True)) (by (with_reducible repeat (first | apply Kd.R_alloc | apply Kd.R_drewN | apply Kd.R_drew)); exact HO_6.out) hg (.inl rfl))).2.2) KL33.out)); clear HO_6; clear HO180; clear HB; clear HR174; have HO_6 := n0_; have HO180 := n1_; have HB := n2_; have HR174 := n3_; clear n0_ n1_ n2_ n3_; clear hg hw hp_) | ((with_reducible refine gate_builtin (b := .append) (xs := #[.tmp 52, .tmp 53]) rfl ?_); (try (refine gate_guard (by rfl) ?_; dsimp only)); at_builtin; refine Kd.R_append (Kd.int .u8) (w0 := w) w.heap.size rfl (.tmp 52) (.tmp 53) 23 5 (.int .u8 0) 1 rfl Try.underlying23 info5 rfl (by decide) (by omega) (.slice (some ⟨go19, 0, none⟩) y178.length co37) y182 0 [.int .u8 0] (fun k_ => some k_ ≠ (.slice Ao34 t168.length co34 : Value).ownBlock) (fun _ => False) rfl rfl ?aP (fun _ hk => hk.elim) ?aF ?aO ?aB ?aS ?aL ?_; (case aP => exact rfl); (case aB => exact (by repeat (first | (with_reducible first | exact HB.out | apply below_alloc | apply pw_below_drewN | apply below_drew1) | exact HB.out))); (case aF => exact (fun k_ hk => Kd.fresh' (Kd.R_lt (by (with_reducible repeat (first | apply Kd.R_alloc | apply Kd.R_drewN | apply Kd.R_drew)); exact HO_6.out)) k_ hk)); (case aO => exact (by (with_reducible repeat (first | apply Kd.R_alloc | apply Kd.R_drewN | apply Kd.R_drew)); exact HO180.out)); (case aS => exact (below_size (by repeat (first | (with_reducible first | exact HB.out | apply below_alloc | apply pw_below_drewN | apply below_drew1) | exact HB.out)))); (case aL => have := LMc20.out; omega); intro v184 w40 ho hb hg hat; rw [← Ny183.out] at ho; have n0_ := Aside0.mk (Kd.R_after (ok := (fun _ => True)) (by (with_reducible repeat (first | apply Kd.R_alloc | apply Kd.R_drewN | apply Kd.R_drew)); exact HO_6.out) hg hat); have n1_ := Aside0.mk (hb); have n2_ := Aside0.mk ((show Kd.C (Kd.int .u8) w40 Ao34 y171.length y171 from by rw [Ny171.out]; exact Kd.C_take (m := (a1 : Int).toNat) ((Kd.R_reads' (Kd.R_after (ok := (fun _ => True)) (by (with_reducible repeat (first | apply Kd.R_alloc | apply Kd.R_drewN | apply Kd.R_drew)); exact HO_6.out) hg hat)).2.2) KL33.out)); have n3_ := Aside0.mk (ho); clear HO_6; clear HB; clear HR174; clear HO180; have HO_6 := n0_; have HB := n1_; have HR174 := n2_; have HO185 := n3_; clear n0_ n1_ n2_ n3_; clear ho hb hg hat; obtain ⟨Ao41, co41, eo41⟩ := Kd.R_slice HO185.out; subst eo41) | ((with_reducible refine gate_callee (f := 13) rfl ?_); refine goesL_ (some 57) rfl rfl Try.func13 (by kernel_rfl) rfl #[.slice Ao41 y183.length co41] rfl (by (try simp only [List.map_toArray, List.map_cons, List.map_nil]); first | done | rfl | (simp only [List.length_drop, List.length_take]; rfl)) ?_; (with_reducible refine (le_Get.calls kj4 _ _ y183 t186 t187 t188 _ ?side1 ?side2 A21.out).mono ?_); (case side1 => repeat (first | exact (Kd.R_reads' HO185.out).2.2 | (with_reducible refine Kd.C_alloc ?_ _) | (with_reducible refine Kd.C_drewN ?_ _) | (with_reducible refine Kd.C_drew ?_))); (case side2 => exact (Kd.R_reads' HO185.out).2.1); rintro e w42 ⟨rfl, hb⟩; refine ⟨_, rfl, ?_⟩; have n0_ := Aside0.mk (Kd.R_below (by (with_reducible repeat (first | apply Kd.R_alloc | apply Kd.R_drewN | apply Kd.R_drew)); exact HO_6.out) hb); have n1_ := Aside0.mk (Kd.R_below (by (with_reducible repeat (first | apply Kd.R_alloc | apply Kd.R_drewN | apply Kd.R_drew)); exact HO185.out) hb); have n2_ := Aside0.mk (Kd.C_below (by repeat (first | (with_reducible exact HR174.out) | (with_reducible refine Kd.C_alloc ?_ _) | (with_reducible refine Kd.C_drewN ?_ _) | (with_reducible refine Kd.C_drew ?_) | exact HR174.out)) hb); have n3_ := Aside0.mk (below_step (by repeat (first | (with_reducible first | exact HB.out | apply below_alloc | apply pw_below_drewN | apply below_drew1) | exact HB.out)) hb); clear HO_6; clear HO185; clear HR174; clear HB; have HO_6 := n0_; have HO185 := n1_; have HR174 := n2_; have HB := n3_; clear n0_ n1_ n2_ n3_; (try clear hb); (try clear hb2); (try clear hk); (try clear hi)))
                      go_ret
                      exact ⟨by first | rfl | (simp [errW_none, errW_some] <;> rfl) | (simp only [← hji16]; first | rfl | (simp [errW_none, errW_some] <;> rfl)) | (simp [*, errW_none, errW_some] <;> rfl), by repeat (first | (with_reducible first | exact HB.out | apply below_alloc | apply pw_below_drewN | apply below_drew1) | exact HB.out)⟩
                  · rw [if_neg c20] at H
                    exact absurd H (by simp)
                · rw [if_neg c18] at H
                  exact absurd H (by simp)
              · rw [if_neg c17] at H
                exact absurd H (by simp)
            · rw [if_neg c15] at H
              exact absurd H (by simp)
          · rw [if_neg c13] at H
            exact absurd H (by simp)
        · rw [if_neg c12] at H
          exact absurd H (by simp)

/-- THE ONE PURE STATEMENT of towncrierlaw01_LeCut: yours. -/
def towncrierlaw01_LeCut.Pure : Prop := ∀ (a0 : Int) (a1 : Int), (Lit.int .u64 a0).wf = true → (Lit.int .i64 a1).wf = true → ∃ k, towncrierlaw01_LeCut.f k a0 a1 = some true
theorem towncrierlaw01_LeCut.walk (P : towncrierlaw01_LeCut.Pure) (a0 : Int) (a1 : Int) (w : World) (w0 : (Lit.int .u64 a0).wf = true) (w1 : (Lit.int .i64 a1).wf = true) :
    Calls Try.prog 7 #[.int .u64 a0, .int .i64 a1] w fun e w' => e = .returned (.bool true) ∧ Below w.heap.size w w' := by
  obtain ⟨k, h⟩ := P a0 a1 w0 w1
  refine (towncrierlaw01_LeCut.calls k a0 a1 true w h).mono ?_
  rintro e w' ⟨rfl, hd⟩
  exact ⟨rfl, hd⟩

end Go.Proofs.Ytnmpojodadlnmaa.X
