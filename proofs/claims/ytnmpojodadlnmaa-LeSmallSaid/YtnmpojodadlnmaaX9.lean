/- Functions of the translation as plain Lean functions, and proofs that the calls come to what these say. No condition. Written by a program of this session (wip/xprint.py); not trusted: Lean checks it. -/
import Derived.Test.YtnmpojodadlnmaaX0
import Derived.Test.YtnmpojodadlnmaaX1
import Derived.Test.YtnmpojodadlnmaaX5
namespace Go.Proofs.Ytnmpojodadlnmaa.X
open Go.RowKit Go.Proofs.YtnmpojodadlnmaaW.PrintWords Go.Proofs.YtnmpojodadlnmaaW.PrintLast Go.Proofs.YtnmpojodadlnmaaW.PrintMore
attribute [local go_sem] max2_int min2_int max_two min_two max_three min_three max_four min_four   -- for this text's walks alone
set_option linter.unusedVariables false
set_option linter.unusedSimpArgs false

/-! ### towncrierlaw01_LeSmall: function 6 -/
def towncrierlaw01_LeSmall.l0 : Nat → Bool → List Int → Int → Int → Option (Bool)
  | 0, _, _, _, _ => none
  | k + 1, x3, x4, x5, x6 => if x6 ≥ 128 then (towncrierlaw01_LeSmall.l0 k x3 x4 (wrap64 (x5 + 1)) (IntKind.u64.wrap (Int.tdiv x6 128))) else (if x3 = true then (if (x4.length : Int) = x5 then (if 0 ≤ (wrap64 ((x4.length : Int) - 1)) then (if (wrap64 ((x4.length : Int) - 1)) < (x4.length : Int) then (some (decide ((rd x4 (wrap64 ((x4.length : Int) - 1))) < 128))) else (none)) else (none)) else (some false)) else (some false))
def towncrierlaw01_LeSmall.f (k : Nat) (a0 : Int) : Option (Bool) := (towncrierlaw01_awake.f k).bind fun t162 => ((le_Put.f k a0).bind fun t163 => (towncrierlaw01_LeSmall.l0 k t162 t163 1 a0))
theorem towncrierlaw01_LeSmall.mono_l : ∀ k, (∀ y0 y1 y2 y3, LeO (towncrierlaw01_LeSmall.l0 k y0 y1 y2 y3) (towncrierlaw01_LeSmall.l0 (k + 1) y0 y1 y2 y3))
  | 0 => fun _ _ _ _ r h => by simp [towncrierlaw01_LeSmall.l0] at h
  | k + 1 => by
    have ih0 := towncrierlaw01_LeSmall.mono_l k
    · intro y0 y1 y2 y3
      unfold towncrierlaw01_LeSmall.l0
      repeat' first
      | (with_reducible exact ih0 _ _ _ _)
      | (with_reducible exact le_Put.mono _ _)
      | (with_reducible exact towncrierlaw01_awake.mono _)
      | (with_reducible exact LeO.refl _)
      | (with_reducible exact LeO.none _)
      | (with_reducible refine LeO.ite ?_ ?_)
      | (with_reducible refine LeO.bind ?_ (fun _ => ?_))
      | exact ih0 _ _ _ _
      | exact le_Put.mono _ _
      | exact towncrierlaw01_awake.mono _
      | exact LeO.none _
      | refine LeO.ite ?_ ?_
      | refine LeO.bind ?_ (fun _ => ?_)
theorem towncrierlaw01_LeSmall.mono : ∀ a0 k, LeO (towncrierlaw01_LeSmall.f k a0) (towncrierlaw01_LeSmall.f (k + 1) a0) := by
  intro a0 k
  have ih0 := towncrierlaw01_LeSmall.mono_l k
  unfold towncrierlaw01_LeSmall.f
  repeat' first
      | (with_reducible exact ih0 _ _ _ _)
      | (with_reducible exact le_Put.mono _ _)
      | (with_reducible exact towncrierlaw01_awake.mono _)
      | (with_reducible exact LeO.refl _)
      | (with_reducible exact LeO.none _)
      | (with_reducible refine LeO.ite ?_ ?_)
      | (with_reducible refine LeO.bind ?_ (fun _ => ?_))
      | exact ih0 _ _ _ _
      | exact le_Put.mono _ _
      | exact towncrierlaw01_awake.mono _
      | exact LeO.none _
      | refine LeO.ite ?_ ?_
      | refine LeO.bind ?_ (fun _ => ?_)
set_option maxHeartbeats 8000000 in
set_option maxRecDepth 100000 in
theorem towncrierlaw01_LeSmall.calls (k : Nat) (a0 : Int) (r : Bool) (w : World) (h : towncrierlaw01_LeSmall.f k a0 = some r) :
    Calls Try.prog 6 #[.int .u64 a0] w fun e w' => e = .returned (.bool r) ∧ Below w.heap.size w w' := by
  have HB := Aside0.mk (Below.refl w.heap.size w)
  have H : ((towncrierlaw01_awake.f k).bind fun t162 => ((le_Put.f k a0).bind fun t163 => (towncrierlaw01_LeSmall.l0 k t162 t163 1 a0))) = some r := h
  clear h
  replace H := Option.bind_eq_some_iff.mp H
  obtain ⟨t162, A20, H⟩ := H
  replace H : ((le_Put.f k a0).bind fun t163 => (towncrierlaw01_LeSmall.l0 k t162 t163 1 a0)) = some r := H
  have A2 := Aside0.mk A20
  clear A20
  replace H := Option.bind_eq_some_iff.mp H
  obtain ⟨t163, A30, H⟩ := H
  replace H : (towncrierlaw01_LeSmall.l0 k t162 t163 1 a0) = some r := H
  have A3 := Aside0.mk A30
  clear A30
  have H' := Aside0.mk H
  clear H
  go_enter Try.func6, Try.ntmps6
  go_wp2_with (first | ((with_reducible refine gate_callee (f := 11) rfl ?_); refine goesL_ (some 7) rfl rfl Try.func11 (by kernel_rfl) rfl #[] rfl (by (try simp only [List.map_toArray, List.map_cons, List.map_nil]); first | done | rfl | (simp only [List.length_drop, List.length_take]; rfl)) ?_; (with_reducible refine (towncrierlaw01_awake.calls k  t162 _ A2.out).mono ?_); rintro e w4 ⟨rfl, hb⟩; refine ⟨_, rfl, ?_⟩; have n0_ := Aside0.mk (below_step (by repeat (first | (with_reducible first | exact HB.out | apply below_alloc | apply pw_below_drewN | apply below_drew1) | exact HB.out)) hb); clear HB; have HB := n0_; clear n0_; (try clear hb); (try clear hb2); (try clear hk); (try clear hi)) | ((with_reducible refine gate_callee (f := 12) rfl ?_); refine goesL_ (some 9) rfl rfl Try.func12 (by kernel_rfl) rfl #[.int .u64 a0] rfl (by (try simp only [List.map_toArray, List.map_cons, List.map_nil]); first | done | rfl | (simp only [List.length_drop, List.length_take]; rfl)) ?_; (with_reducible refine (le_Put.calls k a0 t163 _ A3.out).mono ?_); rintro e w5 ⟨v164, rfl, ho0, hb⟩; refine ⟨_, rfl, ?_⟩; have n0_ := Aside0.mk (Kd.R_lower ho0 (below_size (by repeat (first | (with_reducible first | exact HB.out | apply below_alloc | apply pw_below_drewN | apply below_drew1) | exact HB.out)))); have n1_ := Aside0.mk (below_step (by repeat (first | (with_reducible first | exact HB.out | apply below_alloc | apply pw_below_drewN | apply below_drew1) | exact HB.out)) hb); clear HB; have HO165 := n0_; have HB := n1_; clear n0_ n1_; (try clear hb); (try clear hb2); (try clear hk); (try clear hi); (try clear ho0)))
  go_loopg [5, 6] k (fun kq v5 v6 w' => ∃ (x5_1 : Int) (x6_1 : Int), v5 = .int .i64 x5_1 ∧ v6 = .int .u64 x6_1 ∧ Aside0 (towncrierlaw01_LeSmall.l0 kq t162 t163 x5_1 x6_1 = some r) ∧ Aside0 (kq ≤ k) ∧ Aside0 (Kd.R (Kd.int .u8) 5 w' w.heap.size (fun _ => True) v164 t163) ∧ Aside0 (Below w.heap.size w w'))
  case atStart => exact ⟨(1), (a0), (by first | rfl | (simp; done) | (simp [*]; done)), (by first | rfl | (simp; done) | (simp [*]; done)), H', ⟨Nat.le_refl _⟩, ⟨by (with_reducible repeat (first | apply Kd.R_alloc | apply Kd.R_drewN | apply Kd.R_drew)); exact HO165.out⟩, ⟨by repeat (first | (with_reducible first | exact HB.out | apply below_alloc | apply pw_below_drewN | apply below_drew1) | exact HB.out)⟩⟩
  case round =>
    clear H'
    try clear c1
    try clear p2
    obtain ⟨x5_1, x6_1, rfl, rfl, HA, HK1, HO_4, HB⟩ := hrel
    cases gk with
    | zero => exact absurd HA.out (by simp [towncrierlaw01_LeSmall.l0])
    | succ k1 =>
      have H := HA.out
      clear HA
      simp only [towncrierlaw01_LeSmall.l0] at H
      by_cases c6 : x6_1 ≥ 128
      · rw [if_pos c6] at H
        have c6b0 : decide (128 ≤ x6_1) = true := decide_eq_true c6
        clear c6
        have H' := Aside0.mk H
        clear H
        go_wp2
        go_roundg k1
        case measure => have := HK1.out; omega
        case rel => exact ⟨(wrap64 (x5_1 + 1)), (IntKind.u64.wrap (Int.tdiv x6_1 128)), (by first | rfl | (simp; done) | (simp [*]; done)), (by first | rfl | (simp; done) | (simp [*]; done)), H', ⟨by have := HK1.out; omega⟩, ⟨by (with_reducible repeat (first | apply Kd.R_alloc | apply Kd.R_drewN | apply Kd.R_drew)); exact HO_4.out⟩, ⟨by repeat (first | (with_reducible first | exact HB.out | apply below_alloc | apply pw_below_drewN | apply below_drew1) | exact HB.out)⟩⟩
      · rw [if_neg c6] at H
        have c6b0 : decide (128 ≤ x6_1) = false := decide_eq_false c6
        clear c6
        by_cases c7 : t162 = true
        · subst c7
          have H1 : (if (t163.length : Int) = x5_1 then (if 0 ≤ (wrap64 ((t163.length : Int) - 1)) then (if (wrap64 ((t163.length : Int) - 1)) < (t163.length : Int) then (some (decide ((rd t163 (wrap64 ((t163.length : Int) - 1))) < 128))) else (none)) else (none)) else (some false)) = some r := by rw [if_pos rfl] at H; exact H
          clear H
          have H := H1
          clear H1
          by_cases c8 : (t163.length : Int) = x5_1
          · rw [if_pos c8] at H
            have c8b0 : ((t163.length : Int) == x5_1) = true := beq_iff_eq.mpr c8
            have c8b1 : ((t163.length : Int) != x5_1) = false := bne_eq_false_iff_eq.mpr c8
            clear c8
            obtain ⟨ji9, hji9⟩ : ∃ j_ : Int, (wrap64 ((t163.length : Int) - 1)) = j_ := ⟨_, rfl⟩
            replace H : (if 0 ≤ (ji9) then (if (ji9) < (t163.length : Int) then (some (decide ((rd t163 (ji9)) < 128))) else (none)) else (none)) = some r := by first | (rw [hji9] at H; exact H) | (simp only [hji9] at H ⊢; exact H)
            have hji9w : (IntKind.i64.wrap ((t163.length : Int) - 1)) = ji9 := (i64_w _).trans hji9
            by_cases c10 : 0 ≤ (ji9)
            · rw [if_pos c10] at H
              have c10b0 : decide (0 ≤ (ji9)) = true := decide_eq_true c10
              clear c10
              by_cases c11 : (ji9) < (t163.length : Int)
              · rw [if_pos c11] at H
                have c11b0 : decide ((ji9) < (t163.length : Int)) = true := decide_eq_true c11
                clear c11
                obtain rfl := Option.some.inj H
                obtain ⟨Ao12, co12, eo12⟩ := Kd.R_slice HO_4.out
                subst eo12
                have p166 : 0 ≤ ((ji9) : Int) := of_decide_eq_true (by first | (with_reducible assumption) | assumption)
                have q166 : (ji9) < (t163.length : Int) := of_decide_eq_true (by first | (with_reducible assumption) | assumption)
                obtain ⟨ad166, e166, hx166_0⟩ := Kd.at_int (Kd.R_reads' HO_4.out).2.2 (ji9) p166 q166
                cases e166
                replace p166 := eq_true p166
                replace q166 := eq_true q166
                go_wp2
                go_ret
                exact ⟨by first | rfl | (simp [errW_none, errW_some] <;> rfl) | (simp only [← hji9]; first | rfl | (simp [errW_none, errW_some] <;> rfl)) | (simp [*, errW_none, errW_some] <;> rfl), by repeat (first | (with_reducible first | exact HB.out | apply below_alloc | apply pw_below_drewN | apply below_drew1) | exact HB.out)⟩
              · rw [if_neg c11] at H
                exact absurd H (by simp)
            · rw [if_neg c10] at H
              exact absurd H (by simp)
          · rw [if_neg c8] at H
            have c8b0 : ((t163.length : Int) == x5_1) = false := beq_eq_false_iff_ne.mpr c8
            have c8b1 : ((t163.length : Int) != x5_1) = true := bne_iff_ne.mpr c8
            obtain rfl := Option.some.inj H
            obtain ⟨Ao13, co13, eo13⟩ := Kd.R_slice HO_4.out
            subst eo13
            go_wp2
            go_ret
            exact ⟨by first | rfl | (simp [errW_none, errW_some] <;> rfl) | (simp [*, errW_none, errW_some] <;> rfl), by repeat (first | (with_reducible first | exact HB.out | apply below_alloc | apply pw_below_drewN | apply below_drew1) | exact HB.out)⟩
        · replace c7 := Bool.eq_false_iff.mpr c7
          subst c7
          have H1 : (some false) = some r := by rw [if_neg (show ¬ (false = true) by decide)] at H; exact H
          clear H
          have H := H1
          clear H1
          obtain rfl := Option.some.inj H
          go_wp2
          go_ret
          exact ⟨by first | rfl | (simp [errW_none, errW_some] <;> rfl) | (simp [*, errW_none, errW_some] <;> rfl), by repeat (first | (with_reducible first | exact HB.out | apply below_alloc | apply pw_below_drewN | apply below_drew1) | exact HB.out)⟩

/-- THE ONE PURE STATEMENT of towncrierlaw01_LeSmall: yours. -/
def towncrierlaw01_LeSmall.Pure : Prop := ∀ (a0 : Int), (Lit.int .u64 a0).wf = true → ∃ k, towncrierlaw01_LeSmall.f k a0 = some true
theorem towncrierlaw01_LeSmall.walk (P : towncrierlaw01_LeSmall.Pure) (a0 : Int) (w : World) (w0 : (Lit.int .u64 a0).wf = true) :
    Calls Try.prog 6 #[.int .u64 a0] w fun e w' => e = .returned (.bool true) ∧ Below w.heap.size w w' := by
  obtain ⟨k, h⟩ := P a0 w0
  refine (towncrierlaw01_LeSmall.calls k a0 true w h).mono ?_
  rintro e w' ⟨rfl, hd⟩
  exact ⟨rfl, hd⟩

end Go.Proofs.Ytnmpojodadlnmaa.X
