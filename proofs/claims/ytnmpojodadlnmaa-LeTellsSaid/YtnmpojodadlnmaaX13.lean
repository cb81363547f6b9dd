/- Functions of the translation as plain Lean functions, and proofs that the calls come to what these say. No condition. Written by a program of this session (wip/xprint.py); not trusted: Lean checks it. -/
import Derived.Test.YtnmpojodadlnmaaX0
import Derived.Test.YtnmpojodadlnmaaX12
namespace Go.Proofs.Ytnmpojodadlnmaa.X
open Go.RowKit Go.Proofs.YtnmpojodadlnmaaW.PrintWords Go.Proofs.YtnmpojodadlnmaaW.PrintLast Go.Proofs.YtnmpojodadlnmaaW.PrintMore
attribute [local go_sem] max2_int min2_int max_two min_two max_three min_three max_four min_four   -- for this text's walks alone
set_option linter.unusedVariables false
set_option linter.unusedSimpArgs false

/-! ### towncrierref01_Get: function 16 -/
mutual
def towncrierref01_Get.l0 : Nat → List Int → Int → Int → Int → Option (Int × Int × Bool)
  | 0, _, _, _, _ => none
  | k + 1, x0, x5, x6, x7 => if x7 < (x0.length : Int) then (towncrierref01_Get.j1 k x0 x5 x6 x7 (decide (x7 < 10))) else (towncrierref01_Get.j1 k x0 x5 x6 x7 false)
def towncrierref01_Get.j1 : Nat → List Int → Int → Int → Int → Bool → Option (Int × Int × Bool)
  | 0, _, _, _, _, _ => none
  | k + 1, x0, x5, x6, x7, x16 => if x16 = true then (if 0 ≤ x7 then (if x7 < (x0.length : Int) then (if (rd x0 x7) < 128 then ((towncrierref01_Put.f k (IntKind.u64.wrap (x5 + (IntKind.u64.wrap ((IntKind.u64.wrap (Int.tmod (rd x0 x7) 128)) * x6))))).bind fun t205 => (if 0 ≤ (wrap64 (x7 + 1)) then (if (wrap64 (x7 + 1)) ≤ (x0.length : Int) then (if (strOfNums t205).toList = (strOfNums (x0.take ((wrap64 (x7 + 1)) : Int).toNat)).toList then (some (IntKind.u64.wrap (x5 + (IntKind.u64.wrap ((IntKind.u64.wrap (Int.tmod (rd x0 x7) 128)) * x6))), wrap64 (x7 + 1), true)) else (some (0, 0, false))) else (none)) else (none))) else (towncrierref01_Get.l0 k x0 (IntKind.u64.wrap (x5 + (IntKind.u64.wrap ((IntKind.u64.wrap (Int.tmod (rd x0 x7) 128)) * x6)))) (IntKind.u64.wrap (x6 * 128)) (wrap64 (x7 + 1)))) else (none)) else (none)) else (some (0, 0, false))
end
def towncrierref01_Get.f (k : Nat) (l0 : List Int) : Option (Int × Int × Bool) := towncrierref01_Get.l0 k l0 0 1 0
theorem towncrierref01_Get.mono_l : ∀ k, (∀ y0 y1 y2 y3, LeO (towncrierref01_Get.l0 k y0 y1 y2 y3) (towncrierref01_Get.l0 (k + 1) y0 y1 y2 y3)) ∧ (∀ y0 y1 y2 y3 y4, LeO (towncrierref01_Get.j1 k y0 y1 y2 y3 y4) (towncrierref01_Get.j1 (k + 1) y0 y1 y2 y3 y4))
  | 0 => ⟨fun _ _ _ _ r h => by simp [towncrierref01_Get.l0] at h, fun _ _ _ _ _ r h => by simp [towncrierref01_Get.j1] at h⟩
  | k + 1 => by
    obtain ⟨ih0, ih1⟩ := towncrierref01_Get.mono_l k
    refine ⟨?_, ?_⟩
    · intro y0 y1 y2 y3
      unfold towncrierref01_Get.l0
      repeat' first
      | (with_reducible exact ih0 _ _ _ _)
      | (with_reducible exact ih1 _ _ _ _ _)
      | (with_reducible exact towncrierref01_Put.mono _ _)
      | (with_reducible exact LeO.refl _)
      | (with_reducible exact LeO.none _)
      | (with_reducible refine LeO.ite ?_ ?_)
      | (with_reducible refine LeO.bind ?_ (fun _ => ?_))
      | exact ih0 _ _ _ _
      | exact ih1 _ _ _ _ _
      | exact towncrierref01_Put.mono _ _
      | exact LeO.none _
      | refine LeO.ite ?_ ?_
      | refine LeO.bind ?_ (fun _ => ?_)
    · intro y0 y1 y2 y3 y4
      unfold towncrierref01_Get.j1
      repeat' first
      | (with_reducible exact ih0 _ _ _ _)
      | (with_reducible exact ih1 _ _ _ _ _)
      | (with_reducible exact towncrierref01_Put.mono _ _)
      | (with_reducible exact LeO.refl _)
      | (with_reducible exact LeO.none _)
      | (with_reducible refine LeO.ite ?_ ?_)
      | (with_reducible refine LeO.bind ?_ (fun _ => ?_))
      | exact ih0 _ _ _ _
      | exact ih1 _ _ _ _ _
      | exact towncrierref01_Put.mono _ _
      | exact LeO.none _
      | refine LeO.ite ?_ ?_
      | refine LeO.bind ?_ (fun _ => ?_)
theorem towncrierref01_Get.mono : ∀ a0 k, LeO (towncrierref01_Get.f k a0) (towncrierref01_Get.f (k + 1) a0) := by
  intro a0 k
  obtain ⟨ih0, ih1⟩ := towncrierref01_Get.mono_l k
  unfold towncrierref01_Get.f
  repeat' first
      | (with_reducible exact ih0 _ _ _ _)
      | (with_reducible exact ih1 _ _ _ _ _)
      | (with_reducible exact towncrierref01_Put.mono _ _)
      | (with_reducible exact LeO.refl _)
      | (with_reducible exact LeO.none _)
      | (with_reducible refine LeO.ite ?_ ?_)
      | (with_reducible refine LeO.bind ?_ (fun _ => ?_))
      | exact ih0 _ _ _ _
      | exact ih1 _ _ _ _ _
      | exact towncrierref01_Put.mono _ _
      | exact LeO.none _
      | refine LeO.ite ?_ ?_
      | refine LeO.bind ?_ (fun _ => ?_)
set_option maxHeartbeats 8000000 in
set_option maxRecDepth 100000 in
theorem towncrierref01_Get.calls (k : Nat) (A0 : Option Addr) (c0 : Nat) (l0 : List Int) (r1 : Int) (r2 : Int) (r3 : Bool) (w : World) (hr0 : Kd.C (Kd.int .u8) w A0 l0.length l0) (hc0 : l0.length ≤ c0) (h : towncrierref01_Get.f k l0 = some (r1, r2, r3)) :
    Calls Try.prog 16 #[.slice A0 l0.length c0] w fun e w' => e = .returned (.tuple #[.int .u64 r1, .int .i64 r2, .bool r3]) ∧ Below w.heap.size w w' := by
  have HR0 := Aside0.mk hr0
  have HC0 := Aside0.mk hc0
  clear hr0 hc0
  have HB := Aside0.mk (Below.refl w.heap.size w)
  have H : (towncrierref01_Get.l0 k l0 0 1 0) = some (r1, r2, r3) := h
  clear h
  have H' := Aside0.mk H
  clear H
  go_enter Try.func16, Try.ntmps16
  go_wp2
  repeat (go_quiet (fail); try go_wp2)
  go_loopg [5, 6, 7] k (fun kq v5 v6 v7 w' => ∃ (x5_1 : Int) (x6_1 : Int) (x7_1 : Int), v5 = .int .u64 x5_1 ∧ v6 = .int .u64 x6_1 ∧ v7 = .int .i64 x7_1 ∧ Aside0 (towncrierref01_Get.l0 kq l0 x5_1 x6_1 x7_1 = some (r1, r2, r3)) ∧ Aside0 (kq ≤ k) ∧ Aside0 (Below w.heap.size w w'))
  case atStart => exact ⟨(0), (1), (0), (by first | rfl | (simp; done) | (simp [*]; done) | exact congrArg Value.bool ((fun l : List UInt8 => by cases l <;> rfl : ∀ l : List UInt8, (!l.isEmpty) = (l != [])) _)), (by first | rfl | (simp; done) | (simp [*]; done) | exact congrArg Value.bool ((fun l : List UInt8 => by cases l <;> rfl : ∀ l : List UInt8, (!l.isEmpty) = (l != [])) _)), (by first | rfl | (simp; done) | (simp [*]; done) | exact congrArg Value.bool ((fun l : List UInt8 => by cases l <;> rfl : ∀ l : List UInt8, (!l.isEmpty) = (l != [])) _)), H', ⟨Nat.le_refl _⟩, ⟨by repeat (first | (with_reducible first | exact HB.out | apply below_alloc | apply pw_below_drewN | apply below_drew1) | exact HB.out)⟩⟩
  case round =>
    clear H'
    try clear c1
    obtain ⟨x5_1, x6_1, x7_1, rfl, rfl, rfl, HA, HK1, HB⟩ := hrel
    cases gk with
    | zero => exact absurd HA.out (by simp [towncrierref01_Get.l0])
    | succ k1 =>
      have H := HA.out
      clear HA
      simp only [towncrierref01_Get.l0] at H
      have HC2 := Aside0.mk H
      clear H
      go_upto_region 4 with (fail)
      repeat (go_quiet (fail); go_upto_region 4 with (fail))
      go_cut [16] (fun v16 wc => ∃ (kq : Nat) (x16_1 : Bool), v16 = .bool x16_1 ∧ Aside0 (towncrierref01_Get.j1 kq l0 x5_1 x6_1 x7_1 x16_1 = some (r1, r2, r3)) ∧ Aside0 (kq ≤ k1) ∧ Aside0 (Below w.heap.size w wc))
      case first =>
        have H := HC2.out
        clear HC2
        by_cases c3 : x7_1 < (l0.length : Int)
        · rw [if_pos c3] at H
          have c3b0 : decide (x7_1 < (l0.length : Int)) = true := decide_eq_true c3
          clear c3
          (first | rw [c3b0] | (simp only [i64_w, i32_w]; rw [c3b0]) | skip)
          have H' := Aside0.mk H
          clear H
          go_wp2
          repeat (go_quiet (fail); try go_wp2)
          go_meet
          case rel => exact ⟨_, (decide (x7_1 < 10)), (by first | rfl | (simp; done) | (simp [*]; done) | exact congrArg Value.bool ((fun l : List UInt8 => by cases l <;> rfl : ∀ l : List UInt8, (!l.isEmpty) = (l != [])) _)), H', ⟨by have := HK1.out; first | omega | exact Nat.le_refl _⟩, ⟨by repeat (first | (with_reducible first | exact HB.out | apply below_alloc | apply pw_below_drewN | apply below_drew1) | exact HB.out)⟩⟩
        · rw [if_neg c3] at H
          have c3b0 : decide (x7_1 < (l0.length : Int)) = false := decide_eq_false c3
          clear c3
          (first | rw [c3b0] | (simp only [i64_w, i32_w]; rw [c3b0]) | skip)
          have H' := Aside0.mk H
          clear H
          go_wp2
          repeat (go_quiet (fail); try go_wp2)
          go_meet
          case rel => exact ⟨_, (false), (by first | rfl | (simp; done) | (simp [*]; done) | exact congrArg Value.bool ((fun l : List UInt8 => by cases l <;> rfl : ∀ l : List UInt8, (!l.isEmpty) = (l != [])) _)), H', ⟨by have := HK1.out; first | omega | exact Nat.le_refl _⟩, ⟨by repeat (first | (with_reducible first | exact HB.out | apply below_alloc | apply pw_below_drewN | apply below_drew1) | exact HB.out)⟩⟩
      case rest =>
        clear HC2
        try clear c1
        try clear p2
        try clear c3
        try clear c3b0
        obtain ⟨kq, x16_1, rfl, HA, HJ1, HB⟩ := hcut
        cases kq with
        | zero => exact absurd HA.out (by simp [towncrierref01_Get.j1])
        | succ kj1 =>
          have H := HA.out
          clear HA
          simp only [towncrierref01_Get.j1] at H
          by_cases c4 : x16_1 = true
          · subst c4
            have H1 : (if 0 ≤ x7_1 then (if x7_1 < (l0.length : Int) then (if (rd l0 x7_1) < 128 then ((towncrierref01_Put.f kj1 (IntKind.u64.wrap (x5_1 + (IntKind.u64.wrap ((IntKind.u64.wrap (Int.tmod (rd l0 x7_1) 128)) * x6_1))))).bind fun t205 => (if 0 ≤ (wrap64 (x7_1 + 1)) then (if (wrap64 (x7_1 + 1)) ≤ (l0.length : Int) then (if (strOfNums t205).toList = (strOfNums (l0.take ((wrap64 (x7_1 + 1)) : Int).toNat)).toList then (some (IntKind.u64.wrap (x5_1 + (IntKind.u64.wrap ((IntKind.u64.wrap (Int.tmod (rd l0 x7_1) 128)) * x6_1))), wrap64 (x7_1 + 1), true)) else (some (0, 0, false))) else (none)) else (none))) else (towncrierref01_Get.l0 kj1 l0 (IntKind.u64.wrap (x5_1 + (IntKind.u64.wrap ((IntKind.u64.wrap (Int.tmod (rd l0 x7_1) 128)) * x6_1)))) (IntKind.u64.wrap (x6_1 * 128)) (wrap64 (x7_1 + 1)))) else (none)) else (none)) = some (r1, r2, r3) := by rw [if_pos rfl] at H; exact H
            clear H
            have H := H1
            clear H1
            by_cases c5 : 0 ≤ x7_1
            · rw [if_pos c5] at H
              have c5b0 : decide (0 ≤ x7_1) = true := decide_eq_true c5
              clear c5
              by_cases c6 : x7_1 < (l0.length : Int)
              · rw [if_pos c6] at H
                have c6b0 : decide (x7_1 < (l0.length : Int)) = true := decide_eq_true c6
                clear c6
                by_cases c7 : (rd l0 x7_1) < 128
                · rw [if_pos c7] at H
                  have c7b0 : decide ((rd l0 x7_1) < 128) = true := decide_eq_true c7
                  clear c7
                  replace H := Option.bind_eq_some_iff.mp H
                  obtain ⟨t205, A80, H⟩ := H
                  replace H : (if 0 ≤ (wrap64 (x7_1 + 1)) then (if (wrap64 (x7_1 + 1)) ≤ (l0.length : Int) then (if (strOfNums t205).toList = (strOfNums (l0.take ((wrap64 (x7_1 + 1)) : Int).toNat)).toList then (some (IntKind.u64.wrap (x5_1 + (IntKind.u64.wrap ((IntKind.u64.wrap (Int.tmod (rd l0 x7_1) 128)) * x6_1))), wrap64 (x7_1 + 1), true)) else (some (0, 0, false))) else (none)) else (none)) = some (r1, r2, r3) := H
                  have A8 := Aside0.mk A80
                  clear A80
                  obtain ⟨ji9, hji9⟩ : ∃ j_ : Int, (wrap64 (x7_1 + 1)) = j_ := ⟨_, rfl⟩
                  replace H : (if 0 ≤ (ji9) then (if (ji9) ≤ (l0.length : Int) then (if (strOfNums t205).toList = (strOfNums (l0.take ((ji9) : Int).toNat)).toList then (some (IntKind.u64.wrap (x5_1 + (IntKind.u64.wrap ((IntKind.u64.wrap (Int.tmod (rd l0 x7_1) 128)) * x6_1))), ji9, true)) else (some (0, 0, false))) else (none)) else (none)) = some (r1, r2, r3) := by first | (rw [hji9] at H; exact H) | (simp only [hji9] at H ⊢; exact H)
                  (try rw [hji9] at A8)
                  have hji9w : (IntKind.i64.wrap (x7_1 + 1)) = ji9 := (i64_w _).trans hji9
                  by_cases c10 : 0 ≤ (ji9)
                  · rw [if_pos c10] at H
                    have c10b0 := eq_true c10
                    have c10b1 : decide (0 ≤ (ji9)) = true := decide_eq_true c10
                    clear c10
                    by_cases c11 : (ji9) ≤ (l0.length : Int)
                    · rw [if_pos c11] at H
                      have c11b0 := eq_true c11
                      have c11b1 : decide ((ji9) ≤ (l0.length : Int)) = true := decide_eq_true c11
                      clear c11
                      by_cases c12 : (strOfNums t205).toList = (strOfNums (l0.take ((ji9) : Int).toNat)).toList
                      · rw [if_pos c12] at H
                        have c12b0 : ((strOfNums t205).toList == (strOfNums (l0.take ((ji9) : Int).toNat)).toList) = true := beq_iff_eq.mpr c12
                        have c12b1 : ((strOfNums t205).toList != (strOfNums (l0.take ((ji9) : Int).toNat)).toList) = false := bne_eq_false_iff_eq.mpr c12
                        clear c12
                        simp only [Option.some.injEq, Prod.mk.injEq] at H
                        obtain ⟨rfl, rfl, rfl⟩ := H
                        have p203 : 0 ≤ (x7_1 : Int) := of_decide_eq_true (by first | (with_reducible assumption) | assumption)
                        have q203 : x7_1 < (l0.length : Int) := of_decide_eq_true (by first | (with_reducible assumption) | assumption)
                        obtain ⟨ad203, e203, hx203_0⟩ := Kd.at_int HR0.out x7_1 p203 q203
                        cases e203
                        replace hx203_0 := (HB.out.cell (World.block_lt_of_cell? w _ hx203_0)).trans hx203_0
                        replace p203 := eq_true p203
                        replace q203 := eq_true q203
                        have p204 : 0 ≤ (x7_1 : Int) := of_decide_eq_true (by first | (with_reducible assumption) | assumption)
                        have q204 : x7_1 < (l0.length : Int) := of_decide_eq_true (by first | (with_reducible assumption) | assumption)
                        obtain ⟨ad204, e204, hx204_0⟩ := Kd.at_int HR0.out x7_1 p204 q204
                        obtain rfl : ad203 = ad204 := (by injection e204)
                        replace hx204_0 := (HB.out.cell (World.block_lt_of_cell? w _ hx204_0)).trans hx204_0
                        replace p204 := eq_true p204
                        replace q204 := eq_true q204
                        go_wp2_with (first | (go_at_call 19; (with_reducible refine (towncrierref01_Put.calls kj1 (IntKind.u64.wrap (x5_1 + (IntKind.u64.wrap ((IntKind.u64.wrap (Int.tmod (rd l0 x7_1) 128)) * x6_1)))) t205 _ A8.out).mono ?_); rintro e w13 ⟨v206, rfl, ho0, hb⟩; have n0_ := Aside0.mk (Kd.R_lower ho0 (below_size (by repeat (first | (with_reducible first | exact HB.out | apply below_alloc | apply pw_below_drewN | apply below_drew1) | exact HB.out)))); have n1_ := Aside0.mk (below_step (by repeat (first | (with_reducible first | exact HB.out | apply below_alloc | apply pw_below_drewN | apply below_drew1) | exact HB.out)) hb); clear HB; have HO207 := n0_; have HB := n1_; clear n0_ n1_; (try clear hb); (try clear hb2); (try clear hk); (try clear hi); (try clear ho0); have hcv14 := own_string (P := Try.prog) Try.underlying23 Try.underlying5 Try.underlying9 (Kd.own_of_R HO207.out); have hcv14q := fun m_ => own_string (P := Try.prog) Try.underlying23 Try.underlying5 Try.underlying9 (Kd.own_of_R (Kd.R_drewN HO207.out m_)); obtain ⟨i015, hi015, _, hsz15, _⟩ := info_parts info5; obtain ⟨hcut15, hA15, hC15⟩ := print_take_of (P := Try.prog) (Value.int .u8) 0 23 5 .i64 Try.underlying23 hi015 hsz15 (some ad203) c0 l0 (ji9) (of_decide_eq_true (by first | (with_reducible assumption) | assumption)) (of_decide_eq_true (by first | (with_reducible assumption) | assumption)) HC0.out; have HR208 := Aside0.mk (Kd.C_of_reads (h1 := fun _ => rfl) (hA15 _ (Kd.reads_of_C HR0.out))); have HC208 := Aside0.mk hC15; clear hA15 hC15 hi015 hsz15; have hcv16 := Kd.C_string (P := Try.prog) (A := (some ad203)) (c := c0) Try.underlying23 Try.underlying5 Try.underlying9 (Kd.C_below HR208.out HB.out); have hcv16q := fun m_ => Kd.C_string (P := Try.prog) (A := (some ad203)) (c := c0) Try.underlying23 Try.underlying5 Try.underlying9 (Kd.C_drewN (Kd.C_below HR208.out HB.out) m_); have hcv16r := hcv16; (try rw [show (l0.take ((ji9) : Int).toNat).length = (ji9).toNat from (by rw [List.length_take]; have h_ : ((ji9) : Int) ≤ (l0.length : Int) := of_decide_eq_true (by first | (with_reducible assumption) | assumption); omega)] at hcv16r); have hcv16t := hcv16q; (try simp only [show (l0.take ((ji9) : Int).toNat).length = (ji9).toNat from (by rw [List.length_take]; have h_ : ((ji9) : Int) ≤ (l0.length : Int) := of_decide_eq_true (by first | (with_reducible assumption) | assumption); omega)] at hcv16t)))
                        repeat (go_quiet (first | (go_at_call 19; (with_reducible refine (towncrierref01_Put.calls kj1 (IntKind.u64.wrap (x5_1 + (IntKind.u64.wrap ((IntKind.u64.wrap (Int.tmod (rd l0 x7_1) 128)) * x6_1)))) t205 _ A8.out).mono ?_); rintro e w13 ⟨v206, rfl, ho0, hb⟩; have n0_ := Aside0.mk (Kd.R_lower ho0 (below_size (by repeat (first | (with_reducible first | exact HB.out | apply below_alloc | apply pw_below_drewN | apply below_drew1) | exact HB.out)))); have n1_ := Aside0.mk (below_step (by repeat (first | (with_reducible first | exact HB.out | apply below_alloc | apply pw_below_drewN | apply below_drew1) | exact HB.out)) hb); clear HB; have HO207 := n0_; have HB := n1_; clear n0_ n1_; (try clear hb); (try clear hb2); (try clear hk); (try clear hi); (try clear ho0); have hcv14 := own_string (P := Try.prog) Try.underlying23 Try.underlying5 Try.underlying9 (Kd.own_of_R HO207.out); have hcv14q := fun m_ => own_string (P := Try.prog) Try.underlying23 Try.underlying5 Try.underlying9 (Kd.own_of_R (Kd.R_drewN HO207.out m_)); obtain ⟨i015, hi015, _, hsz15, _⟩ := info_parts info5; obtain ⟨hcut15, hA15, hC15⟩ := print_take_of (P := Try.prog) (Value.int .u8) 0 23 5 .i64 Try.underlying23 hi015 hsz15 (some ad203) c0 l0 (ji9) (of_decide_eq_true (by first | (with_reducible assumption) | assumption)) (of_decide_eq_true (by first | (with_reducible assumption) | assumption)) HC0.out; have HR208 := Aside0.mk (Kd.C_of_reads (h1 := fun _ => rfl) (hA15 _ (Kd.reads_of_C HR0.out))); have HC208 := Aside0.mk hC15; clear hA15 hC15 hi015 hsz15; have hcv16 := Kd.C_string (P := Try.prog) (A := (some ad203)) (c := c0) Try.underlying23 Try.underlying5 Try.underlying9 (Kd.C_below HR208.out HB.out); have hcv16q := fun m_ => Kd.C_string (P := Try.prog) (A := (some ad203)) (c := c0) Try.underlying23 Try.underlying5 Try.underlying9 (Kd.C_drewN (Kd.C_below HR208.out HB.out) m_); have hcv16r := hcv16; (try rw [show (l0.take ((ji9) : Int).toNat).length = (ji9).toNat from (by rw [List.length_take]; have h_ : ((ji9) : Int) ≤ (l0.length : Int) := of_decide_eq_true (by first | (with_reducible assumption) | assumption); omega)] at hcv16r); have hcv16t := hcv16q; (try simp only [show (l0.take ((ji9) : Int).toNat).length = (ji9).toNat from (by rw [List.length_take]; have h_ : ((ji9) : Int) ≤ (l0.length : Int) := of_decide_eq_true (by first | (with_reducible assumption) | assumption); omega)] at hcv16t))); try go_wp2_with (first | (go_at_call 19; (with_reducible refine (towncrierref01_Put.calls kj1 (IntKind.u64.wrap (x5_1 + (IntKind.u64.wrap ((IntKind.u64.wrap (Int.tmod (rd l0 x7_1) 128)) * x6_1)))) t205 _ A8.out).mono ?_); rintro e w13 ⟨v206, rfl, ho0, hb⟩; have n0_ := Aside0.mk (Kd.R_lower ho0 (below_size (by repeat (first | (with_reducible first | exact HB.out | apply below_alloc | apply pw_below_drewN | apply below_drew1) | exact HB.out)))); have n1_ := Aside0.mk (below_step (by repeat (first | (with_reducible first | exact HB.out | apply below_alloc | apply pw_below_drewN | apply below_drew1) | exact HB.out)) hb); clear HB; have HO207 := n0_; have HB := n1_; clear n0_ n1_; (try clear hb); (try clear hb2); (try clear hk); (try clear hi); (try clear ho0); have hcv14 := own_string (P := Try.prog) Try.underlying23 Try.underlying5 Try.underlying9 (Kd.own_of_R HO207.out); have hcv14q := fun m_ => own_string (P := Try.prog) Try.underlying23 Try.underlying5 Try.underlying9 (Kd.own_of_R (Kd.R_drewN HO207.out m_)); obtain ⟨i015, hi015, _, hsz15, _⟩ := info_parts info5; obtain ⟨hcut15, hA15, hC15⟩ := print_take_of (P := Try.prog) (Value.int .u8) 0 23 5 .i64 Try.underlying23 hi015 hsz15 (some ad203) c0 l0 (ji9) (of_decide_eq_true (by first | (with_reducible assumption) | assumption)) (of_decide_eq_true (by first | (with_reducible assumption) | assumption)) HC0.out; have HR208 := Aside0.mk (Kd.C_of_reads (h1 := fun _ => rfl) (hA15 _ (Kd.reads_of_C HR0.out))); have HC208 := Aside0.mk hC15; clear hA15 hC15 hi015 hsz15; have hcv16 := Kd.C_string (P := Try.prog) (A := (some ad203)) (c := c0) Try.underlying23 Try.underlying5 Try.underlying9 (Kd.C_below HR208.out HB.out); have hcv16q := fun m_ => Kd.C_string (P := Try.prog) (A := (some ad203)) (c := c0) Try.underlying23 Try.underlying5 Try.underlying9 (Kd.C_drewN (Kd.C_below HR208.out HB.out) m_); have hcv16r := hcv16; (try rw [show (l0.take ((ji9) : Int).toNat).length = (ji9).toNat from (by rw [List.length_take]; have h_ : ((ji9) : Int) ≤ (l0.length : Int) := of_decide_eq_true (by first | (with_reducible assumption) | assumption); omega)] at hcv16r); have hcv16t := hcv16q; (try simp only [show (l0.take ((ji9) : Int).toNat).length = (ji9).toNat from (by rw [List.length_take]; have h_ : ((ji9) : Int) ≤ (l0.length : Int) := of_decide_eq_true (by first | (with_reducible assumption) | assumption); omega)] at hcv16t))))
                        go_ret3
                        exact ⟨by first | rfl | (simp [errW_none, errW_some] <;> rfl) | (simp only [← hji9]; first | rfl | (simp [errW_none, errW_some] <;> rfl)) | (simp [*, errW_none, errW_some] <;> rfl), by repeat (first | (with_reducible first | exact HB.out | apply below_alloc | apply pw_below_drewN | apply below_drew1) | exact HB.out)⟩
                      · rw [if_neg c12] at H
                        have c12b0 : ((strOfNums t205).toList == (strOfNums (l0.take ((ji9) : Int).toNat)).toList) = false := beq_eq_false_iff_ne.mpr c12
                        have c12b1 : ((strOfNums t205).toList != (strOfNums (l0.take ((ji9) : Int).toNat)).toList) = true := bne_iff_ne.mpr c12
                        simp only [Option.some.injEq, Prod.mk.injEq] at H
                        obtain ⟨rfl, rfl, rfl⟩ := H
                        have p203 : 0 ≤ (x7_1 : Int) := of_decide_eq_true (by first | (with_reducible assumption) | assumption)
                        have q203 : x7_1 < (l0.length : Int) := of_decide_eq_true (by first | (with_reducible assumption) | assumption)
                        obtain ⟨ad203, e203, hx203_0⟩ := Kd.at_int HR0.out x7_1 p203 q203
                        cases e203
                        replace hx203_0 := (HB.out.cell (World.block_lt_of_cell? w _ hx203_0)).trans hx203_0
                        replace p203 := eq_true p203
                        replace q203 := eq_true q203
                        have p204 : 0 ≤ (x7_1 : Int) := of_decide_eq_true (by first | (with_reducible assumption) | assumption)
                        have q204 : x7_1 < (l0.length : Int) := of_decide_eq_true (by first | (with_reducible assumption) | assumption)
                        obtain ⟨ad204, e204, hx204_0⟩ := Kd.at_int HR0.out x7_1 p204 q204
                        obtain rfl : ad203 = ad204 := (by injection e204)
                        replace hx204_0 := (HB.out.cell (World.block_lt_of_cell? w _ hx204_0)).trans hx204_0
                        replace p204 := eq_true p204
                        replace q204 := eq_true q204
                        go_wp2_with (first | (go_at_call 19; (with_reducible refine (towncrierref01_Put.calls kj1 (IntKind.u64.wrap (x5_1 + (IntKind.u64.wrap ((IntKind.u64.wrap (Int.tmod (rd l0 x7_1) 128)) * x6_1)))) t205 _ A8.out).mono ?_); rintro e w17 ⟨v206, rfl, ho0, hb⟩; have n0_ := Aside0.mk (Kd.R_lower ho0 (below_size (by repeat (first | (with_reducible first | exact HB.out | apply below_alloc | apply pw_below_drewN | apply below_drew1) | exact HB.out)))); have n1_ := Aside0.mk (below_step (by repeat (first | (with_reducible first | exact HB.out | apply below_alloc | apply pw_below_drewN | apply below_drew1) | exact HB.out)) hb); clear HB; have HO207 := n0_; have HB := n1_; clear n0_ n1_; (try clear hb); (try clear hb2); (try clear hk); (try clear hi); (try clear ho0); have hcv18 := own_string (P := Try.prog) Try.underlying23 Try.underlying5 Try.underlying9 (Kd.own_of_R HO207.out); have hcv18q := fun m_ => own_string (P := Try.prog) Try.underlying23 Try.underlying5 Try.underlying9 (Kd.own_of_R (Kd.R_drewN HO207.out m_)); obtain ⟨i019, hi019, _, hsz19, _⟩ := info_parts info5; obtain ⟨hcut19, hA19, hC19⟩ := print_take_of (P := Try.prog) (Value.int .u8) 0 23 5 .i64 Try.underlying23 hi019 hsz19 (some ad203) c0 l0 (ji9) (of_decide_eq_true (by first | (with_reducible assumption) | assumption)) (of_decide_eq_true (by first | (with_reducible assumption) | assumption)) HC0.out; have HR208 := Aside0.mk (Kd.C_of_reads (h1 := fun _ => rfl) (hA19 _ (Kd.reads_of_C HR0.out))); have HC208 := Aside0.mk hC19; clear hA19 hC19 hi019 hsz19; have hcv20 := Kd.C_string (P := Try.prog) (A := (some ad203)) (c := c0) Try.underlying23 Try.underlying5 Try.underlying9 (Kd.C_below HR208.out HB.out); have hcv20q := fun m_ => Kd.C_string (P := Try.prog) (A := (some ad203)) (c := c0) Try.underlying23 Try.underlying5 Try.underlying9 (Kd.C_drewN (Kd.C_below HR208.out HB.out) m_); have hcv20r := hcv20; (try rw [show (l0.take ((ji9) : Int).toNat).length = (ji9).toNat from (by rw [List.length_take]; have h_ : ((ji9) : Int) ≤ (l0.length : Int) := of_decide_eq_true (by first | (with_reducible assumption) | assumption); omega)] at hcv20r); have hcv20t := hcv20q; (try simp only [show (l0.take ((ji9) : Int).toNat).length = (ji9).toNat from (by rw [List.length_take]; have h_ : ((ji9) : Int) ≤ (l0.length : Int) := of_decide_eq_true (by first | (with_reducible assumption) | assumption); omega)] at hcv20t)))
                        repeat (go_quiet (first | (go_at_call 19; (with_reducible refine (towncrierref01_Put.calls kj1 (IntKind.u64.wrap (x5_1 + (IntKind.u64.wrap ((IntKind.u64.wrap (Int.tmod (rd l0 x7_1) 128)) * x6_1)))) t205 _ A8.out).mono ?_); rintro e w17 ⟨v206, rfl, ho0, hb⟩; have n0_ := Aside0.mk (Kd.R_lower ho0 (below_size (by repeat (first | (with_reducible first | exact HB.out | apply below_alloc | apply pw_below_drewN | apply below_drew1) | exact HB.out)))); have n1_ := Aside0.mk (below_step (by repeat (first | (with_reducible first | exact HB.out | apply below_alloc | apply pw_below_drewN | apply below_drew1) | exact HB.out)) hb); clear HB; have HO207 := n0_; have HB := n1_; clear n0_ n1_; (try clear hb); (try clear hb2); (try clear hk); (try clear hi); (try clear ho0); have hcv18 := own_string (P := Try.prog) Try.underlying23 Try.underlying5 Try.underlying9 (Kd.own_of_R HO207.out); have hcv18q := fun m_ => own_string (P := Try.prog) Try.underlying23 Try.underlying5 Try.underlying9 (Kd.own_of_R (Kd.R_drewN HO207.out m_)); obtain ⟨i019, hi019, _, hsz19, _⟩ := info_parts info5; obtain ⟨hcut19, hA19, hC19⟩ := print_take_of (P := Try.prog) (Value.int .u8) 0 23 5 .i64 Try.underlying23 hi019 hsz19 (some ad203) c0 l0 (ji9) (of_decide_eq_true (by first | (with_reducible assumption) | assumption)) (of_decide_eq_true (by first | (with_reducible assumption) | assumption)) HC0.out; have HR208 := Aside0.mk (Kd.C_of_reads (h1 := fun _ => rfl) (hA19 _ (Kd.reads_of_C HR0.out))); have HC208 := Aside0.mk hC19; clear hA19 hC19 hi019 hsz19; have hcv20 := Kd.C_string (P := Try.prog) (A := (some ad203)) (c := c0) Try.underlying23 Try.underlying5 Try.underlying9 (Kd.C_below HR208.out HB.out); have hcv20q := fun m_ => Kd.C_string (P := Try.prog) (A := (some ad203)) (c := c0) Try.underlying23 Try.underlying5 Try.underlying9 (Kd.C_drewN (Kd.C_below HR208.out HB.out) m_); have hcv20r := hcv20; (try rw [show (l0.take ((ji9) : Int).toNat).length = (ji9).toNat from (by rw [List.length_take]; have h_ : ((ji9) : Int) ≤ (l0.length : Int) := of_decide_eq_true (by first | (with_reducible assumption) | assumption); omega)] at hcv20r); have hcv20t := hcv20q; (try simp only [show (l0.take ((ji9) : Int).toNat).length = (ji9).toNat from (by rw [List.length_take]; have h_ : ((ji9) : Int) ≤ (l0.length : Int) := of_decide_eq_true (by first | (with_reducible assumption) | assumption); omega)] at hcv20t))); try go_wp2_with (first | (go_at_call 19; (with_reducible refine (towncrierref01_Put.calls kj1 (IntKind.u64.wrap (x5_1 + (IntKind.u64.wrap ((IntKind.u64.wrap (Int.tmod (rd l0 x7_1) 128)) * x6_1)))) t205 _ A8.out).mono ?_); rintro e w17 ⟨v206, rfl, ho0, hb⟩; have n0_ := Aside0.mk (Kd.R_lower ho0 (below_size (by repeat (first | (with_reducible first | exact HB.out | apply below_alloc | apply pw_below_drewN | apply below_drew1) | exact HB.out)))); have n1_ := Aside0.mk (below_step (by repeat (first | (with_reducible first | exact HB.out | apply below_alloc | apply pw_below_drewN | apply below_drew1) | exact HB.out)) hb); clear HB; have HO207 := n0_; have HB := n1_; clear n0_ n1_; (try clear hb); (try clear hb2); (try clear hk); (try clear hi); (try clear ho0); have hcv18 := own_string (P := Try.prog) Try.underlying23 Try.underlying5 Try.underlying9 (Kd.own_of_R HO207.out); have hcv18q := fun m_ => own_string (P := Try.prog) Try.underlying23 Try.underlying5 Try.underlying9 (Kd.own_of_R (Kd.R_drewN HO207.out m_)); obtain ⟨i019, hi019, _, hsz19, _⟩ := info_parts info5; obtain ⟨hcut19, hA19, hC19⟩ := print_take_of (P := Try.prog) (Value.int .u8) 0 23 5 .i64 Try.underlying23 hi019 hsz19 (some ad203) c0 l0 (ji9) (of_decide_eq_true (by first | (with_reducible assumption) | assumption)) (of_decide_eq_true (by first | (with_reducible assumption) | assumption)) HC0.out; have HR208 := Aside0.mk (Kd.C_of_reads (h1 := fun _ => rfl) (hA19 _ (Kd.reads_of_C HR0.out))); have HC208 := Aside0.mk hC19; clear hA19 hC19 hi019 hsz19; have hcv20 := Kd.C_string (P := Try.prog) (A := (some ad203)) (c := c0) Try.underlying23 Try.underlying5 Try.underlying9 (Kd.C_below HR208.out HB.out); have hcv20q := fun m_ => Kd.C_string (P := Try.prog) (A := (some ad203)) (c := c0) Try.underlying23 Try.underlying5 Try.underlying9 (Kd.C_drewN (Kd.C_below HR208.out HB.out) m_); have hcv20r := hcv20; (try rw [show (l0.take ((ji9) : Int).toNat).length = (ji9).toNat from (by rw [List.length_take]; have h_ : ((ji9) : Int) ≤ (l0.length : Int) := of_decide_eq_true (by first | (with_reducible assumption) | assumption); omega)] at hcv20r); have hcv20t := hcv20q; (try simp only [show (l0.take ((ji9) : Int).toNat).length = (ji9).toNat from (by rw [List.length_take]; have h_ : ((ji9) : Int) ≤ (l0.length : Int) := of_decide_eq_true (by first | (with_reducible assumption) | assumption); omega)] at hcv20t))))
                        go_ret3
                        exact ⟨by first | rfl | (simp [errW_none, errW_some] <;> rfl) | (simp only [← hji9]; first | rfl | (simp [errW_none, errW_some] <;> rfl)) | (simp [*, errW_none, errW_some] <;> rfl), by repeat (first | (with_reducible first | exact HB.out | apply below_alloc | apply pw_below_drewN | apply below_drew1) | exact HB.out)⟩
                    · rw [if_neg c11] at H
                      exact absurd H (by simp)
                  · rw [if_neg c10] at H
                    exact absurd H (by simp)
                · rw [if_neg c7] at H
                  have c7b0 : decide ((rd l0 x7_1) < 128) = false := decide_eq_false c7
                  clear c7
                  have H' := Aside0.mk H
                  clear H
                  have p203 : 0 ≤ (x7_1 : Int) := of_decide_eq_true (by first | (with_reducible assumption) | assumption)
                  have q203 : x7_1 < (l0.length : Int) := of_decide_eq_true (by first | (with_reducible assumption) | assumption)
                  obtain ⟨ad203, e203, hx203_0⟩ := Kd.at_int HR0.out x7_1 p203 q203
                  cases e203
                  replace hx203_0 := (HB.out.cell (World.block_lt_of_cell? w _ hx203_0)).trans hx203_0
                  replace p203 := eq_true p203
                  replace q203 := eq_true q203
                  have p204 : 0 ≤ (x7_1 : Int) := of_decide_eq_true (by first | (with_reducible assumption) | assumption)
                  have q204 : x7_1 < (l0.length : Int) := of_decide_eq_true (by first | (with_reducible assumption) | assumption)
                  obtain ⟨ad204, e204, hx204_0⟩ := Kd.at_int HR0.out x7_1 p204 q204
                  obtain rfl : ad203 = ad204 := (by injection e204)
                  replace hx204_0 := (HB.out.cell (World.block_lt_of_cell? w _ hx204_0)).trans hx204_0
                  replace p204 := eq_true p204
                  replace q204 := eq_true q204
                  go_wp2
                  repeat (go_quiet (fail); try go_wp2)
                  go_roundg kj1
                  case measure => have := HK1.out; have := HJ1.out; omega
                  case rel => exact ⟨(IntKind.u64.wrap (x5_1 + (IntKind.u64.wrap ((IntKind.u64.wrap (Int.tmod (rd l0 x7_1) 128)) * x6_1)))), (IntKind.u64.wrap (x6_1 * 128)), (wrap64 (x7_1 + 1)), (by first | rfl | (simp; done) | (simp [*]; done) | exact congrArg Value.bool ((fun l : List UInt8 => by cases l <;> rfl : ∀ l : List UInt8, (!l.isEmpty) = (l != [])) _)), (by first | rfl | (simp; done) | (simp [*]; done) | exact congrArg Value.bool ((fun l : List UInt8 => by cases l <;> rfl : ∀ l : List UInt8, (!l.isEmpty) = (l != [])) _)), (by first | rfl | (simp; done) | (simp [*]; done) | exact congrArg Value.bool ((fun l : List UInt8 => by cases l <;> rfl : ∀ l : List UInt8, (!l.isEmpty) = (l != [])) _)), H', ⟨by have := HK1.out; have := HJ1.out; omega⟩, ⟨by repeat (first | (with_reducible first | exact HB.out | apply below_alloc | apply pw_below_drewN | apply below_drew1) | exact HB.out)⟩⟩
              · rw [if_neg c6] at H
                exact absurd H (by simp)
            · rw [if_neg c5] at H
              exact absurd H (by simp)
          · replace c4 := Bool.eq_false_iff.mpr c4
            subst c4
            have H1 : (some (0, 0, false)) = some (r1, r2, r3) := by rw [if_neg (show ¬ (false = true) by decide)] at H; exact H
            clear H
            have H := H1
            clear H1
            simp only [Option.some.injEq, Prod.mk.injEq] at H
            obtain ⟨rfl, rfl, rfl⟩ := H
            go_wp2
            repeat (go_quiet (fail); try go_wp2)
            go_ret3
            exact ⟨by first | rfl | (simp [errW_none, errW_some] <;> rfl) | (simp [*, errW_none, errW_some] <;> rfl), by repeat (first | (with_reducible first | exact HB.out | apply below_alloc | apply pw_below_drewN | apply below_drew1) | exact HB.out)⟩

end Go.Proofs.Ytnmpojodadlnmaa.X
