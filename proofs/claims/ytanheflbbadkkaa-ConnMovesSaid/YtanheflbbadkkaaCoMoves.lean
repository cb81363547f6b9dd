/- The law ConnMoves: what is pushed is pulled, in order, each byte once, in whatever parts; what may be stays so. -/
import Derived.Test.YtanheflbbadkkaaCoAll
import Derived.Test.YtanheflbbadkkaaFrOpen
import Derived.Deep.RegionHeld3
import Derived.Deep.DeepCutAuto
import Derived.Deep.CutRange
import Derived.IntWalk
import Derived.Deep.QuietTactic
import Derived.BigQuiet
namespace Go.Proofs.Ytanheflbbadkkaa.X
open Go.RowKit Go.Proofs.YtanheflbbadkkaaW.PrintWords Go.Proofs.YtanheflbbadkkaaW.PrintLast Go.Proofs.YtanheflbbadkkaaW.PrintMore
attribute [local go_sem] max2_int min2_int max_two min_two max_three min_three max_four min_four
set_option linter.unusedVariables false
set_option linter.unusedSimpArgs false
open Go.Proofs.Ytanheflbbadkkaa.Fr
theorem rowAt_mem (l : List (List Int)) (k : Nat) (h : k < l.length) : rowAt l k ∈ l := by
  unfold rowAt
  rw [List.getD_eq_getElem?_getD, List.getElem?_eq_getElem h]
  exact List.getElem_mem _
theorem keep5 {W w2 : World} {a b c d q : Addr} {x y z u v : Value} (ha : W.cell? a = some x) (hb : W.cell? b = some y) (hc : W.cell? c = some z) (hd : W.cell? d = some u) (hq : W.cell? q = some v) (h : Below W.heap.size W w2) : Below W.heap.size W w2 ∧ w2.cell? a = some x ∧ w2.cell? b = some y ∧ w2.cell? c = some z ∧ w2.cell? d = some u ∧ w2.cell? q = some v :=
  ⟨h, (h.cell (World.block_lt_of_cell? W _ ha)).trans ha, (h.cell (World.block_lt_of_cell? W _ hb)).trans hb, (h.cell (World.block_lt_of_cell? W _ hc)).trans hc, (h.cell (World.block_lt_of_cell? W _ hd)).trans hd, (h.cell (World.block_lt_of_cell? W _ hq)).trans hq⟩
set_option maxHeartbeats 8000000 in
set_option maxRecDepth 100000 in
theorem law_ConnMoves.calls (A0 : Option Addr) (c0 : Nat) (l0 : List (List Int)) (A1 : Option Addr) (c1 : Nat) (l1 : List Int) (w : World) (hr0 : Kd.C (Kd.slice 5 (Kd.int .u8)) w A0 l0.length l0) (hc0 : l0.length ≤ c0) (hb0 : ∀ l ∈ l0, ∀ z ∈ l, 0 ≤ z ∧ z < 256) (hr1 : Kd.C (Kd.int .i64) w A1 l1.length l1) (hc1 : l1.length ≤ c1) (hb1 : ∀ x ∈ l1, -9223372036854775808 ≤ x ∧ x < 9223372036854775808) :
    Calls Try.prog 3 #[.slice A0 l0.length c0, .slice A1 l1.length c1] w fun e w' => e = .returned (.bool true) ∧ Below w.heap.size w w' := by
  have hu29 := Try.underlying29
  have hu27 := Try.underlying27
  have HR0 := Aside0.mk hr0
  have HC0 := Aside0.mk hc0
  have HY0 := Aside0.mk hb0
  have HR1 := Aside0.mk hr1
  have HC1 := Aside0.mk hc1
  have HY1 := Aside0.mk hb1
  clear hr0 hc0 hb0 hr1 hc1 hb1
  have HB := Aside0.mk (Below.refl w.heap.size w)
  by_cases h0 : 20 < (l0.length : Int)
  · go_enter Try.func3, Try.ntmps3
    go_wp2_with (first | ((go_at_call 8); (with_reducible refine (towncrierlaw18_awake.walk _).mono ?_); rintro e wq1 ⟨rfl, hb0⟩; have hbb := hb0; replace HB := Aside0.mk (below_step HB.out hbb); clear hbb))
    go_ret
    exact ⟨rfl, HB.out⟩
  by_cases h1 : 20 < (l1.length : Int)
  · go_enter Try.func3, Try.ntmps3
    go_wp2_with (first | ((go_at_call 8); (with_reducible refine (towncrierlaw18_awake.walk _).mono ?_); rintro e wq1 ⟨rfl, hb0⟩; have hbb := hb0; replace HB := Aside0.mk (below_step HB.out hbb); clear hbb))
    go_ret
    exact ⟨rfl, HB.out⟩
  have NW := Aside0.mk (show conn_New.f 1 = some (1, [], false, []) from rfl)
  go_enter Try.func3, Try.ntmps3
  go_wp2_with (first | ((go_at_call 8); (with_reducible refine (towncrierlaw18_awake.walk _).mono ?_); rintro e wq1 ⟨rfl, hb0⟩; have hbb := hb0; replace HB := Aside0.mk (below_step HB.out hbb); clear hbb) | ((go_at_call 9); have tk_ := NW; clear tk_; (refine (conn_New.calls 1 1 [] false [] _ NW.out).mono ?_); rintro e wq2 ⟨v1, v3, rfl, h1n, h3n, hb0⟩; have hbb := hb0; replace HB := Aside0.mk (below_step HB.out hbb); clear hbb; obtain ⟨Aa, ca, rfl⟩ := Kd.R_slice h1n; obtain ⟨Da, ea, rfl⟩ := Kd.R_slice h3n; have CA := Aside0.mk (Kd.R_reads' h1n).2.2; have CO := Aside0.mk (Kd.R_reads' h3n).2.2; clear h1n h3n; clear NW) | ((with_reducible refine gate_dst (N := 6) rfl ?_); refine box_event ?hg (N := 6) ?hd (cs := #[.int .i64 0, .slice none 0 0, .bool false, .slice none 0 0]) (t := 29) ?hr ?_; (case hd => rfl); (case hg => rfl); (case hr => first | (go_simp; done) | (go_simp; rfl)); intro g6 hg6 wq3 bk6 hb6; have G6 := Aside0.mk (hg6 ▸ HB.out.size : w.heap.size ≤ g6); have BK6 := Aside0.mk bk6; replace CA := Aside0.mk (Kd.C_below CA.out hb6); replace CO := Aside0.mk (Kd.C_below CO.out hb6); replace HB := Aside0.mk (below_step HB.out hb6); have hc6_0 : wq3.cell? ⟨g6, 0, none⟩ = some (.int .i64 0) := (blk_cell BK6.out 0).trans rfl; have hc6_1 : wq3.cell? ⟨g6, 1, none⟩ = some (.slice none 0 0) := (blk_cell BK6.out 1).trans rfl; have hc6_2 : wq3.cell? ⟨g6, 2, none⟩ = some (.bool false) := (blk_cell BK6.out 2).trans rfl; have hc6_3 : wq3.cell? ⟨g6, 3, none⟩ = some (.slice none 0 0) := (blk_cell BK6.out 3).trans rfl; clear hg6 bk6 hb6) | ((with_reducible refine gate_store (t := 29) (p := 6) rfl ?_); refine seg_ev rfl rfl 29 (.tmp 6) _ rfl (g := g6) (j := 0) (seg := [.int .i64 1, .slice Aa 0 ca, .bool false, .slice Da 0 ea]) (cs' := #[.int .i64 1, .slice Aa 0 ca, .bool false, .slice Da 0 ea]) rfl rfl rfl BK6.out (by kernel_rfl) (by simp) (by intro q hq; simp only [List.mem_cons, List.not_mem_nil, or_false] at hq; rcases hq with rfl | rfl | rfl | rfl <;> rfl) rfl ?_; intro wq4 hk hz ho; replace CA := Aside0.mk (C_far CA.out BK6.out (by intro v hv x hx; subst hx; simp at hv) ho); replace CO := Aside0.mk (C_far CO.out BK6.out (by intro v hv x hx; subst hx; simp at hv) ho); replace BK6 := Aside0.mk hk; replace HB := Aside0.mk (hz _ G6.out HB.out); clear hc6_0 hc6_1 hc6_2 hc6_3; have hc6_0 : wq4.cell? ⟨g6, 0, none⟩ = some (.int .i64 1) := (blk_cell BK6.out 0).trans rfl; have hc6_1 : wq4.cell? ⟨g6, 1, none⟩ = some (.slice Aa 0 ca) := (blk_cell BK6.out 1).trans rfl; have hc6_2 : wq4.cell? ⟨g6, 2, none⟩ = some (.bool false) := (blk_cell BK6.out 2).trans rfl; have hc6_3 : wq4.cell? ⟨g6, 3, none⟩ = some (.slice Da 0 ea) := (blk_cell BK6.out 3).trans rfl; clear hk hz ho))
  go_loopw [7, 8, 9] (fun s7 s8 i wr => ∃ (k : Nat) (W : World) (Wn Gt O : List Int) (S7 S8 : ByteArray) (Aa : Option Addr) (ca : Nat) (Da : Option Addr) (ea : Nat), k ≤ 20 ∧ W = wr ∧ i = .int .i64 k ∧ s7 = .string S7 ∧ s8 = .string S8 ∧ Aside0 (strOfNums Wn = S7) ∧ Aside0 (strOfNums Gt = S8) ∧ Aside0 (Gt ++ O = Wn) ∧ Aside0 (O.length ≤ 600) ∧ Aside0 (Wn.length ≤ 520 * (k)) ∧ Aside0 (W.heap[g6]? = some (.cells #[Value.int .i64 1, Value.slice Aa 0 ca, Value.bool false, Value.slice Da O.length ea] 29 (0, 0))) ∧ Aside0 (Kd.C (Kd.int .u8) W Aa 0 []) ∧ Aside0 (Kd.C (Kd.int .u8) W Da O.length O) ∧ Aside0 (O.length ≤ ea) ∧ Aside0 (Below w.heap.size w W)) (fun _ _ i _ => 40 - (intOf i).toNat)
  case atStart => exact ⟨0, _, [], [], [], ⟨#[]⟩, ⟨#[]⟩, Aa, ca, Da, ea, Nat.zero_le _, rfl, rfl, rfl, rfl, ⟨rfl⟩, ⟨rfl⟩, ⟨rfl⟩, ⟨by simp⟩, ⟨by simp⟩, BK6, CA, CO, ⟨Nat.zero_le _⟩, HB⟩
  case round =>
    obtain ⟨k, W, Wn, Gt, O, S7, S8, Aa, ca, Da, ea, hk, rfl, rfl, rfl, rfl, H7, H8, HG, HO, HW, BK6, CA, CO, COc, HB⟩ := hrel
    by_cases hin : k < l0.length ∨ k < l1.length
    · have hk20 : k < 20 := by omega
      obtain ⟨bA, hbA⟩ : ∃ b, (decide (k < l0.length) && decide ((rowAt l0 k).length ≤ 500)) = b := ⟨_, rfl⟩
      have HBA := Aside0.mk hbA
      clear hbA
      go_upto_region 8 with (fail)
      go_cut [42] from 33 to 115 (fun v_b wd_ => v_b = .bool true ∧ W = wd_)
      case first =>
        by_cases hA : k < l0.length
        · go_wp2_with (fail)
          go_meet
          case rel => exact ⟨by first | rfl | (simp; omega), rfl⟩
        · have hP : k < l1.length := by omega
          go_wp2_with (fail)
          go_meet
          case rel => exact ⟨by first | rfl | (simp; omega), rfl⟩
      case rest =>
      obtain ⟨rfl, rfl⟩ := hcut
      go_upto_region 10 with (fail)
      go_cut [56] from 33 to 115 (fun v_b wd_ => v_b = .bool bA ∧ W = wd_)
      case first =>
        by_cases hA : k < l0.length
        · obtain ⟨ad, A', c', e, hx0, hl', hC'⟩ := elem_at HR0.out k hA
          cases e
          have hx := (HB.out.cell (World.block_lt_of_cell? w _ hx0)).trans hx0
          have hb2 := HBA.out
          obtain ⟨x, hxe⟩ : ∃ x, rowAt l0 k = x := ⟨_, rfl⟩
          rw [hxe] at hx hb2
          clear hx0 hl' hC' hxe HBA
          by_cases h5 : x.length ≤ 500
          · obtain rfl : bA = true := by rw [← hb2]; simp [hA, h5]
            clear hb2
            go_wp2_with (fail)
            go_meet
            case rel => exact ⟨by first | rfl | (simp; omega), rfl⟩
          · obtain rfl : bA = false := by rw [← hb2]; simp [h5]
            clear hb2
            go_wp2_with (fail)
            go_meet
            case rel => exact ⟨by first | rfl | (simp; omega), rfl⟩
        · obtain rfl : bA = false := by rw [← HBA.out]; simp [hA]
          clear HBA
          go_wp2_with (fail)
          go_meet
          case rel => exact ⟨by first | rfl | (simp; omega), rfl⟩
      case rest =>
        obtain ⟨rfl, rfl⟩ := hcut
        go_upto_if 56 with (fail)
        go_cut [7] from 33 to 115 (fun v_7 wd_ => ∃ (W : World) (Wn O : List Int) (S7 : ByteArray) (Aa : Option Addr) (ca : Nat) (Da : Option Addr) (ea : Nat), W = wd_ ∧ v_7 = .string S7 ∧ Aside0 (strOfNums Wn = S7) ∧ Aside0 (strOfNums Gt = S8) ∧ Aside0 (Gt ++ O = Wn) ∧ Aside0 (O.length ≤ 600) ∧ Aside0 (Wn.length ≤ 520 * (k + 1)) ∧ Aside0 (W.heap[g6]? = some (.cells #[Value.int .i64 1, Value.slice Aa 0 ca, Value.bool false, Value.slice Da O.length ea] 29 (0, 0))) ∧ Aside0 (Kd.C (Kd.int .u8) W Aa 0 []) ∧ Aside0 (Kd.C (Kd.int .u8) W Da O.length O) ∧ Aside0 (O.length ≤ ea) ∧ Aside0 (Below w.heap.size w W))
        case first =>
          cases bA with
          | false =>
            clear HBA
            go_wp2_with (fail)
            go_meet
            case rel => exact ⟨W, Wn, O, S7, Aa, ca, Da, ea, rfl, rfl, H7, H8, HG, HO, ⟨by have := HW.out; omega⟩, BK6, CA, CO, COc, HB⟩
          | true =>
            have hb2 := HBA.out
            rw [Bool.and_eq_true, decide_eq_true_eq, decide_eq_true_eq] at hb2
            obtain ⟨hA, h5⟩ := hb2
            clear HBA
            obtain ⟨ad, A', c', e, hx0, hl', hC'⟩ := elem_at HR0.out k hA
            cases e
            have hmem := rowAt_mem l0 k hA
            obtain ⟨x, hxe⟩ : ∃ x, rowAt l0 k = x := ⟨_, rfl⟩
            rw [hxe] at hx0 hl' hC' h5 hmem
            have hyx : Byt x := HY0.out _ hmem
            have HX := Aside0.mk hx0
            have HX2 := Aside0.mk hC'
            have HX3 := Aside0.mk hl'
            have hx := (HB.out.cell (World.block_lt_of_cell? w _ HX.out)).trans HX.out
            obtain ⟨p, hp⟩ : ∃ p, p = pack x := ⟨_, rfl⟩
            have FP := Aside0.mk (show frame_Pack.f x = some (p, true) by rw [hp]; exact pack_f x hyx (by omega))
            have hpx : p.length = x.length + 8 := by rw [hp, pack_len]
            have hpl : p.length ≤ 1000000 := by omega
            obtain ⟨O1, is, hpu⟩ : ∃ O1 is, push O p true = (O1, is) := ⟨_, _, rfl⟩
            have PU := Aside0.mk hpu
            have hol := HO.out
            have HO6 := Aside0.mk (show O.length ≤ 1000000 by omega)
            have hc6_0 : W.cell? ⟨g6, 0, none⟩ = some (Value.int .i64 1) := (blk_cell BK6.out 0).trans rfl
            have hc6_1 : W.cell? ⟨g6, 1, none⟩ = some (Value.slice Aa 0 ca) := (blk_cell BK6.out 1).trans rfl
            have hc6_2 : W.cell? ⟨g6, 2, none⟩ = some (Value.bool false) := (blk_cell BK6.out 2).trans rfl
            have hc6_3 : W.cell? ⟨g6, 3, none⟩ = some (Value.slice Da O.length ea) := (blk_cell BK6.out 3).trans rfl
            have hpu2 : (is = true ∧ O1 = O ++ p ∧ O.length + p.length ≤ 600) ∨ (is = false ∧ O1 = O ∧ 600 < O.length + (x.length + 8)) := by
              unfold push at hpu
              by_cases hq : O.length + p.length ≤ 600
              · rw [if_pos ⟨rfl, hq⟩] at hpu
                simp only [Prod.mk.injEq] at hpu
                exact Or.inl ⟨hpu.2.symm, hpu.1.symm, hq⟩
              · rw [if_neg (fun h => hq h.2)] at hpu
                simp only [Prod.mk.injEq] at hpu
                exact Or.inr ⟨hpu.2.symm, hpu.1.symm, by omega⟩
            have HPX := Aside0.mk hpx
            have HPU2 := Aside0.mk hpu2
            clear hx0 hl' hC' hxe hmem hyx hp hpx hpu hpu2 hol
            go_upto_region 11 with (fail)
            go_cut [10, 11] from 33 to 115 (fun v_s v_l wd_ => ∃ (g10 : Nat) (Ax : Option Addr) (cx : Nat) (Dx : Option Addr) (ex : Nat), v_s = .pointer (some ⟨g10, 0, none⟩) ∧ v_l = .bool is ∧ Aside0 (Below W.heap.size W wd_) ∧ Aside0 (wd_.heap[g10]? = some (.cells #[Value.int .i64 1, Value.slice Ax 0 cx, Value.bool false, Value.slice Dx O1.length ex] 29 (0, 0))) ∧ Aside0 (Kd.C (Kd.int .u8) wd_ Ax 0 []) ∧ Aside0 (Kd.C (Kd.int .u8) wd_ Dx O1.length O1) ∧ Aside0 (O1.length ≤ ex))
            case first =>
              go_region_held3 (fun w' => Below W.heap.size W w' ∧ w'.cell? ⟨g6, 0, none⟩ = some (Value.int .i64 1) ∧ w'.cell? ⟨g6, 1, none⟩ = some (Value.slice Aa 0 ca) ∧ w'.cell? ⟨g6, 2, none⟩ = some (Value.bool false) ∧ w'.cell? ⟨g6, 3, none⟩ = some (Value.slice Da O.length ea) ∧ w'.cell? (ad.add k) = some (Value.slice A' x.length c')) (((refine keep5 hc6_0 hc6_1 hc6_2 hc6_3 hx ?_; first | exact below_drew1 (Below.refl _ _) | exact below_alloc (And.left (by assumption)) _ | exact below_alloc HWs.out _ | exact below_step (And.left (by assumption)) (by assumption) | exact below_set (below_set (below_set (below_set (And.left (by assumption)) (by first | assumption | exact Nat.le_refl _)) (by first | assumption | exact Nat.le_refl _)) (by first | assumption | exact Nat.le_refl _)) (by first | assumption | exact Nat.le_refl _)))) (first | ((go_at_call 10); (refine (conn_Push.calls2 1 Aa ca [] false Da ea O A' c' x p true _ ?pa (Nat.zero_le _) ?pb COc.out (Nat.zero_le _) HO6.out ?pc HX3.out FP.out hpl O1 is PU.out).mono ?_); (case pa => exact Kd.C_below CA.out (And.left (by assumption))); (case pb => exact Kd.C_below CO.out (And.left (by assumption))); (case pc => exact Kd.C_below HX2.out (below_step HB.out (And.left (by assumption)))); rintro e w_ ⟨Ax, cx, Dx, ex, rfl, hxx, hxxc, hyy, hyyc, hb0⟩; have HXX := Aside0.mk hxx; have HYY := Aside0.mk hyy; have HYC := Aside0.mk hyyc; have HWs := Aside0.mk (below_step (And.left (by assumption)) hb0); (try (have BKr := Aside0.mk (blk_below (blk_drew (heap_alloc_new _ _)) hb0); have hcr_0 := (blk_cell BKr.out 0).trans (rfl : _ = some (Value.int .i64 0)); have hfr_0 := blk_frozen BKr.out 0; have hcr_1 := (blk_cell BKr.out 1).trans (rfl : _ = some (Value.slice none 0 0)); have hfr_1 := blk_frozen BKr.out 1; have hcr_2 := (blk_cell BKr.out 2).trans (rfl : _ = some (Value.bool false)); have hfr_2 := blk_frozen BKr.out 2; have hcr_3 := (blk_cell BKr.out 3).trans (rfl : _ = some (Value.slice none 0 0)); have hfr_3 := blk_frozen BKr.out 3)); have GS := Aside0.mk hb0.size; clear hxxc hxx hyy hyyc))
              · go_wp2_with (fail)
                go_meet
                case rel =>
                  exact ⟨_, Ax, cx, Dx, ex, rfl, rfl, ⟨below_alloc HWs.out _⟩, ⟨heap_alloc_new _ _⟩, ⟨Kd.C_alloc HXX.out _⟩, ⟨Kd.C_alloc HYY.out _⟩, HYC⟩
              · go_wp2_with (fail)
                go_meet
                case rel =>
                  exact ⟨_, Ax, cx, Dx, ex, rfl, rfl, ⟨below_set (below_set (below_set (below_set HWs.out (by first | assumption | exact Nat.le_refl _)) (by first | assumption | exact Nat.le_refl _)) (by first | assumption | exact Nat.le_refl _)) (by first | assumption | exact Nat.le_refl _)⟩, ⟨putSeg_blk [Value.int .i64 1, Value.slice Ax 0 cx, Value.bool false, Value.slice Dx O1.length ex] w_ W.heap.size 0 _ _ BKr.out⟩, ⟨C_far HXX.out BKr.out (by intro v hv x hx; subst hx; simp at hv) (fun i hi => putSeg_other [Value.int .i64 1, Value.slice Ax 0 cx, Value.bool false, Value.slice Dx O1.length ex] w_ W.heap.size 0 i hi)⟩, ⟨C_far HYY.out BKr.out (by intro v hv x hx; subst hx; simp at hv) (fun i hi => putSeg_other [Value.int .i64 1, Value.slice Ax 0 cx, Value.bool false, Value.slice Dx O1.length ex] w_ W.heap.size 0 i hi)⟩, HYC⟩
            case rest =>
              obtain ⟨w5, rfl⟩ : ∃ x, x = wc := ⟨_, rfl⟩
              obtain ⟨g10, Ax, cx, Dx, ex, rfl, rfl, HBc, BK10, CX, CP, CPc⟩ := hcut
              have hbb := HBc.out
              replace HB := Aside0.mk (below_step HB.out hbb)
              have G6b := Aside0.mk (Nat.le_trans (Nat.le_of_lt (blk_lt BK6.out)) hbb.size)
              replace BK6 := Aside0.mk (blk_below BK6.out hbb)
              replace hx := (hbb.cell (World.block_lt_of_cell? _ _ hx)).trans hx
              clear hc6_0 hc6_1 hc6_2 hc6_3
              have hc10_0 : w5.cell? ⟨g10, 0, none⟩ = some (Value.int .i64 1) := (blk_cell BK10.out 0).trans rfl
              have hc10_1 : w5.cell? ⟨g10, 1, none⟩ = some (Value.slice Ax 0 cx) := (blk_cell BK10.out 1).trans rfl
              have hc10_2 : w5.cell? ⟨g10, 2, none⟩ = some (Value.bool false) := (blk_cell BK10.out 2).trans rfl
              have hc10_3 : w5.cell? ⟨g10, 3, none⟩ = some (Value.slice Dx O1.length ex) := (blk_cell BK10.out 3).trans rfl
              rcases HPU2.out with ⟨rfl, hO1, hle⟩ | ⟨rfl, hO1, hlt6⟩
              · have HO1 := Aside0.mk hO1
                have HLE := Aside0.mk hle
                obtain ⟨S9, hS9⟩ : ∃ S, strOfNums p = S := ⟨_, rfl⟩
                have T9 := Aside0.mk hS9
                have hsz : S7.size + S9.size ≤ 30000 := by
                  rw [← H7.out, ← hS9, strOfNums_size, strOfNums_size]
                  have := HW.out
                  have := HPX.out
                  omega
                have y1 : (9223372036854775807 < S7.size + S9.size) = False := eq_false (by omega)
                have y2 : S7.size + S9.size ≤ 9223372036854775807 := by omega
                clear hO1 hle hS9 HPU2
                go_upto_region 15 with (first | ((go_at_call 11); (refine (frame_Pack.calls A' c' x p true _ (Kd.C_below HX2.out HB.out) HX3.out FP.out).mono ?_); rintro e w7 ⟨vp, rfl, hop, hb0⟩; obtain ⟨Ap, cp, rfl⟩ := Kd.R_slice hop; have CQ := Aside0.mk (Kd.R_reads' hop).2.2; have hvp := Kd.C_string (P := Try.prog) (A := Ap) (c := cp) Try.underlying25 Try.underlying5 Try.underlying9 CQ.out; rw [T9.out] at hvp; replace CX := Aside0.mk (Kd.C_below CX.out hb0); replace CP := Aside0.mk (Kd.C_below CP.out hb0); replace BK6 := Aside0.mk (blk_below BK6.out hb0); replace BK10 := Aside0.mk (blk_below BK10.out hb0); replace HB := Aside0.mk (below_step HB.out hb0); clear hc10_0 hc10_1 hc10_2 hc10_3; have hc10_0 : w7.cell? ⟨g10, 0, none⟩ = some (Value.int .i64 1) := (blk_cell BK10.out 0).trans rfl; have hc10_1 : w7.cell? ⟨g10, 1, none⟩ = some (Value.slice Ax 0 cx) := (blk_cell BK10.out 1).trans rfl; have hc10_2 : w7.cell? ⟨g10, 2, none⟩ = some (Value.bool false) := (blk_cell BK10.out 2).trans rfl; have hc10_3 : w7.cell? ⟨g10, 3, none⟩ = some (Value.slice Dx O1.length ex) := (blk_cell BK10.out 3).trans rfl; clear hb0 hop hx))
                go_quiet (fail)
                obtain ⟨w8, hw8⟩ : ∃ z, z = w7.drewN nq := ⟨_, rfl⟩
                have hbq : Below w7.heap.size w7 w8 := hw8 ▸ pw_below_drewN (Below.refl _ _) nq
                rw [← hw8]
                replace CX := Aside0.mk (Kd.C_below CX.out hbq)
                replace CP := Aside0.mk (Kd.C_below CP.out hbq)
                replace BK6 := Aside0.mk (blk_below BK6.out hbq)
                replace BK10 := Aside0.mk (blk_below BK10.out hbq)
                replace HB := Aside0.mk (below_step HB.out hbq)
                clear hbq hw8 hc10_0 hc10_1 hc10_2 hc10_3
                have hc10_0 : w8.cell? ⟨g10, 0, none⟩ = some (Value.int .i64 1) := (blk_cell BK10.out 0).trans rfl
                have hc10_1 : w8.cell? ⟨g10, 1, none⟩ = some (Value.slice Ax 0 cx) := (blk_cell BK10.out 1).trans rfl
                have hc10_2 : w8.cell? ⟨g10, 2, none⟩ = some (Value.bool false) := (blk_cell BK10.out 2).trans rfl
                have hc10_3 : w8.cell? ⟨g10, 3, none⟩ = some (Value.slice Dx O1.length ex) := (blk_cell BK10.out 3).trans rfl
                go_wp2_with (first | ((with_reducible refine gate_store (t := 29) (p := 6) rfl ?_); refine seg_ev rfl rfl 29 (.tmp 6) _ rfl (g := g6) (j := 0) (seg := [Value.int .i64 1, Value.slice Ax 0 cx, Value.bool false, Value.slice Dx O1.length ex]) (cs' := #[Value.int .i64 1, Value.slice Ax 0 cx, Value.bool false, Value.slice Dx O1.length ex]) rfl rfl rfl BK6.out (by kernel_rfl) (by simp) (by intro q hq; simp only [List.mem_cons, List.not_mem_nil, or_false] at hq; rcases hq with rfl | rfl | rfl | rfl <;> rfl) rfl ?_; intro w9 hk hz ho; replace CX := Aside0.mk (C_far CX.out BK6.out (by intro v hv x hx; subst hx; simp at hv) ho); replace CP := Aside0.mk (C_far CP.out BK6.out (by intro v hv x hx; subst hx; simp at hv) ho); replace HB := Aside0.mk (hz _ G6.out HB.out); replace BK6 := Aside0.mk hk; clear hk hz ho))
                go_meet
                case rel => exact ⟨_, Wn ++ p, O1, S7 ++ S9, Ax, cx, Dx, ex, rfl, rfl, ⟨by rw [str_app, H7.out, T9.out]⟩, H8, ⟨by rw [HO1.out, ← HG.out, List.append_assoc]⟩, ⟨by have h1 := HLE.out; rw [HO1.out, List.length_append]; omega⟩, ⟨by have h1 := HW.out; have h2 := HPX.out; rw [List.length_append]; omega⟩, BK6, CX, CP, CPc, HB⟩
              · have HO1 := Aside0.mk hO1
                have hc6_3 : w5.cell? ⟨g6, 3, none⟩ = some (Value.slice Da O.length ea) := (blk_cell BK6.out 3).trans rfl
                have hol := HO.out
                have q0 : (0 : Int) ≤ (k : Int) := by omega
                have q1 : (k : Int) < (l0.length : Int) := by omega
                have q2 : decide ((O.length : Int) + (x.length : Int) + 8 ≤ 600) = false := by simp; omega
                have wr1 : IntKind.i64.wrap ((O.length : Int) + (x.length : Int)) = (O.length : Int) + (x.length : Int) := IntWalk.i64_in _ (by omega)
                have wr2 : IntKind.i64.wrap ((O.length : Int) + (x.length : Int) + 8) = (O.length : Int) + (x.length : Int) + 8 := IntWalk.i64_in _ (by omega)
                clear hO1 HPU2 hol
                go_upto_region 15 with (fail)
                go_quiet (fail)
                obtain ⟨w8, hw8⟩ : ∃ z, z = w5.drewN nq := ⟨_, rfl⟩
                have hbq : Below w5.heap.size w5 w8 := hw8 ▸ pw_below_drewN (Below.refl _ _) nq
                rw [← hw8]
                replace CX := Aside0.mk (Kd.C_below CX.out hbq)
                replace CP := Aside0.mk (Kd.C_below CP.out hbq)
                replace BK6 := Aside0.mk (blk_below BK6.out hbq)
                replace BK10 := Aside0.mk (blk_below BK10.out hbq)
                replace HB := Aside0.mk (below_step HB.out hbq)
                clear hbq hw8 hc10_0 hc10_1 hc10_2 hc10_3
                have hc10_0 : w8.cell? ⟨g10, 0, none⟩ = some (Value.int .i64 1) := (blk_cell BK10.out 0).trans rfl
                have hc10_1 : w8.cell? ⟨g10, 1, none⟩ = some (Value.slice Ax 0 cx) := (blk_cell BK10.out 1).trans rfl
                have hc10_2 : w8.cell? ⟨g10, 2, none⟩ = some (Value.bool false) := (blk_cell BK10.out 2).trans rfl
                have hc10_3 : w8.cell? ⟨g10, 3, none⟩ = some (Value.slice Dx O1.length ex) := (blk_cell BK10.out 3).trans rfl
                go_wp2_with (first | ((with_reducible refine gate_store (t := 29) (p := 6) rfl ?_); refine seg_ev rfl rfl 29 (.tmp 6) _ rfl (g := g6) (j := 0) (seg := [Value.int .i64 1, Value.slice Ax 0 cx, Value.bool false, Value.slice Dx O1.length ex]) (cs' := #[Value.int .i64 1, Value.slice Ax 0 cx, Value.bool false, Value.slice Dx O1.length ex]) rfl rfl rfl BK6.out (by kernel_rfl) (by simp) (by intro q hq; simp only [List.mem_cons, List.not_mem_nil, or_false] at hq; rcases hq with rfl | rfl | rfl | rfl <;> rfl) rfl ?_; intro w9 hk hz ho; replace CX := Aside0.mk (C_far CX.out BK6.out (by intro v hv x hx; subst hx; simp at hv) ho); replace CP := Aside0.mk (C_far CP.out BK6.out (by intro v hv x hx; subst hx; simp at hv) ho); replace HB := Aside0.mk (hz _ G6.out HB.out); replace BK6 := Aside0.mk hk; clear hk hz ho))
                go_meet
                case rel => exact ⟨_, Wn, O1, S7, Ax, cx, Dx, ex, rfl, rfl, H7, H8, ⟨by rw [HO1.out]; exact HG.out⟩, ⟨by rw [HO1.out]; exact HO.out⟩, ⟨by have h1 := HW.out; omega⟩, BK6, CX, CP, CPc, HB⟩
        case rest =>
          clear H7 H8 HG HO HW BK6 CA CO COc HB
          obtain ⟨W, Wn, O, S7, Aa, ca, Da, ea, rfl, rfl, H7, H8, HG, HO, HW, BK6, CA, CO, COc, HB⟩ := hcut
          go_upto_if 98 with (fail)
          go_cut [8] from 33 to 115 (fun v_8 wd_ => ∃ (W : World) (Gt O : List Int) (S8 : ByteArray) (Aa : Option Addr) (ca : Nat) (Da : Option Addr) (ea : Nat), W = wd_ ∧ v_8 = .string S8 ∧ Aside0 (strOfNums Wn = S7) ∧ Aside0 (strOfNums Gt = S8) ∧ Aside0 (Gt ++ O = Wn) ∧ Aside0 (O.length ≤ 600) ∧ Aside0 (Wn.length ≤ 520 * (k + 1)) ∧ Aside0 (W.heap[g6]? = some (.cells #[Value.int .i64 1, Value.slice Aa 0 ca, Value.bool false, Value.slice Da O.length ea] 29 (0, 0))) ∧ Aside0 (Kd.C (Kd.int .u8) W Aa 0 []) ∧ Aside0 (Kd.C (Kd.int .u8) W Da O.length O) ∧ Aside0 (O.length ≤ ea) ∧ Aside0 (Below w.heap.size w W))
          case first =>
            by_cases hP : k < l1.length
            · obtain ⟨ad, e, hx0⟩ := Kd.at_int HR1.out (k : Int) (by omega) (by omega)
              cases e
              rw [Int.toNat_natCast] at hx0
              have hn := HY1.out (rd l1 (k : Int)) (by unfold rd; rw [List.getD_eq_getElem?_getD, Int.toNat_natCast, List.getElem?_eq_getElem hP]; exact List.getElem_mem _)
              obtain ⟨n, hne⟩ : ∃ n, rd l1 (k : Int) = n := ⟨_, rfl⟩
              rw [hne] at hx0 hn
              have HX := Aside0.mk hx0
              have HN := Aside0.mk hn
              have hx := (HB.out.cell (World.block_lt_of_cell? w _ HX.out)).trans HX.out
              obtain ⟨m, hm⟩ : ∃ m, m = clamp n O.length := ⟨_, rfl⟩
              obtain ⟨D, hD⟩ : ∃ D, O.drop m = D := ⟨_, rfl⟩
              obtain ⟨Q, hQ⟩ : ∃ Q, O.take m = Q := ⟨_, rfl⟩
              have hol := HO.out
              have hql : Q.length ≤ 600 := by rw [← hQ, List.length_take]; omega
              have hdl : D.length ≤ 600 := by rw [← hD, List.length_drop]; omega
              have hqd : Q ++ D = O := by rw [← hQ, ← hD, List.take_append_drop]
              obtain ⟨S9, hS9⟩ : ∃ S, strOfNums Q = S := ⟨_, rfl⟩
              have T9 := Aside0.mk hS9
              have K1 := Aside0.mk hm
              have P1 := Aside0.mk hD
              have Q1 := Aside0.mk hQ
              have QD := Aside0.mk hqd
              have HO6 := Aside0.mk (show O.length ≤ 1000000 by omega)
              have hsz : S8.size + S9.size ≤ 30000 := by
                rw [← H8.out, ← hS9, strOfNums_size, strOfNums_size]
                have h1 := HW.out
                have h2 := congrArg List.length HG.out
                rw [List.length_append] at h2
                omega
              have y1 : (9223372036854775807 < S8.size + S9.size) = False := eq_false (by omega)
              have y2 : S8.size + S9.size ≤ 9223372036854775807 := by omega
              have q0 : (0 : Int) ≤ (k : Int) := by omega
              have q1 : (k : Int) < (l1.length : Int) := by omega
              have hc6_0 : W.cell? ⟨g6, 0, none⟩ = some (Value.int .i64 1) := (blk_cell BK6.out 0).trans rfl
              have hc6_1 : W.cell? ⟨g6, 1, none⟩ = some (Value.slice Aa 0 ca) := (blk_cell BK6.out 1).trans rfl
              have hc6_2 : W.cell? ⟨g6, 2, none⟩ = some (Value.bool false) := (blk_cell BK6.out 2).trans rfl
              have hc6_3 : W.cell? ⟨g6, 3, none⟩ = some (Value.slice Da O.length ea) := (blk_cell BK6.out 3).trans rfl
              clear hx0 hn hne hm hD hQ hS9 hol hql hqd
              go_upto_region 19 with (fail)
              go_cut [14, 15] from 33 to 115 (fun v_s v_l wd_ => ∃ (g14 : Nat) (Ax : Option Addr) (cx : Nat) (Dx : Option Addr) (ex : Nat) (Ay : Option Addr) (cy : Nat), v_s = .pointer (some ⟨g14, 0, none⟩) ∧ v_l = .slice Ay Q.length cy ∧ Aside0 (Below W.heap.size W wd_) ∧ Aside0 (wd_.heap[g14]? = some (.cells #[Value.int .i64 1, Value.slice Ax 0 cx, Value.bool false, Value.slice Dx D.length ex] 29 (0, 0))) ∧ Aside0 (Kd.C (Kd.int .u8) wd_ Ax 0 []) ∧ Aside0 (Kd.C (Kd.int .u8) wd_ Dx D.length D) ∧ Aside0 (D.length ≤ ex) ∧ Aside0 (Kd.C (Kd.int .u8) wd_ Ay Q.length Q) ∧ Aside0 (Q.length ≤ cy))
              case first =>
                go_region_held3 (fun w' => Below W.heap.size W w' ∧ w'.cell? ⟨g6, 0, none⟩ = some (Value.int .i64 1) ∧ w'.cell? ⟨g6, 1, none⟩ = some (Value.slice Aa 0 ca) ∧ w'.cell? ⟨g6, 2, none⟩ = some (Value.bool false) ∧ w'.cell? ⟨g6, 3, none⟩ = some (Value.slice Da O.length ea) ∧ w'.cell? (ad.add k) = some (Value.int .i64 n)) (((refine keep5 hc6_0 hc6_1 hc6_2 hc6_3 hx ?_; first | exact below_drew1 (Below.refl _ _) | exact below_alloc (And.left (by assumption)) _ | exact below_alloc HWs.out _ | exact below_step (And.left (by assumption)) (by assumption) | exact below_set (below_set (below_set (below_set (And.left (by assumption)) (by first | assumption | exact Nat.le_refl _)) (by first | assumption | exact Nat.le_refl _)) (by first | assumption | exact Nat.le_refl _)) (by first | assumption | exact Nat.le_refl _)))) (first | ((go_at_call 12); (refine (conn_Pull.calls2 1 Aa ca [] false Da ea O n m _ ?pa (Nat.zero_le _) ?pb COc.out (Nat.zero_le _) HO6.out HN.out K1.out D Q P1.out Q1.out).mono ?_); (case pa => exact Kd.C_below CA.out (And.left (by assumption))); (case pb => exact Kd.C_below CO.out (And.left (by assumption))); rintro e w_ ⟨Ax, cx, Dx, ex, Ay, cy, rfl, hxx, hxxc, hyy, hyyc, hzz, hzzc, hb0⟩; have HXX := Aside0.mk hxx; have HYY := Aside0.mk hyy; have HYC := Aside0.mk hyyc; have HZZ := Aside0.mk hzz; have HZC := Aside0.mk hzzc; have HWs := Aside0.mk (below_step (And.left (by assumption)) hb0); (try (have BKr := Aside0.mk (blk_below (blk_drew (heap_alloc_new _ _)) hb0); have hcr_0 := (blk_cell BKr.out 0).trans (rfl : _ = some (Value.int .i64 0)); have hfr_0 := blk_frozen BKr.out 0; have hcr_1 := (blk_cell BKr.out 1).trans (rfl : _ = some (Value.slice none 0 0)); have hfr_1 := blk_frozen BKr.out 1; have hcr_2 := (blk_cell BKr.out 2).trans (rfl : _ = some (Value.bool false)); have hfr_2 := blk_frozen BKr.out 2; have hcr_3 := (blk_cell BKr.out 3).trans (rfl : _ = some (Value.slice none 0 0)); have hfr_3 := blk_frozen BKr.out 3)); have GS := Aside0.mk hb0.size; clear hxxc hxx hyy hyyc hzz hzzc))
                · go_wp2_with (fail)
                  go_meet
                  case rel =>
                    exact ⟨_, Ax, cx, Dx, ex, Ay, cy, rfl, rfl, ⟨below_alloc HWs.out _⟩, ⟨heap_alloc_new _ _⟩, ⟨Kd.C_alloc HXX.out _⟩, ⟨Kd.C_alloc HYY.out _⟩, HYC, ⟨Kd.C_alloc HZZ.out _⟩, HZC⟩
                · go_wp2_with (fail)
                  go_meet
                  case rel =>
                    exact ⟨_, Ax, cx, Dx, ex, Ay, cy, rfl, rfl, ⟨below_set (below_set (below_set (below_set HWs.out (by first | assumption | exact Nat.le_refl _)) (by first | assumption | exact Nat.le_refl _)) (by first | assumption | exact Nat.le_refl _)) (by first | assumption | exact Nat.le_refl _)⟩, ⟨putSeg_blk [Value.int .i64 1, Value.slice Ax 0 cx, Value.bool false, Value.slice Dx D.length ex] w_ W.heap.size 0 _ _ BKr.out⟩, ⟨C_far HXX.out BKr.out (by intro v hv x hx; subst hx; simp at hv) (fun i hi => putSeg_other [Value.int .i64 1, Value.slice Ax 0 cx, Value.bool false, Value.slice Dx D.length ex] w_ W.heap.size 0 i hi)⟩, ⟨C_far HYY.out BKr.out (by intro v hv x hx; subst hx; simp at hv) (fun i hi => putSeg_other [Value.int .i64 1, Value.slice Ax 0 cx, Value.bool false, Value.slice Dx D.length ex] w_ W.heap.size 0 i hi)⟩, HYC, ⟨C_far HZZ.out BKr.out (by intro v hv x hx; subst hx; simp at hv) (fun i hi => putSeg_other [Value.int .i64 1, Value.slice Ax 0 cx, Value.bool false, Value.slice Dx D.length ex] w_ W.heap.size 0 i hi)⟩, HZC⟩
              case rest =>
                obtain ⟨w5, rfl⟩ : ∃ x, x = wc := ⟨_, rfl⟩
                obtain ⟨g14, Ax, cx, Dx, ex, Ay, cy, rfl, rfl, HBc, BK14, CX, CP, CPc, CY, CYc⟩ := hcut
                have hbb := HBc.out
                replace HB := Aside0.mk (below_step HB.out hbb)
                have G6b := Aside0.mk (Nat.le_trans (Nat.le_of_lt (blk_lt BK6.out)) hbb.size)
                replace BK6 := Aside0.mk (blk_below BK6.out hbb)
                replace hx := (hbb.cell (World.block_lt_of_cell? _ _ hx)).trans hx
                clear hc6_0 hc6_1 hc6_2 hc6_3
                have hc14_0 : w5.cell? ⟨g14, 0, none⟩ = some (Value.int .i64 1) := (blk_cell BK14.out 0).trans rfl
                have hc14_1 : w5.cell? ⟨g14, 1, none⟩ = some (Value.slice Ax 0 cx) := (blk_cell BK14.out 1).trans rfl
                have hc14_2 : w5.cell? ⟨g14, 2, none⟩ = some (Value.bool false) := (blk_cell BK14.out 2).trans rfl
                have hc14_3 : w5.cell? ⟨g14, 3, none⟩ = some (Value.slice Dx D.length ex) := (blk_cell BK14.out 3).trans rfl
                have hvp := Kd.C_string (P := Try.prog) (A := Ay) (c := cy) Try.underlying25 Try.underlying5 Try.underlying9 CY.out; rw [T9.out] at hvp
                go_wp2_with (first | ((with_reducible refine gate_store (t := 29) (p := 6) rfl ?_); refine seg_ev rfl rfl 29 (.tmp 6) _ rfl (g := g6) (j := 0) (seg := [Value.int .i64 1, Value.slice Ax 0 cx, Value.bool false, Value.slice Dx D.length ex]) (cs' := #[Value.int .i64 1, Value.slice Ax 0 cx, Value.bool false, Value.slice Dx D.length ex]) rfl rfl rfl BK6.out (by kernel_rfl) (by simp) (by intro q hq; simp only [List.mem_cons, List.not_mem_nil, or_false] at hq; rcases hq with rfl | rfl | rfl | rfl <;> rfl) rfl ?_; intro w9 hk hz ho; replace CX := Aside0.mk (C_far CX.out BK6.out (by intro v hv x hx; subst hx; simp at hv) ho); replace CP := Aside0.mk (C_far CP.out BK6.out (by intro v hv x hx; subst hx; simp at hv) ho); replace HB := Aside0.mk (hz _ G6.out HB.out); replace BK6 := Aside0.mk hk; clear hk hz ho))
                go_meet
                case rel => exact ⟨_, Gt ++ Q, D, S8 ++ S9, Ax, cx, Dx, ex, rfl, rfl, H7, ⟨by rw [str_app, H8.out, T9.out]⟩, ⟨by rw [List.append_assoc, QD.out]; exact HG.out⟩, ⟨hdl⟩, HW, BK6, CX, CP, CPc, HB⟩
            · go_wp2_with (fail)
              go_meet
              case rel => exact ⟨W, Gt, O, S8, Aa, ca, Da, ea, rfl, rfl, H7, H8, HG, HO, HW, BK6, CA, CO, COc, HB⟩
          case rest =>
            clear H8 HG HO HW BK6 CA CO COc HB H7
            obtain ⟨W, Gt, O, S8, Aa, ca, Da, ea, rfl, rfl, H7, H8, HG, HO, HW, BK6, CA, CO, COc, HB⟩ := hcut
            have MY := Aside0.mk (show conn_May.f 1 [] false O = some true by obtain ⟨r, e, h⟩ := cmay_of 1 [] false O; rw [e]; exact congrArg some (h.2 ⟨by decide, rfl, by decide, HO.out⟩))
            have hc6_0 : W.cell? ⟨g6, 0, none⟩ = some (Value.int .i64 1) := (blk_cell BK6.out 0).trans rfl
            have hc6_1 : W.cell? ⟨g6, 1, none⟩ = some (Value.slice Aa 0 ca) := (blk_cell BK6.out 1).trans rfl
            have hc6_2 : W.cell? ⟨g6, 2, none⟩ = some (Value.bool false) := (blk_cell BK6.out 2).trans rfl
            have hc6_3 : W.cell? ⟨g6, 3, none⟩ = some (Value.slice Da O.length ea) := (blk_cell BK6.out 3).trans rfl
            go_wp2_with (first | ((go_at_call 13); (refine (conn_May.calls 1 Aa ca [] false Da ea O true _ CA.out (Nat.zero_le _) CO.out COc.out MY.out).mono ?_); rintro e w_ ⟨rfl, hb0⟩; replace CA := Aside0.mk (Kd.C_below CA.out hb0); replace CO := Aside0.mk (Kd.C_below CO.out hb0); replace BK6 := Aside0.mk (blk_below BK6.out hb0); replace HB := Aside0.mk (below_step HB.out hb0); clear hb0 hc6_0 hc6_1 hc6_2 hc6_3))
            go_roundw
            case rel => exact ⟨k + 1, _, Wn, Gt, O, S7, S8, Aa, ca, Da, ea, by omega, rfl, by go_num, rfl, rfl, H7, H8, HG, HO, HW, BK6, CA, CO, COc, HB⟩
            case measure => simp [intOf]; omega
    · have hol := HO.out
      have HO6 := Aside0.mk (show O.length ≤ 1000000 by omega)
      have KC := Aside0.mk (show O.length = clamp 1000 O.length by unfold clamp; omega)
      have PD := Aside0.mk (show O.drop O.length = [] from List.drop_length)
      have PT := Aside0.mk (show O.take O.length = O from List.take_length)
      obtain ⟨S9, hS9⟩ : ∃ S, strOfNums O = S := ⟨_, rfl⟩
      have T9 := Aside0.mk hS9
      have hsz : S8.size + S9.size ≤ 30000 := by
        rw [← H8.out, ← hS9, strOfNums_size, strOfNums_size]
        have h1 := HW.out
        have h2 := congrArg List.length HG.out
        rw [List.length_append] at h2
        omega
      have y1 : (9223372036854775807 < S8.size + S9.size) = False := eq_false (by omega)
      have y2 : S8.size + S9.size ≤ 9223372036854775807 := by omega
      have hS := Aside0.mk (show S8 ++ S9 = S7 by rw [← H8.out, ← hS9, ← str_app, HG.out, H7.out])
      have hnA : ¬ k < l0.length := fun h => hin (Or.inl h)
      have hnP : ¬ k < l1.length := fun h => hin (Or.inr h)
      have hc6_0 : W.cell? ⟨g6, 0, none⟩ = some (Value.int .i64 1) := (blk_cell BK6.out 0).trans rfl
      have hc6_1 : W.cell? ⟨g6, 1, none⟩ = some (Value.slice Aa 0 ca) := (blk_cell BK6.out 1).trans rfl
      have hc6_2 : W.cell? ⟨g6, 2, none⟩ = some (Value.bool false) := (blk_cell BK6.out 2).trans rfl
      have hc6_3 : W.cell? ⟨g6, 3, none⟩ = some (Value.slice Da O.length ea) := (blk_cell BK6.out 3).trans rfl
      clear hS9 hol hin
      go_wp2_with (first | ((go_at_call 12); (refine (conn_Pull.calls2 1 Aa ca [] false Da ea O 1000 O.length _ CA.out (Nat.zero_le _) CO.out COc.out (Nat.zero_le _) HO6.out (by decide) KC.out [] O PD.out PT.out).mono ?_); rintro e w5 ⟨Ax, cx, Dx, ex, Ay, cy, rfl, hxx, hxxc, hyy, hyyc, hzz, hzzc, hb0⟩; have CY := Aside0.mk hzz; replace HB := Aside0.mk (below_step HB.out hb0); clear hxx hxxc hyy hyyc hzz hzzc hb0 hc6_0 hc6_1 hc6_2 hc6_3) | ((with_reducible refine gate_dst (N := 16) rfl ?_); refine box_event ?hg (N := 16) ?hd (cs := #[.int .i64 0, .slice none 0 0, .bool false, .slice none 0 0]) (t := 29) ?hr ?_; (case hd => rfl); (case hg => rfl); (case hr => first | (go_simp; done) | (go_simp; rfl)); intro g16 hg16 w6 bk16 hb16; have G16 := Aside0.mk (hg16 ▸ HB.out.size : w.heap.size ≤ g16); have BK16 := Aside0.mk bk16; replace HB := Aside0.mk (below_step HB.out hb16); replace CY := Aside0.mk (Kd.C_below CY.out hb16); clear hg16 bk16 hb16) | ((with_reducible refine gate_store (t := 29) (p := 16) rfl ?_); refine seg_ev rfl rfl 29 (.tmp 16) _ rfl (g := g16) (j := 0) (seg := [.int .i64 1, .slice Ax 0 cx, .bool false, .slice Dx 0 ex]) (cs' := #[.int .i64 1, .slice Ax 0 cx, .bool false, .slice Dx 0 ex]) rfl rfl rfl BK16.out (by kernel_rfl) (by simp) (by intro q hq; simp only [List.mem_cons, List.not_mem_nil, or_false] at hq; rcases hq with rfl | rfl | rfl | rfl <;> rfl) rfl ?_; intro w7 hk hz ho; replace CY := Aside0.mk (C_far CY.out BK16.out (by intro v hv x hx; subst hx; simp at hv) ho); replace HB := Aside0.mk (hz _ G16.out HB.out); have hvp := Kd.C_string (P := Try.prog) (A := Ay) (c := cy) Try.underlying25 Try.underlying5 Try.underlying9 CY.out; rw [T9.out] at hvp; clear hk hz ho))
      go_ret
      exact ⟨by rw [hS.out]; simp, HB.out⟩
end Go.Proofs.Ytanheflbbadkkaa.X
