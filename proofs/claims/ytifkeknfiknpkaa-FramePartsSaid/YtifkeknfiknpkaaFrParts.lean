/- The law FrameParts, walked. -/
import Derived.Test.YtifkeknfiknpkaaFrBase
import Derived.Test.YtifkeknfiknpkaaFrAwake
import Derived.Test.YtifkeknfiknpkaaSeg
import Derived.Deep.RegionHeld3
import Derived.Deep.DeepCutAuto
namespace Go.Proofs.Ytifkeknfiknpkaa.X
open Go.RowKit Go.Proofs.YtifkeknfiknpkaaW.PrintWords Go.Proofs.YtifkeknfiknpkaaW.PrintLast Go.Proofs.YtifkeknfiknpkaaW.PrintMore
attribute [local go_sem] max2_int min2_int max_two min_two max_three min_three max_four min_four
set_option linter.unusedVariables false
set_option linter.unusedSimpArgs false
open Go.Proofs.Ytifkeknfiknpkaa.Fr
theorem ne_of_hat {v1 v : Value} {n : Nat} (h0 : v.ownBlock = none) (hat : v1.ownBlock = v.ownBlock ∨ ∃ b, v1.ownBlock = some b ∧ n ≤ b) (k : Nat) (hk : k < n) : some k ≠ v1.ownBlock := by
  rcases hat with h | ⟨b, h, hb⟩
  · rw [h, h0]; simp
  · rw [h]; intro e; injection e with e; omega
theorem keep2 {W w2 : World} {a b : Addr} {x y : Value} (ha : W.cell? a = some x) (hb : W.cell? b = some y) (h : Below W.heap.size W w2) : Below W.heap.size W w2 ∧ w2.cell? a = some x ∧ w2.cell? b = some y := ⟨h, (h.cell (World.block_lt_of_cell? W _ ha)).trans ha, (h.cell (World.block_lt_of_cell? W _ hb)).trans hb⟩
set_option maxHeartbeats 8000000 in
set_option maxRecDepth 100000 in
theorem towncrierlaw03_FrameParts.calls (A0 : Option Addr) (c0 : Nat) (l0 : List Int) (d0 : Bool) (A1 : Option Addr) (c1 : Nat) (l1 : List Int) (a2 : Int) (w : World) (hr0 : Kd.C (Kd.int .u8) w A0 l0.length l0) (hc0 : l0.length ≤ c0) (hb0 : Byt l0) (hr1 : Kd.C (Kd.int .u8) w A1 l1.length l1) (hc1 : l1.length ≤ c1) (hb1 : Byt l1) (hw2 : (Lit.int .i64 a2).wf = true) : Calls Try.prog 9 #[.agg #[.slice A0 l0.length c0, .bool d0], .slice A1 l1.length c1, .int .i64 a2] w fun e w' => e = .returned (.bool true) ∧ Below w.heap.size w w' := by
  have hu33 := Try.underlying33
  have CR0 := Aside0.mk hr0
  have HC0 := Aside0.mk hc0
  have HY0 := Aside0.mk hb0
  clear hr0 hc0 hb0
  have CR1 := Aside0.mk hr1
  have HC1 := Aside0.mk hc1
  have HY1 := Aside0.mk hb1
  clear hr1 hc1 hb1
  have HB := Aside0.mk (Below.refl w.heap.size w)
  by_cases h0 : 1500 < (l0.length : Int)
  · go_enter Try.func9, Try.ntmps9
    go_wp2_with (first | ((with_reducible refine gate_dst (N := 3) rfl ?_); refine box_event ?hg (N := 3) ?hd (cs := #[Value.slice A0 l0.length c0, Value.bool d0]) (t := 33) ?hr ?_; (case hd => rfl); (case hg => rfl); (case hr => first | (go_simp; done) | (go_simp; rfl)); intro g3 hg3 wb3 bk3 hb3; replace HB := Aside0.mk (below_step HB.out hb3); replace CR0 := Aside0.mk (Kd.C_below CR0.out hb3); replace CR1 := Aside0.mk (Kd.C_below CR1.out hb3); have BK3 := Aside0.mk bk3; have hcg3_0 : wb3.cell? ⟨g3, 0, none⟩ = some (Value.slice A0 l0.length c0) := (blk_cell BK3.out 0).trans rfl; have hcg3_1 : wb3.cell? ⟨g3, 1, none⟩ = some (Value.bool d0) := (blk_cell BK3.out 1).trans rfl; clear hg3 bk3 hb3) | ((go_at_call 20); (with_reducible refine (towncrierlaw03_awake.calls _).mono ?_); rintro e ww ⟨rfl, hb0⟩; have hbb := hb0; replace HB := Aside0.mk (below_step HB.out hbb); replace CR0 := Aside0.mk (Kd.C_below CR0.out hbb); replace CR1 := Aside0.mk (Kd.C_below CR1.out hbb); replace BK3 := Aside0.mk (blk_below BK3.out hbb); replace hcg3_0 : ww.cell? ⟨g3, 0, none⟩ = some (Value.slice A0 l0.length c0) := (blk_cell BK3.out 0).trans rfl; replace hcg3_1 : ww.cell? ⟨g3, 1, none⟩ = some (Value.bool d0) := (blk_cell BK3.out 1).trans rfl; clear hbb))
    go_ret
    exact ⟨rfl, HB.out⟩
  by_cases h1 : 1500 < (l1.length : Int)
  · go_enter Try.func9, Try.ntmps9
    go_wp2_with (first | ((with_reducible refine gate_dst (N := 3) rfl ?_); refine box_event ?hg (N := 3) ?hd (cs := #[Value.slice A0 l0.length c0, Value.bool d0]) (t := 33) ?hr ?_; (case hd => rfl); (case hg => rfl); (case hr => first | (go_simp; done) | (go_simp; rfl)); intro g3 hg3 wb3 bk3 hb3; replace HB := Aside0.mk (below_step HB.out hb3); replace CR0 := Aside0.mk (Kd.C_below CR0.out hb3); replace CR1 := Aside0.mk (Kd.C_below CR1.out hb3); have BK3 := Aside0.mk bk3; have hcg3_0 : wb3.cell? ⟨g3, 0, none⟩ = some (Value.slice A0 l0.length c0) := (blk_cell BK3.out 0).trans rfl; have hcg3_1 : wb3.cell? ⟨g3, 1, none⟩ = some (Value.bool d0) := (blk_cell BK3.out 1).trans rfl; clear hg3 bk3 hb3) | ((go_at_call 20); (with_reducible refine (towncrierlaw03_awake.calls _).mono ?_); rintro e ww ⟨rfl, hb0⟩; have hbb := hb0; replace HB := Aside0.mk (below_step HB.out hbb); replace CR0 := Aside0.mk (Kd.C_below CR0.out hbb); replace CR1 := Aside0.mk (Kd.C_below CR1.out hbb); replace BK3 := Aside0.mk (blk_below BK3.out hbb); replace hcg3_0 : ww.cell? ⟨g3, 0, none⟩ = some (Value.slice A0 l0.length c0) := (blk_cell BK3.out 0).trans rfl; replace hcg3_1 : ww.cell? ⟨g3, 1, none⟩ = some (Value.bool d0) := (blk_cell BK3.out 1).trans rfl; clear hbb))
    go_ret
    exact ⟨rfl, HB.out⟩
  by_cases h2 : a2 < 0
  · go_enter Try.func9, Try.ntmps9
    go_wp2_with (first | ((with_reducible refine gate_dst (N := 3) rfl ?_); refine box_event ?hg (N := 3) ?hd (cs := #[Value.slice A0 l0.length c0, Value.bool d0]) (t := 33) ?hr ?_; (case hd => rfl); (case hg => rfl); (case hr => first | (go_simp; done) | (go_simp; rfl)); intro g3 hg3 wb3 bk3 hb3; replace HB := Aside0.mk (below_step HB.out hb3); replace CR0 := Aside0.mk (Kd.C_below CR0.out hb3); replace CR1 := Aside0.mk (Kd.C_below CR1.out hb3); have BK3 := Aside0.mk bk3; have hcg3_0 : wb3.cell? ⟨g3, 0, none⟩ = some (Value.slice A0 l0.length c0) := (blk_cell BK3.out 0).trans rfl; have hcg3_1 : wb3.cell? ⟨g3, 1, none⟩ = some (Value.bool d0) := (blk_cell BK3.out 1).trans rfl; clear hg3 bk3 hb3) | ((go_at_call 20); (with_reducible refine (towncrierlaw03_awake.calls _).mono ?_); rintro e ww ⟨rfl, hb0⟩; have hbb := hb0; replace HB := Aside0.mk (below_step HB.out hbb); replace CR0 := Aside0.mk (Kd.C_below CR0.out hbb); replace CR1 := Aside0.mk (Kd.C_below CR1.out hbb); replace BK3 := Aside0.mk (blk_below BK3.out hbb); replace hcg3_0 : ww.cell? ⟨g3, 0, none⟩ = some (Value.slice A0 l0.length c0) := (blk_cell BK3.out 0).trans rfl; replace hcg3_1 : ww.cell? ⟨g3, 1, none⟩ = some (Value.bool d0) := (blk_cell BK3.out 1).trans rfl; clear hbb))
    go_ret
    exact ⟨rfl, HB.out⟩
  by_cases h3 : (l1.length : Int) < a2
  · go_enter Try.func9, Try.ntmps9
    go_wp2_with (first | ((with_reducible refine gate_dst (N := 3) rfl ?_); refine box_event ?hg (N := 3) ?hd (cs := #[Value.slice A0 l0.length c0, Value.bool d0]) (t := 33) ?hr ?_; (case hd => rfl); (case hg => rfl); (case hr => first | (go_simp; done) | (go_simp; rfl)); intro g3 hg3 wb3 bk3 hb3; replace HB := Aside0.mk (below_step HB.out hb3); replace CR0 := Aside0.mk (Kd.C_below CR0.out hb3); replace CR1 := Aside0.mk (Kd.C_below CR1.out hb3); have BK3 := Aside0.mk bk3; have hcg3_0 : wb3.cell? ⟨g3, 0, none⟩ = some (Value.slice A0 l0.length c0) := (blk_cell BK3.out 0).trans rfl; have hcg3_1 : wb3.cell? ⟨g3, 1, none⟩ = some (Value.bool d0) := (blk_cell BK3.out 1).trans rfl; clear hg3 bk3 hb3) | ((go_at_call 20); (with_reducible refine (towncrierlaw03_awake.calls _).mono ?_); rintro e ww ⟨rfl, hb0⟩; have hbb := hb0; replace HB := Aside0.mk (below_step HB.out hbb); replace CR0 := Aside0.mk (Kd.C_below CR0.out hbb); replace CR1 := Aside0.mk (Kd.C_below CR1.out hbb); replace BK3 := Aside0.mk (blk_below BK3.out hbb); replace hcg3_0 : ww.cell? ⟨g3, 0, none⟩ = some (Value.slice A0 l0.length c0) := (blk_cell BK3.out 0).trans rfl; replace hcg3_1 : ww.cell? ⟨g3, 1, none⟩ = some (Value.bool d0) := (blk_cell BK3.out 1).trans rfl; clear hbb))
    go_ret
    exact ⟨rfl, HB.out⟩
  obtain ⟨k, rfl⟩ : ∃ k : Nat, a2 = (k : Int) := ⟨a2.toNat, by omega⟩
  have hk : k ≤ l1.length := by omega
  obtain ⟨u, hu⟩ : ∃ u, l1.take k = u := ⟨_, rfl⟩
  obtain ⟨v, hv⟩ : ∃ v, l1.drop k = v := ⟨_, rfl⟩
  have huv : u ++ v = l1 := by rw [← hu, ← hv, List.take_append_drop]
  have hul : u.length = k := by rw [← hu, List.length_take]; omega
  have hvl : v.length = l1.length - k := by rw [← hv, List.length_drop]
  have hyu : Byt u := by rw [← hu]; exact HY1.out.take k
  have hyv : Byt v := by rw [← hv]; exact HY1.out.drop k
  obtain ⟨Y, E, M, e1⟩ : ∃ Y E M, feed l0 d0 u = (Y, E, M) := ⟨_, _, _, rfl⟩
  obtain ⟨Z, G, L2, e2⟩ : ∃ Z G L2, feed Y E v = (Z, G, L2) := ⟨_, _, _, rfl⟩
  have hfb := feed_bytes l0 d0 u HY0.out hyu
  rw [e1] at hfb
  have hfc := feed_bytes Y E v hfb.1 hyv
  rw [e2] at hfc
  have hyl : Y.length ≤ 3000 := by have := hfb.2.2.1; simp only at this; omega
  have e0 : feed l0 d0 l1 = (Z, G, M ++ L2) := by rw [← huv, feed_append, e1]; simp only []; rw [e2]
  have F0 := Aside0.mk ((feed_f l0 d0 l1 HY0.out HY1.out (by omega) (by omega)).trans (congrArg some e0))
  have F1 := Aside0.mk ((feed_f l0 d0 u HY0.out hyu (by omega) (by omega)).trans (congrArg some e1))
  have F2 := Aside0.mk ((feed_f Y E v hfb.1 hyv (by omega) (by omega)).trans (congrArg some e2))
  have hml : M.length ≤ 3000 := by have := hfb.2.2.2; simp only at this; omega
  have hnl : L2.length ≤ 3000 := by have := hfc.2.2.2; simp only at this; omega
  obtain ⟨L, hL⟩ : ∃ L, M ++ L2 = L := ⟨_, rfl⟩
  have hll : L.length ≤ 1999 := by
    have h1 := hfb.2.2.2
    have h2 := hfc.2.2.2
    have h3 := hfb.2.2.1
    simp only at h1 h2 h3
    rw [← hL, List.length_append]
    omega
  have LS := Aside0.mk (lists_f L (by omega) 2000 (by omega))
  rw [hL] at F0
  have HL := Aside0.mk hL
  have S1 := Aside0.mk (same_f Z G)
  obtain ⟨i0, hi0, _, hsz0, _⟩ := info_parts info5
  have hcutA : ∀ W : World, (Instr.slice 23 (.slice A1 l1.length c1) none (some (.int .i64 (k : Int))) none).run Try.prog W = .ok (.slice A1 u.length c1) W := fun W => by
    rw [cut_to (P := Try.prog) 23 5 .i64 Try.underlying23 hi0 A1 l1.length c1 (k : Int) (by omega) (by omega) HC1.out W, Int.toNat_natCast, hul]
  obtain ⟨Av, hAv⟩ : ∃ Av, (if c1 = k then A1 else A1.map (·.add (k * 1))) = Av := ⟨_, rfl⟩
  obtain ⟨cv, hcv⟩ : ∃ cv, c1 - k = cv := ⟨_, rfl⟩
  have hcutB : ∀ W : World, (Instr.slice 23 (.slice A1 l1.length c1) (some (.int .i64 (k : Int))) none none).run Try.prog W = .ok (.slice Av v.length cv) W := fun W => by
    rw [cut_from (P := Try.prog) 23 5 .i64 Try.underlying23 hi0 1 hsz0 A1 l1.length c1 (k : Int) (by omega) (by omega) W, Int.toNat_natCast, hAv, hcv, hvl]
  have HCu := Aside0.mk (show u.length ≤ c1 by have := HC1.out; omega)
  have HCv := Aside0.mk (show v.length ≤ cv by have := HC1.out; omega)
  have CU : ∀ W, Kd.C (Kd.int .u8) W A1 l1.length l1 → Kd.C (Kd.int .u8) W A1 u.length u := fun W h => by
    have := Kd.C_take (m := k) h hk
    rw [hu] at this
    exact this
  have CV : ∀ W, Kd.C (Kd.int .u8) W A1 l1.length l1 → Kd.C (Kd.int .u8) W Av v.length v := fun W h => by
    have := Kd.C_drop (m := k) (c := c1) h hk HC1.out
    rw [hv] at this
    rw [← hAv]
    exact this
  replace CU := Aside0.mk CU
  replace CV := Aside0.mk CV
  clear hfb hfc e0 e1 e2 hL huv hu hv hyu hyv hyl hul hvl hAv hcv hll
  go_enter Try.func9, Try.ntmps9
  go_upto_region 5 with (first | ((with_reducible refine gate_dst (N := 3) rfl ?_); refine box_event ?hg (N := 3) ?hd (cs := #[Value.slice A0 l0.length c0, Value.bool d0]) (t := 33) ?hr ?_; (case hd => rfl); (case hg => rfl); (case hr => first | (go_simp; done) | (go_simp; rfl)); intro g3 hg3 wb3 bk3 hb3; replace HB := Aside0.mk (below_step HB.out hb3); replace CR0 := Aside0.mk (Kd.C_below CR0.out hb3); replace CR1 := Aside0.mk (Kd.C_below CR1.out hb3); have BK3 := Aside0.mk bk3; have hcg3_0 : wb3.cell? ⟨g3, 0, none⟩ = some (Value.slice A0 l0.length c0) := (blk_cell BK3.out 0).trans rfl; have hcg3_1 : wb3.cell? ⟨g3, 1, none⟩ = some (Value.bool d0) := (blk_cell BK3.out 1).trans rfl; clear hg3 bk3 hb3) | ((go_at_call 20); (with_reducible refine (towncrierlaw03_awake.calls _).mono ?_); rintro e ww ⟨rfl, hb0⟩; have hbb := hb0; replace HB := Aside0.mk (below_step HB.out hbb); replace CR0 := Aside0.mk (Kd.C_below CR0.out hbb); replace CR1 := Aside0.mk (Kd.C_below CR1.out hbb); replace BK3 := Aside0.mk (blk_below BK3.out hbb); replace hcg3_0 : ww.cell? ⟨g3, 0, none⟩ = some (Value.slice A0 l0.length c0) := (blk_cell BK3.out 0).trans rfl; replace hcg3_1 : ww.cell? ⟨g3, 1, none⟩ = some (Value.bool d0) := (blk_cell BK3.out 1).trans rfl; clear hbb) | ((go_at_call 23); have tk_ := F0; clear tk_; (with_reducible refine (frame_Feed.calls A0 c0 l0 d0 A1 c1 l1 _ _ _ _ CR0.out HC0.out CR1.out HC1.out F0.out).mono ?_); rintro e wfx ⟨Abx, cbx, Alx, clx, rfl, hxx, hxcx, hyx, hycx, hb0⟩; have hbb := hb0; replace HB := Aside0.mk (below_step HB.out hbb); replace CR0 := Aside0.mk (Kd.C_below CR0.out hbb); replace CR1 := Aside0.mk (Kd.C_below CR1.out hbb); replace BK3 := Aside0.mk (blk_below BK3.out hbb); replace hcg3_0 : wfx.cell? ⟨g3, 0, none⟩ = some (Value.slice A0 l0.length c0) := (blk_cell BK3.out 0).trans rfl; replace hcg3_1 : wfx.cell? ⟨g3, 1, none⟩ = some (Value.bool d0) := (blk_cell BK3.out 1).trans rfl; clear hbb; have CBx := Aside0.mk hxx; have CBcx := Aside0.mk hxcx; have CLx := Aside0.mk hyx; have CLcx := Aside0.mk hycx; clear hxx hxcx hyx hycx; clear F0) | ((with_reducible refine gate_dst (N := 8) rfl ?_); refine box_event ?hg (N := 8) ?hd (cs := #[.slice none 0 0, .bool false]) (t := 33) ?hr ?_; (case hd => rfl); (case hg => rfl); (case hr => first | (go_simp; done) | (go_simp; rfl)); intro g8 hg8 wa8 bk8 hb8; replace hg8 := Aside0.mk (Nat.le_of_eq hg8.symm); replace hb8 := Aside0.mk hb8; replace bk8 := Aside0.mk bk8) | ((with_reducible refine gate_store (t := 33) (p := 8) rfl ?_); refine store2_ev rfl rfl 33 (.tmp 8) _ rfl (g := g8) (u := Value.slice Abx Z.length cbx) (v := Value.bool G) rfl rfl bk8.out (by kernel_rfl) rfl rfl ?_; intro wv8 hk8 hz8; replace hz8 := hz8 _ hg8.out hb8.out; replace HB := Aside0.mk (below_step HB.out hz8); replace CR0 := Aside0.mk (Kd.C_below CR0.out hz8); replace CR1 := Aside0.mk (Kd.C_below CR1.out hz8); replace BK3 := Aside0.mk (blk_below BK3.out hz8); replace CBx := Aside0.mk (Kd.C_below CBx.out hz8); replace CLx := Aside0.mk (Kd.C_below CLx.out hz8); replace hcg3_0 : wv8.cell? ⟨g3, 0, none⟩ = some (Value.slice A0 l0.length c0) := (blk_cell BK3.out 0).trans rfl; replace hcg3_1 : wv8.cell? ⟨g3, 1, none⟩ = some (Value.bool d0) := (blk_cell BK3.out 1).trans rfl; have BK8 := Aside0.mk hk8; have hcg8_0 : wv8.cell? ⟨g8, 0, none⟩ = some (Value.slice Abx Z.length cbx) := (blk_cell BK8.out 0).trans rfl; have hcg8_1 : wv8.cell? ⟨g8, 1, none⟩ = some (Value.bool G) := (blk_cell BK8.out 1).trans rfl; clear hk8 hz8 bk8 hb8 hg8))
  go_cut [10, 11] (fun v_s v_l wd_ => ∃ (g10 : Nat) (Aby : Option Addr) (cby : Nat) (Aly : Option Addr) (cly : Nat), v_s = .pointer (some ⟨g10, 0, none⟩) ∧ v_l = .slice Aly M.length cly ∧ Aside0 (Below wv8.heap.size wv8 wd_) ∧ Aside0 (wd_.heap[g10]? = some (.cells #[Value.slice Aby Y.length cby, Value.bool E] 33 (0, 0))) ∧ Aside0 (Kd.C (Kd.int .u8) wd_ Aby Y.length Y) ∧ Aside0 (Y.length ≤ cby) ∧ Aside0 (Kd.N (Kd.slice 5 (Kd.int .u8)) 23 wd_ wv8.heap.size (fun k => wv8.heap.size ≤ k) (.slice Aly M.length cly) M) ∧ Aside0 (M.length ≤ cly))
  case first =>
    go_region_held3 (fun w' => Below wv8.heap.size wv8 w' ∧ w'.cell? ⟨g3, 0, none⟩ = some (Value.slice A0 l0.length c0) ∧ w'.cell? ⟨g3, 1, none⟩ = some (Value.bool d0)) (((refine keep2 hcg3_0 hcg3_1 ?_; first | exact below_drew1 (Below.refl _ _) | exact below_alloc (And.left (by assumption)) _ | exact below_alloc HWs.out _ | exact below_step (And.left (by assumption)) (by assumption) | exact below_set (below_set (And.left (by assumption)) (by first | assumption | exact Nat.le_refl _)) (by first | assumption | exact Nat.le_refl _)))) (first | ((go_at_call 23); (refine (frame_Feed.callsR A0 c0 l0 d0 A1 c1 u Y E M _ ?pa HC0.out ?pb HCu.out F1.out).mono ?_); (case pa => exact Kd.C_below CR0.out (And.left (by assumption))); (case pb => exact CU.out _ (Kd.C_below CR1.out (And.left (by assumption)))); rintro e w_ ⟨Aby, cby, Aly, cly, rfl, hxx, hxc, hyx, hyc, _, hnn, hb0⟩; have HXX := Aside0.mk hxx; have HXC := Aside0.mk hxc; have HYC := Aside0.mk hyc; have HNN := Aside0.mk hnn; have HWs := Aside0.mk (below_step (And.left (by assumption)) hb0); (try (have BKr := Aside0.mk (blk_below (blk_drew (heap_alloc_new _ _)) hb0); have hcr_0 := (blk_cell BKr.out 0).trans (rfl : _ = some (Value.slice none 0 0)); have hcr_1 := (blk_cell BKr.out 1).trans (rfl : _ = some (Value.bool false)); have hfr_0 := blk_frozen BKr.out 0; have hfr_1 := blk_frozen BKr.out 1)); have GS := Aside0.mk hb0.size; clear hxx hxc hyx hyc hnn))
    · go_wp2_with (fail)
      go_meet
      case rel =>
        have SZ : wv8.heap.size ≤ _ := (below_drew1 (Below.refl wv8.heap.size wv8)).size
        exact ⟨_, Aby, cby, Aly, cly, rfl, rfl, ⟨below_alloc HWs.out _⟩, ⟨heap_alloc_new _ _⟩, ⟨Kd.C_alloc HXX.out _⟩, HXC, ⟨Kd.N_alloc (Kd.N_mono (Kd.N_lower HNN.out SZ) (fun _ h => Nat.le_trans SZ h)) _⟩, HYC⟩
    · go_wp2_with (fail)
      go_meet
      case rel =>
        have GLT : wv8.heap.size < (wv8.alloc (.cells #[.slice none 0 0, .bool false] 33)).drew.heap.size := blk_lt (blk_drew (heap_alloc_new _ _))
        have SZ := Nat.le_of_lt GLT
        have HNF := Kd.N_far (p := ⟨wv8.heap.size, 1, none⟩) (Kd.N_far (p := ⟨wv8.heap.size, 0, none⟩) HNN.out (fun k h e => absurd e (Nat.ne_of_gt (Nat.lt_of_lt_of_le GLT h))) (Value.slice Aby Y.length cby)) (fun k h e => absurd e (Nat.ne_of_gt (Nat.lt_of_lt_of_le GLT h))) (Value.bool E)
        exact ⟨_, Aby, cby, Aly, cly, rfl, rfl, ⟨below_set (below_set HWs.out (Nat.le_refl _)) (Nat.le_refl _)⟩, ⟨putSeg_blk [Value.slice Aby Y.length cby, Value.bool E] w_ wv8.heap.size 0 _ _ BKr.out⟩, ⟨C_far HXX.out BKr.out (by intro v hv x hx; subst hx; simp at hv) (fun i hi => putSeg_other [Value.slice Aby Y.length cby, Value.bool E] w_ wv8.heap.size 0 i hi)⟩, HXC, ⟨Kd.N_mono (Kd.N_lower HNF SZ) (fun _ h => Nat.le_trans SZ h)⟩, HYC⟩
  case rest =>
    obtain ⟨w5, rfl⟩ : ∃ x, x = wc := ⟨_, rfl⟩
    obtain ⟨g10, Aby, cby, Aly, cly, rfl, rfl, HBc, BK10, CBy, CBcy, NLy, CLcy⟩ := hcut
    have hbb := HBc.out
    replace HB := Aside0.mk (below_step HB.out hbb)
    replace CR0 := Aside0.mk (Kd.C_below CR0.out hbb)
    replace CR1 := Aside0.mk (Kd.C_below CR1.out hbb)
    replace BK3 := Aside0.mk (blk_below BK3.out hbb)
    replace CBx := Aside0.mk (Kd.C_below CBx.out hbb)
    replace CLx := Aside0.mk (Kd.C_below CLx.out hbb)
    replace BK8 := Aside0.mk (blk_below BK8.out hbb)
    replace hcg3_0 : w5.cell? ⟨g3, 0, none⟩ = some (Value.slice A0 l0.length c0) := (blk_cell BK3.out 0).trans rfl
    replace hcg3_1 : w5.cell? ⟨g3, 1, none⟩ = some (Value.bool d0) := (blk_cell BK3.out 1).trans rfl
    replace hcg8_0 : w5.cell? ⟨g8, 0, none⟩ = some (Value.slice Abx Z.length cbx) := (blk_cell BK8.out 0).trans rfl
    replace hcg8_1 : w5.cell? ⟨g8, 1, none⟩ = some (Value.bool G) := (blk_cell BK8.out 1).trans rfl
    have CLy := Aside0.mk (Kd.N_reads' NLy.out).2.2
    have hcg10_0 : w5.cell? ⟨g10, 0, none⟩ = some (Value.slice Aby Y.length cby) := (blk_cell BK10.out 0).trans rfl
    have hcg10_1 : w5.cell? ⟨g10, 1, none⟩ = some (Value.bool E) := (blk_cell BK10.out 1).trans rfl
    clear hbb HBc
    go_upto_region 6 with (fail)
    go_cut [12, 13] (fun v_s v_l wd_ => ∃ (g12 : Nat) (Abz : Option Addr) (cbz : Nat) (Alz : Option Addr) (clz : Nat), v_s = .pointer (some ⟨g12, 0, none⟩) ∧ v_l = .slice Alz L2.length clz ∧ Aside0 (Below w5.heap.size w5 wd_) ∧ Aside0 (wd_.heap[g12]? = some (.cells #[Value.slice Abz Z.length cbz, Value.bool G] 33 (0, 0))) ∧ Aside0 (Kd.C (Kd.int .u8) wd_ Abz Z.length Z) ∧ Aside0 (Z.length ≤ cbz) ∧ Aside0 (Kd.N (Kd.slice 5 (Kd.int .u8)) 23 wd_ w5.heap.size (fun k => w5.heap.size ≤ k) (.slice Alz L2.length clz) L2) ∧ Aside0 (L2.length ≤ clz))
    case first =>
      go_region_held3 (fun w' => Below w5.heap.size w5 w' ∧ w'.cell? ⟨g10, 0, none⟩ = some (Value.slice Aby Y.length cby) ∧ w'.cell? ⟨g10, 1, none⟩ = some (Value.bool E)) (((refine keep2 hcg10_0 hcg10_1 ?_; first | exact below_drew1 (Below.refl _ _) | exact below_alloc (And.left (by assumption)) _ | exact below_alloc HWs.out _ | exact below_step (And.left (by assumption)) (by assumption) | exact below_set (below_set (And.left (by assumption)) (by first | assumption | exact Nat.le_refl _)) (by first | assumption | exact Nat.le_refl _)))) (first | ((go_at_call 23); (refine (frame_Feed.callsR Aby cby Y E Av cv v Z G L2 _ ?pa CBcy.out ?pb HCv.out F2.out).mono ?_); (case pa => exact Kd.C_below CBy.out (And.left (by assumption))); (case pb => exact CV.out _ (Kd.C_below CR1.out (And.left (by assumption)))); rintro e w_ ⟨Abz, cbz, Alz, clz, rfl, hxx, hxc, hyx, hyc, _, hnn, hb0⟩; have HXX := Aside0.mk hxx; have HXC := Aside0.mk hxc; have HYC := Aside0.mk hyc; have HNN := Aside0.mk hnn; have HWs := Aside0.mk (below_step (And.left (by assumption)) hb0); (try (have BKr := Aside0.mk (blk_below (blk_drew (heap_alloc_new _ _)) hb0); have hcr_0 := (blk_cell BKr.out 0).trans (rfl : _ = some (Value.slice none 0 0)); have hcr_1 := (blk_cell BKr.out 1).trans (rfl : _ = some (Value.bool false)); have hfr_0 := blk_frozen BKr.out 0; have hfr_1 := blk_frozen BKr.out 1)); have GS := Aside0.mk hb0.size; clear hxx hxc hyx hyc hnn))
      · go_wp2_with (fail)
        go_meet
        case rel =>
          have SZ : w5.heap.size ≤ _ := (below_drew1 (Below.refl w5.heap.size w5)).size
          exact ⟨_, Abz, cbz, Alz, clz, rfl, rfl, ⟨below_alloc HWs.out _⟩, ⟨heap_alloc_new _ _⟩, ⟨Kd.C_alloc HXX.out _⟩, HXC, ⟨Kd.N_alloc (Kd.N_mono (Kd.N_lower HNN.out SZ) (fun _ h => Nat.le_trans SZ h)) _⟩, HYC⟩
      · go_wp2_with (fail)
        go_meet
        case rel =>
          have GLT : w5.heap.size < (w5.alloc (.cells #[.slice none 0 0, .bool false] 33)).drew.heap.size := blk_lt (blk_drew (heap_alloc_new _ _))
          have SZ := Nat.le_of_lt GLT
          have HNF := Kd.N_far (p := ⟨w5.heap.size, 1, none⟩) (Kd.N_far (p := ⟨w5.heap.size, 0, none⟩) HNN.out (fun k h e => absurd e (Nat.ne_of_gt (Nat.lt_of_lt_of_le GLT h))) (Value.slice Abz Z.length cbz)) (fun k h e => absurd e (Nat.ne_of_gt (Nat.lt_of_lt_of_le GLT h))) (Value.bool G)
          exact ⟨_, Abz, cbz, Alz, clz, rfl, rfl, ⟨below_set (below_set HWs.out (Nat.le_refl _)) (Nat.le_refl _)⟩, ⟨putSeg_blk [Value.slice Abz Z.length cbz, Value.bool G] w_ w5.heap.size 0 _ _ BKr.out⟩, ⟨C_far HXX.out BKr.out (by intro v hv x hx; subst hx; simp at hv) (fun i hi => putSeg_other [Value.slice Abz Z.length cbz, Value.bool G] w_ w5.heap.size 0 i hi)⟩, HXC, ⟨Kd.N_mono (Kd.N_lower HNF SZ) (fun _ h => Nat.le_trans SZ h)⟩, HYC⟩
    case rest =>
      obtain ⟨w6, rfl⟩ : ∃ x, x = wc := ⟨_, rfl⟩
      obtain ⟨g12, Abz, cbz, Alz, clz, rfl, rfl, HBc, BK12, CBz, CBcz, NLz, CLcz⟩ := hcut
      have hbb := HBc.out
      replace HB := Aside0.mk (below_step HB.out hbb)
      replace CR0 := Aside0.mk (Kd.C_below CR0.out hbb)
      replace CR1 := Aside0.mk (Kd.C_below CR1.out hbb)
      replace BK3 := Aside0.mk (blk_below BK3.out hbb)
      replace CBx := Aside0.mk (Kd.C_below CBx.out hbb)
      replace CLx := Aside0.mk (Kd.C_below CLx.out hbb)
      replace BK8 := Aside0.mk (blk_below BK8.out hbb)
      replace BK10 := Aside0.mk (blk_below BK10.out hbb)
      replace CBy := Aside0.mk (Kd.C_below CBy.out hbb)
      replace CLy := Aside0.mk (Kd.C_below CLy.out hbb)
      replace hcg3_0 : w6.cell? ⟨g3, 0, none⟩ = some (Value.slice A0 l0.length c0) := (blk_cell BK3.out 0).trans rfl
      replace hcg3_1 : w6.cell? ⟨g3, 1, none⟩ = some (Value.bool d0) := (blk_cell BK3.out 1).trans rfl
      replace hcg8_0 : w6.cell? ⟨g8, 0, none⟩ = some (Value.slice Abx Z.length cbx) := (blk_cell BK8.out 0).trans rfl
      replace hcg8_1 : w6.cell? ⟨g8, 1, none⟩ = some (Value.bool G) := (blk_cell BK8.out 1).trans rfl
      replace hcg10_0 : w6.cell? ⟨g10, 0, none⟩ = some (Value.slice Aby Y.length cby) := (blk_cell BK10.out 0).trans rfl
      replace hcg10_1 : w6.cell? ⟨g10, 1, none⟩ = some (Value.bool E) := (blk_cell BK10.out 1).trans rfl
      have CLz := Aside0.mk (Kd.N_reads' NLz.out).2.2
      have hcg12_0 : w6.cell? ⟨g12, 0, none⟩ = some (Value.slice Abz Z.length cbz) := (blk_cell BK12.out 0).trans rfl
      have hcg12_1 : w6.cell? ⟨g12, 1, none⟩ = some (Value.bool G) := (blk_cell BK12.out 1).trans rfl
      clear hbb HBc
      go_wp2_with (first | ((go_at_call 25); have tk_ := S1; clear tk_; (refine (towncrierref03_Same.calls Abx cbx Z G Abz cbz Z G true _ CBx.out CBcx.out CBz.out CBcz.out S1.out).mono ?_); rintro e ws ⟨rfl, hb0⟩; replace HB := Aside0.mk (below_step HB.out hb0); have FLx := Aside0.mk (Kd.C_F (Kd.heap_slice 5 (Kd.heap_int .u8)) (Kd.C_below CLx.out hb0)); have FLy := Aside0.mk (Kd.C_F (Kd.heap_slice 5 (Kd.heap_int .u8)) (Kd.C_below CLy.out hb0)); have FLz := Aside0.mk (Kd.C_F (Kd.heap_slice 5 (Kd.heap_int .u8)) (Kd.C_below CLz.out hb0)); clear hb0 S1) | ((with_reducible refine gate_builtin (b := .append) (xs := #[.const (.slice none 0 0), .tmp 67]) rfl ?_); at_builtin; refine Kd.N_append_rows (Kd.slice 5 (Kd.int .u8)) (w0 := w) w.heap.size rfl (.const (.slice none 0 0)) (.tmp 67) 36 23 (.slice none 0 0) 24 rfl Try.underlying36 info23 rfl (by decide) (by omega) (.slice none 0 0) [] M Aly M.length cly (fun _ => True) (fun k => k < ws.heap.size) rfl rfl (Kd.N_nil _ _ _ _ _) FLy.out (fun k _ => ⟨trivial, by simp [Value.ownBlock]⟩) (fun _ _ => trivial) HB.out HB.out.size (by simp; omega) ?_; intro v68 w68 hn hb hg hat; rw [List.nil_append] at hn; have NM := Aside0.mk hn; replace FLx := Aside0.mk (Kd.F_grown FLx.out hg (fun _ _ => by simp [Value.ownBlock])); replace FLz := Aside0.mk (Kd.F_grown FLz.out hg (fun _ _ => by simp [Value.ownBlock])); have NEQ := Aside0.mk (ne_of_hat rfl hat); replace HB := Aside0.mk hb; clear hn hb hg hat) | ((with_reducible refine gate_builtin (b := .append) (xs := #[.tmp 68, .tmp 69]) rfl ?_); at_builtin; refine Kd.N_append_rows (Kd.slice 5 (Kd.int .u8)) (w0 := w) w.heap.size rfl (.tmp 68) (.tmp 69) 36 23 (.slice none 0 0) 24 rfl Try.underlying36 info23 rfl (by decide) (by omega) v68 M L2 Alz L2.length clz (fun _ => True) (fun k => k < ws.heap.size) rfl rfl NM.out FLz.out (fun k hk => ⟨trivial, NEQ.out k hk⟩) (fun _ _ => trivial) HB.out HB.out.size (by omega) ?_; intro v70 w70 hn hb hg hat; rw [HL.out] at hn; obtain ⟨A70, c70, rfl⟩ := Kd.N_slice hn; have C70 := Aside0.mk (Kd.N_reads' hn).2.2; have C70c := Aside0.mk (Kd.N_reads' hn).2.1; have CLw := Aside0.mk (Kd.F_now (Kd.F_grown FLx.out hg NEQ.out)); replace HB := Aside0.mk hb; clear hn hb hg hat) | ((go_at_call 26); (refine (towncrierref03_Lists.calls 2000 Alx clx L A70 c70 L true _ CLw.out CLcx.out C70.out C70c.out LS.out).mono ?_); rintro e wl ⟨rfl, hd0⟩; replace HB := Aside0.mk (below_step HB.out (drawn_below hd0)); clear hd0))
      go_ret
      exact ⟨by simp, HB.out⟩
end Go.Proofs.Ytifkeknfiknpkaa.X
