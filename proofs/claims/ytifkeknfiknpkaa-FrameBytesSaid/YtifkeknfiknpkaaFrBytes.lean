/- The law FrameBytes, walked. -/
import Derived.Test.YtifkeknfiknpkaaFrBase
import Derived.Test.YtifkeknfiknpkaaFrAwake
import Derived.Test.YtifkeknfiknpkaaSeg
import Derived.Deep.RegionHeld3
import Derived.IntWalk
import Derived.Deep.DeepCutAuto
namespace Go.Proofs.Ytifkeknfiknpkaa.X
open Go.RowKit Go.Proofs.YtifkeknfiknpkaaW.PrintWords Go.Proofs.YtifkeknfiknpkaaW.PrintLast Go.Proofs.YtifkeknfiknpkaaW.PrintMore
attribute [local go_sem] max2_int min2_int max_two min_two max_three min_three max_four min_four
set_option linter.unusedVariables false
set_option linter.unusedSimpArgs false
open Go.Proofs.Ytifkeknfiknpkaa.Fr
def fbs (l0 : List Int) (d0 : Bool) (l1 : List Int) (k : Nat) : List Int × Bool × List (List Int) := if k = 0 then (l0, d0, []) else feed l0 d0 (l1.take k)
theorem fbs_step {l0 : List Int} {d0 : Bool} {l1 : List Int} {k : Nat} {Y Z : List Int} {E G : Bool} {M L2 : List (List Int)} (hk : k < l1.length) (h : fbs l0 d0 l1 k = (Y, E, M)) (h2 : feed Y E [rd l1 (k : Int)] = (Z, G, L2)) : fbs l0 d0 l1 (k + 1) = (Z, G, M ++ L2) := by
  have hx : l1[k] = rd l1 (k : Int) := by unfold rd; rw [List.getD_eq_getElem?_getD, Int.toNat_natCast, List.getElem?_eq_getElem hk]; rfl
  unfold fbs at h ⊢
  rw [if_neg (by omega), List.take_succ_eq_append_getElem hk, hx]
  by_cases h0 : k = 0
  · subst h0
    rw [if_pos rfl] at h
    simp only [Prod.mk.injEq] at h
    obtain ⟨rfl, rfl, rfl⟩ := h
    rw [List.take_zero, List.nil_append, List.nil_append, h2]
  · rw [if_neg h0] at h
    rw [feed_append, h]
    simp only []
    rw [h2]
theorem fbs_facts {l0 : List Int} {d0 : Bool} {l1 : List Int} {k : Nat} {Y : List Int} {E : Bool} {M : List (List Int)} (h0 : Byt l0) (h1 : Byt l1) (hk : k ≤ l1.length) (h : fbs l0 d0 l1 k = (Y, E, M)) : Byt Y ∧ Y.length ≤ l0.length + l1.length ∧ 8 * M.length ≤ l0.length + l1.length := by
  unfold fbs at h
  by_cases hz : k = 0
  · rw [if_pos hz] at h
    simp only [Prod.mk.injEq] at h
    obtain ⟨rfl, rfl, rfl⟩ := h
    exact ⟨h0, by omega, by simp⟩
  · rw [if_neg hz] at h
    have hf := feed_bytes l0 d0 (l1.take k) h0 (h1.take k)
    rw [h, List.length_take] at hf
    simp only at hf
    exact ⟨hf.1, by omega, by omega⟩
theorem fbs_all {l0 : List Int} {d0 : Bool} {l1 : List Int} (h : 0 < l1.length) : fbs l0 d0 l1 l1.length = feed l0 d0 l1 := by
  unfold fbs
  rw [if_neg (by omega), List.take_length]
theorem ne_of_hat {v1 v : Value} {n : Nat} (h0 : v.ownBlock = none) (hat : v1.ownBlock = v.ownBlock ∨ ∃ b, v1.ownBlock = some b ∧ n ≤ b) (k : Nat) (hk : k < n) : some k ≠ v1.ownBlock := by
  rcases hat with h | ⟨b, h, hb⟩
  · rw [h, h0]; simp
  · rw [h]; intro e; injection e with e; omega
theorem keep2 {W w2 : World} {a b : Addr} {x y : Value} (ha : W.cell? a = some x) (hb : W.cell? b = some y) (h : Below W.heap.size W w2) : Below W.heap.size W w2 ∧ w2.cell? a = some x ∧ w2.cell? b = some y := ⟨h, (h.cell (World.block_lt_of_cell? W _ ha)).trans ha, (h.cell (World.block_lt_of_cell? W _ hb)).trans hb⟩
set_option maxHeartbeats 8000000 in
set_option maxRecDepth 100000 in
theorem towncrierlaw03_FrameBytes.calls (A0 : Option Addr) (c0 : Nat) (l0 : List Int) (d0 : Bool) (A1 : Option Addr) (c1 : Nat) (l1 : List Int) (w : World) (hr0 : Kd.C (Kd.int .u8) w A0 l0.length l0) (hc0 : l0.length ≤ c0) (hb0 : Byt l0) (hr1 : Kd.C (Kd.int .u8) w A1 l1.length l1) (hc1 : l1.length ≤ c1) (hb1 : Byt l1) : Calls Try.prog 14 #[.agg #[.slice A0 l0.length c0, .bool d0], .slice A1 l1.length c1] w fun e w' => e = .returned (.bool true) ∧ Below w.heap.size w w' := by
  have hu33 := Try.underlying33
  have CR0 := Aside0.mk hr0
  have HC0 := Aside0.mk hc0
  have HY0 := Aside0.mk hb0
  clear hr0 hc0 hb0
  have CR1 := Aside0.mk hr1
  have HC1 := Aside0.mk hc1
  have HY1 := Aside0.mk hb1
  clear hr1 hc1 hb1
  have HB := Aside0.mk (Below.refl w.heap.size w)
  by_cases h0 : 120 < (l0.length : Int)
  · go_enter Try.func14, Try.ntmps14
    go_wp2_with (first | ((with_reducible refine gate_dst (N := 2) rfl ?_); refine box_event ?hg (N := 2) ?hd (cs := #[Value.slice A0 l0.length c0, Value.bool d0]) (t := 33) ?hr ?_; (case hd => rfl); (case hg => rfl); (case hr => first | (go_simp; done) | (go_simp; rfl)); intro g2 hg2 wb2 bk2 hb2; replace HB := Aside0.mk (below_step HB.out hb2); replace CR0 := Aside0.mk (Kd.C_below CR0.out hb2); replace CR1 := Aside0.mk (Kd.C_below CR1.out hb2); have BK2 := Aside0.mk bk2; have hcg2_0 : wb2.cell? ⟨g2, 0, none⟩ = some (Value.slice A0 l0.length c0) := (blk_cell BK2.out 0).trans rfl; have hcg2_1 : wb2.cell? ⟨g2, 1, none⟩ = some (Value.bool d0) := (blk_cell BK2.out 1).trans rfl; clear hg2 bk2 hb2) | ((go_at_call 20); (with_reducible refine (towncrierlaw03_awake.calls _).mono ?_); rintro e ww ⟨rfl, hb0⟩; have hbb := hb0; replace HB := Aside0.mk (below_step HB.out hbb); replace CR0 := Aside0.mk (Kd.C_below CR0.out hbb); replace CR1 := Aside0.mk (Kd.C_below CR1.out hbb); replace BK2 := Aside0.mk (blk_below BK2.out hbb); replace hcg2_0 : ww.cell? ⟨g2, 0, none⟩ = some (Value.slice A0 l0.length c0) := (blk_cell BK2.out 0).trans rfl; replace hcg2_1 : ww.cell? ⟨g2, 1, none⟩ = some (Value.bool d0) := (blk_cell BK2.out 1).trans rfl; clear hbb))
    go_ret
    exact ⟨rfl, HB.out⟩
  by_cases h1 : 120 < (l1.length : Int)
  · go_enter Try.func14, Try.ntmps14
    go_wp2_with (first | ((with_reducible refine gate_dst (N := 2) rfl ?_); refine box_event ?hg (N := 2) ?hd (cs := #[Value.slice A0 l0.length c0, Value.bool d0]) (t := 33) ?hr ?_; (case hd => rfl); (case hg => rfl); (case hr => first | (go_simp; done) | (go_simp; rfl)); intro g2 hg2 wb2 bk2 hb2; replace HB := Aside0.mk (below_step HB.out hb2); replace CR0 := Aside0.mk (Kd.C_below CR0.out hb2); replace CR1 := Aside0.mk (Kd.C_below CR1.out hb2); have BK2 := Aside0.mk bk2; have hcg2_0 : wb2.cell? ⟨g2, 0, none⟩ = some (Value.slice A0 l0.length c0) := (blk_cell BK2.out 0).trans rfl; have hcg2_1 : wb2.cell? ⟨g2, 1, none⟩ = some (Value.bool d0) := (blk_cell BK2.out 1).trans rfl; clear hg2 bk2 hb2) | ((go_at_call 20); (with_reducible refine (towncrierlaw03_awake.calls _).mono ?_); rintro e ww ⟨rfl, hb0⟩; have hbb := hb0; replace HB := Aside0.mk (below_step HB.out hbb); replace CR0 := Aside0.mk (Kd.C_below CR0.out hbb); replace CR1 := Aside0.mk (Kd.C_below CR1.out hbb); replace BK2 := Aside0.mk (blk_below BK2.out hbb); replace hcg2_0 : ww.cell? ⟨g2, 0, none⟩ = some (Value.slice A0 l0.length c0) := (blk_cell BK2.out 0).trans rfl; replace hcg2_1 : ww.cell? ⟨g2, 1, none⟩ = some (Value.bool d0) := (blk_cell BK2.out 1).trans rfl; clear hbb))
    go_ret
    exact ⟨rfl, HB.out⟩
  obtain ⟨X, D, L, e0⟩ : ∃ X D L, feed l0 d0 l1 = (X, D, L) := ⟨_, _, _, rfl⟩
  have F0 := Aside0.mk ((feed_f l0 d0 l1 HY0.out HY1.out (by omega) (by omega)).trans (congrArg some e0))
  have hfb := feed_bytes l0 d0 l1 HY0.out HY1.out
  rw [e0] at hfb
  have LS := Aside0.mk (lists_f L (by have := hfb.2.2.2; simp only at this; omega) 2000 (by have := hfb.2.2.2; simp only at this; omega))
  have S1 := Aside0.mk (same_f X D)
  have E0 := Aside0.mk e0
  obtain ⟨i0, hi0, _, hsz0, _⟩ := info_parts info5
  clear hfb e0
  go_enter Try.func14, Try.ntmps14
  go_wp2_with (first | ((with_reducible refine gate_dst (N := 2) rfl ?_); refine box_event ?hg (N := 2) ?hd (cs := #[Value.slice A0 l0.length c0, Value.bool d0]) (t := 33) ?hr ?_; (case hd => rfl); (case hg => rfl); (case hr => first | (go_simp; done) | (go_simp; rfl)); intro g2 hg2 wb2 bk2 hb2; replace HB := Aside0.mk (below_step HB.out hb2); replace CR0 := Aside0.mk (Kd.C_below CR0.out hb2); replace CR1 := Aside0.mk (Kd.C_below CR1.out hb2); have BK2 := Aside0.mk bk2; have hcg2_0 : wb2.cell? ⟨g2, 0, none⟩ = some (Value.slice A0 l0.length c0) := (blk_cell BK2.out 0).trans rfl; have hcg2_1 : wb2.cell? ⟨g2, 1, none⟩ = some (Value.bool d0) := (blk_cell BK2.out 1).trans rfl; clear hg2 bk2 hb2) | ((go_at_call 20); (with_reducible refine (towncrierlaw03_awake.calls _).mono ?_); rintro e ww ⟨rfl, hb0⟩; have hbb := hb0; replace HB := Aside0.mk (below_step HB.out hbb); replace CR0 := Aside0.mk (Kd.C_below CR0.out hbb); replace CR1 := Aside0.mk (Kd.C_below CR1.out hbb); replace BK2 := Aside0.mk (blk_below BK2.out hbb); replace hcg2_0 : ww.cell? ⟨g2, 0, none⟩ = some (Value.slice A0 l0.length c0) := (blk_cell BK2.out 0).trans rfl; replace hcg2_1 : ww.cell? ⟨g2, 1, none⟩ = some (Value.bool d0) := (blk_cell BK2.out 1).trans rfl; clear hbb) | ((go_at_call 23); have tk_ := F0; clear tk_; (with_reducible refine (frame_Feed.calls A0 c0 l0 d0 A1 c1 l1 _ _ _ _ CR0.out HC0.out CR1.out HC1.out F0.out).mono ?_); rintro e wfx ⟨Abx, cbx, Alx, clx, rfl, hxx, hxcx, hyx, hycx, hb0⟩; have hbb := hb0; replace HB := Aside0.mk (below_step HB.out hbb); replace CR0 := Aside0.mk (Kd.C_below CR0.out hbb); replace CR1 := Aside0.mk (Kd.C_below CR1.out hbb); replace BK2 := Aside0.mk (blk_below BK2.out hbb); replace hcg2_0 : wfx.cell? ⟨g2, 0, none⟩ = some (Value.slice A0 l0.length c0) := (blk_cell BK2.out 0).trans rfl; replace hcg2_1 : wfx.cell? ⟨g2, 1, none⟩ = some (Value.bool d0) := (blk_cell BK2.out 1).trans rfl; clear hbb; have CBx := Aside0.mk hxx; have CBcx := Aside0.mk hxcx; have CLx := Aside0.mk hyx; have CLcx := Aside0.mk hycx; clear hxx hxcx hyx hycx; clear F0) | ((with_reducible refine gate_dst (N := 6) rfl ?_); refine box_event ?hg (N := 6) ?hd (cs := #[.slice none 0 0, .bool false]) (t := 33) ?hr ?_; (case hd => rfl); (case hg => rfl); (case hr => first | (go_simp; done) | (go_simp; rfl)); intro g6 hg6 wa6 bk6 hb6; replace hg6 := Aside0.mk (Nat.le_of_eq hg6.symm); replace hb6 := Aside0.mk hb6; replace bk6 := Aside0.mk bk6) | ((with_reducible refine gate_store (t := 33) (p := 6) rfl ?_); refine store2_ev rfl rfl 33 (.tmp 6) _ rfl (g := g6) (u := Value.slice Abx X.length cbx) (v := Value.bool D) rfl rfl bk6.out (by kernel_rfl) rfl rfl ?_; intro wv6 hk6 hz6; replace hz6 := hz6 _ hg6.out hb6.out; replace HB := Aside0.mk (below_step HB.out hz6); replace CR0 := Aside0.mk (Kd.C_below CR0.out hz6); replace CR1 := Aside0.mk (Kd.C_below CR1.out hz6); replace BK2 := Aside0.mk (blk_below BK2.out hz6); replace CBx := Aside0.mk (Kd.C_below CBx.out hz6); replace CLx := Aside0.mk (Kd.C_below CLx.out hz6); replace hcg2_0 : wv6.cell? ⟨g2, 0, none⟩ = some (Value.slice A0 l0.length c0) := (blk_cell BK2.out 0).trans rfl; replace hcg2_1 : wv6.cell? ⟨g2, 1, none⟩ = some (Value.bool d0) := (blk_cell BK2.out 1).trans rfl; have BK6 := Aside0.mk hk6; have hcg6_0 : wv6.cell? ⟨g6, 0, none⟩ = some (Value.slice Abx X.length cbx) := (blk_cell BK6.out 0).trans rfl; have hcg6_1 : wv6.cell? ⟨g6, 1, none⟩ = some (Value.bool D) := (blk_cell BK6.out 1).trans rfl; clear hk6 hz6 bk6 hb6 hg6) | ((with_reducible refine gate_dst (N := 8) rfl ?_); refine box_event ?hg (N := 8) ?hd (cs := #[.slice none 0 0, .bool false]) (t := 33) ?hr ?_; (case hd => rfl); (case hg => rfl); (case hr => first | (go_simp; done) | (go_simp; rfl)); intro g8 hg8 wa8 bk8 hb8; have HB1 := Aside0.mk hb8; have G8 := Aside0.mk (Nat.le_of_eq hg8.symm); have BK8 := Aside0.mk bk8; replace hcg2_0 : wa8.cell? ⟨g2, 0, none⟩ = some (Value.slice A0 l0.length c0) := (blk_cell (blk_below BK2.out hb8) 0).trans rfl; replace hcg2_1 : wa8.cell? ⟨g2, 1, none⟩ = some (Value.bool d0) := (blk_cell (blk_below BK2.out hb8) 1).trans rfl; clear hg8 bk8 hb8) | ((with_reducible refine gate_store (t := 33) (p := 8) rfl ?_); refine seg_ev rfl rfl 33 (.tmp 8) _ rfl (g := g8) (j := 0) (seg := [.slice A0 l0.length c0, .bool d0]) (cs' := #[.slice A0 l0.length c0, .bool d0]) rfl rfl rfl BK8.out (by kernel_rfl) (by simp) (by intro q hq; simp only [List.mem_cons, List.not_mem_nil, or_false] at hq; rcases hq with rfl | rfl <;> rfl) rfl ?_; intro wv8 hk hz ho; replace HB1 := Aside0.mk (hz _ G8.out HB1.out); replace BK8 := Aside0.mk hk; clear hk hz ho hcg2_0 hcg2_1))
  go_loopw [9, 10] (fun s9 i wr => ∃ (W : World) (k : Nat) (Y : List Int) (E : Bool) (M : List (List Int)) (Ab : Option Addr) (cb : Nat) (A9 : Option Addr) (c9 : Nat), W = wr ∧ k ≤ l1.length ∧ s9 = .slice A9 M.length c9 ∧ i = .int .i64 k ∧ Aside0 (fbs l0 d0 l1 k = (Y, E, M)) ∧ Aside0 (wr.heap[g8]? = some (.cells #[Value.slice Ab Y.length cb, Value.bool E] 33 (0, 0))) ∧ Aside0 (Y.length ≤ cb) ∧ Aside0 ((Ab = A0 ∧ cb = c0 ∧ Y = l0) ∨ Kd.R (Kd.int .u8) 5 wr wv6.heap.size (fun _ => True) (.slice Ab Y.length cb) Y) ∧ Aside0 (Kd.N (Kd.slice 5 (Kd.int .u8)) 23 wr wv6.heap.size (fun k => k ≠ g8) (.slice A9 M.length c9) M) ∧ Aside0 (Below wv6.heap.size wv6 wr)) (fun _ i _ => l1.length - (intOf i).toNat)
  case atStart => exact ⟨_, 0, l0, d0, [], A0, c0, none, 0, rfl, Nat.zero_le _, rfl, rfl, ⟨rfl⟩, BK8, HC0, ⟨Or.inl ⟨rfl, rfl, rfl⟩⟩, ⟨Kd.N_nil _ _ _ _ _⟩, HB1⟩
  case round =>
    obtain ⟨wr, k, Y, E, M, Ab, cb, A9, c9, rfl, hk, rfl, rfl, HF, BK8, HCY, HRY, HN, HB1⟩ := hrel
    have hf := fbs_facts HY0.out HY1.out hk HF.out
    have HYb := Aside0.mk hf.1
    have hyl := hf.2.1
    have hml := hf.2.2
    clear hf
    have CY : Aside0 (Kd.C (Kd.int .u8) wr Ab Y.length Y) := Aside0.mk (by
      rcases HRY.out with ⟨rfl, rfl, rfl⟩ | h
      · exact Kd.C_below CR0.out HB1.out
      · exact (Kd.R_reads' h).2.2)
    have hcg8_0 : wr.cell? ⟨g8, 0, none⟩ = some (Value.slice Ab Y.length cb) := (blk_cell BK8.out 0).trans rfl
    have hcg8_1 : wr.cell? ⟨g8, 1, none⟩ = some (Value.bool E) := (blk_cell BK8.out 1).trans rfl
    by_cases hlt : k < l1.length
    · obtain ⟨z, hz⟩ : ∃ z, rd l1 (k : Int) = z := ⟨_, rfl⟩
      have hzb : 0 ≤ z ∧ z < 256 := by
        rw [← hz]
        refine HY1.out _ ?_
        unfold rd
        rw [List.getD_eq_getElem?_getD, Int.toNat_natCast, List.getElem?_eq_getElem hlt]
        exact List.getElem_mem _
      obtain ⟨Z, G, L2, e2⟩ : ∃ Z G L2, feed Y E [z] = (Z, G, L2) := ⟨_, _, _, rfl⟩
      have hyz : Byt [z] := fun x hx => by rw [List.mem_singleton] at hx; rw [hx]; exact hzb
      have F2 := Aside0.mk ((feed_f Y E [z] HYb.out hyz (by omega) (by simp)).trans (congrArg some e2))
      have HF2 := Aside0.mk (fbs_step (Z := Z) (G := G) (L2 := L2) hlt HF.out (by rw [hz]; exact e2))
      have hl2 : L2.length ≤ 300 := by
        have := feed_bytes Y E [z] HYb.out hyz
        rw [e2] at this
        have := this.2.2.2
        simp only [List.length_singleton] at this
        omega
      have hmid : (l1.take (k + 1)).drop k = [z] := by
        rw [List.take_succ_eq_append_getElem hlt, List.drop_append_of_le_length (by rw [List.length_take]; omega)]
        rw [List.drop_eq_nil_of_le (by rw [List.length_take]; omega), List.nil_append, ← hz]
        unfold rd
        rw [List.getD_eq_getElem?_getD, Int.toNat_natCast, List.getElem?_eq_getElem hlt]
        rfl
      obtain ⟨Av, hAv⟩ : ∃ Av, (if c1 = k then A1 else A1.map (·.add (k * 1))) = Av := ⟨_, rfl⟩
      obtain ⟨cv, hcv⟩ : ∃ cv, c1 - k = cv := ⟨_, rfl⟩
      have hcut : ∀ W : World, (Instr.slice 23 (.slice A1 l1.length c1) (some (.int .i64 (k : Int))) (some (.int .i64 ((k : Int) + 1))) none).run Try.prog W = .ok (.slice Av [z].length cv) W := fun W => by
        rw [cut_mid (P := Try.prog) 23 5 .i64 .i64 Try.underlying23 hi0 1 hsz0 A1 l1.length c1 (k : Int) ((k : Int) + 1) (by omega) (by omega) (by omega) HC1.out W]
        rw [show ((k : Int) + 1).toNat - (k : Int).toNat = 1 by omega, Int.toNat_natCast, hAv, hcv]
        rfl
      have CV : ∀ W, Kd.C (Kd.int .u8) W A1 l1.length l1 → Kd.C (Kd.int .u8) W Av [z].length [z] := fun W h => by
        have := Kd.C_mid (lo := k) (hi := k + 1) (c := c1) h (by omega) (by omega) HC1.out
        rw [hmid] at this
        rw [← hAv]
        exact this
      have HCv := Aside0.mk (show [z].length ≤ cv by have := HC1.out; simp only [List.length_singleton]; omega)
      replace CV := Aside0.mk CV
      clear hmid hAv hcv hz hzb hyz e2
      go_upto_region 10 with (fail)
      have G8w : g8 < wr.heap.size := blk_lt BK8.out
      have HOKP := Aside0.mk (fun (k : Nat) (hk : wr.heap.size ≤ k) => (⟨by omega, fun e => absurd (Kd.N_lt HN.out k e.symm) (by omega)⟩ : k ≠ g8 ∧ some k ≠ (Value.slice A9 M.length c9).ownBlock))
      replace G8w := Aside0.mk G8w
      obtain ⟨Q, hQ⟩ : ∃ Q, M ++ L2 = Q := ⟨_, rfl⟩
      have HQ := Aside0.mk hQ
      rw [hQ] at HF2
      clear hQ
      have wr1 : IntKind.i64.wrap ((k : Int) + 1) = (k : Int) + 1 := IntWalk.i64_in _ (by omega)
      go_cut [11, 12] from 37 to 56 (fun v_s v_l wd_ => ∃ (g11 : Nat) (Abz : Option Addr) (cbz : Nat) (Alz : Option Addr) (clz : Nat), v_s = .pointer (some ⟨g11, 0, none⟩) ∧ v_l = .slice Alz L2.length clz ∧ Aside0 (Below wr.heap.size wr wd_) ∧ Aside0 (wd_.heap[g11]? = some (.cells #[Value.slice Abz Z.length cbz, Value.bool G] 33 (0, 0))) ∧ Aside0 (Kd.R (Kd.int .u8) 5 wd_ wr.heap.size (fun _ => True) (.slice Abz Z.length cbz) Z) ∧ Aside0 (Z.length ≤ cbz) ∧ Aside0 (Kd.N (Kd.slice 5 (Kd.int .u8)) 23 wd_ wr.heap.size (fun k => wr.heap.size ≤ k) (.slice Alz L2.length clz) L2) ∧ Aside0 (L2.length ≤ clz))
      case first =>
        go_region_held3 (fun w' => Below wr.heap.size wr w' ∧ w'.cell? ⟨g8, 0, none⟩ = some (Value.slice Ab Y.length cb) ∧ w'.cell? ⟨g8, 1, none⟩ = some (Value.bool E)) (((refine keep2 hcg8_0 hcg8_1 ?_; first | exact below_drew1 (Below.refl _ _) | exact below_alloc (And.left (by assumption)) _ | exact below_alloc HWs.out _ | exact below_step (And.left (by assumption)) (by assumption) | exact below_set (below_set (And.left (by assumption)) (by first | assumption | exact Nat.le_refl _)) (by first | assumption | exact Nat.le_refl _)))) (first | ((go_at_call 23); (refine (frame_Feed.callsQ Ab cb Y E Av cv [z] Z G L2 _ ?pa HCY.out ?pb HCv.out F2.out).mono ?_); (case pa => exact Kd.C_below CY.out (And.left (by assumption))); (case pb => exact CV.out _ (Kd.C_below CR1.out (below_step HB1.out (And.left (by assumption))))); rintro e w_ ⟨Abz, cbz, Alz, clz, rfl, hxx, hxc, hyx, hyc, _, hnn, hrr, hb0⟩; have HRR := Aside0.mk hrr; have HXC := Aside0.mk hxc; have HYC := Aside0.mk hyc; have HNN := Aside0.mk hnn; have HWs := Aside0.mk (below_step (And.left (by assumption)) hb0); (try (have BKr := Aside0.mk (blk_below (blk_drew (heap_alloc_new _ _)) hb0); have hcr_0 := (blk_cell BKr.out 0).trans (rfl : _ = some (Value.slice none 0 0)); have hcr_1 := (blk_cell BKr.out 1).trans (rfl : _ = some (Value.bool false)); have hfr_0 := blk_frozen BKr.out 0; have hfr_1 := blk_frozen BKr.out 1)); have GS := Aside0.mk hb0.size; clear hxx hxc hyx hyc hnn hrr))
        · go_wp2_with (fail)
          go_meet
          case rel =>
            have SZ : wr.heap.size ≤ _ := (below_drew1 (Below.refl wr.heap.size wr)).size
            exact ⟨_, Abz, cbz, Alz, clz, rfl, rfl, ⟨below_alloc HWs.out _⟩, ⟨heap_alloc_new _ _⟩, ⟨Kd.R_alloc (Kd.R_lower HRR.out SZ) _⟩, HXC, ⟨Kd.N_alloc (Kd.N_mono (Kd.N_lower HNN.out SZ) (fun _ h => Nat.le_trans SZ h)) _⟩, HYC⟩
        · go_wp2_with (fail)
          go_meet
          case rel =>
            have GLT : wr.heap.size < (wr.alloc (.cells #[.slice none 0 0, .bool false] 33)).drew.heap.size := blk_lt (blk_drew (heap_alloc_new _ _))
            have SZ := Nat.le_of_lt GLT
            have HNF := Kd.N_far (p := ⟨wr.heap.size, 1, none⟩) (Kd.N_far (p := ⟨wr.heap.size, 0, none⟩) HNN.out (fun k h e => absurd e (Nat.ne_of_gt (Nat.lt_of_lt_of_le GLT h))) (Value.slice Abz Z.length cbz)) (fun k h e => absurd e (Nat.ne_of_gt (Nat.lt_of_lt_of_le GLT h))) (Value.bool G)
            exact ⟨_, Abz, cbz, Alz, clz, rfl, rfl, ⟨below_set (below_set HWs.out (Nat.le_refl _)) (Nat.le_refl _)⟩, ⟨putSeg_blk [Value.slice Abz Z.length cbz, Value.bool G] w_ wr.heap.size 0 _ _ BKr.out⟩, ⟨R_far' (Kd.R_lower HRR.out SZ) BKr.out (by decide) (fun i hi => putSeg_other [Value.slice Abz Z.length cbz, Value.bool G] w_ wr.heap.size 0 i hi)⟩, HXC, ⟨Kd.N_mono (Kd.N_lower HNF SZ) (fun _ h => Nat.le_trans SZ h)⟩, HYC⟩
      case rest =>
        obtain ⟨w5, rfl⟩ : ∃ x, x = wc := ⟨_, rfl⟩
        obtain ⟨g11, Abz, cbz, Alz, clz, rfl, rfl, HBc, BK11, HRZ, HCZ, NLz, CLcz⟩ := hcut
        have hbb := HBc.out
        replace HRZ := Aside0.mk (Kd.R_lower HRZ.out HB1.out.size)
        replace HB1 := Aside0.mk (below_step HB1.out hbb)
        have HN5 := Aside0.mk (Kd.N_below HN.out hbb)
        replace BK8 := Aside0.mk (blk_below BK8.out hbb)
        have HFR := Aside0.mk (fun (k : Nat) (hk : w5.heap.size ≤ k) => (by have := blk_lt BK8.out; omega : k ≠ g8))
        clear wr1 hbb HBc HN CY HRY hcg8_0 hcg8_1
        go_wp2_with (first | ((with_reducible refine gate_builtin (b := .append) (xs := #[.tmp 53, .tmp 54]) rfl ?_); at_builtin; refine Kd.N_append_rows (Kd.slice 5 (Kd.int .u8)) (w0 := wv6) wv6.heap.size rfl (.tmp 53) (.tmp 54) 36 23 (.slice none 0 0) 24 rfl Try.underlying36 info23 rfl (by decide) (by omega) (.slice A9 M.length c9) M L2 Alz L2.length clz (fun k => k ≠ g8) (fun k => wr.heap.size ≤ k) rfl rfl HN5.out (Kd.N_F NLz.out) HOKP.out HFR.out HB1.out HB1.out.size (by omega) ?_; intro v55 w55 hn hb hg hat; rw [HQ.out] at hn; obtain ⟨A55, c55, rfl⟩ := Kd.N_slice hn; have HN55 := Aside0.mk hn; replace BK8 := Aside0.mk (blk_grown BK8.out hg (Kd.N_ne HN5.out BK8.out (by decide))); replace BK11 := Aside0.mk (blk_grown BK11.out hg (Kd.N_ne HN5.out BK11.out (by decide))); replace HRZ := Aside0.mk (Kd.R_over' HRZ.out (Kd.N_typed HN5.out) (by decide) hg); replace HB1 := Aside0.mk hb; have hcg11_0 : w55.cell? ⟨g11, 0, none⟩ = some (Value.slice Abz Z.length cbz) := (blk_cell BK11.out 0).trans rfl; have hcg11_1 : w55.cell? ⟨g11, 1, none⟩ = some (Value.bool G) := (blk_cell BK11.out 1).trans rfl; clear hn hb hg hat HN5) | ((with_reducible refine gate_store (t := 33) (p := 8) rfl ?_); refine seg_ev rfl rfl 33 (.tmp 8) _ rfl (g := g8) (j := 0) (seg := [Value.slice Abz Z.length cbz, Value.bool G]) (cs' := #[Value.slice Abz Z.length cbz, Value.bool G]) rfl rfl rfl BK8.out (by kernel_rfl) (by simp) (by intro q hq; simp only [List.mem_cons, List.not_mem_nil, or_false] at hq; rcases hq with rfl | rfl <;> rfl) rfl ?_; intro w56 hk hz ho; replace HRZ := Aside0.mk (R_far' HRZ.out BK8.out (by decide) ho); replace HN55 := Aside0.mk (Kd.N_step HN55.out (fun k hk _ => ho k hk)); replace HB1 := Aside0.mk (hz _ G8.out HB1.out); replace BK8 := Aside0.mk hk; clear hk hz ho hcg11_0 hcg11_1))
        go_roundw
        case rel => exact ⟨_, k + 1, Z, G, Q, Abz, cbz, A55, c55, rfl, by omega, rfl, by go_num, HF2, BK8, HCZ, ⟨Or.inr HRZ.out⟩, HN55, HB1⟩
        case measure => simp [intOf]; omega
    · obtain rfl : k = l1.length := by omega
      by_cases hz : l1.length = 0
      · have hne : ((l1.length : Int) == 0) = true := by rw [beq_iff_eq]; omega
        have HBw := Aside0.mk (below_step HB.out HB1.out)
        go_wp2_with (fail)
        go_ret
        exact ⟨rfl, HBw.out⟩
      · have hne : ((l1.length : Int) == 0) = false := by rw [beq_eq_false_iff_ne]; omega
        have he := HF.out
        rw [fbs_all (by omega), E0.out] at he
        simp only [Prod.mk.injEq] at he
        obtain ⟨rfl, rfl, rfl⟩ := he
        have HBw := Aside0.mk (below_step HB.out HB1.out)
        have CX := Aside0.mk (Kd.C_below CBx.out HB1.out)
        have CL := Aside0.mk (Kd.C_below CLx.out HB1.out)
        have CM := Aside0.mk (Kd.N_reads' HN.out).2.2
        have CMc := Aside0.mk (Kd.N_reads' HN.out).2.1
        have hd6_0 : wr.cell? ⟨g6, 0, none⟩ = some (Value.slice Abx X.length cbx) := (blk_cell (blk_below BK6.out HB1.out) 0).trans rfl
        have hd6_1 : wr.cell? ⟨g6, 1, none⟩ = some (Value.bool D) := (blk_cell (blk_below BK6.out HB1.out) 1).trans rfl
        clear HF hyl hml
        go_wp2_with (first | ((go_at_call 25); (refine (towncrierref03_Same.calls Abx cbx X D Ab cb X D true _ CX.out CBcx.out CY.out HCY.out S1.out).mono ?_); rintro e ws ⟨rfl, hb0⟩; replace HBw := Aside0.mk (below_step HBw.out hb0); replace CL := Aside0.mk (Kd.C_below CL.out hb0); replace CM := Aside0.mk (Kd.C_below CM.out hb0); clear hb0) | ((go_at_call 26); (refine (towncrierref03_Lists.calls 2000 Alx clx L A9 c9 L true _ CL.out CLcx.out CM.out CMc.out LS.out).mono ?_); rintro e wl ⟨rfl, hd0⟩; replace HBw := Aside0.mk (below_step HBw.out (drawn_below hd0)); clear hd0))
        go_ret
        exact ⟨by simp, HBw.out⟩
end Go.Proofs.Ytifkeknfiknpkaa.X
