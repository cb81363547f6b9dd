/- The law FrameBack, walked. -/
import Derived.Test.YtifkeknfiknpkaaFrAwake
import Derived.Test.YtifkeknfiknpkaaFrOpen
namespace Go.Proofs.Ytifkeknfiknpkaa.X
open Go.RowKit Go.Proofs.YtifkeknfiknpkaaW.PrintWords Go.Proofs.YtifkeknfiknpkaaW.PrintLast Go.Proofs.YtifkeknfiknpkaaW.PrintMore
attribute [local go_sem] max2_int min2_int max_two min_two max_three min_three max_four min_four
set_option linter.unusedVariables false
set_option linter.unusedSimpArgs false
open Go.Proofs.Ytifkeknfiknpkaa.Fr
theorem take_rowAt (l : List (List Int)) (k : Nat) (h : k < l.length) : l.take (k + 1) = l.take k ++ [rowAt l k] := by
  rw [List.take_succ_eq_append_getElem h]
  unfold rowAt
  simp [List.getD_eq_getElem?_getD, h]
theorem rowAt_mem (l : List (List Int)) (k : Nat) (h : k < l.length) : rowAt l k ∈ l := by
  unfold rowAt
  rw [List.getD_eq_getElem?_getD, List.getElem?_eq_getElem h]
  exact List.getElem_mem _
set_option maxHeartbeats 8000000 in
set_option maxRecDepth 100000 in
theorem towncrierlaw03_FrameBack.calls (A0 : Option Addr) (c0 : Nat) (l0 : List (List Int)) (A1 : Option Addr) (c1 : Nat) (l1 : List Int) (w : World) (hr0 : Kd.C (Kd.slice 5 (Kd.int .u8)) w A0 l0.length l0) (hc0 : l0.length ≤ c0) (hb0 : ∀ l ∈ l0, ∀ z ∈ l, 0 ≤ z ∧ z < 256) (hr1 : Kd.C (Kd.int .u8) w A1 l1.length l1) (hc1 : l1.length ≤ c1) (hb1 : Byt l1) :
    Calls Try.prog 10 #[.slice A0 l0.length c0, .slice A1 l1.length c1] w fun e w' => e = .returned (.bool true) ∧ Below w.heap.size w w' := by
  have hu33 := Try.underlying33
  have CR0 := Aside0.mk hr0
  have HC0 := Aside0.mk hc0
  have HY0 := Aside0.mk hb0
  have CR1 := Aside0.mk hr1
  have HC1 := Aside0.mk hc1
  have HY1 := Aside0.mk hb1
  clear hr0 hc0 hb0 hr1 hc1 hb1
  have HB := Aside0.mk (Below.refl w.heap.size w)
  by_cases h0 : 10 < (l0.length : Int)
  · skip
    go_enter Try.func10, Try.ntmps10
    go_wp2_with (first | ((go_at_call 20); (with_reducible refine (towncrierlaw03_awake.calls _).mono ?_); rintro e ww ⟨rfl, hb0⟩; have hbb := hb0; replace HB := Aside0.mk (below_step HB.out hbb); clear hbb))
    go_ret
    exact ⟨rfl, HB.out⟩
  by_cases h1 : 7 < (l1.length : Int)
  · skip
    go_enter Try.func10, Try.ntmps10
    go_wp2_with (first | ((go_at_call 20); (with_reducible refine (towncrierlaw03_awake.calls _).mono ?_); rintro e ww ⟨rfl, hb0⟩; have hbb := hb0; replace HB := Aside0.mk (below_step HB.out hbb); clear hbb))
    go_ret
    exact ⟨rfl, HB.out⟩
  go_enter Try.func10, Try.ntmps10
  go_wp2_with (first | ((go_at_call 20); (with_reducible refine (towncrierlaw03_awake.calls _).mono ?_); rintro e ww ⟨rfl, hb0⟩; have hbb := hb0; replace HB := Aside0.mk (below_step HB.out hbb); clear hbb))
  go_loopw [6, 7] (fun s6 i wr => ∃ (k : Nat) (P6 : List Int) (A6 : Option Addr) (c6 : Nat), k ≤ l0.length ∧ s6 = .slice A6 P6.length c6 ∧ i = .int .i64 k ∧ Aside0 (packs (l0.take k) = P6) ∧ Aside0 (Kd.R (Kd.int .u8) 5 wr w.heap.size (fun _ => True) (.slice A6 P6.length c6) P6) ∧ Aside0 (∀ b ∈ l0.take k, b.length ≤ 500) ∧ Aside0 (Below w.heap.size w wr)) (fun _ i _ => l0.length - (intOf i).toNat)
  case atStart => exact ⟨0, [], none, 0, Nat.zero_le _, rfl, rfl, ⟨rfl⟩, ⟨Kd.R_nil _ _ _ _ _⟩, ⟨by simp⟩, HB⟩
  case round =>
    obtain ⟨k, P6, A6, c6, hk, rfl, rfl, HP6, R6, H5, HB⟩ := hrel
    by_cases hlt : k < l0.length
    · obtain ⟨ad, A', c', e, hx0, hl', hC'⟩ := elem_at CR0.out k hlt
      cases e
      have HX := Aside0.mk hx0
      have hx := (HB.out.cell (World.block_lt_of_cell? w _ HX.out)).trans HX.out
      have hmem := rowAt_mem l0 k hlt
      have htk := take_rowAt l0 k hlt
      have hyx : Byt (rowAt l0 k) := HY0.out _ hmem
      obtain ⟨x, hxe⟩ : ∃ x, rowAt l0 k = x := ⟨_, rfl⟩
      rw [hxe] at HX hx hl' hC' htk hyx
      have HX2 := Aside0.mk hC'
      have HX3 := Aside0.mk hl'
      have HTK := Aside0.mk htk
      have htk2 := HTK.out
      clear hmem hx0 hl' hC' hxe htk
      have HL6 : Aside0 (P6.length ≤ 10000) := Aside0.mk (by
        rw [← HP6.out]
        have h := packs_len 500 (l0.take k) H5.out
        have h2 : (l0.take k).length ≤ 10 := by rw [List.length_take]; omega
        have h3 : (l0.take k).length * (500 + 8) ≤ 10 * (500 + 8) := Nat.mul_le_mul_right _ h2
        omega)
      by_cases h5 : x.length ≤ 500
      · obtain ⟨p, hp⟩ : ∃ p, p = pack x := ⟨_, rfl⟩
        have FP := Aside0.mk (show frame_Pack.f x = some (p, true) by rw [hp]; exact pack_f x hyx (by omega))
        have hpl : p.length ≤ 600 := by rw [hp, pack_len]; omega
        have hn5 : ¬ (500 < (x.length : Int)) := by omega
        obtain ⟨Q6, hQ6⟩ : ∃ Q6, P6 ++ p = Q6 := ⟨_, rfl⟩
        have HQ6 := Aside0.mk hQ6
        have HQ7 := Aside0.mk (show packs (l0.take (k + 1)) = Q6 by rw [htk2, packs_snoc, HP6.out, ← hp, hQ6])
        clear hp hyx hQ6
        go_wp2_with (first | ((go_at_call 21); have tk_ := FP; clear tk_; (refine (frame_Pack.calls A' c' x p true _ (Kd.C_below HX2.out HB.out) HX3.out FP.out).mono ?_); rintro e wp ⟨vp, rfl, hop, hb0⟩; have hbb := hb0; replace HB := Aside0.mk (below_step HB.out hbb); clear hbb; replace R6 := Aside0.mk (Kd.R_below R6.out hb0); obtain ⟨Ap, cp, rfl⟩ := Kd.R_slice hop; have CP := Aside0.mk (Kd.R_reads' hop).2.2; clear hop; have hx := (HB.out.cell (World.block_lt_of_cell? w _ HX.out)).trans HX.out; clear FP) | ((with_reducible refine gate_builtin (b := .append) (xs := #[.tmp 60, .tmp 61]) rfl ?_); at_builtin; refine Kd.R_append_rows (Kd.int .u8) (w0 := w) w.heap.size rfl (.tmp 60) (.tmp 61) 23 5 (.int .u8 0) 1 rfl Try.underlying23 info5 rfl (by decide) (by omega) (.slice A6 P6.length c6) P6 p _ _ _ (fun _ => True) (fun _ => False) rfl rfl R6.out CP.out (fun _ _ h => h) (fun _ h => h.elim) (fun _ _ => trivial) HB.out HB.out.size (by have := HL6.out; omega) ?_; intro v62 w62 ho hb hg hat; rw [HQ6.out] at ho; obtain ⟨An, cn, rfl⟩ := Kd.R_slice ho; replace R6 := Aside0.mk ho; replace HB := Aside0.mk hb; clear ho hb hg hat CP))
        go_roundw
        case rel => exact ⟨k + 1, Q6, An, cn, by omega, rfl, by go_num, HQ7, R6, ⟨by rw [HTK.out]; intro b hb; rcases List.mem_append.1 hb with h | h; exact H5.out b h; rw [List.mem_singleton] at h; rw [h]; exact h5⟩, HB⟩
        case measure => simp [intOf]; omega
      · have hn5 : 500 < (x.length : Int) := by omega
        by_cases h6 : x.length ≤ 512
        · obtain ⟨p, hp⟩ : ∃ p, p = pack x := ⟨_, rfl⟩
          have FP := Aside0.mk (show frame_Pack.f x = some (p, true) by rw [hp]; exact pack_f x hyx h6)
          have hn6 : ¬ (512 < (x.length : Int)) := by omega
          clear hp hyx
          go_wp2_with (first | ((go_at_call 21); have tk_ := FP; clear tk_; (refine (frame_Pack.calls A' c' x p true _ (Kd.C_below HX2.out HB.out) HX3.out FP.out).mono ?_); rintro e wp ⟨vp, rfl, hop, hb0⟩; have hbb := hb0; replace HB := Aside0.mk (below_step HB.out hbb); clear hbb; replace R6 := Aside0.mk (Kd.R_below R6.out hb0); obtain ⟨Ap, cp, rfl⟩ := Kd.R_slice hop; have CP := Aside0.mk (Kd.R_reads' hop).2.2; clear hop; have hx := (HB.out.cell (World.block_lt_of_cell? w _ HX.out)).trans HX.out; clear FP))
          go_ret
          exact ⟨by first | (simp; done) | (simp; omega), HB.out⟩
        · have FP := Aside0.mk (pack_long x h6)
          have hn6 : 512 < (x.length : Int) := by omega
          clear hyx
          go_wp2_with (first | ((go_at_call 21); have tk_ := FP; clear tk_; (refine (frame_Pack.calls A' c' x [] false _ (Kd.C_below HX2.out HB.out) HX3.out FP.out).mono ?_); rintro e wp ⟨vp, rfl, hop, hb0⟩; have hbb := hb0; replace HB := Aside0.mk (below_step HB.out hbb); clear hbb; replace R6 := Aside0.mk (Kd.R_below R6.out hb0); obtain ⟨Ap, cp, rfl⟩ := Kd.R_slice hop; have CP := Aside0.mk (Kd.R_reads' hop).2.2; clear hop; have hx := (HB.out.cell (World.block_lt_of_cell? w _ HX.out)).trans HX.out; clear FP))
          go_ret
          exact ⟨by first | (simp; done) | (simp; omega), HB.out⟩
    · obtain rfl : k = l0.length := by omega
      have h5a := H5.out
      have hP := HP6.out
      rw [List.take_length] at hP h5a
      obtain ⟨P, rfl⟩ : ∃ P, P = P6 := ⟨_, rfl⟩
      obtain ⟨q, hq⟩ : ∃ q, P ++ l1 = q := ⟨_, rfl⟩
      have HQ := Aside0.mk hq
      have hpl : P.length ≤ 10000 := by
        rw [← hP]
        have h := packs_len 500 l0 h5a
        have h3 : l0.length * (500 + 8) ≤ 10 * (500 + 8) := Nat.mul_le_mul_right _ (by omega)
        omega
      have hql : q.length ≤ 11000 := by rw [← hq, List.length_append]; omega
      have hby : Byt q := by rw [← hq, ← hP]; exact (packs_bytes HY0.out).append HY1.out
      have hfe : feed [] false q = (l1, false, l0) := by
        have e := fdA_packs l1 (by omega) l0 (fun b hb => ⟨HY0.out b hb, by have := h5a b hb; omega⟩)
        rw [hP, hq] at e
        exact e
      have FF := Aside0.mk ((feed_f [] false q Byt.nil hby (by decide) (by omega)).trans (congrArg some hfe))
      have LS := Aside0.mk (lists_f l0 (by omega) 2000 (by omega))
      clear hP hq hql hby hfe h5a H5
      have CP6 := Aside0.mk (Kd.R_reads' R6.out).2.2
      have CRV := Aside0.mk CR0.out
      have CRW := Aside0.mk CR1.out
      clear CR0 CR1
      go_wp2_with (first | ((with_reducible refine gate_builtin (b := .append) (xs := #[.const (.slice none 0 0), .tmp 65]) rfl ?_); at_builtin; refine Kd.R_append_rows (Kd.int .u8) (w0 := w) w.heap.size rfl (.const (.slice none 0 0)) (.tmp 65) 23 5 (.int .u8 0) 1 rfl Try.underlying23 info5 rfl (by decide) (by omega) (.slice none 0 0) [] P _ _ _ (fun _ => True) (fun _ => False) rfl rfl (Kd.R_nil _ _ _ _ _) CP6.out (fun _ _ h => h) (fun _ h => h.elim) (fun _ _ => trivial) HB.out HB.out.size (by simp; omega) ?_; intro v66 w66 ho hb hg _; simp only [List.nil_append] at ho; have R66 := Aside0.mk ho; replace HB := Aside0.mk hb; clear ho hb hg CP6 R6) | ((with_reducible refine gate_builtin (b := .append) (xs := #[.tmp 66, .tmp 67]) rfl ?_); at_builtin; refine Kd.R_append_rows (Kd.int .u8) (w0 := w) w.heap.size rfl (.tmp 66) (.tmp 67) 23 5 (.int .u8 0) 1 rfl Try.underlying23 info5 rfl (by decide) (by omega) v66 P l1 _ _ _ (fun _ => True) (fun _ => False) rfl rfl R66.out (Kd.C_below CRW.out HB.out) (fun _ _ h => h) (fun _ h => h.elim) (fun _ _ => trivial) HB.out HB.out.size (by omega) ?_; intro v68 w68 ho hb hg _; rw [HQ.out] at ho; obtain ⟨A68, c68, rfl⟩ := Kd.R_slice ho; have CQ := Aside0.mk (Kd.R_reads' ho).2.2; have CQc := Aside0.mk (Kd.R_reads' ho).2.1; replace HB := Aside0.mk hb; have CR0 := Aside0.mk (Kd.C_below CRV.out HB.out); have CR1 := Aside0.mk (Kd.C_below CRW.out HB.out); clear ho hb hg R66) | ((go_at_call 23); have tk_ := FF; clear tk_; (refine (frame_Feed.calls none 0 [] false A68 c68 q _ _ _ _ (Kd.C_nil _ _) (Nat.le_refl _) CQ.out CQc.out FF.out).mono ?_); rintro e wfx ⟨Abx, cbx, Alx, clx, rfl, hxx, hxcx, hyx, hycx, hb0⟩; have hbb := hb0; replace HB := Aside0.mk (below_step HB.out hbb); replace CR0 := Aside0.mk (Kd.C_below CR0.out hbb); replace CR1 := Aside0.mk (Kd.C_below CR1.out hbb); clear hbb; have CBx := Aside0.mk hxx; have CBcx := Aside0.mk hxcx; have CLx := Aside0.mk hyx; have CLcx := Aside0.mk hycx; clear hxx hxcx hyx hycx; clear FF) | ((with_reducible refine gate_dst (N := 10) rfl ?_); refine box_event ?hg (N := 10) ?hd (cs := #[.slice none 0 0, .bool false]) (t := 33) ?hr ?_; (case hd => rfl); (case hg => rfl); (case hr => first | (go_simp; done) | (go_simp; rfl)); intro g10 hg10 wa10 bk10 hb10; replace hg10 := Aside0.mk (Nat.le_of_eq hg10.symm); replace hb10 := Aside0.mk hb10; replace bk10 := Aside0.mk bk10) | ((with_reducible refine gate_store (t := 33) (p := 10) rfl ?_); refine store2_ev rfl rfl 33 (.tmp 10) _ rfl (g := g10) (u := Value.slice Abx l1.length cbx) (v := Value.bool false) rfl rfl bk10.out (by kernel_rfl) rfl rfl ?_; intro wv10 hk10 hz10; replace hz10 := hz10 _ hg10.out hb10.out; replace HB := Aside0.mk (below_step HB.out hz10); replace CR0 := Aside0.mk (Kd.C_below CR0.out hz10); replace CR1 := Aside0.mk (Kd.C_below CR1.out hz10); replace CBx := Aside0.mk (Kd.C_below CBx.out hz10); replace CLx := Aside0.mk (Kd.C_below CLx.out hz10); have BK10 := Aside0.mk hk10; have hcg10_0 : wv10.cell? ⟨g10, 0, none⟩ = some (Value.slice Abx l1.length cbx) := (blk_cell BK10.out 0).trans rfl; have hcg10_1 : wv10.cell? ⟨g10, 1, none⟩ = some (Value.bool false) := (blk_cell BK10.out 1).trans rfl; clear hk10 hz10 bk10 hb10 hg10) | ((go_at_call 26); have tk_ := LS; clear tk_; (refine (towncrierref03_Lists.calls 2000 A0 c0 l0 Alx clx l0 true _ CR0.out HC0.out CLx.out CLcx.out LS.out).mono ?_); rintro e wl ⟨rfl, hd0⟩; have hbb := drawn_below hd0; replace HB := Aside0.mk (below_step HB.out hbb); replace CR0 := Aside0.mk (Kd.C_below CR0.out hbb); replace CR1 := Aside0.mk (Kd.C_below CR1.out hbb); replace CBx := Aside0.mk (Kd.C_below CBx.out hbb); replace CLx := Aside0.mk (Kd.C_below CLx.out hbb); replace BK10 := Aside0.mk (blk_below BK10.out hbb); replace hcg10_0 : wl.cell? ⟨g10, 0, none⟩ = some (Value.slice Abx l1.length cbx) := (blk_cell BK10.out 0).trans rfl; replace hcg10_1 : wl.cell? ⟨g10, 1, none⟩ = some (Value.bool false) := (blk_cell BK10.out 1).trans rfl; clear hbb; clear LS; have hcv1 := Kd.C_string (P := Try.prog) (A := Abx) (c := cbx) Try.underlying23 Try.underlying5 Try.underlying9 CBx.out; have hcv2 := Kd.C_string (P := Try.prog) (A := A1) (c := c1) Try.underlying23 Try.underlying5 Try.underlying9 CR1.out))
      go_ret
      exact ⟨by simp, HB.out⟩
end Go.Proofs.Ytifkeknfiknpkaa.X
