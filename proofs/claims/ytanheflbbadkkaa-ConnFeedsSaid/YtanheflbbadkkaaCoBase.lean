/- The chapter's example of connections; contracts restated. -/
import Derived.Test.YtanheflbbadkkaaCoFns
import Derived.Test.YtanheflbbadkkaaX1
import Derived.Test.YtanheflbbadkkaaX13
import Derived.Test.YtanheflbbadkkaaX16
import Derived.Test.YtanheflbbadkkaaX19
namespace Go.Proofs.Ytanheflbbadkkaa.X
open Go.RowKit Go.Proofs.YtanheflbbadkkaaW.PrintWords Go.Proofs.YtanheflbbadkkaaW.PrintLast Go.Proofs.YtanheflbbadkkaaW.PrintMore
attribute [local go_sem] max2_int min2_int max_two min_two max_three min_three max_four min_four
set_option linter.unusedVariables false
set_option linter.unusedSimpArgs false
open Go.Proofs.Ytanheflbbadkkaa.Fr
def PushOut (id : Int) (l1 : List Int) (d : Bool) (o : List Int) (ok : Bool) (w w' : World) (e : Ending) : Prop := ∃ A1' c1' A3' c3', e = .returned (.tuple #[.agg #[.int .i64 id, .slice A1' l1.length c1', .bool d, .slice A3' o.length c3'], .bool ok]) ∧ Kd.C (Kd.int .u8) w' A1' l1.length l1 ∧ l1.length ≤ c1' ∧ Kd.C (Kd.int .u8) w' A3' o.length o ∧ o.length ≤ c3' ∧ Below w.heap.size w w'
theorem conn_Push.calls2 (id : Int) (A1 : Option Addr) (c1 : Nat) (l1 : List Int) (d : Bool) (A3 : Option Addr) (c3 : Nat) (l3 : List Int) (A4 : Option Addr) (c4 : Nat) (l4 p : List Int) (is : Bool) (w : World) (hr1 : Kd.C (Kd.int .u8) w A1 l1.length l1) (hc1 : l1.length ≤ c1) (hr3 : Kd.C (Kd.int .u8) w A3 l3.length l3) (hc3 : l3.length ≤ c3) (h1 : l1.length ≤ 1000000) (h3 : l3.length ≤ 1000000) (hr4 : Kd.C (Kd.int .u8) w A4 l4.length l4) (hc4 : l4.length ≤ c4) (hp : frame_Pack.f l4 = some (p, is)) (hpl : p.length ≤ 1000000) (o : List Int) (ok : Bool) (hpu : push l3 p is = (o, ok)) :
    Calls Try.prog 10 #[.agg #[.int .i64 id, .slice A1 l1.length c1, .bool d, .slice A3 l3.length c3], .slice A4 l4.length c4] w fun e w' => ∃ A1' c1' A3' c3', e = .returned (.tuple #[.agg #[.int .i64 id, .slice A1' l1.length c1', .bool d, .slice A3' o.length c3'], .bool ok]) ∧ Kd.C (Kd.int .u8) w' A1' l1.length l1 ∧ l1.length ≤ c1' ∧ Kd.C (Kd.int .u8) w' A3' o.length o ∧ o.length ≤ c3' ∧ Below w.heap.size w w' := by
  have h := conn_Push.calls id A1 c1 l1 d A3 c3 l3 A4 c4 l4 p is w hr1 hc1 hr3 hc3 h1 h3 hr4 hc4 hp hpl
  rw [hpu] at h
  exact h
theorem conn_Pull.calls2 (id : Int) (A1 : Option Addr) (c1 : Nat) (l1 : List Int) (d : Bool) (A3 : Option Addr) (c3 : Nat) (l3 : List Int) (n : Int) (m : Nat) (w : World) (hr1 : Kd.C (Kd.int .u8) w A1 l1.length l1) (hc1 : l1.length ≤ c1) (hr3 : Kd.C (Kd.int .u8) w A3 l3.length l3) (hc3 : l3.length ≤ c3) (h1 : l1.length ≤ 1000000) (h3 : l3.length ≤ 1000000) (hn : -9223372036854775808 ≤ n ∧ n < 9223372036854775808) (hm : m = clamp n l3.length) (D O : List Int) (hD : l3.drop m = D) (hO : l3.take m = O) :
    Calls Try.prog 12 #[.agg #[.int .i64 id, .slice A1 l1.length c1, .bool d, .slice A3 l3.length c3], .int .i64 n] w fun e w' => ∃ A1' c1' A3' c3' A5' c5', e = .returned (.tuple #[.agg #[.int .i64 id, .slice A1' l1.length c1', .bool d, .slice A3' D.length c3'], .slice A5' O.length c5']) ∧ Kd.C (Kd.int .u8) w' A1' l1.length l1 ∧ l1.length ≤ c1' ∧ Kd.C (Kd.int .u8) w' A3' D.length D ∧ D.length ≤ c3' ∧ Kd.C (Kd.int .u8) w' A5' O.length O ∧ O.length ≤ c5' ∧ Below w.heap.size w w' := by
  have h := conn_Pull.calls id A1 c1 l1 d A3 c3 l3 n m w hr1 hc1 hr3 hc3 h1 h3 hn hm
  rw [hD, hO] at h
  exact h
theorem wf_i64c {a : Int} (h : (Lit.int .i64 a).wf = true) : -9223372036854775808 ≤ a ∧ a < 9223372036854775808 := by
  simp only [Lit.wf, IntKind.min, IntKind.max, IntKind.signed, IntKind.bits, Bool.and_eq_true] at h
  simp at h; omega
theorem str_app (a b : List Int) : strOfNums (a ++ b) = strOfNums a ++ strOfNums b := by
  refine ByteArray.ext (Array.toList_inj.1 ?_)
  rw [ByteArray.data_append]
  simp [strOfNums]
theorem few_of (id : Int) (l1 : List Int) (d : Bool) (l3 : List Int) : ∃ r, towncrierlaw18_Few.f id l1 d l3 1500 = some r ∧ (r = true → l1.length ≤ 1500 ∧ l3.length ≤ 1500) := by
  unfold towncrierlaw18_Few.f
  by_cases h : (l1.length : Int) ≤ 1500
  · rw [if_pos h]; exact ⟨_, rfl, fun e => ⟨by omega, by have := of_decide_eq_true e; omega⟩⟩
  · rw [if_neg h]; exact ⟨_, rfl, fun e => by cases e⟩
theorem cmay_of (id : Int) (l1 : List Int) (d : Bool) (l3 : List Int) : ∃ r, conn_May.f id l1 d l3 = some r ∧ (r = true ↔ 0 ≤ id ∧ d = false ∧ l1.length < 520 ∧ l3.length ≤ 600) := by
  unfold conn_May.f
  by_cases h : id ≥ 0
  · rw [if_pos h]
    cases d with
    | true => rw [if_pos rfl]; exact ⟨_, rfl, by simp⟩
    | false =>
      rw [if_neg (by decide)]
      by_cases h2 : (l1.length : Int) < 520
      · rw [if_pos h2]; exact ⟨_, rfl, by rw [decide_eq_true_eq]; constructor; (intro q; exact ⟨h, rfl, by omega, by omega⟩); (intro q; omega)⟩
      · rw [if_neg h2]; exact ⟨_, rfl, by constructor; (intro q; cases q); (intro q; omega)⟩
  · rw [if_neg h]; exact ⟨_, rfl, by constructor; (intro q; cases q); (intro q; omega)⟩
theorem csame_f (id : Int) (l1 : List Int) (d : Bool) (l3 : List Int) : conn_Same.f id l1 d l3 id l1 d l3 = some true := by
  unfold conn_Same.f
  rw [if_pos rfl]
  obtain ⟨r, h1, h2⟩ := same_eq l1 d l1 d
  rw [same_f] at h1
  rw [h2, Option.bind_some, ← Option.some.inj h1, if_pos rfl]
  unfold bytes_Equal.f
  simp
set_option maxHeartbeats 8000000 in
set_option maxRecDepth 100000 in
theorem towncrierlaw18_awake.walk (w : World) : Calls Try.prog 8 #[] w fun e w' => e = .returned (.bool true) ∧ Below w.heap.size w w' := by
  have hu29 := Try.underlying29
  have hu27 := Try.underlying27
  have HB := Aside0.mk (Below.refl w.heap.size w)
  obtain ⟨p, hp⟩ : ∃ p, p = pack [] := ⟨_, rfl⟩
  have HP := Aside0.mk (show frame_Pack.f [] = some (p, true) by rw [hp]; exact pack_f [] Byt.nil (by decide))
  have hpl : p.length = 8 := by rw [hp, pack_len]; rfl
  have HPU := Aside0.mk (show push [] p true = (p, true) by unfold push; rw [if_pos ⟨rfl, by rw [hpl]; decide⟩]; rfl)
  obtain ⟨D, hD⟩ : ∃ D, p.drop 3 = D := ⟨_, rfl⟩
  obtain ⟨O, hO⟩ : ∃ O, p.take 3 = O := ⟨_, rfl⟩
  have HD := Aside0.mk hD
  have HO := Aside0.mk hO
  have hdl : D.length = 5 := by rw [← hD, List.length_drop]; omega
  have hol : O.length = 3 := by rw [← hO, List.length_take]; omega
  have HM := Aside0.mk (show 3 = clamp 3 p.length by rw [hpl]; decide)
  have HN := Aside0.mk (show conn_New.f 3 = some (3, [], false, []) from rfl)
  have MY := Aside0.mk (show conn_May.f 3 [] false D = some true by obtain ⟨r, e, h⟩ := cmay_of 3 [] false D; rw [e]; exact congrArg some (h.2 ⟨by decide, rfl, by decide, by omega⟩))
  have SM := Aside0.mk (show conn_Same.f 3 [] false p 3 [] false D = some false by
    unfold conn_Same.f
    rw [if_pos rfl, show frame_Same.f [] false [] false = some true by decide +kernel, Option.bind_some, if_pos rfl]
    unfold bytes_Equal.f
    rw [Option.bind_some]
    congr 1
    have e : ¬ (strOfNums p).toList = (strOfNums D).toList := fun q => by
      have h1 := congrArg List.length q
      rw [ByteArray.toList_eq, ByteArray.toList_eq, Array.length_toList, Array.length_toList] at h1
      have h2 : (strOfNums p).data.size = p.length := strOfNums_size p
      have h3 : (strOfNums D).data.size = D.length := strOfNums_size D
      omega
    first | exact decide_eq_false e | (rw [beq_eq_false_iff_ne]; exact e) | (simp; exact e))
  have hp8 : ((p.length : Int) == 8) = true := beq_iff_eq.mpr (by omega)
  have hp8' : (p.length == 8) = true := beq_iff_eq.mpr hpl
  have hd5 : ((D.length : Int) == 5) = true := beq_iff_eq.mpr (by omega)
  have hd5' : (D.length == 5) = true := beq_iff_eq.mpr hdl
  have ho3 : ((O.length : Int) == 3) = true := beq_iff_eq.mpr (by omega)
  have ho3' : (O.length == 3) = true := beq_iff_eq.mpr hol
  have hple : p.length ≤ 1000000 := by omega
  clear hp hD hO hpl hdl hol
  go_enter Try.func8, Try.ntmps8
  go_wp2_with (first | ((go_at_call 9); have tk_ := HN; clear tk_; (refine (conn_New.calls 3 3 [] false [] _ HN.out).mono ?_); rintro e wq1 ⟨v1, v3, rfl, h1, h3, hb0⟩; have hbb := hb0; replace HB := Aside0.mk (below_step HB.out hbb); clear hbb; obtain ⟨Axa, cxa, rfl⟩ := Kd.R_slice h1; obtain ⟨Dxa, exa, rfl⟩ := Kd.R_slice h3; have CXa := Aside0.mk (Kd.R_reads' h1).2.2; have COa := Aside0.mk (Kd.R_reads' h3).2.2; clear h1 h3; clear HN) | ((go_at_call 10); have tk_ := HPU; clear tk_; (refine (conn_Push.calls2 3 Axa cxa [] false Dxa exa [] none 0 [] p true _ CXa.out (Nat.zero_le _) COa.out (Nat.zero_le _) (Nat.zero_le _) (Nat.zero_le _) (Kd.C_nil _ _) (Nat.le_refl _) HP.out hple p true HPU.out).mono ?_); rintro e wq2 ⟨Axb, cxb, Dxb, exb, rfl, hx, hxc, hy, hyc, hb0⟩; have hbb := hb0; replace CXa := Aside0.mk (Kd.C_below CXa.out hbb); replace COa := Aside0.mk (Kd.C_below COa.out hbb); replace HB := Aside0.mk (below_step HB.out hbb); clear hbb; have CXb := Aside0.mk hx; have CXcb := Aside0.mk hxc; have COb := Aside0.mk hy; have COcb := Aside0.mk hyc; clear hx hxc hy hyc; clear HPU) | ((with_reducible refine gate_dst (N := 1) rfl ?_); refine box_event ?hg (N := 1) ?hd (cs := #[.int .i64 0, .slice none 0 0, .bool false, .slice none 0 0]) (t := 29) ?hr ?_; (case hd => rfl); (case hg => rfl); (case hr => first | (go_simp; done) | (go_simp; rfl)); intro g1 hg1 wq3 bk1 hb1; have G1 := Aside0.mk (hg1 ▸ HB.out.size : w.heap.size ≤ g1); have BK1 := Aside0.mk bk1; replace CXa := Aside0.mk (Kd.C_below CXa.out hb1); replace COa := Aside0.mk (Kd.C_below COa.out hb1); replace CXb := Aside0.mk (Kd.C_below CXb.out hb1); replace COb := Aside0.mk (Kd.C_below COb.out hb1); replace HB := Aside0.mk (below_step HB.out hb1); have hc1_0 : wq3.cell? ⟨g1, 0, none⟩ = some (.int .i64 0) := (blk_cell BK1.out 0).trans rfl; have hc1_1 : wq3.cell? ⟨g1, 1, none⟩ = some (.slice none 0 0) := (blk_cell BK1.out 1).trans rfl; have hc1_2 : wq3.cell? ⟨g1, 2, none⟩ = some (.bool false) := (blk_cell BK1.out 2).trans rfl; have hc1_3 : wq3.cell? ⟨g1, 3, none⟩ = some (.slice none 0 0) := (blk_cell BK1.out 3).trans rfl; clear hg1 bk1 hb1) | ((with_reducible refine gate_store (t := 29) (p := 1) rfl ?_); refine seg_ev rfl rfl 29 (.tmp 1) _ rfl (g := g1) (j := 0) (seg := [.int .i64 3, .slice Axb 0 cxb, .bool false, .slice Dxb p.length exb]) (cs' := #[.int .i64 3, .slice Axb 0 cxb, .bool false, .slice Dxb p.length exb]) rfl rfl rfl BK1.out (by kernel_rfl) (by simp) (by intro q hq; simp only [List.mem_cons, List.not_mem_nil, or_false] at hq; rcases hq with rfl | rfl | rfl | rfl <;> rfl) rfl ?_; intro wq4 hk hz ho; replace CXa := Aside0.mk (C_far CXa.out BK1.out (by intro v hv x hx; subst hx; simp at hv) ho); replace COa := Aside0.mk (C_far COa.out BK1.out (by intro v hv x hx; subst hx; simp at hv) ho); replace CXb := Aside0.mk (C_far CXb.out BK1.out (by intro v hv x hx; subst hx; simp at hv) ho); replace COb := Aside0.mk (C_far COb.out BK1.out (by intro v hv x hx; subst hx; simp at hv) ho); replace BK1 := Aside0.mk hk; replace HB := Aside0.mk (hz _ G1.out HB.out); clear hc1_0 hc1_1 hc1_2 hc1_3; have hc1_0 : wq4.cell? ⟨g1, 0, none⟩ = some (.int .i64 3) := (blk_cell BK1.out 0).trans rfl; have hc1_1 : wq4.cell? ⟨g1, 1, none⟩ = some (.slice Axb 0 cxb) := (blk_cell BK1.out 1).trans rfl; have hc1_2 : wq4.cell? ⟨g1, 2, none⟩ = some (.bool false) := (blk_cell BK1.out 2).trans rfl; have hc1_3 : wq4.cell? ⟨g1, 3, none⟩ = some (.slice Dxb p.length exb) := (blk_cell BK1.out 3).trans rfl; clear hk hz ho) | ((go_at_call 12); have tk_ := HD; clear tk_; (refine (conn_Pull.calls2 3 Axb cxb [] false Dxb exb p 3 3 _ CXb.out CXcb.out COb.out COcb.out (Nat.zero_le _) hple (by decide) HM.out D O HD.out HO.out).mono ?_); rintro e wq5 ⟨Axc, cxc, Dxc, exc, Ayc, cyc, rfl, hx, hxc, hy, hyc, _, _, hb0⟩; have hbb := hb0; replace BK1 := Aside0.mk (blk_below BK1.out hbb); replace CXa := Aside0.mk (Kd.C_below CXa.out hbb); replace COa := Aside0.mk (Kd.C_below COa.out hbb); replace CXb := Aside0.mk (Kd.C_below CXb.out hbb); replace COb := Aside0.mk (Kd.C_below COb.out hbb); replace HB := Aside0.mk (below_step HB.out hbb); clear hc1_0 hc1_1 hc1_2 hc1_3; have hc1_0 : wq5.cell? ⟨g1, 0, none⟩ = some (.int .i64 3) := (blk_cell BK1.out 0).trans rfl; have hc1_1 : wq5.cell? ⟨g1, 1, none⟩ = some (.slice Axb 0 cxb) := (blk_cell BK1.out 1).trans rfl; have hc1_2 : wq5.cell? ⟨g1, 2, none⟩ = some (.bool false) := (blk_cell BK1.out 2).trans rfl; have hc1_3 : wq5.cell? ⟨g1, 3, none⟩ = some (.slice Dxb p.length exb) := (blk_cell BK1.out 3).trans rfl; clear hbb; have CXc := Aside0.mk hx; have CXcc := Aside0.mk hxc; have COc := Aside0.mk hy; have COcc := Aside0.mk hyc; clear hx hxc hy hyc; clear HD) | ((with_reducible refine gate_dst (N := 3) rfl ?_); refine box_event ?hg (N := 3) ?hd (cs := #[.int .i64 0, .slice none 0 0, .bool false, .slice none 0 0]) (t := 29) ?hr ?_; (case hd => rfl); (case hg => rfl); (case hr => first | (go_simp; done) | (go_simp; rfl)); intro g3 hg3 wq6 bk3 hb3; have NE1_3 := Aside0.mk (hg3 ▸ Nat.ne_of_lt (blk_lt BK1.out) : g1 ≠ g3); replace BK1 := Aside0.mk (blk_below BK1.out hb3); have G3 := Aside0.mk (hg3 ▸ HB.out.size : w.heap.size ≤ g3); have BK3 := Aside0.mk bk3; replace CXa := Aside0.mk (Kd.C_below CXa.out hb3); replace COa := Aside0.mk (Kd.C_below COa.out hb3); replace CXb := Aside0.mk (Kd.C_below CXb.out hb3); replace COb := Aside0.mk (Kd.C_below COb.out hb3); replace CXc := Aside0.mk (Kd.C_below CXc.out hb3); replace COc := Aside0.mk (Kd.C_below COc.out hb3); replace HB := Aside0.mk (below_step HB.out hb3); clear hc1_0 hc1_1 hc1_2 hc1_3; have hc1_0 : wq6.cell? ⟨g1, 0, none⟩ = some (.int .i64 3) := (blk_cell BK1.out 0).trans rfl; have hc1_1 : wq6.cell? ⟨g1, 1, none⟩ = some (.slice Axb 0 cxb) := (blk_cell BK1.out 1).trans rfl; have hc1_2 : wq6.cell? ⟨g1, 2, none⟩ = some (.bool false) := (blk_cell BK1.out 2).trans rfl; have hc1_3 : wq6.cell? ⟨g1, 3, none⟩ = some (.slice Dxb p.length exb) := (blk_cell BK1.out 3).trans rfl; have hc3_0 : wq6.cell? ⟨g3, 0, none⟩ = some (.int .i64 0) := (blk_cell BK3.out 0).trans rfl; have hc3_1 : wq6.cell? ⟨g3, 1, none⟩ = some (.slice none 0 0) := (blk_cell BK3.out 1).trans rfl; have hc3_2 : wq6.cell? ⟨g3, 2, none⟩ = some (.bool false) := (blk_cell BK3.out 2).trans rfl; have hc3_3 : wq6.cell? ⟨g3, 3, none⟩ = some (.slice none 0 0) := (blk_cell BK3.out 3).trans rfl; clear hg3 bk3 hb3) | ((with_reducible refine gate_store (t := 29) (p := 3) rfl ?_); refine seg_ev rfl rfl 29 (.tmp 3) _ rfl (g := g3) (j := 0) (seg := [.int .i64 3, .slice Axc 0 cxc, .bool false, .slice Dxc D.length exc]) (cs' := #[.int .i64 3, .slice Axc 0 cxc, .bool false, .slice Dxc D.length exc]) rfl rfl rfl BK3.out (by kernel_rfl) (by simp) (by intro q hq; simp only [List.mem_cons, List.not_mem_nil, or_false] at hq; rcases hq with rfl | rfl | rfl | rfl <;> rfl) rfl ?_; intro wq7 hk hz ho; replace CXa := Aside0.mk (C_far CXa.out BK3.out (by intro v hv x hx; subst hx; simp at hv) ho); replace COa := Aside0.mk (C_far COa.out BK3.out (by intro v hv x hx; subst hx; simp at hv) ho); replace CXb := Aside0.mk (C_far CXb.out BK3.out (by intro v hv x hx; subst hx; simp at hv) ho); replace COb := Aside0.mk (C_far COb.out BK3.out (by intro v hv x hx; subst hx; simp at hv) ho); replace CXc := Aside0.mk (C_far CXc.out BK3.out (by intro v hv x hx; subst hx; simp at hv) ho); replace COc := Aside0.mk (C_far COc.out BK3.out (by intro v hv x hx; subst hx; simp at hv) ho); replace BK1 := Aside0.mk ((ho _ NE1_3.out).trans BK1.out); replace BK3 := Aside0.mk hk; replace HB := Aside0.mk (hz _ G3.out HB.out); clear hc1_0 hc1_1 hc1_2 hc1_3 hc3_0 hc3_1 hc3_2 hc3_3; have hc1_0 : wq7.cell? ⟨g1, 0, none⟩ = some (.int .i64 3) := (blk_cell BK1.out 0).trans rfl; have hc1_1 : wq7.cell? ⟨g1, 1, none⟩ = some (.slice Axb 0 cxb) := (blk_cell BK1.out 1).trans rfl; have hc1_2 : wq7.cell? ⟨g1, 2, none⟩ = some (.bool false) := (blk_cell BK1.out 2).trans rfl; have hc1_3 : wq7.cell? ⟨g1, 3, none⟩ = some (.slice Dxb p.length exb) := (blk_cell BK1.out 3).trans rfl; have hc3_0 : wq7.cell? ⟨g3, 0, none⟩ = some (.int .i64 3) := (blk_cell BK3.out 0).trans rfl; have hc3_1 : wq7.cell? ⟨g3, 1, none⟩ = some (.slice Axc 0 cxc) := (blk_cell BK3.out 1).trans rfl; have hc3_2 : wq7.cell? ⟨g3, 2, none⟩ = some (.bool false) := (blk_cell BK3.out 2).trans rfl; have hc3_3 : wq7.cell? ⟨g3, 3, none⟩ = some (.slice Dxc D.length exc) := (blk_cell BK3.out 3).trans rfl; clear hk hz ho) | ((go_at_call 13); have tk_ := MY; clear tk_; (refine (conn_May.calls 3 Axc cxc [] false Dxc exc D true _ CXc.out CXcc.out COc.out COcc.out MY.out).mono ?_); rintro e wq8 ⟨rfl, hb0⟩; have hbb := hb0; replace BK1 := Aside0.mk (blk_below BK1.out hbb); replace BK3 := Aside0.mk (blk_below BK3.out hbb); replace CXa := Aside0.mk (Kd.C_below CXa.out hbb); replace COa := Aside0.mk (Kd.C_below COa.out hbb); replace CXb := Aside0.mk (Kd.C_below CXb.out hbb); replace COb := Aside0.mk (Kd.C_below COb.out hbb); replace CXc := Aside0.mk (Kd.C_below CXc.out hbb); replace COc := Aside0.mk (Kd.C_below COc.out hbb); replace HB := Aside0.mk (below_step HB.out hbb); clear hc1_0 hc1_1 hc1_2 hc1_3 hc3_0 hc3_1 hc3_2 hc3_3; have hc1_0 : wq8.cell? ⟨g1, 0, none⟩ = some (.int .i64 3) := (blk_cell BK1.out 0).trans rfl; have hc1_1 : wq8.cell? ⟨g1, 1, none⟩ = some (.slice Axb 0 cxb) := (blk_cell BK1.out 1).trans rfl; have hc1_2 : wq8.cell? ⟨g1, 2, none⟩ = some (.bool false) := (blk_cell BK1.out 2).trans rfl; have hc1_3 : wq8.cell? ⟨g1, 3, none⟩ = some (.slice Dxb p.length exb) := (blk_cell BK1.out 3).trans rfl; have hc3_0 : wq8.cell? ⟨g3, 0, none⟩ = some (.int .i64 3) := (blk_cell BK3.out 0).trans rfl; have hc3_1 : wq8.cell? ⟨g3, 1, none⟩ = some (.slice Axc 0 cxc) := (blk_cell BK3.out 1).trans rfl; have hc3_2 : wq8.cell? ⟨g3, 2, none⟩ = some (.bool false) := (blk_cell BK3.out 2).trans rfl; have hc3_3 : wq8.cell? ⟨g3, 3, none⟩ = some (.slice Dxc D.length exc) := (blk_cell BK3.out 3).trans rfl; clear hbb; clear MY) | ((go_at_call 15); have tk_ := SM; clear tk_; (refine (conn_Same.calls 3 Axb cxb [] false Dxb exb p 3 Axc cxc [] false Dxc exc D false _ CXb.out CXcb.out COb.out COcb.out CXc.out CXcc.out COc.out COcc.out SM.out).mono ?_); rintro e wq9 ⟨rfl, hb0⟩; have hbb := hb0; replace BK1 := Aside0.mk (blk_below BK1.out hbb); replace BK3 := Aside0.mk (blk_below BK3.out hbb); replace CXa := Aside0.mk (Kd.C_below CXa.out hbb); replace COa := Aside0.mk (Kd.C_below COa.out hbb); replace CXb := Aside0.mk (Kd.C_below CXb.out hbb); replace COb := Aside0.mk (Kd.C_below COb.out hbb); replace CXc := Aside0.mk (Kd.C_below CXc.out hbb); replace COc := Aside0.mk (Kd.C_below COc.out hbb); replace HB := Aside0.mk (below_step HB.out hbb); clear hc1_0 hc1_1 hc1_2 hc1_3 hc3_0 hc3_1 hc3_2 hc3_3; have hc1_0 : wq9.cell? ⟨g1, 0, none⟩ = some (.int .i64 3) := (blk_cell BK1.out 0).trans rfl; have hc1_1 : wq9.cell? ⟨g1, 1, none⟩ = some (.slice Axb 0 cxb) := (blk_cell BK1.out 1).trans rfl; have hc1_2 : wq9.cell? ⟨g1, 2, none⟩ = some (.bool false) := (blk_cell BK1.out 2).trans rfl; have hc1_3 : wq9.cell? ⟨g1, 3, none⟩ = some (.slice Dxb p.length exb) := (blk_cell BK1.out 3).trans rfl; have hc3_0 : wq9.cell? ⟨g3, 0, none⟩ = some (.int .i64 3) := (blk_cell BK3.out 0).trans rfl; have hc3_1 : wq9.cell? ⟨g3, 1, none⟩ = some (.slice Axc 0 cxc) := (blk_cell BK3.out 1).trans rfl; have hc3_2 : wq9.cell? ⟨g3, 2, none⟩ = some (.bool false) := (blk_cell BK3.out 2).trans rfl; have hc3_3 : wq9.cell? ⟨g3, 3, none⟩ = some (.slice Dxc D.length exc) := (blk_cell BK3.out 3).trans rfl; clear hbb; clear SM))
  go_ret
  exact ⟨by simp, HB.out⟩
end Go.Proofs.Ytanheflbbadkkaa.X
