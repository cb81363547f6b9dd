/- Functions of the translation as plain Lean functions, and proofs that the calls come to what these say. No condition. Written by a program of this session (wip/xprint.py); not trusted: Lean checks it. -/
import Derived.Test.YtgijidifmhccpaaX0
namespace Go.Proofs.Ytgijidifmhccpaa.X
open Go.RowKit Go.Proofs.YtgijidifmhccpaaW.PrintWords Go.Proofs.YtgijidifmhccpaaW.PrintLast Go.Proofs.YtgijidifmhccpaaW.PrintMore
attribute [local go_sem] max2_int min2_int max_two min_two max_three min_three max_four min_four   -- for this text's walks alone
set_option linter.unusedVariables false
set_option linter.unusedSimpArgs false

/-! ### value_May: function 19 -/
def putSeg (cs : Array Value) (j : Nat) : List Value → Array Value
  | [] => cs
  | v :: r => putSeg (cs.setIfInBounds j v) (j + 1) r
theorem putSeg_blk : ∀ (seg : List Value) (W : World) (g j : Nat) (cs : Array Value) (t : TypeId), W.heap[g]? = some (.cells cs t (0, 0)) → (W.setCells g j seg).heap[g]? = some (.cells (putSeg cs j seg) t (0, 0))
  | [], _, _, _, _, _, h => h
  | v :: r, W, g, j, _, t, h => putSeg_blk r (W.setCell ⟨g, j, none⟩ v) g (j + 1) _ t (blk_put h j v rfl)
theorem putSeg_other : ∀ (seg : List Value) (W : World) (g j i : Nat), i ≠ g → (W.setCells g j seg).heap[i]? = W.heap[i]?
  | [], _, _, _, _, _ => rfl
  | v :: r, W, g, j, i, h => (putSeg_other r (W.setCell ⟨g, j, none⟩ v) g (j + 1) i h).trans (Below.heap_setCell W ⟨g, j, none⟩ v i (by simpa using h))
theorem putSeg_below : ∀ (seg : List Value) (W0 W : World) (g j : Nat), W0.heap.size ≤ g → Below W0.heap.size W0 W → Below W0.heap.size W0 (W.setCells g j seg)
  | [], _, _, _, _, _, h => h
  | v :: r, W0, W, g, j, hg, h => putSeg_below r W0 (W.setCell ⟨g, j, none⟩ v) g (j + 1) hg (below_set h hg)
theorem seg_ev {P : Program} {ops : Array Oper} {rest : List Oper} {o : Oper} {a : Act} {Q : Exit → Act → World → Prop} {W : World} (hN : o.dst = none) (hgd : o.guard = none) (t : TypeId) (p x : Operand) (ho : o.op = .store t p x) {g j : Nat} {u : Value} {seg : List Value} {cs cs' : Array Value} {ty : TypeId}
    (haddr : a.eval p = .pointer (some ⟨g, j, none⟩)) (hx : a.eval x = u) (hu : u.cells.toList = seg) (hb : W.heap[g]? = some (.cells cs ty (0, 0))) (ht : (P.info? t).map (·.size) = some seg.length) (hfit : j + seg.length ≤ cs.size) (h1 : ∀ q ∈ seg, q.oneCell' = true) (hcs : putSeg cs j seg = cs')
    (h : ∀ w1, w1.heap[g]? = some (.cells cs' ty (0, 0)) → (∀ W0 : World, W0.heap.size ≤ g → Below W0.heap.size W0 W → Below W0.heap.size W0 w1) → (∀ i, i ≠ g → w1.heap[i]? = W.heap[i]?) → wpList P ops Q rest a w1) : wpList P ops Q (o :: rest) a W := by
  refine wpList_plain hgd fun K hK => ?_
  have hrun : (Instr.storeAt t (.pointer (some ⟨g, j, none⟩)) u).run P W = .ok () (W.setCells g j seg) := run_store_run t u seg hb hu ht hfit h1
  unfold Oper.wp execOp
  simp only [ho, haddr, hx, Sem.run_bind, Sem.run_pure, Result.andThen_ok, hrun]
  show K (a.put o.dst undef) _
  rw [hN]
  exact hK a _ (h _ (hcs ▸ putSeg_blk seg W g j cs ty hb) (fun W0 h0 hB => putSeg_below seg W0 W g j h0 hB) (fun i hi => putSeg_other seg W g j i hi))
theorem drawn_below {w w' : World} (h : Drawn0 w w') : Below w.heap.size w w' := by
  obtain ⟨nd, rfl⟩ := h
  exact pw_below_drewN (Below.refl _ _) nd
/-- What a value holds, as the call returns it. -/
def value_held.v (a0_0 a0_1 : Int) (a0_2 : ByteArray) : Value :=
  if a0_0 = 2 then (if a0_1 = 0 then (if (a0_2.size : Int) ≤ 40 then .iface 9 (.string a0_2) else .nilIface) else .nilIface) else
  if a0_2.toList = [] then (if a0_0 = 0 then .iface 3 (.int .i64 a0_1) else
    if a0_0 = 1 then (if IntKind.u64.wrap a0_1 < 2 then .iface 4 (.bool (a0_1 == 1)) else .nilIface) else
    if a0_0 = 3 then (if a0_1 ≥ 0 then (if a0_1 ≤ 1125899906842624 then .iface 45 (.int .i64 a0_1) else .nilIface) else .nilIface) else .nilIface) else .nilIface
set_option maxHeartbeats 8000000 in
set_option maxRecDepth 100000 in
theorem value_held.calls (a0_0 : Int) (a0_1 : Int) (a0_2 : ByteArray) (w : World) :
    Calls Try.prog 20 #[.agg #[.int .i64 a0_0, .int .i64 a0_1, .string a0_2]] w fun e w' => e = .returned (value_held.v a0_0 a0_1 a0_2) ∧ Below w.heap.size w w' := by
  have hu23 := Try.underlying23
  have HB := Aside0.mk (Below.refl w.heap.size w)
  have mk3 : ∀ x W, (Instr.makeInterface 3 x).run Try.prog W = .ok (.iface 3 x) W := fun x W => run_makeInterface _ _ _ (by kernel_rfl)
  have mk4 : ∀ x W, (Instr.makeInterface 4 x).run Try.prog W = .ok (.iface 4 x) W := fun x W => run_makeInterface _ _ _ (by kernel_rfl)
  have mk9 : ∀ x W, (Instr.makeInterface 9 x).run Try.prog W = .ok (.iface 9 x) W := fun x W => run_makeInterface _ _ _ (by kernel_rfl)
  have mk45 : ∀ x W, (Instr.makeInterface 45 x).run Try.prog W = .ok (.iface 45 x) W := fun x W => run_makeInterface _ _ _ (by kernel_rfl)
  unfold value_held.v
  by_cases k2 : a0_0 = 2
  · rw [if_pos k2]
    have k2a : (a0_0 == 2) = true := beq_iff_eq.mpr k2
    have k2b : (a0_0 != 2) = false := bne_eq_false_iff_eq.mpr k2
    clear k2
    have k0x : (a0_0 == 0) = false := beq_eq_false_iff_ne.mpr (by have := beq_iff_eq.mp k2a; omega)
    have k1x : (a0_0 == 1) = false := beq_eq_false_iff_ne.mpr (by have := beq_iff_eq.mp k2a; omega)
    have k3x : (a0_0 == 3) = false := beq_eq_false_iff_ne.mpr (by have := beq_iff_eq.mp k2a; omega)
    by_cases n0 : a0_1 = 0
    · rw [if_pos n0]
      have n0a : (a0_1 == 0) = true := beq_iff_eq.mpr n0
      have n0b : (a0_1 != 0) = false := bne_eq_false_iff_eq.mpr n0
      clear n0
      by_cases s40 : (a0_2.size : Int) ≤ 40
      · rw [if_pos s40]
        go_enter Try.func20, Try.ntmps20
        go_wp2_with (first | ((with_reducible refine gate_dst (N := 1) rfl ?_); refine box_event ?hg (N := 1) ?hd (cs := #[.int .i64 a0_0, .int .i64 a0_1, .string a0_2]) (t := 23) ?hr ?_; (case hd => rfl); (case hg => rfl); (case hr => first | (go_simp; done) | (go_simp; rfl)); intro g1 hg1 w1 bk1 hb1; replace HB := Aside0.mk (below_step HB.out hb1); have hc1_0 : w1.cell? ⟨g1, 0, none⟩ = some (.int .i64 a0_0) := (blk_cell bk1 0).trans rfl; have hc1_1 : w1.cell? ⟨g1, 1, none⟩ = some (.int .i64 a0_1) := (blk_cell bk1 1).trans rfl; have hc1_2 : w1.cell? ⟨g1, 2, none⟩ = some (.string a0_2) := (blk_cell bk1 2).trans rfl; replace bk1 := Aside0.mk bk1; clear hg1 hb1))
        go_ret
        exact ⟨rfl, HB.out⟩
      · rw [if_neg s40]
        go_enter Try.func20, Try.ntmps20
        go_wp2_with (first | ((with_reducible refine gate_dst (N := 1) rfl ?_); refine box_event ?hg (N := 1) ?hd (cs := #[.int .i64 a0_0, .int .i64 a0_1, .string a0_2]) (t := 23) ?hr ?_; (case hd => rfl); (case hg => rfl); (case hr => first | (go_simp; done) | (go_simp; rfl)); intro g1 hg1 w1 bk1 hb1; replace HB := Aside0.mk (below_step HB.out hb1); have hc1_0 : w1.cell? ⟨g1, 0, none⟩ = some (.int .i64 a0_0) := (blk_cell bk1 0).trans rfl; have hc1_1 : w1.cell? ⟨g1, 1, none⟩ = some (.int .i64 a0_1) := (blk_cell bk1 1).trans rfl; have hc1_2 : w1.cell? ⟨g1, 2, none⟩ = some (.string a0_2) := (blk_cell bk1 2).trans rfl; replace bk1 := Aside0.mk bk1; clear hg1 hb1))
        go_ret
        exact ⟨rfl, HB.out⟩
    · rw [if_neg n0]
      have n0a : (a0_1 == 0) = false := beq_eq_false_iff_ne.mpr n0
      have n0b : (a0_1 != 0) = true := bne_iff_ne.mpr n0
      go_enter Try.func20, Try.ntmps20
      go_wp2_with (first | ((with_reducible refine gate_dst (N := 1) rfl ?_); refine box_event ?hg (N := 1) ?hd (cs := #[.int .i64 a0_0, .int .i64 a0_1, .string a0_2]) (t := 23) ?hr ?_; (case hd => rfl); (case hg => rfl); (case hr => first | (go_simp; done) | (go_simp; rfl)); intro g1 hg1 w1 bk1 hb1; replace HB := Aside0.mk (below_step HB.out hb1); have hc1_0 : w1.cell? ⟨g1, 0, none⟩ = some (.int .i64 a0_0) := (blk_cell bk1 0).trans rfl; have hc1_1 : w1.cell? ⟨g1, 1, none⟩ = some (.int .i64 a0_1) := (blk_cell bk1 1).trans rfl; have hc1_2 : w1.cell? ⟨g1, 2, none⟩ = some (.string a0_2) := (blk_cell bk1 2).trans rfl; replace bk1 := Aside0.mk bk1; clear hg1 hb1))
      go_ret
      exact ⟨rfl, HB.out⟩
  · rw [if_neg k2]
    have k2a : (a0_0 == 2) = false := beq_eq_false_iff_ne.mpr k2
    have k2b : (a0_0 != 2) = true := bne_iff_ne.mpr k2
    by_cases se : a0_2.toList = []
    · rw [if_pos se]
      have sea : a0_2.toList.isEmpty = true := List.isEmpty_iff.mpr se
      clear se
      by_cases k0 : a0_0 = 0
      · rw [if_pos k0]
        have k0a : (a0_0 == 0) = true := beq_iff_eq.mpr k0
        have k0b : (a0_0 != 0) = false := bne_eq_false_iff_eq.mpr k0
        clear k0
        go_enter Try.func20, Try.ntmps20
        go_wp2_with (first | ((with_reducible refine gate_dst (N := 1) rfl ?_); refine box_event ?hg (N := 1) ?hd (cs := #[.int .i64 a0_0, .int .i64 a0_1, .string a0_2]) (t := 23) ?hr ?_; (case hd => rfl); (case hg => rfl); (case hr => first | (go_simp; done) | (go_simp; rfl)); intro g1 hg1 w1 bk1 hb1; replace HB := Aside0.mk (below_step HB.out hb1); have hc1_0 : w1.cell? ⟨g1, 0, none⟩ = some (.int .i64 a0_0) := (blk_cell bk1 0).trans rfl; have hc1_1 : w1.cell? ⟨g1, 1, none⟩ = some (.int .i64 a0_1) := (blk_cell bk1 1).trans rfl; have hc1_2 : w1.cell? ⟨g1, 2, none⟩ = some (.string a0_2) := (blk_cell bk1 2).trans rfl; replace bk1 := Aside0.mk bk1; clear hg1 hb1))
        go_ret
        exact ⟨rfl, HB.out⟩
      · rw [if_neg k0]
        have k0a : (a0_0 == 0) = false := beq_eq_false_iff_ne.mpr k0
        have k0b : (a0_0 != 0) = true := bne_iff_ne.mpr k0
        by_cases k1 : a0_0 = 1
        · rw [if_pos k1]
          have k1a : (a0_0 == 1) = true := beq_iff_eq.mpr k1
          have k1b : (a0_0 != 1) = false := bne_eq_false_iff_eq.mpr k1
          clear k1
          have k3x : (a0_0 == 3) = false := beq_eq_false_iff_ne.mpr (by have := beq_iff_eq.mp k1a; omega)
          by_cases u2 : IntKind.u64.wrap a0_1 < 2
          · rw [if_pos u2]
            go_enter Try.func20, Try.ntmps20
            go_wp2_with (first | ((with_reducible refine gate_dst (N := 1) rfl ?_); refine box_event ?hg (N := 1) ?hd (cs := #[.int .i64 a0_0, .int .i64 a0_1, .string a0_2]) (t := 23) ?hr ?_; (case hd => rfl); (case hg => rfl); (case hr => first | (go_simp; done) | (go_simp; rfl)); intro g1 hg1 w1 bk1 hb1; replace HB := Aside0.mk (below_step HB.out hb1); have hc1_0 : w1.cell? ⟨g1, 0, none⟩ = some (.int .i64 a0_0) := (blk_cell bk1 0).trans rfl; have hc1_1 : w1.cell? ⟨g1, 1, none⟩ = some (.int .i64 a0_1) := (blk_cell bk1 1).trans rfl; have hc1_2 : w1.cell? ⟨g1, 2, none⟩ = some (.string a0_2) := (blk_cell bk1 2).trans rfl; replace bk1 := Aside0.mk bk1; clear hg1 hb1))
            go_ret
            exact ⟨rfl, HB.out⟩
          · rw [if_neg u2]
            go_enter Try.func20, Try.ntmps20
            go_wp2_with (first | ((with_reducible refine gate_dst (N := 1) rfl ?_); refine box_event ?hg (N := 1) ?hd (cs := #[.int .i64 a0_0, .int .i64 a0_1, .string a0_2]) (t := 23) ?hr ?_; (case hd => rfl); (case hg => rfl); (case hr => first | (go_simp; done) | (go_simp; rfl)); intro g1 hg1 w1 bk1 hb1; replace HB := Aside0.mk (below_step HB.out hb1); have hc1_0 : w1.cell? ⟨g1, 0, none⟩ = some (.int .i64 a0_0) := (blk_cell bk1 0).trans rfl; have hc1_1 : w1.cell? ⟨g1, 1, none⟩ = some (.int .i64 a0_1) := (blk_cell bk1 1).trans rfl; have hc1_2 : w1.cell? ⟨g1, 2, none⟩ = some (.string a0_2) := (blk_cell bk1 2).trans rfl; replace bk1 := Aside0.mk bk1; clear hg1 hb1))
            go_ret
            exact ⟨rfl, HB.out⟩
        · rw [if_neg k1]
          have k1a : (a0_0 == 1) = false := beq_eq_false_iff_ne.mpr k1
          have k1b : (a0_0 != 1) = true := bne_iff_ne.mpr k1
          by_cases k3 : a0_0 = 3
          · rw [if_pos k3]
            have k3a : (a0_0 == 3) = true := beq_iff_eq.mpr k3
            have k3b : (a0_0 != 3) = false := bne_eq_false_iff_eq.mpr k3
            clear k3
            by_cases g0 : a0_1 ≥ 0
            · rw [if_pos g0]
              by_cases l50 : a0_1 ≤ 1125899906842624
              · rw [if_pos l50]
                go_enter Try.func20, Try.ntmps20
                go_wp2_with (first | ((with_reducible refine gate_dst (N := 1) rfl ?_); refine box_event ?hg (N := 1) ?hd (cs := #[.int .i64 a0_0, .int .i64 a0_1, .string a0_2]) (t := 23) ?hr ?_; (case hd => rfl); (case hg => rfl); (case hr => first | (go_simp; done) | (go_simp; rfl)); intro g1 hg1 w1 bk1 hb1; replace HB := Aside0.mk (below_step HB.out hb1); have hc1_0 : w1.cell? ⟨g1, 0, none⟩ = some (.int .i64 a0_0) := (blk_cell bk1 0).trans rfl; have hc1_1 : w1.cell? ⟨g1, 1, none⟩ = some (.int .i64 a0_1) := (blk_cell bk1 1).trans rfl; have hc1_2 : w1.cell? ⟨g1, 2, none⟩ = some (.string a0_2) := (blk_cell bk1 2).trans rfl; replace bk1 := Aside0.mk bk1; clear hg1 hb1))
                go_ret
                exact ⟨rfl, HB.out⟩
              · rw [if_neg l50]
                go_enter Try.func20, Try.ntmps20
                go_wp2_with (first | ((with_reducible refine gate_dst (N := 1) rfl ?_); refine box_event ?hg (N := 1) ?hd (cs := #[.int .i64 a0_0, .int .i64 a0_1, .string a0_2]) (t := 23) ?hr ?_; (case hd => rfl); (case hg => rfl); (case hr => first | (go_simp; done) | (go_simp; rfl)); intro g1 hg1 w1 bk1 hb1; replace HB := Aside0.mk (below_step HB.out hb1); have hc1_0 : w1.cell? ⟨g1, 0, none⟩ = some (.int .i64 a0_0) := (blk_cell bk1 0).trans rfl; have hc1_1 : w1.cell? ⟨g1, 1, none⟩ = some (.int .i64 a0_1) := (blk_cell bk1 1).trans rfl; have hc1_2 : w1.cell? ⟨g1, 2, none⟩ = some (.string a0_2) := (blk_cell bk1 2).trans rfl; replace bk1 := Aside0.mk bk1; clear hg1 hb1))
                go_ret
                exact ⟨rfl, HB.out⟩
            · rw [if_neg g0]
              go_enter Try.func20, Try.ntmps20
              go_wp2_with (first | ((with_reducible refine gate_dst (N := 1) rfl ?_); refine box_event ?hg (N := 1) ?hd (cs := #[.int .i64 a0_0, .int .i64 a0_1, .string a0_2]) (t := 23) ?hr ?_; (case hd => rfl); (case hg => rfl); (case hr => first | (go_simp; done) | (go_simp; rfl)); intro g1 hg1 w1 bk1 hb1; replace HB := Aside0.mk (below_step HB.out hb1); have hc1_0 : w1.cell? ⟨g1, 0, none⟩ = some (.int .i64 a0_0) := (blk_cell bk1 0).trans rfl; have hc1_1 : w1.cell? ⟨g1, 1, none⟩ = some (.int .i64 a0_1) := (blk_cell bk1 1).trans rfl; have hc1_2 : w1.cell? ⟨g1, 2, none⟩ = some (.string a0_2) := (blk_cell bk1 2).trans rfl; replace bk1 := Aside0.mk bk1; clear hg1 hb1))
              go_ret
              exact ⟨rfl, HB.out⟩
          · rw [if_neg k3]
            have k3a : (a0_0 == 3) = false := beq_eq_false_iff_ne.mpr k3
            have k3b : (a0_0 != 3) = true := bne_iff_ne.mpr k3
            go_enter Try.func20, Try.ntmps20
            go_wp2_with (first | ((with_reducible refine gate_dst (N := 1) rfl ?_); refine box_event ?hg (N := 1) ?hd (cs := #[.int .i64 a0_0, .int .i64 a0_1, .string a0_2]) (t := 23) ?hr ?_; (case hd => rfl); (case hg => rfl); (case hr => first | (go_simp; done) | (go_simp; rfl)); intro g1 hg1 w1 bk1 hb1; replace HB := Aside0.mk (below_step HB.out hb1); have hc1_0 : w1.cell? ⟨g1, 0, none⟩ = some (.int .i64 a0_0) := (blk_cell bk1 0).trans rfl; have hc1_1 : w1.cell? ⟨g1, 1, none⟩ = some (.int .i64 a0_1) := (blk_cell bk1 1).trans rfl; have hc1_2 : w1.cell? ⟨g1, 2, none⟩ = some (.string a0_2) := (blk_cell bk1 2).trans rfl; replace bk1 := Aside0.mk bk1; clear hg1 hb1))
            go_ret
            exact ⟨rfl, HB.out⟩
    · rw [if_neg se]
      have sea : a0_2.toList.isEmpty = false := by cases hq : a0_2.toList.isEmpty; rfl; exact absurd (List.isEmpty_iff.mp hq) se
      go_enter Try.func20, Try.ntmps20
      go_wp2_with (first | ((with_reducible refine gate_dst (N := 1) rfl ?_); refine box_event ?hg (N := 1) ?hd (cs := #[.int .i64 a0_0, .int .i64 a0_1, .string a0_2]) (t := 23) ?hr ?_; (case hd => rfl); (case hg => rfl); (case hr => first | (go_simp; done) | (go_simp; rfl)); intro g1 hg1 w1 bk1 hb1; replace HB := Aside0.mk (below_step HB.out hb1); have hc1_0 : w1.cell? ⟨g1, 0, none⟩ = some (.int .i64 a0_0) := (blk_cell bk1 0).trans rfl; have hc1_1 : w1.cell? ⟨g1, 1, none⟩ = some (.int .i64 a0_1) := (blk_cell bk1 1).trans rfl; have hc1_2 : w1.cell? ⟨g1, 2, none⟩ = some (.string a0_2) := (blk_cell bk1 2).trans rfl; replace bk1 := Aside0.mk bk1; clear hg1 hb1))
      go_ret
      exact ⟨rfl, HB.out⟩
def value_May.b (a0_0 a0_1 : Int) (a0_2 : ByteArray) : Bool :=
  if a0_0 = 2 then (if a0_1 = 0 then decide ((a0_2.size : Int) ≤ 40) else false) else
  if a0_2.toList = [] then (if a0_0 = 0 then true else if a0_0 = 1 then decide (IntKind.u64.wrap a0_1 < 2) else if a0_0 = 3 then (if a0_1 ≥ 0 then decide (a0_1 ≤ 1125899906842624) else false) else false) else false
theorem value_held.forms (k n : Int) (s : ByteArray) : (value_held.v k n s = .nilIface ∧ value_May.b k n s = false) ∨ (∃ t x, value_held.v k n s = .iface t x ∧ value_May.b k n s = true) := by
  unfold value_May.b value_held.v
  by_cases h1 : k = 2
  · rw [if_pos h1, if_pos h1]
    by_cases h2 : n = 0
    · rw [if_pos h2, if_pos h2]
      by_cases h3 : (s.size : Int) ≤ 40
      · rw [if_pos h3]; exact .inr ⟨_, _, rfl, decide_eq_true h3⟩
      · rw [if_neg h3]; exact .inl ⟨rfl, decide_eq_false h3⟩
    · rw [if_neg h2, if_neg h2]; exact .inl ⟨rfl, rfl⟩
  · rw [if_neg h1, if_neg h1]
    by_cases h2 : s.toList = []
    · rw [if_pos h2, if_pos h2]
      by_cases h3 : k = 0
      · rw [if_pos h3, if_pos h3]; exact .inr ⟨_, _, rfl, rfl⟩
      · rw [if_neg h3, if_neg h3]
        by_cases h4 : k = 1
        · rw [if_pos h4, if_pos h4]
          by_cases h5 : IntKind.u64.wrap n < 2
          · rw [if_pos h5]; exact .inr ⟨_, _, rfl, decide_eq_true h5⟩
          · rw [if_neg h5]; exact .inl ⟨rfl, decide_eq_false h5⟩
        · rw [if_neg h4, if_neg h4]
          by_cases h5 : k = 3
          · rw [if_pos h5, if_pos h5]
            by_cases h6 : n ≥ 0
            · rw [if_pos h6, if_pos h6]
              by_cases h7 : n ≤ 1125899906842624
              · rw [if_pos h7]; exact .inr ⟨_, _, rfl, decide_eq_true h7⟩
              · rw [if_neg h7]; exact .inl ⟨rfl, decide_eq_false h7⟩
            · rw [if_neg h6, if_neg h6]; exact .inl ⟨rfl, rfl⟩
          · rw [if_neg h5, if_neg h5]; exact .inl ⟨rfl, rfl⟩
    · rw [if_neg h2, if_neg h2]; exact .inl ⟨rfl, rfl⟩
def value_May.f (a0_0 a0_1 : Int) (a0_2 : ByteArray) : Option Bool := some (value_May.b a0_0 a0_1 a0_2)
set_option maxHeartbeats 8000000 in
set_option maxRecDepth 100000 in
theorem value_May.calls (a0_0 : Int) (a0_1 : Int) (a0_2 : ByteArray) (r : Bool) (w : World) (h : value_May.f a0_0 a0_1 a0_2 = some r) :
    Calls Try.prog 19 #[.agg #[.int .i64 a0_0, .int .i64 a0_1, .string a0_2]] w fun e w' => e = .returned (.bool r) ∧ Below w.heap.size w w' := by
  have hu23 := Try.underlying23
  have HB := Aside0.mk (Below.refl w.heap.size w)
  have H : some (value_May.b a0_0 a0_1 a0_2) = some r := h
  clear h
  obtain rfl := Option.some.inj H
  clear H
  rcases value_held.forms a0_0 a0_1 a0_2 with ⟨hv, hr⟩ | ⟨t, x, hv, hr⟩
  · rw [hr]
    go_enter Try.func19, Try.ntmps19
    go_wp2_with (first | ((with_reducible refine gate_dst (N := 1) rfl ?_); refine box_event ?hg (N := 1) ?hd (cs := #[.int .i64 a0_0, .int .i64 a0_1, .string a0_2]) (t := 23) ?hr ?_; (case hd => rfl); (case hg => rfl); (case hr => first | (go_simp; done) | (go_simp; rfl)); intro g1 hg1 w1 bk1 hb1; replace HB := Aside0.mk (below_step HB.out hb1); have hc1_0 : w1.cell? ⟨g1, 0, none⟩ = some (.int .i64 a0_0) := (blk_cell bk1 0).trans rfl; have hc1_1 : w1.cell? ⟨g1, 1, none⟩ = some (.int .i64 a0_1) := (blk_cell bk1 1).trans rfl; have hc1_2 : w1.cell? ⟨g1, 2, none⟩ = some (.string a0_2) := (blk_cell bk1 2).trans rfl; replace bk1 := Aside0.mk bk1; clear hg1 hb1) | ((go_at_call 20); refine (value_held.calls a0_0 a0_1 a0_2 _).mono ?_; rintro e w2 ⟨rfl, hb2⟩; rw [hv]; replace HB := Aside0.mk (below_step HB.out hb2); clear hb2))
    go_ret
    exact ⟨rfl, HB.out⟩
  · rw [hr]
    go_enter Try.func19, Try.ntmps19
    go_wp2_with (first | ((with_reducible refine gate_dst (N := 1) rfl ?_); refine box_event ?hg (N := 1) ?hd (cs := #[.int .i64 a0_0, .int .i64 a0_1, .string a0_2]) (t := 23) ?hr ?_; (case hd => rfl); (case hg => rfl); (case hr => first | (go_simp; done) | (go_simp; rfl)); intro g1 hg1 w1 bk1 hb1; replace HB := Aside0.mk (below_step HB.out hb1); have hc1_0 : w1.cell? ⟨g1, 0, none⟩ = some (.int .i64 a0_0) := (blk_cell bk1 0).trans rfl; have hc1_1 : w1.cell? ⟨g1, 1, none⟩ = some (.int .i64 a0_1) := (blk_cell bk1 1).trans rfl; have hc1_2 : w1.cell? ⟨g1, 2, none⟩ = some (.string a0_2) := (blk_cell bk1 2).trans rfl; replace bk1 := Aside0.mk bk1; clear hg1 hb1) | ((go_at_call 20); refine (value_held.calls a0_0 a0_1 a0_2 _).mono ?_; rintro e w2 ⟨rfl, hb2⟩; rw [hv]; replace HB := Aside0.mk (below_step HB.out hb2); clear hb2))
    go_ret
    exact ⟨rfl, HB.out⟩

end Go.Proofs.Ytgijidifmhccpaa.X
