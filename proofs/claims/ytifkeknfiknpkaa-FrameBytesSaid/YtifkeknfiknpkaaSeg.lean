/- Small words for walks over struct variables: a segment of cells that is stored; a row that is read, beside a store. -/
import Derived.Test.YtifkeknfiknpkaaFrBase
namespace Go.Proofs.Ytifkeknfiknpkaa.X
open Go.RowKit Go.Proofs.YtifkeknfiknpkaaW.PrintWords Go.Proofs.YtifkeknfiknpkaaW.PrintLast Go.Proofs.YtifkeknfiknpkaaW.PrintMore
attribute [local go_sem] max2_int min2_int max_two min_two max_three min_three max_four min_four
set_option linter.unusedVariables false
set_option linter.unusedSimpArgs false
def putSeg (cs : Array Value) (j : Nat) : List Value → Array Value
  | [] => cs
  | v :: r => putSeg (cs.setIfInBounds j v) (j + 1) r
theorem putSeg_blk : ∀ (seg : List Value) (W : World) (g j : Nat) (cs : Array Value) (t : TypeId), W.heap[g]? = some (.cells cs t (0, 0)) → (W.setCells g j seg).heap[g]? = some (.cells (putSeg cs j seg) t (0, 0))
  | [], _, _, _, _, _, h => h
  | v :: r, W, g, j, _, t, h => putSeg_blk r (W.setCell ⟨g, j, none⟩ v) g (j + 1) _ t (blk_put h j v rfl)
theorem putSeg_other : ∀ (seg : List Value) (W : World) (g j i : Nat), i ≠ g → (W.setCells g j seg).heap[i]? = W.heap[i]?
  | [], _, _, _, _, _ => rfl
  | v :: r, W, g, j, i, h => (putSeg_other r (W.setCell ⟨g, j, none⟩ v) g (j + 1) i h).trans (Below.heap_setCell W ⟨g, j, none⟩ v i (by simpa using h))
theorem putSeg_below : ∀ (seg : List Value) (W0 W : World) (g j : Nat), W0.heap.size ≤ g → Below W0.heap.size W0 W → Below W0.heap.size W0 (W.setCells g j seg)
  | [], _, _, _, _, _, h => h
  | v :: r, W0, W, g, j, hg, h => putSeg_below r W0 (W.setCell ⟨g, j, none⟩ v) g (j + 1) hg (below_set h hg)
theorem seg_ev {P : Program} {ops : Array Oper} {rest : List Oper} {o : Oper} {a : Act} {Q : Exit → Act → World → Prop} {W : World} (hN : o.dst = none) (hgd : o.guard = none) (t : TypeId) (p x : Operand) (ho : o.op = .store t p x) {g j : Nat} {u : Value} {seg : List Value} {cs cs' : Array Value} {ty : TypeId}
    (haddr : a.eval p = .pointer (some ⟨g, j, none⟩)) (hx : a.eval x = u) (hu : u.cells.toList = seg) (hb : W.heap[g]? = some (.cells cs ty (0, 0))) (ht : (P.info? t).map (·.size) = some seg.length) (hfit : j + seg.length ≤ cs.size) (h1 : ∀ q ∈ seg, q.oneCell' = true) (hcs : putSeg cs j seg = cs')
    (h : ∀ w1, w1.heap[g]? = some (.cells cs' ty (0, 0)) → (∀ W0 : World, W0.heap.size ≤ g → Below W0.heap.size W0 W → Below W0.heap.size W0 w1) → (∀ i, i ≠ g → w1.heap[i]? = W.heap[i]?) → wpList P ops Q rest a w1) : wpList P ops Q (o :: rest) a W := by
  refine wpList_plain hgd fun K hK => ?_
  have hrun : (Instr.storeAt t (.pointer (some ⟨g, j, none⟩)) u).run P W = .ok () (W.setCells g j seg) := run_store_run t u seg hb hu ht hfit h1
  unfold Oper.wp execOp
  simp only [ho, haddr, hx, Sem.run_bind, Sem.run_pure, Result.andThen_ok, hrun]
  show K (a.put o.dst undef) _
  rw [hN]
  exact hK a _ (h _ (hcs ▸ putSeg_blk seg W g j cs ty hb) (fun W0 h0 hB => putSeg_below seg W0 W g j h0 hB) (fun i hi => putSeg_other seg W g j i hi))
theorem cell_far {W W1 : World} {g : Nat} (ho : ∀ i, i ≠ g → W1.heap[i]? = W.heap[i]?) {a : Addr} (hne : a.block ≠ g) : W1.cell? a = W.cell? a := by
  have := ho a.block hne
  simp [World.cell?, this]
theorem C_far {W W1 : World} {A : Option Addr} {n : Nat} {l : List Int} (h : Kd.C (Kd.int .u8) W A n l) {g : Nat} {cs : Array Value} {t : TypeId} (hb : W.heap[g]? = some (.cells cs t (0, 0))) (hcs : ∀ v ∈ cs.toList, ∀ x, v ≠ .int .u8 x) (ho : ∀ i, i ≠ g → W1.heap[i]? = W.heap[i]?) : Kd.C (Kd.int .u8) W1 A n l := by
  have hr : ReadsOf (Value.int .u8) (0 : Int) W A n l := Kd.reads_of_C (d := (0 : Int)) h
  refine Kd.C_of_reads (d := (0 : Int)) (h1 := fun _ => rfl) ⟨hr.1, hr.2.1, fun hp => ?_⟩
  obtain ⟨ad, e, hc⟩ := hr.2.2 hp
  refine ⟨ad, e, fun j hj => ?_⟩
  by_cases hg : ad.block = g
  · exfalso
    have h0 := hc 0 hp
    have hbk : (ad.add 0).block = g := (add_block ad 0).trans hg
    simp only [World.cell?, hbk, hb] at h0
    split at h0
    · cases h0
    · exact hcs _ (Array.mem_toList_iff.2 (Array.mem_of_getElem? h0)) _ rfl
  · rw [cell_far ho (by rw [add_block]; exact hg)]
    exact hc j hj
theorem R_far' {W W1 : World} {base : Nat} {ok : Nat → Prop} {e : Nat} {v : Value} {l : List Int} (h : Kd.R (Kd.int .u8) e W base ok v l) {g : Nat} {cs : Array Value} {t : TypeId} (hb : W.heap[g]? = some (.cells cs t (0, 0))) (ht : ∀ q, q ∈ e :: (Kd.int .u8).E → q ≠ t) (ho : ∀ i, i ≠ g → W1.heap[i]? = W.heap[i]?) : Kd.R (Kd.int .u8) e W1 base ok v l :=
  Kd.R_mono (Kd.R_move (Kd.R_types h hb ht) (fun k hk => ho k hk.2)) (fun k hk => hk.1)
theorem R_grown_block {W : World} {base : Nat} {ok : Nat → Prop} {e g : Nat} {v : Value} {l : List Int} {t : TypeId} {cells : Array Value} (h : Kd.R (Kd.int .u8) e W base ok v l) (hb : W.heap[g]? = some (.cells cells t (0, 0))) (ht : e ≠ t) : some g ≠ v.ownBlock := Kd.R_ne h hb ht
end Go.Proofs.Ytifkeknfiknpkaa.X
