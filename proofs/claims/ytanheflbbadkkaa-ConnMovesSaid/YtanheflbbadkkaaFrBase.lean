/- Small words for the walks of the laws of frames: a struct of two cells that is stored; what is read, moved. -/
import Derived.Test.YtanheflbbadkkaaFrPure
import Derived.Test.YtanheflbbadkkaaX35
import Derived.Test.YtanheflbbadkkaaX37
import Derived.Test.YtanheflbbadkkaaX26
import Derived.Test.YtanheflbbadkkaaX15
namespace Go.Proofs.Ytanheflbbadkkaa.X
open Go.RowKit Go.Proofs.YtanheflbbadkkaaW.PrintWords Go.Proofs.YtanheflbbadkkaaW.PrintLast Go.Proofs.YtanheflbbadkkaaW.PrintMore
attribute [local go_sem] max2_int min2_int max_two min_two max_three min_three max_four min_four
set_option linter.unusedVariables false
set_option linter.unusedSimpArgs false
theorem store2_ev {P : Program} {ops : Array Oper} {rest : List Oper} {o : Oper} {a : Act} {Q : Exit → Act → World → Prop} {W : World} (hN : o.dst = none) (hgd : o.guard = none) (t : TypeId) (p x : Operand) (ho : o.op = .store t p x) {g : Nat} {u v x0 y0 : Value}
    (haddr : a.eval p = .pointer (some ⟨g, 0, none⟩)) (hx : a.eval x = .agg #[u, v]) (hb : W.heap[g]? = some (.cells #[x0, y0] t (0, 0))) (ht : (P.info? t).map (·.size) = some 2) (h1 : u.oneCell' = true) (h2 : v.oneCell' = true)
    (h : ∀ w1, w1.heap[g]? = some (.cells #[u, v] t (0, 0)) → (∀ W0 : World, W0.heap.size ≤ g → Below W0.heap.size W0 W → Below W0.heap.size W0 w1) → wpList P ops Q rest a w1) : wpList P ops Q (o :: rest) a W := by
  refine wpList_plain hgd fun K hK => ?_
  have hrun : (Instr.storeAt t (.pointer (some ⟨g, 0, none⟩)) (.agg #[u, v])).run P W = .ok () (W.setCells g 0 [u, v]) :=
    run_store_run t (.agg #[u, v]) [u, v] hb rfl ht (by simp) (by intro q hq; simp only [List.mem_cons, List.not_mem_nil, or_false] at hq; rcases hq with rfl | rfl <;> assumption)
  unfold Oper.wp execOp
  simp only [ho, haddr, hx, Sem.run_bind, Sem.run_pure, Result.andThen_ok, hrun]
  show K (a.put o.dst undef) _
  rw [hN]
  exact hK a _ (h _ (blk_put (blk_put hb 0 u rfl) 1 v rfl) (fun W0 h0 hB => below_set (below_set hB h0) h0))
theorem below_of_grown {W w1 : World} {row : Option Nat} (hg : W.grownBy w1 row) (hr : ∀ k, k < W.heap.size → some k ≠ row) : Below W.heap.size W w1 := ⟨hg.os, hg.tape, hg.output, hg.size, fun k hk => hg.block k hk (hr k hk)⟩
theorem drawn_below {w w' : World} (h : Drawn0 w w') : Below w.heap.size w w' := by
  obtain ⟨nd, rfl⟩ := h
  exact pw_below_drewN (Below.refl _ _) nd
theorem lit_C (w : World) (t : TypeId) (m : Nat × Nat) (l : List Int) (hm : l.length ≤ 9223372036854775807) : Kd.C (Kd.int .u8) (w.alloc (.cells (l.map (Value.int .u8)).toArray t m)) (some ⟨w.heap.size, 0, none⟩) l.length l := by
  refine Kd.C_of_reads (d := (0 : Int)) (h1 := fun _ => rfl) ⟨rfl, hm, fun _ => ⟨_, rfl, fun j hj => ?_⟩⟩
  have this := World.cell?_alloc_mark w (l.map (Value.int .u8)).toArray t m j
  rw [show Addr.add ⟨w.heap.size, 0, none⟩ j = ⟨w.heap.size, j, none⟩ from by unfold Addr.add; split <;> simp_all]
  rw [this]
  simp [List.getD_eq_getElem?_getD, hj]
theorem elem0 {w : World} {A : Option Addr} {n e : Nat} {x : List Int} {xs : List (List Int)} (h : Kd.C (Kd.slice e (Kd.int .u8)) w A n (x :: xs)) (hk : 0 < n) :
    ∃ ad A' c', A = some ad ∧ w.cell? ad = some (.slice A' x.length c') ∧ x.length ≤ c' ∧ Kd.C (Kd.int .u8) w A' x.length x := by
  obtain ⟨ad, A', c', h1, h2, h3, h4⟩ := elem_at h 0 hk
  exact ⟨ad, A', c', h1, by simpa [rowAt, Addr.add] using h2, h3, h4⟩
theorem C_eq {α : Type} {d : Kd α} {w : World} {A : Option Addr} {l l' : List α} (h : Kd.C d w A l.length l) (e : l = l') : Kd.C d w A l'.length l' := e ▸ h
end Go.Proofs.Ytanheflbbadkkaa.X
namespace Go.Proofs.Ytanheflbbadkkaa.Fr
open Go.RowKit Go.Proofs.Ytanheflbbadkkaa.X Go.Proofs.YtanheflbbadkkaaW.PrintWords Go.Proofs.YtanheflbbadkkaaW.PrintLast Go.Proofs.YtanheflbbadkkaaW.PrintMore
open Go.Proofs.Ytanheflbbadkkaa.Crc Go.Proofs.Ytanheflbbadkkaa.CrcFacts Go.Proofs.Ytanheflbbadkkaa.CrcRef Go.Proofs.Ytanheflbbadkkaa.LeWord
theorem same_f (a : List Int) (d : Bool) : towncrierref03_Same.f a d a d = some true := by
  unfold towncrierref03_Same.f
  rw [if_pos (by simp)]; simp
theorem same_eq (a : List Int) (d : Bool) (b : List Int) (e : Bool) : ∃ r, towncrierref03_Same.f a d b e = some r ∧ frame_Same.f a d b e = some r := by
  unfold towncrierref03_Same.f frame_Same.f bytes_Equal.f
  by_cases h : (d == e) = true
  · rw [if_pos h, if_pos h]; exact ⟨_, rfl, rfl⟩
  · rw [if_neg h, if_neg h]; exact ⟨_, rfl, rfl⟩
theorem lists_l0 (l : List (List Int)) (hl : l.length ≤ 1000000) : ∀ (n i k : Nat), n + i = l.length → n < k → towncrierref03_Lists.l0 k l l (i : Int) = some true := by
  intro n
  induction n with
  | zero =>
    intro i k h hk
    obtain ⟨k, rfl⟩ : ∃ m, k = m + 1 := ⟨k - 1, by omega⟩
    unfold towncrierref03_Lists.l0
    rw [if_neg (by omega)]
  | succ n ih =>
    intro i k h hk
    obtain ⟨k, rfl⟩ : ∃ m, k = m + 1 := ⟨k - 1, by omega⟩
    unfold towncrierref03_Lists.l0
    have w : wrap64 ((i : Int) + 1) = ((i + 1 : Nat) : Int) := by unfold wrap64; omega
    rw [if_pos (by omega), if_pos (by omega), if_pos (by omega), if_pos rfl, w]
    exact ih (i + 1) k (by omega) (by omega)
theorem lists_f (l : List (List Int)) (hl : l.length ≤ 1000000) (k : Nat) (hk : l.length < k) : towncrierref03_Lists.f k l l = some true := by
  unfold towncrierref03_Lists.f
  rw [if_pos rfl]
  exact lists_l0 l hl l.length 0 k (by omega) hk
theorem refWord_f (n : Nat) (h : n < 4294967296) : towncrierref01_Word.f (n : Int) = some (wd n) := by
  unfold towncrierref01_Word.f wd
  have e : ∀ m : Int, 0 ≤ m → Int.tdiv (n : Int) m = (n : Int) / m := fun m _ => Int.tdiv_eq_ediv_of_nonneg (by omega)
  have e' : Int.tmod (n : Int) 256 = (n : Int) % 256 := Int.tmod_eq_emod_of_nonneg (by omega)
  rw [e 256 (by omega), e 65536 (by omega), e 16777216 (by omega), e']
  congr 1
  simp only [List.cons.injEq, and_true]
  refine ⟨?_, ?_, ?_, ?_⟩ <;> omega
theorem refPack_f (k : Nat) (hk : 6000 ≤ k) (b : List Int) (hb : Byt b) : towncrierref03_Pack.f k b = frame_Pack.f b := by
  by_cases h : b.length ≤ 512
  · rw [pack_f b hb h]
    unfold towncrierref03_Pack.f
    rw [if_neg (by omega), show ((b.length : Int) % 4294967296) = ((b.length : Nat) : Int) by omega, refWord_f _ (by omega), Option.bind_some, refOf_f b hb (by omega) k (by omega), Option.bind_some, show ((sumB 0#32 b).toNat : Int) = ((sm b : Nat) : Int) from rfl,
      refWord_f _ (sm_lt b), Option.bind_some, if_pos (by simp [wd_len]), Option.bind_some, if_pos (by simp only [List.length_append, wd_len]; omega)]
    simp [pack, sm]
  · rw [pack_long b h]
    unfold towncrierref03_Pack.f
    rw [if_pos (by omega)]
end Go.Proofs.Ytanheflbbadkkaa.Fr
