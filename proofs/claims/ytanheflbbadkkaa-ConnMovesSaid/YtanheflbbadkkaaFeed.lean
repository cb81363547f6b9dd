/- What frame.Feed does: its walk. No condition. -/
import Derived.ScopeJumps
import Derived.Test.YtanheflbbadkkaaX3
import Derived.Test.YtanheflbbadkkaaX9
import Derived.Test.YtanheflbbadkkaaX29
import Derived.Test.YtanheflbbadkkaaX7
namespace Go.Proofs.Ytanheflbbadkkaa.X
open Go.RowKit Go.Proofs.YtanheflbbadkkaaW.PrintWords Go.Proofs.YtanheflbbadkkaaW.PrintLast Go.Proofs.YtanheflbbadkkaaW.PrintMore
attribute [local go_sem] max2_int min2_int max_two min_two max_three min_three max_four min_four
set_option linter.unusedVariables false
set_option linter.unusedSimpArgs false
theorem two_rows (w : World) (t : TypeId) (a d : List Int) (A1 A3 : Option Addr) (c1 c3 : Nat) (h1 : a.length ≤ c1) (h3 : d.length ≤ c3)
    (C1 : Kd.C (Kd.int .u8) w A1 a.length a) (C3 : Kd.C (Kd.int .u8) w A3 d.length d) (e : Nat) :
    Kd.C (Kd.slice e (Kd.int .u8)) (w.alloc (.cells #[.slice A1 a.length c1, .slice A3 d.length c3] t)) (some ⟨w.heap.size, 0, none⟩) 2 [a, d] := by
  have hc : ∀ j, (w.alloc (.cells #[.slice A1 a.length c1, .slice A3 d.length c3] t)).cell? (Addr.add ⟨w.heap.size, 0, none⟩ j) = (#[Value.slice A1 a.length c1, .slice A3 d.length c3])[j]? := fun j => by
    rw [show Addr.add ⟨w.heap.size, 0, none⟩ j = ⟨w.heap.size, j, none⟩ from by unfold Addr.add; split <;> simp_all]
    exact World.cell?_alloc_mark w _ t (0, 0) j
  have hb : Below w.heap.size w (w.alloc (.cells #[.slice A1 a.length c1, .slice A3 d.length c3] t)) := (Below.refl _ _).alloc (Nat.le_refl _) _
  refine C_of_rows _ _ rfl (by decide) (fun j l hj => ?_)
  match j, hj with
  | 0, hj => simp at hj; subst hj; exact ⟨A1, c1, (hc 0).trans rfl, h1, Kd.C_below C1 hb⟩
  | 1, hj => simp at hj; subst hj; exact ⟨A3, c3, (hc 1).trans rfl, h3, Kd.C_below C3 hb⟩
  | j + 2, hj => simp at hj
theorem row_set {e t g j base : Nat} {ok : Nat → Prop} {w : World} {v u : Value} {xs : List Int} {cells : Array Value} (h : Kd.R (Kd.int .u8) e w base ok v xs) (hb : w.heap[g]? = some (.cells cells t (0, 0))) (ht : e ≠ t) : Kd.R (Kd.int .u8) e (w.setCell ⟨g, j, none⟩ u) base ok v xs :=
  Kd.R_set h hb (fun q hq => by
    have : q = e := by simpa [Kd.int, Kd.scalar] using hq
    rw [this]; exact ht) j u
theorem cut4 {P : Program} (t e : TypeId) {i : TypeInfo} (ht : P.underlying t = some (.slice e)) (hi : P.info? e = some i) (A : Option Addr) (n c : Nat) (hm : 4 ≤ n) (hc : n ≤ c) : ∀ W : World, (Instr.slice t (.slice A n c) none (some (.int .i64 4)) none).run P W = .ok (.slice A 4 c) W :=
  cut_to (P := P) t e .i64 ht hi A n c 4 (by decide) (by omega) hc
theorem cut48 {P : Program} (t e : TypeId) {i : TypeInfo} (ht : P.underlying t = some (.slice e)) (hi : P.info? e = some i) (hsz : i.size = 1) (A : Option Addr) (n c : Nat) (hm : 8 ≤ n) (hc : n ≤ c) : ∀ W : World, (Instr.slice t (.slice A n c) (some (.int .i64 4)) (some (.int .i64 8)) none).run P W = .ok (.slice (if c = 4 then A else A.map (·.add (4 * 1))) 4 (c - 4)) W :=
  cut_mid (P := P) t e .i64 .i64 ht hi 1 hsz A n c 4 8 (by decide) (by decide) (by omega) hc
theorem cut8e {P : Program} (t e : TypeId) {i : TypeInfo} (ht : P.underlying t = some (.slice e)) (hi : P.info? e = some i) (hsz : i.size = 1) (A : Option Addr) (n c : Nat) (j : Int) (h0 : 0 ≤ j) (hm : 8 + j ≤ n) (hc : n ≤ c) : ∀ W : World, (Instr.slice t (.slice A n c) (some (.int .i64 8)) (some (.int .i64 (8 + j))) none).run P W = .ok (.slice (if c = 8 then A else A.map (·.add (8 * 1))) j.toNat (c - 8)) W := fun W => by
  rw [cut_mid (P := P) t e .i64 .i64 ht hi 1 hsz A n c 8 (8 + j) (by decide) (by omega) (by omega) hc W]
  rw [show (8 + j).toNat - (8 : Int).toNat = j.toNat by omega]
  rfl
theorem cut8ee {P : Program} (t e : TypeId) {i : TypeInfo} (ht : P.underlying t = some (.slice e)) (hi : P.info? e = some i) (hsz : i.size = 1) (A : Option Addr) (n c : Nat) (j : Int) (h0 : 0 ≤ j) (hm : 8 + j ≤ n) (hc : n ≤ c) : ∀ W : World, (Instr.slice t (.slice A n c) (some (.int .i64 8)) (some (.int .i64 (8 + j))) (some (.int .i64 (8 + j)))).run P W = .ok (.slice (if j = 0 then A else A.map (·.add (8 * 1))) j.toNat j.toNat) W := fun W => by
  have hel : P.elem t = e := by simp [Program.elem, ht]
  have hu : P.underlying t = some (.slice (P.elem t)) := by rw [hel]; exact ht
  rw [run_slice_lhm W t A n c hu .i64 .i64 .i64 8 (8 + j) (8 + j) (by decide) (by omega) (by omega) (by omega), hel]
  have e1 : (8 + j).toNat - (8 : Int).toNat = j.toNat := by omega
  have e2 : ((8 + j).toNat = (8 : Int).toNat) = (j = 0) := by simp only [eq_iff_iff]; omega
  simp only [sizeOf, typeInfo, hi, hsz, sliced, Result.andThen, e1, e2]
  simp [hi, hsz, sizeOf, typeInfo, Result.andThen]
theorem cute {P : Program} (t e : TypeId) {i : TypeInfo} (ht : P.underlying t = some (.slice e)) (hi : P.info? e = some i) (hsz : i.size = 1) (A : Option Addr) (n c : Nat) (j : Int) (h0 : 0 ≤ j) (hm : j ≤ n) : ∀ W : World, (Instr.slice t (.slice A n c) (some (.int .i64 j)) none none).run P W = .ok (.slice (if c = j.toNat then A else A.map (·.add (j.toNat * 1))) (n - j.toNat) (c - j.toNat)) W :=
  cut_from (P := P) t e .i64 ht hi 1 hsz A n c j h0 hm
theorem F_ee {e base c : Nat} {ok : Nat → Prop} {W : World} {A : Option Addr} {all : List Int} (h : Kd.R (Kd.int .u8) e W base ok (.slice A all.length c) all) (j : Int) (h0 : 0 ≤ j) (hm : 8 + j ≤ all.length) :
    Kd.FK (Kd.slice e (Kd.int .u8)) W (fun k => base ≤ k ∧ ∃ cells, W.heap[k]? = some (.cells cells e (0, 0))) ((all.take (8 + j).toNat).drop 8) [.slice (if j = 0 then A else A.map (·.add (8 * 1))) j.toNat j.toNat] := by
  have hlen : ((all.take (8 + j).toNat).drop 8).length = j.toNat := by rw [List.length_drop, List.length_take]; omega
  have hF := Kd.F_mono (ok' := fun k => base ≤ k ∧ ∃ cells, W.heap[k]? = some (.cells cells e (0, 0))) (Kd.R_F (Kd.R_bound h)) (fun k hk => by
    obtain ⟨_, hbk, _, q, hq, cells, hc⟩ := hk
    have : q = e := by simpa [Kd.int, Kd.scalar] using hq
    subst this
    exact ⟨hbk, cells, hc⟩)
  have hF2 := Kd.F_mid (lo := 8) (hi := (8 + j).toNat) (c := c) hF (by omega) (by omega) (Kd.R_reads' h).2.1
  rw [← hlen]
  refine Kd.FK_slice_mk (Nat.le_refl _) ?_
  rw [hlen] at hF2 ⊢
  by_cases hj : j = 0
  · subst hj
    have hnil : (all.take (8 + (0 : Int)).toNat).drop 8 = [] := List.eq_nil_of_length_eq_zero hlen
    rw [if_pos rfl, hnil]
    intro W' hW
    exact ⟨rfl, by decide, fun hp => absurd hp (by decide)⟩
  · rw [if_neg hj]
    have hc := (Kd.R_reads' h).2.1
    rw [if_neg (by omega)] at hF2
    exact hF2
theorem concat2 (a b : List Int) (ha : a.length ≤ 1000000) (hb : b.length ≤ 1000000) : slices_Concat_byte_byte.f [a, b] = some (a ++ b) := by
  have h1 : ([a, b] : List (List Int)).flatten = a ++ b := by simp
  unfold slices_Concat_byte_byte.f
  rw [h1, if_pos ⟨by simp, by rw [List.length_append]; omega⟩]
theorem clone1 (a : List Int) (ha : a.length ≤ 2000000) : bytes_Clone.f a = some a := by
  unfold bytes_Clone.f
  rw [if_pos (by omega)]
def feedO : Nat → List Int → List (List Int) → Option (List Int × Bool × List (List Int))
  | 0, _, _ => none
  | k + 1, all, out => if (all.length : Int) < 8 then some (all, false, out) else
    (le_Read.f 5 (all.take 4)).bind fun n => (le_Read.f 5 ((all.take 8).drop 4)).bind fun s =>
      if 0 ≤ n.1 ∧ n.1 ≤ 4294967295 then
        if n.1 > 512 then some ([], true, out) else if 8 + n.1 > (all.length : Int) then some (all, false, out) else
          (crc_Of.f ((all.take (8 + n.1).toNat).drop 8)).bind fun c =>
            if c = s.1 then feedO k (all.drop (8 + n.1).toNat) (out ++ [(all.take (8 + n.1).toNat).drop 8]) else some ([], true, out)
      else none
def frame_Feed.f (l0 : List Int) (d : Bool) (l1 : List Int) : Option (List Int × Bool × List (List Int)) :=
  if l0.length ≤ 1000000 ∧ l1.length ≤ 1000000 then (if d = true then some (l0, true, []) else feedO (l0.length + l1.length + 1) (l0 ++ l1) []) else none
theorem scope_jumps {P : Program} {a : Act} {w : World} {Q : Exit → Act → World → Prop} {c rest : Code} (l : Nat) (J : Act → World → Prop) (μ : Act → World → Nat) (hf : findLabel c l = some (Code.skip.seq rest))
    (pass : ∀ a w, J a w → rest.wp P (Exit.jump l (fun a' w' => J a' w' ∧ μ a' w' < μ a w) Q) a w)
    (first : (∀ a w, J a w → rest.wp P (Exit.jump l J Q) a w) → c.wp P (Exit.jump l J Q) a w) : (Code.scope c).wp P Q a w :=
  wp_scope_jumps l J μ hf (first fun a w h => Code.wp_mono (fun e a' w' hq => by cases e <;> first | exact ⟨hq.1, hq.2.1⟩ | exact hq) (pass a w h)) (fun a w h => wp_seq (wp_skip (pass a w h)))
def feedJ (w : World) (g4 : Nat) (r : List Int × Bool × List (List Int)) (a' : Act) (w' : World) : Prop :=
  ∃ (k : Nat) (all : List Int) (out : List (List Int)) (v6 v7 : Value) (u : Nat → Value), a' = { tmps := List.toArray (u 0 :: u 1 :: u 2 :: u 3 :: .pointer (some ⟨g4, 0, none⟩) :: u 5 :: v6 :: v7 :: u 8 :: u 9 :: u 10 :: u 11 :: u 12 :: u 13 :: u 14 :: u 15 :: u 16 :: u 17 :: u 18 :: u 19 :: u 20 :: u 21 :: u 22 :: u 23 :: u 24 :: u 25 :: u 26 :: u 27 :: u 28 :: u 29 :: u 30 :: u 31 :: u 32 :: u 33 :: u 34 :: u 35 :: u 36 :: u 37 :: u 38 :: u 39 :: u 40 :: u 41 :: u 42 :: u 43 :: u 44 :: u 45 :: u 46 :: u 47 :: u 48 :: u 49 :: u 50 :: u 51 :: u 52 :: u 53 :: u 54 :: u 55 :: u 56 :: u 57 :: u 58 :: u 59 :: u 60 :: u 61 :: u 62 :: u 63 :: u 64 :: u 65 :: u 66 :: u 67 :: u 68 :: u 69 :: u 70 :: u 71 :: u 72 :: u 73 :: u 74 :: u 75 :: u 76 :: u 77 :: []), defers := [] } ∧ feedO k all out = some r ∧ out.length + all.length ≤ 2000000 ∧
    Kd.R (Kd.int .u8) 5 w' w.heap.size (fun _ => True) v6 all ∧ Kd.N (Kd.slice 5 (Kd.int .u8)) 25 w' w.heap.size (fun k => k ≠ g4 ∧ w.heap.size ≤ k) v7 out ∧ w'.heap[g4]? = some (.cells #[.slice none 0 0, .bool false] 27 (0, 0)) ∧ Below w.heap.size w w'
theorem feedJ_mk {w : World} {g4 : Nat} {r : List Int × Bool × List (List Int)} {a' : Act} {w' : World} (k : Nat) (all : List Int) (out : List (List Int)) (v6 v7 : Value) (ht : a'.tmps = List.toArray (a'.tmps.getD 0 undef :: a'.tmps.getD 1 undef :: a'.tmps.getD 2 undef :: a'.tmps.getD 3 undef :: .pointer (some ⟨g4, 0, none⟩) :: a'.tmps.getD 5 undef :: v6 :: v7 :: a'.tmps.getD 8 undef :: a'.tmps.getD 9 undef :: a'.tmps.getD 10 undef :: a'.tmps.getD 11 undef :: a'.tmps.getD 12 undef :: a'.tmps.getD 13 undef :: a'.tmps.getD 14 undef :: a'.tmps.getD 15 undef :: a'.tmps.getD 16 undef :: a'.tmps.getD 17 undef :: a'.tmps.getD 18 undef :: a'.tmps.getD 19 undef :: a'.tmps.getD 20 undef :: a'.tmps.getD 21 undef :: a'.tmps.getD 22 undef :: a'.tmps.getD 23 undef :: a'.tmps.getD 24 undef :: a'.tmps.getD 25 undef :: a'.tmps.getD 26 undef :: a'.tmps.getD 27 undef :: a'.tmps.getD 28 undef :: a'.tmps.getD 29 undef :: a'.tmps.getD 30 undef :: a'.tmps.getD 31 undef :: a'.tmps.getD 32 undef :: a'.tmps.getD 33 undef :: a'.tmps.getD 34 undef :: a'.tmps.getD 35 undef :: a'.tmps.getD 36 undef :: a'.tmps.getD 37 undef :: a'.tmps.getD 38 undef :: a'.tmps.getD 39 undef :: a'.tmps.getD 40 undef :: a'.tmps.getD 41 undef :: a'.tmps.getD 42 undef :: a'.tmps.getD 43 undef :: a'.tmps.getD 44 undef :: a'.tmps.getD 45 undef :: a'.tmps.getD 46 undef :: a'.tmps.getD 47 undef :: a'.tmps.getD 48 undef :: a'.tmps.getD 49 undef :: a'.tmps.getD 50 undef :: a'.tmps.getD 51 undef :: a'.tmps.getD 52 undef :: a'.tmps.getD 53 undef :: a'.tmps.getD 54 undef :: a'.tmps.getD 55 undef :: a'.tmps.getD 56 undef :: a'.tmps.getD 57 undef :: a'.tmps.getD 58 undef :: a'.tmps.getD 59 undef :: a'.tmps.getD 60 undef :: a'.tmps.getD 61 undef :: a'.tmps.getD 62 undef :: a'.tmps.getD 63 undef :: a'.tmps.getD 64 undef :: a'.tmps.getD 65 undef :: a'.tmps.getD 66 undef :: a'.tmps.getD 67 undef :: a'.tmps.getD 68 undef :: a'.tmps.getD 69 undef :: a'.tmps.getD 70 undef :: a'.tmps.getD 71 undef :: a'.tmps.getD 72 undef :: a'.tmps.getD 73 undef :: a'.tmps.getD 74 undef :: a'.tmps.getD 75 undef :: a'.tmps.getD 76 undef :: a'.tmps.getD 77 undef :: [])) (hd : a'.defers = []) (h1 : feedO k all out = some r) (h2 : out.length + all.length ≤ 2000000)
    (h3 : Kd.R (Kd.int .u8) 5 w' w.heap.size (fun _ => True) v6 all) (h4 : Kd.N (Kd.slice 5 (Kd.int .u8)) 25 w' w.heap.size (fun k => k ≠ g4 ∧ w.heap.size ≤ k) v7 out) (h5 : w'.heap[g4]? = some (.cells #[.slice none 0 0, .bool false] 27 (0, 0))) (h6 : Below w.heap.size w w') : feedJ w g4 r a' w' :=
  ⟨k, all, out, v6, v7, fun i => a'.tmps.getD i undef, by cases a'; simp only at ht hd ⊢; rw [hd]; exact congrArg (Act.mk · []) ht, h1, h2, h3, h4, h5, h6⟩
def feedM (a' : Act) (_ : World) : Nat := match a'.tmps.getD 6 undef with | .slice _ n _ => n | _ => 0
set_option maxHeartbeats 8000000 in
set_option maxRecDepth 100000 in
theorem frame_Feed.callsQ (A0 : Option Addr) (c0 : Nat) (l0 : List Int) (d : Bool) (A1 : Option Addr) (c1 : Nat) (l1 : List Int) (r1 : List Int) (r2 : Bool) (r3 : List (List Int)) (w : World) (hr0 : Kd.C (Kd.int .u8) w A0 l0.length l0) (hc0 : l0.length ≤ c0) (hr1 : Kd.C (Kd.int .u8) w A1 l1.length l1) (hc1 : l1.length ≤ c1) (h : frame_Feed.f l0 d l1 = some (r1, r2, r3)) :
    Calls Try.prog 31 #[.agg #[.slice A0 l0.length c0, .bool d], .slice A1 l1.length c1] w fun e w' => ∃ Ab cb Al cl, e = .returned (.tuple #[.agg #[.slice Ab r1.length cb, .bool r2], .slice Al r3.length cl]) ∧ Kd.C (Kd.int .u8) w' Ab r1.length r1 ∧ r1.length ≤ cb ∧ Kd.C (Kd.slice 5 (Kd.int .u8)) w' Al r3.length r3 ∧ r3.length ≤ cl ∧ (∀ ad : Addr, Al = some ad → w.heap.size ≤ ad.block) ∧ Kd.N (Kd.slice 5 (Kd.int .u8)) 25 w' w.heap.size (fun k => w.heap.size ≤ k) (.slice Al r3.length cl) r3 ∧ Kd.R (Kd.int .u8) 5 w' w.heap.size (fun _ => True) (.slice Ab r1.length cb) r1 ∧ Below w.heap.size w w' := by
  have hu33 := Try.underlying27
  unfold frame_Feed.f at h
  by_cases hb : l0.length ≤ 1000000 ∧ l1.length ≤ 1000000
  · rw [if_pos hb] at h
    have H := Aside0.mk h
    clear h
    have HR0 := Aside0.mk hr0
    have HR1 := Aside0.mk hr1
    have HC0 := Aside0.mk hc0
    have HC1 := Aside0.mk hc1
    clear hr0 hr1 hc0 hc1
    go_enter Try.func31, Try.ntmps31
    have HB := Aside0.mk (Below.refl w.heap.size w)
    go_wp2_with (first
      | ((with_reducible refine gate_dst (N := 2) rfl ?_); refine box_event ?hg (N := 2) ?hd (cs := #[.slice A0 l0.length c0, .bool d]) (t := 27) ?hr ?_; (case hd => rfl); (case hg => rfl); (case hr => first | (go_simp; done) | (go_simp; rfl)); intro g2 hg2 wa bk2 hba; have G2 := Aside0.mk (Nat.le_of_eq hg2.symm); have BK2 := Aside0.mk bk2; have HB := Aside0.mk (below_step HB.out hba); have HS := Aside0.mk hba.size; clear hg2 bk2 hba)
      | ((with_reducible refine gate_dst (N := 4) rfl ?_); refine box_event ?hg (N := 4) ?hd (cs := #[.slice none 0 0, .bool false]) (t := 27) ?hr ?_; (case hd => rfl); (case hg => rfl); (case hr => first | (go_simp; done) | (go_simp; rfl)); intro g4 hg4 wb bk4 hbb; have G4 := Aside0.mk (hg4 ▸ HS.out : w.heap.size ≤ g4); have N24 := Aside0.mk (hg4 ▸ Nat.ne_of_lt (blk_lt BK2.out) : g2 ≠ g4); have BK2 := Aside0.mk (blk_below BK2.out hbb); have BK4 := Aside0.mk bk4; have HB := Aside0.mk (below_step HB.out hbb); have hcz2_0 : wb.cell? ⟨g2, 0, none⟩ = some (.slice A0 l0.length c0) := (blk_cell BK2.out 0).trans rfl; have hcz2_1 : wb.cell? ⟨g2, 1, none⟩ = some (.bool d) := (blk_cell BK2.out 1).trans rfl; clear hg4 bk4 hbb HS))
    refine scope_jumps 0 (feedJ w g4 (r1, r2, r3)) feedM (by rfl) ?_ ?_
    · rintro a' wr ⟨k, all, out, v6, v7, u, rfl, hf, hl, ho, hn, hb4, hbl⟩
      obtain ⟨A6, c6, rfl⟩ := Kd.R_slice ho
      obtain ⟨A7, c7, rfl⟩ := Kd.N_slice hn
      have hN := Aside0.mk hn
      have hO := Aside0.mk ho
      have hBl := Aside0.mk hbl
      have HB4 := Aside0.mk hb4
      have hC6 := Kd.R_reads' ho
      have HC6 := Aside0.mk hC6.2.1
      have HL := Aside0.mk hl
      have hC6 := Aside0.mk hC6.2.2
      clear ho hn hbl hb4 hl
      have hfz4_0 := blk_frozen HB4.out 0; have hfz4_1 := blk_frozen HB4.out 1; have hcx4_0 : wr.cell? ⟨g4, 0, none⟩ = some (.slice none 0 0) := (blk_cell HB4.out 0).trans rfl; have hcx4_1 : wr.cell? ⟨g4, 1, none⟩ = some (.bool false) := (blk_cell HB4.out 1).trans rfl
      obtain ⟨i0, hi0, _, hsz0, _⟩ := info_parts info5
      cases k with
      | zero => simp [feedO] at hf
      | succ k =>
      unfold feedO at hf
      by_cases h8 : (all.length : Int) < 8
      · rw [if_pos h8] at hf
        simp only [Option.some.injEq, Prod.mk.injEq] at hf
        obtain ⟨rfl, rfl, rfl⟩ := hf
        go_wp2
        simp only [Exit.jump]
        refine bodyPost_ret (results_ct rfl _ _ g4 27 #[.slice A6 all.length c6, .bool false] (0, 0) _ rfl (blk_put (blk_put HB4.out _ _ rfl) _ _ rfl) hu33 rfl (by kernel_rfl)) rfl ?_
        have hbel := below_set (j := 1) (v := .bool false) (below_set (j := 0) (v := .slice A6 all.length c6) hBl.out G4.out) G4.out
        have hrowR := row_set (j := 1) (u := .bool false) (row_set (j := 0) (u := .slice A6 all.length c6) hO.out HB4.out (by decide)) (blk_set HB4.out _ _) (by decide)
        have hrow := Kd.R_reads' hrowR
        have houtN := (Kd.N_far (p := ⟨g4, 1, none⟩) (Kd.N_far (p := ⟨g4, 0, none⟩) hN.out (fun _ h => h.1) (.slice A6 all.length c6)) (fun _ h => h.1) (.bool false))
        have hout := Kd.N_reads' houtN
        exact ⟨A6, c6, A7, c7, rfl, hrow.2.2, hrow.2.1, hout.2.2, hout.2.1, (fun ad e => Kd.N_base hN.out ad.block (by rw [e]; rfl)), Kd.N_mono houtN (fun _ h => h.2), hrowR, hbel⟩
      · rw [if_neg h8] at hf
        obtain ⟨⟨n, bn⟩, e1, hf⟩ := Option.bind_eq_some_iff.mp hf
        obtain ⟨⟨s, bs⟩, e2, hf⟩ := Option.bind_eq_some_iff.mp hf
        have E1 := Aside0.mk e1
        have E2 := Aside0.mk e2
        clear e1 e2
        by_cases hn : 0 ≤ n ∧ n ≤ 4294967295
        · rw [if_pos hn] at hf
          have HF := Aside0.mk hf
          clear hf
          obtain ⟨hn0, hn1⟩ := hn
          have hcut4 := cut4 (P := Try.prog) 25 5 Try.underlying25 hi0 A6 all.length c6 (by omega) HC6.out
          have hcut48 := cut48 (P := Try.prog) 25 5 Try.underlying25 hi0 hsz0 A6 all.length c6 (by omega) HC6.out
          have hL4 : (all.take 4).length = 4 := by rw [List.length_take]; omega
          have hL48 : ((all.take 8).drop 4).length = 4 := by rw [List.length_drop, List.length_take]; omega
          obtain ⟨A48, hA48⟩ : ∃ A', A' = (if c6 = 4 then A6 else A6.map (·.add (4 * 1))) := ⟨_, rfl⟩
          obtain ⟨c48, hc48⟩ : ∃ c', c' = c6 - 4 := ⟨_, rfl⟩
          have hT48 : Kd.C (Kd.int .u8) wr A48 ((all.take 8).drop 4).length ((all.take 8).drop 4) := by rw [hA48]; exact Kd.C_mid (lo := 4) (hi := 8) hC6.out (by decide) (by omega) HC6.out
          rw [← hA48, ← hc48] at hcut48
          have hc66 : 4 ≤ c48 := by have := HC6.out; omega
          have CR1 := Aside0.mk (fun W => le_Read.calls 5 A6 c6 (all.take 4) n bn W)
          have CR2 := Aside0.mk (fun W => le_Read.calls 5 A48 c48 ((all.take 8).drop 4) s bs W)
          rw [hL4] at CR1
          rw [hL48] at CR2
          have hT4 := Aside0.mk (Kd.C_take (m := 4) hC6.out (by omega))
          rw [hL4] at hT4
          rw [hL48] at hT48
          replace hT48 := Aside0.mk hT48
          have hc64 : 4 ≤ c6 := by have := HC6.out; omega
          clear hL4 hL48 hA48 hc48
          by_cases h512 : n > 512
          · have hf := HF.out
            rw [if_pos h512] at hf
            simp only [Option.some.injEq, Prod.mk.injEq] at hf
            obtain ⟨rfl, rfl, rfl⟩ := hf
            go_wp2_with (first | ((go_at_call 38); (with_reducible refine (CR1.out _ hT4.out hc64 E1.out).mono ?_); rintro e w' ⟨rfl, ⟨nd1, rfl⟩⟩) | ((go_at_call 38); (with_reducible refine (CR2.out _ (Kd.C_drewN hT48.out _) hc66 E2.out).mono ?_); rintro e w' ⟨rfl, ⟨nd2, rfl⟩⟩))
            simp only [Exit.jump]
            refine bodyPost_ret (results_ct rfl _ _ g4 27 #[.slice none 0 0, .bool true] (0, 0) _ rfl (blk_put (blk_put (blk_drewN HB4.out (nd1 + nd2)) _ _ rfl) _ _ rfl) hu33 rfl (by kernel_rfl)) rfl ?_
            have hbel := below_set (j := 1) (v := .bool true) (below_set (j := 0) (v := .slice none 0 0) (pw_below_drewN hBl.out (nd1 + nd2)) G4.out) G4.out
            have houtN := (Kd.N_far (p := ⟨g4, 1, none⟩) (Kd.N_far (p := ⟨g4, 0, none⟩) (Kd.N_drewN hN.out (nd1 + nd2)) (fun _ h => h.1) (.slice none 0 0)) (fun _ h => h.1) (.bool true))
            have hout := Kd.N_reads' houtN
            exact ⟨none, 0, A7, c7, rfl, Kd.C_nil _ _, Nat.le_refl _, hout.2.2, hout.2.1, (fun ad e => Kd.N_base hN.out ad.block (by rw [e]; rfl)), Kd.N_mono houtN (fun _ h => h.2), Kd.R_nil _ _ _ _ _, hbel⟩
          · have hf := HF.out
            rw [if_neg h512] at hf
            replace HF := Aside0.mk hf
            clear hf
            by_cases he : 8 + n > (all.length : Int)
            · have hf := HF.out
              rw [if_pos he] at hf
              simp only [Option.some.injEq, Prod.mk.injEq] at hf
              obtain ⟨rfl, rfl, rfl⟩ := hf
              go_wp2_with (first | ((go_at_call 38); (with_reducible refine (CR1.out _ hT4.out hc64 E1.out).mono ?_); rintro e w' ⟨rfl, ⟨nd1, rfl⟩⟩) | ((go_at_call 38); (with_reducible refine (CR2.out _ (Kd.C_drewN hT48.out _) hc66 E2.out).mono ?_); rintro e w' ⟨rfl, ⟨nd2, rfl⟩⟩))
              simp only [Exit.jump]
              refine bodyPost_ret (results_ct rfl _ _ g4 27 #[.slice A6 all.length c6, .bool false] (0, 0) _ rfl (blk_put (blk_put (blk_drewN HB4.out (nd1 + nd2)) _ _ rfl) _ _ rfl) hu33 rfl (by kernel_rfl)) rfl ?_
              have hbel := below_set (j := 1) (v := .bool false) (below_set (j := 0) (v := .slice A6 all.length c6) (pw_below_drewN hBl.out (nd1 + nd2)) G4.out) G4.out
              have houtN := (Kd.N_far (p := ⟨g4, 1, none⟩) (Kd.N_far (p := ⟨g4, 0, none⟩) (Kd.N_drewN hN.out (nd1 + nd2)) (fun _ h => h.1) (.slice A6 all.length c6)) (fun _ h => h.1) (.bool false))
              have hout := Kd.N_reads' houtN
              have hrowR := row_set (j := 1) (u := .bool false) (row_set (j := 0) (u := .slice A6 all.length c6) (Kd.R_drewN hO.out (nd1 + nd2)) (blk_drewN HB4.out (nd1 + nd2)) (by decide)) (blk_set (blk_drewN HB4.out (nd1 + nd2)) _ _) (by decide)
              have hrow := Kd.R_reads' hrowR
              exact ⟨A6, c6, A7, c7, rfl, hrow.2.2, hrow.2.1, hout.2.2, hout.2.1, (fun ad e => Kd.N_base hN.out ad.block (by rw [e]; rfl)), Kd.N_mono houtN (fun _ h => h.2), hrowR, hbel⟩
            · have hf := HF.out
              rw [if_neg he] at hf
              obtain ⟨c, e3, hf⟩ := Option.bind_eq_some_iff.mp hf
              have E3 := Aside0.mk e3
              replace HF := Aside0.mk hf
              clear hf e3
              have hcut8 := cut8e (P := Try.prog) 25 5 Try.underlying25 hi0 hsz0 A6 all.length c6 n hn0 (by omega) HC6.out
              have hT8 := Kd.C_mid (lo := 8) (hi := (8 + n).toNat) (c := c6) hC6.out (by omega) (by omega) HC6.out
              have hc8 : n.toNat ≤ c6 - 8 := by have := HC6.out; omega
              obtain ⟨x, hx⟩ : ∃ x, x = (all.take (8 + n).toNat).drop 8 := ⟨_, rfl⟩
              have hxl : x.length = n.toNat := by rw [hx, List.length_drop, List.length_take]; omega
              rw [← hx] at HF E3 hT8
              rw [hxl] at hT8
              obtain ⟨A8, hA8⟩ : ∃ A', A' = (if c6 = 8 then A6 else A6.map (·.add (8 * (Kd.int .u8).sz))) := ⟨_, rfl⟩
              rw [← hA8] at hT8
              rw [show (if c6 = 8 then A6 else A6.map (·.add (8 * 1))) = A8 from hA8.symm] at hcut8
              obtain ⟨c8, hc8'⟩ : ∃ c', c' = c6 - 8 := ⟨_, rfl⟩
              rw [← hc8'] at hcut8 hc8
              have CR3 := Aside0.mk (fun W => crc_Of.calls A8 c8 x c W)
              rw [hxl] at CR3
              replace hT8 := Aside0.mk hT8
              have HX := Aside0.mk hx
              have HXL := Aside0.mk hxl
              clear hx hxl hA8 hc8'
              by_cases hcs : c = s
              · rw [if_pos hcs] at HF
                subst hcs
                have hcute := cut8ee (P := Try.prog) 25 5 Try.underlying25 hi0 hsz0 A6 all.length c6 n hn0 (by omega) HC6.out
                obtain ⟨Ae, hAe⟩ : ∃ A', A' = (if n = 0 then A6 else A6.map (·.add (8 * 1))) := ⟨_, rfl⟩
                rw [← hAe] at hcute
                have HAe := Aside0.mk hAe
                clear hAe
                have hcutE := cute (P := Try.prog) 25 5 Try.underlying25 hi0 hsz0 A6 all.length c6 (8 + n) (by omega) (by omega)
                obtain ⟨m, hm⟩ : ∃ m, m = (8 + n).toNat := ⟨_, rfl⟩
                rw [← hm] at hcutE
                obtain ⟨Ar, hAr⟩ : ∃ A', A' = (if c6 = m then A6 else A6.map (·.add (m * 1))) := ⟨_, rfl⟩
                obtain ⟨cr, hcr⟩ : ∃ c', c' = c6 - m := ⟨_, rfl⟩
                obtain ⟨y, hy⟩ : ∃ y, y = all.drop m := ⟨_, rfl⟩
                have hyl : y.length = all.length - m := by rw [hy, List.length_drop]
                rw [← hAr, ← hcr, ← hyl] at hcutE
                rw [← hm, ← hy] at HF
                have hTY : ∀ W, Kd.C (Kd.int .u8) W A6 all.length all → Kd.C (Kd.int .u8) W Ar y.length y := fun W h => by
                  have := Kd.C_drop (m := m) (c := c6) h (by omega) HC6.out
                  rw [← hy] at this
                  rw [hAr]
                  exact this
                have hcy : y.length ≤ cr := by have := HC6.out; omega
                have HM := Aside0.mk (show y.length + 8 ≤ all.length by omega)
                have CLY := Aside0.mk (clone1 y (by have := HL.out; omega))
                clear hyl hm hAr hcr hy
                go_wp2_with (first | ((go_at_call 38); (with_reducible refine (CR1.out _ hT4.out hc64 E1.out).mono ?_); rintro e w' ⟨rfl, ⟨nd1, rfl⟩⟩) | ((go_at_call 38); (with_reducible refine (CR2.out _ (Kd.C_drewN hT48.out _) hc66 E2.out).mono ?_); rintro e w' ⟨rfl, ⟨nd2, rfl⟩⟩) | ((go_at_call 27); (with_reducible refine (CR3.out _ (Kd.C_drewN hT8.out _) hc8 E3.out).mono ?_); rintro e w5 ⟨rfl, hb5⟩; have RO5 := Aside0.mk (Kd.R_below (Kd.R_drewN hO.out _) hb5); have B5 := Aside0.mk (blk_below (blk_drewN HB4.out _) hb5); have N5 := Aside0.mk (Kd.N_below (Kd.N_drewN hN.out _) hb5); have L5 := Aside0.mk (below_step (pw_below_drewN hBl.out _) hb5); clear hb5) | ((with_reducible refine gate_builtin (b := .append) (xs := #[.tmp 67, .tmp 72]) rfl ?_); at_builtin; refine Kd.N_append (Kd.slice 5 (Kd.int .u8)) (w0 := w) w.heap.size rfl (.tmp 67) (.tmp 72) 22 25 (.slice none 0 0) 24 rfl Try.underlying22 info25 rfl (by decide) (by omega) (.slice A7 out.length c7) out x [.slice Ae n.toNat n.toNat] (fun k => k ≠ g4 ∧ w.heap.size ≤ k) (fun k => w.heap.size ≤ k ∧ ∃ cells, w5.heap[k]? = some (.cells cells 5 (0, 0))) rfl rfl ?hp ?hokp ?hfresh N5.out L5.out L5.out.size ?hl ?_; (case hp => rw [HX.out, HAe.out]; exact F_ee RO5.out n hn0 (by omega)); (case hokp => exact fun k hk => ⟨⟨fun e => by obtain ⟨_, cells, hc⟩ := hk; rw [e] at hc; exact blk_ne hc B5.out (by decide) rfl, hk.1⟩, by obtain ⟨_, cells, hc⟩ := hk; exact Kd.N_ne N5.out hc (by decide)⟩); (case hfresh => exact fun k hk => ⟨fun e => by have := blk_lt B5.out; omega, Nat.le_trans L5.out.size hk⟩); (case hl => have := HL.out; omega); intro v1 w6 hn6 hb6 hg6 hat6; have N6 := Aside0.mk hn6; have L6 := Aside0.mk hb6; have R6 := Aside0.mk (Kd.R_over' RO5.out (Kd.N_typed N5.out) (fun q hq => by have : q = 5 := (by simpa [Kd.int, Kd.scalar] using hq); rw [this]; decide) hg6); have B6 := Aside0.mk (blk_grown B5.out hg6 (Kd.N_away N5.out (fun k h => h.1))); clear hn6 hb6 hg6 hat6) | ((go_at_call 28); (with_reducible refine (bytes_Clone.calls Ar cr y y _ (hTY _ (Kd.R_reads' R6.out).2.2) hcy CLY.out).mono ?_); rintro e w7 ⟨v7', rfl, ho7, hb7⟩; obtain ⟨A9, c9, rfl⟩ := Kd.R_slice ho7; have N7 := Aside0.mk (Kd.N_below N6.out hb7); have R7 := Aside0.mk (Kd.R_lower ho7 L6.out.size); have B7 := Aside0.mk (blk_below B6.out hb7); have L7 := Aside0.mk (below_step L6.out hb7); clear ho7 hb7))
                go_step3
                refine ⟨rfl, feedJ_mk k y (out ++ [x]) (.slice A9 y.length c9) _ rfl rfl HF.out ?_ R7.out N7.out B7.out L7.out, ?_⟩
                · have := HM.out
                  have := HL.out
                  rw [List.length_append]
                  simp only [List.length_singleton]
                  omega
                · show y.length < all.length
                  have := HM.out
                  omega
              · rw [if_neg hcs] at HF
                have hf := HF.out
                simp only [Option.some.injEq, Prod.mk.injEq] at hf
                obtain ⟨rfl, rfl, rfl⟩ := hf
                go_wp2_with (first | ((go_at_call 38); (with_reducible refine (CR1.out _ hT4.out hc64 E1.out).mono ?_); rintro e w' ⟨rfl, ⟨nd1, rfl⟩⟩) | ((go_at_call 38); (with_reducible refine (CR2.out _ (Kd.C_drewN hT48.out _) hc66 E2.out).mono ?_); rintro e w' ⟨rfl, ⟨nd2, rfl⟩⟩) | ((go_at_call 27); (with_reducible refine (CR3.out _ (Kd.C_drewN hT8.out _) hc8 E3.out).mono ?_); rintro e w5 ⟨rfl, hb5⟩; have HB5 := Aside0.mk hb5; have B5 := Aside0.mk (blk_below (blk_drewN HB4.out _) hb5); have N5 := Aside0.mk (Kd.N_below (Kd.N_drewN hN.out _) hb5); have L5 := Aside0.mk (below_step (pw_below_drewN hBl.out _) hb5); have hfy4_0 := blk_frozen B5.out 0; have hfy4_1 := blk_frozen B5.out 1; have hcw4_0 : w5.cell? ⟨g4, 0, none⟩ = some (.slice none 0 0) := (blk_cell B5.out 0).trans rfl; have hcw4_1 : w5.cell? ⟨g4, 1, none⟩ = some (.bool false) := (blk_cell B5.out 1).trans rfl; clear hb5))
                simp only [Exit.jump]
                refine bodyPost_ret (results_ct rfl _ _ g4 27 #[.slice none 0 0, .bool true] (0, 0) _ rfl (blk_put (blk_put B5.out _ _ rfl) _ _ rfl) hu33 rfl (by kernel_rfl)) rfl ?_
                have hbel := below_set (j := 1) (v := .bool true) (below_set (j := 0) (v := .slice none 0 0) L5.out G4.out) G4.out
                have houtN := (Kd.N_far (p := ⟨g4, 1, none⟩) (Kd.N_far (p := ⟨g4, 0, none⟩) N5.out (fun _ h => h.1) (.slice none 0 0)) (fun _ h => h.1) (.bool true))
                have hout := Kd.N_reads' houtN
                exact ⟨none, 0, A7, c7, rfl, Kd.C_nil _ _, Nat.le_refl _, hout.2.2, hout.2.1, (fun ad e => Kd.N_base N5.out ad.block (by rw [e]; rfl)), Kd.N_mono houtN (fun _ h => h.2), Kd.R_nil _ _ _ _ _, hbel⟩
        · rw [if_neg hn] at hf
          cases hf
    · intro key
      obtain ⟨ab, hab⟩ : ∃ ab, ab = l0 ++ l1 := ⟨_, rfl⟩
      have habl : ab.length = l0.length + l1.length := by rw [hab, List.length_append]
      rw [← hab] at H
      have HAB := Aside0.mk habl
      have HC2 := Aside0.mk (show slices_Concat_byte_byte.f [l0, l1] = some ab by rw [hab]; exact concat2 l0 l1 hb.1 hb.2)
      have CL := Aside0.mk (clone1 l0 (by omega))
      clear hab habl
      go_wp2_with (first
        | ((go_at_call 25); refine (slices_Concat_byte_byte.calls (some ⟨wb.heap.size, 0, none⟩) 2 [l0, l1] ab _ (two_rows wb _ l0 l1 A0 A1 c0 c1 HC0.out HC1.out (Kd.C_below HR0.out HB.out) (Kd.C_below HR1.out HB.out) _) (Nat.le_refl _) HC2.out).mono ?_; rintro e w2 ⟨v, rfl, ho, hb2⟩; have HA := Aside0.mk (Kd.R_lower ho (Nat.le_trans HB.out.size (by simp))); have HB2 := Aside0.mk ((HB.out.alloc HB.out.size _).trans (hb2.mono (Nat.le_trans HB.out.size (by simp)))); have BK4b := Aside0.mk (blk_below (blk_alloc BK4.out _) hb2); have BK2b := Aside0.mk (blk_below (blk_alloc BK2.out _) hb2); clear ho hb2; have hcy2_0 : w2.cell? ⟨g2, 0, none⟩ = some (.slice A0 l0.length c0) := (blk_cell BK2b.out 0).trans rfl; have hcy2_1 : w2.cell? ⟨g2, 1, none⟩ = some (.bool d) := (blk_cell BK2b.out 1).trans rfl; obtain ⟨A6, c6, rfl⟩ := Kd.R_slice HA.out)
        | ((go_at_call 28); refine (bytes_Clone.calls A0 c0 l0 l0 _ (Kd.C_below HR0.out HB2.out) HC0.out CL.out).mono ?_; rintro e w3 ⟨v3, rfl, ho3, hb3⟩; have HA3 := Aside0.mk (Kd.R_reads' ho3); have HB3 := Aside0.mk (below_step HB2.out hb3); have BK4c := Aside0.mk (blk_below BK4b.out hb3); have hfz4_0 := blk_frozen BK4c.out 0; have hfz4_1 := blk_frozen BK4c.out 1; have hcx4_0 : w3.cell? ⟨g4, 0, none⟩ = some (.slice none 0 0) := (blk_cell BK4c.out 0).trans rfl; have hcx4_1 : w3.cell? ⟨g4, 1, none⟩ = some (.bool false) := (blk_cell BK4c.out 1).trans rfl)
        | fail)
      · refine (bytes_Clone.calls A0 c0 l0 l0 _ (Kd.C_below HR0.out HB2.out) HC0.out CL.out).mono ?_
        rintro e w3 ⟨v3, rfl, ho3, hb3⟩
        obtain ⟨A3, c3, rfl⟩ := Kd.R_slice ho3
        have HA3 := Aside0.mk ho3; have HB3 := Aside0.mk (below_step HB2.out hb3); have BK4c := Aside0.mk (blk_below BK4b.out hb3); have hfz4_0 := blk_frozen BK4c.out 0; have hfz4_1 := blk_frozen BK4c.out 1; have hcx4_0 : w3.cell? ⟨g4, 0, none⟩ = some (.slice none 0 0) := (blk_cell BK4c.out 0).trans rfl; have hcx4_1 : w3.cell? ⟨g4, 1, none⟩ = some (.bool false) := (blk_cell BK4c.out 1).trans rfl
        clear ho3 hb3
        go_wp2
        have hH := H.out
        rw [if_pos (by assumption)] at hH
        simp only [Option.some.injEq, Prod.mk.injEq] at hH
        obtain ⟨rfl, rfl, rfl⟩ := hH
        simp only [Exit.jump]
        refine bodyPost_ret (results_ct rfl _ _ g4 27 #[.slice A3 l0.length c3, .bool true] (0, 0) _ rfl (blk_put (blk_put BK4c.out _ _ rfl) _ _ rfl) hu33 rfl (by kernel_rfl)) rfl ?_
        have hbel := below_set (j := 1) (v := .bool true) (below_set (j := 0) (v := .slice A3 l0.length c3) HB3.out G4.out) G4.out
        have hrowR := row_set (j := 1) (u := .bool true) (row_set (j := 0) (u := .slice A3 l0.length c3) HA3.out BK4c.out (by decide)) (blk_set BK4c.out _ _) (by decide)
        have hrow := Kd.R_reads' hrowR
        exact ⟨A3, c3, none, 0, rfl, hrow.2.2, hrow.2.1, Kd.C_nil _ _, Nat.le_refl _, (fun _ e => by cases e), Kd.N_nil _ _ _ _ _, Kd.R_lower hrowR HB2.out.size, hbel⟩
      · go_step3
        simp only [Exit.then]
        refine (‹∀ (a : Act) (w_1 : World), Code.wp Try.prog _ _ a w_1 → _›) _ _ ?_
        refine key _ _ ?_
        have hH := H.out
        rw [if_neg (ne_true_of_eq_false (by assumption))] at hH
        refine feedJ_mk (l0.length + l1.length + 1) ab [] (.slice A6 ab.length c6) (.slice none 0 0) rfl rfl hH (by have := HAB.out; simp; omega) HA.out (Kd.N_nil _ _ _ _ _) BK4b.out HB2.out
  · rw [if_neg hb] at h
    cases h
theorem frame_Feed.callsR (A0 : Option Addr) (c0 : Nat) (l0 : List Int) (d : Bool) (A1 : Option Addr) (c1 : Nat) (l1 : List Int) (r1 : List Int) (r2 : Bool) (r3 : List (List Int)) (w : World) (hr0 : Kd.C (Kd.int .u8) w A0 l0.length l0) (hc0 : l0.length ≤ c0) (hr1 : Kd.C (Kd.int .u8) w A1 l1.length l1) (hc1 : l1.length ≤ c1) (h : frame_Feed.f l0 d l1 = some (r1, r2, r3)) :
    Calls Try.prog 31 #[.agg #[.slice A0 l0.length c0, .bool d], .slice A1 l1.length c1] w fun e w' => ∃ Ab cb Al cl, e = .returned (.tuple #[.agg #[.slice Ab r1.length cb, .bool r2], .slice Al r3.length cl]) ∧ Kd.C (Kd.int .u8) w' Ab r1.length r1 ∧ r1.length ≤ cb ∧ Kd.C (Kd.slice 5 (Kd.int .u8)) w' Al r3.length r3 ∧ r3.length ≤ cl ∧ (∀ ad : Addr, Al = some ad → w.heap.size ≤ ad.block) ∧ Kd.N (Kd.slice 5 (Kd.int .u8)) 25 w' w.heap.size (fun k => w.heap.size ≤ k) (.slice Al r3.length cl) r3 ∧ Below w.heap.size w w' := by
  refine (frame_Feed.callsQ A0 c0 l0 d A1 c1 l1 r1 r2 r3 w hr0 hc0 hr1 hc1 h).mono ?_
  rintro e w' ⟨Ab, cb, Al, cl, h1, h2, h3, h4, h5, h6, h7, _, h8⟩
  exact ⟨Ab, cb, Al, cl, h1, h2, h3, h4, h5, h6, h7, h8⟩
theorem frame_Feed.callsN (A0 : Option Addr) (c0 : Nat) (l0 : List Int) (d : Bool) (A1 : Option Addr) (c1 : Nat) (l1 : List Int) (r1 : List Int) (r2 : Bool) (r3 : List (List Int)) (w : World) (hr0 : Kd.C (Kd.int .u8) w A0 l0.length l0) (hc0 : l0.length ≤ c0) (hr1 : Kd.C (Kd.int .u8) w A1 l1.length l1) (hc1 : l1.length ≤ c1) (h : frame_Feed.f l0 d l1 = some (r1, r2, r3)) :
    Calls Try.prog 31 #[.agg #[.slice A0 l0.length c0, .bool d], .slice A1 l1.length c1] w fun e w' => ∃ Ab cb Al cl, e = .returned (.tuple #[.agg #[.slice Ab r1.length cb, .bool r2], .slice Al r3.length cl]) ∧ Kd.C (Kd.int .u8) w' Ab r1.length r1 ∧ r1.length ≤ cb ∧ Kd.C (Kd.slice 5 (Kd.int .u8)) w' Al r3.length r3 ∧ r3.length ≤ cl ∧ (∀ ad : Addr, Al = some ad → w.heap.size ≤ ad.block) ∧ Below w.heap.size w w' := by
  refine (frame_Feed.callsR A0 c0 l0 d A1 c1 l1 r1 r2 r3 w hr0 hc0 hr1 hc1 h).mono ?_
  rintro e w' ⟨Ab, cb, Al, cl, h1, h2, h3, h4, h5, h6, _, h7⟩
  exact ⟨Ab, cb, Al, cl, h1, h2, h3, h4, h5, h6, h7⟩
theorem frame_Feed.calls (A0 : Option Addr) (c0 : Nat) (l0 : List Int) (d : Bool) (A1 : Option Addr) (c1 : Nat) (l1 : List Int) (r1 : List Int) (r2 : Bool) (r3 : List (List Int)) (w : World) (hr0 : Kd.C (Kd.int .u8) w A0 l0.length l0) (hc0 : l0.length ≤ c0) (hr1 : Kd.C (Kd.int .u8) w A1 l1.length l1) (hc1 : l1.length ≤ c1) (h : frame_Feed.f l0 d l1 = some (r1, r2, r3)) :
    Calls Try.prog 31 #[.agg #[.slice A0 l0.length c0, .bool d], .slice A1 l1.length c1] w fun e w' => ∃ Ab cb Al cl, e = .returned (.tuple #[.agg #[.slice Ab r1.length cb, .bool r2], .slice Al r3.length cl]) ∧ Kd.C (Kd.int .u8) w' Ab r1.length r1 ∧ r1.length ≤ cb ∧ Kd.C (Kd.slice 5 (Kd.int .u8)) w' Al r3.length r3 ∧ r3.length ≤ cl ∧ Below w.heap.size w w' := by
  refine (frame_Feed.callsN A0 c0 l0 d A1 c1 l1 r1 r2 r3 w hr0 hc0 hr1 hc1 h).mono ?_
  rintro e w' ⟨Ab, cb, Al, cl, h1, h2, h3, h4, h5, _, h6⟩
  exact ⟨Ab, cb, Al, cl, h1, h2, h3, h4, h5, h6⟩
end Go.Proofs.Ytanheflbbadkkaa.X
