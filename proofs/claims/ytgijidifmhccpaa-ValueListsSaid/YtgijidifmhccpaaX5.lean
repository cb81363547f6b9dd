/- Functions of the translation as plain Lean functions, and proofs that the calls come to what these say. No condition. Written by a program of this session (wip/xprint.py); not trusted: Lean checks it. -/
import Derived.Test.YtgijidifmhccpaaX0
import Derived.Test.YtgijidifmhccpaaX3
import Derived.Test.YtgijidifmhccpaaX4
import Derived.Test.YtgijidifmhccpaaX6
namespace Go.Proofs.Ytgijidifmhccpaa.X
open Go.RowKit Go.Proofs.YtgijidifmhccpaaW.PrintWords Go.Proofs.YtgijidifmhccpaaW.PrintLast Go.Proofs.YtgijidifmhccpaaW.PrintMore
attribute [local go_sem] max2_int min2_int max_two min_two max_three min_three max_four min_four   -- for this text's walks alone
set_option linter.unusedVariables false
set_option linter.unusedSimpArgs false

/-! ### value_Put: function 12 -/
theorem value_May_f (a b : Int) (c : ByteArray) : value_May.f a b c = some (value_May.b a b c) := rfl
theorem u64_small' (x : Int) (h0 : 0 ≤ x) (h1 : x < 4611686018427387904) : IntKind.u64.wrap x = x := by
  rw [IntKind.wrap_u64]; omega
def value_Put.o (p : List Int) (r : List Int) (q : List Int) : Option (List Int × Bool) := if r.length ≤ 1000 then some (p ++ r ++ q, true) else none
def value_Put.f (k : Nat) (a0_0 a0_1 : Int) (a0_2 : ByteArray) : Option (List Int × Bool) :=
  if value_May.b a0_0 a0_1 a0_2 = true then
    (if a0_0 = 0 then (le_Zig.f a0_1).bind fun z => (le_Put.f k z).bind fun r => value_Put.o [0] r [] else
     if a0_0 = 2 then (le_Put.f k (a0_2.size : Int)).bind fun r => value_Put.o [2] r (bytesOf a0_2) else
     (le_Put.f k (IntKind.u64.wrap a0_1)).bind fun r => value_Put.o [a0_0] r []) else some ([], false)
theorem value_Put.mono : ∀ a0 a1 a2 k, LeO (value_Put.f k a0 a1 a2) (value_Put.f (k + 1) a0 a1 a2) := by
  intro a0 a1 a2 k
  unfold value_Put.f
  refine LeO.ite (LeO.ite ?_ (LeO.ite ?_ ?_)) (LeO.refl _)
  · exact LeO.bind (LeO.refl _) (fun _ => LeO.bind (le_Put.mono _ _) (fun _ => LeO.refl _))
  · exact LeO.bind (le_Put.mono _ _) (fun _ => LeO.refl _)
  · exact LeO.bind (le_Put.mono _ _) (fun _ => LeO.refl _)
/-- Which kinds may be, and what is held then. -/
theorem value_held.cases (k n : Int) (s : ByteArray) (h : value_May.b k n s = true) :
    (k = 0 ∧ value_held.v k n s = .iface 3 (.int .i64 n)) ∨ (k = 1 ∧ value_held.v k n s = .iface 4 (.bool (n == 1))) ∨ (k = 2 ∧ (s.size : Int) ≤ 40 ∧ value_held.v k n s = .iface 9 (.string s)) ∨ (k = 3 ∧ value_held.v k n s = .iface 45 (.int .i64 n)) := by
  unfold value_May.b at h
  unfold value_held.v
  by_cases h1 : k = 2
  · rw [if_pos h1] at h ⊢
    by_cases h2 : n = 0
    · rw [if_pos h2] at h ⊢
      rw [if_pos (of_decide_eq_true h)]
      exact .inr (.inr (.inl ⟨h1, of_decide_eq_true h, rfl⟩))
    · rw [if_neg h2] at h; cases h
  · rw [if_neg h1] at h ⊢
    by_cases h2 : s.toList = []
    · rw [if_pos h2] at h ⊢
      by_cases h3 : k = 0
      · rw [if_pos h3]; exact .inl ⟨h3, rfl⟩
      · rw [if_neg h3] at h ⊢
        by_cases h4 : k = 1
        · rw [if_pos h4] at h ⊢
          rw [if_pos (of_decide_eq_true h)]; exact .inr (.inl ⟨h4, rfl⟩)
        · rw [if_neg h4] at h ⊢
          by_cases h5 : k = 3
          · rw [if_pos h5] at h ⊢
            by_cases h6 : n ≥ 0
            · rw [if_pos h6] at h ⊢
              rw [if_pos (of_decide_eq_true h)]; exact .inr (.inr (.inr ⟨h5, rfl⟩))
            · rw [if_neg h6] at h; cases h
          · rw [if_neg h5] at h; cases h
    · rw [if_neg h2] at h; cases h
set_option maxHeartbeats 8000000 in
set_option maxRecDepth 100000 in
theorem value_Put.calls (k : Nat) (a0_0 a0_1 : Int) (a0_2 : ByteArray) (r1 : List Int) (r2 : Bool) (w : World) (h : value_Put.f k a0_0 a0_1 a0_2 = some (r1, r2)) :
    Calls Try.prog 12 #[.agg #[.int .i64 a0_0, .int .i64 a0_1, .string a0_2]] w fun e w' => ∃ v0_ : Value, e = .returned (.tuple #[v0_, .bool r2]) ∧ Kd.R (Kd.int .u8) 5 w' w.heap.size (fun _ => True) v0_ r1 ∧ Below w.heap.size w w' := by
  have hu23 := Try.underlying23
  have HB := Aside0.mk (Below.refl w.heap.size w)
  unfold value_Put.f at h
  by_cases hm : value_May.b a0_0 a0_1 a0_2 = true
  · rw [if_pos hm] at h
    rcases value_held.cases _ _ _ hm with ⟨rfl, hv⟩ | ⟨rfl, hv⟩ | ⟨rfl, hs, hv⟩ | ⟨rfl, hv⟩
    · rw [if_pos rfl] at h
      obtain ⟨z, hz, h⟩ := Option.bind_eq_some_iff.mp h
      obtain ⟨r, hr, h⟩ := Option.bind_eq_some_iff.mp h
      have HZ := Aside0.mk hz
      unfold value_Put.o at h
      by_cases hl : r.length ≤ 1000
      case neg => rw [if_neg hl] at h; cases h
      rw [if_pos hl] at h
      simp only [Option.some.injEq, Prod.mk.injEq] at h
      obtain ⟨hr1, rfl⟩ := h
      have HR1 := Aside0.mk hr1
      have HT := Aside0.mk hr
      have HL := Aside0.mk hl
      clear hr1 hr hl hm
      have ta3 : ∀ (T : TypeId) (W : World), (Instr.typeAssert (.iface 3 (.int .i64 a0_1)) T 3 true).run Try.prog W = .ok (.tuple #[.int .i64 a0_1, .bool true]) W := fun T W => by kernel_rfl
      have ta4 : ∀ (T : TypeId) (W : World), (Instr.typeAssert (.iface 3 (.int .i64 a0_1)) T 4 true).run Try.prog W = .ok (.tuple #[.bool false, .bool false]) W := fun T W => by kernel_rfl
      have ta45 : ∀ (T : TypeId) (W : World), (Instr.typeAssert (.iface 3 (.int .i64 a0_1)) T 45 true).run Try.prog W = .ok (.tuple #[.int .i64 0, .bool false]) W := fun T W => by kernel_rfl
      have ta9 : ∀ (T : TypeId) (W : World), (Instr.typeAssert (.iface 3 (.int .i64 a0_1)) T 9 true).run Try.prog W = .ok (.tuple #[.string ⟨#[]⟩, .bool false]) W := fun T W => by kernel_rfl
      go_enter Try.func12, Try.ntmps12
      go_wp2_with (first | ((with_reducible refine gate_dst (N := 1) rfl ?_); refine box_event ?hg (N := 1) ?hd (cs := #[.int .i64 0, .int .i64 a0_1, .string a0_2]) (t := 23) ?hr ?_; (case hd => rfl); (case hg => rfl); (case hr => first | (go_simp; done) | (go_simp; rfl)); intro g1 hg1 wq1 bk1 hb1; have G1 := Aside0.mk (hg1 ▸ HB.out.size : w.heap.size ≤ g1); have BK1 := Aside0.mk bk1; replace HB := Aside0.mk (below_step HB.out hb1); have hc1_0 : wq1.cell? ⟨g1, 0, none⟩ = some (.int .i64 0) := (blk_cell BK1.out 0).trans rfl; have hc1_1 : wq1.cell? ⟨g1, 1, none⟩ = some (.int .i64 a0_1) := (blk_cell BK1.out 1).trans rfl; have hc1_2 : wq1.cell? ⟨g1, 2, none⟩ = some (.string a0_2) := (blk_cell BK1.out 2).trans rfl; clear hg1 bk1 hb1) | ((with_reducible refine gate_dst (N := 12) rfl ?_); refine Kd.R_lit (Kd.int .u8) (w0 := w) w.heap.size 5 ?hg (N := 12) ?hd (xs := ([0] : List Int)) (inner := [.int .u8 0]) (ok := fun _ => True) (okp := fun _ => True) ?hr ?hp (fun _ hk => hk) trivial HB.out HB.out.size (by simp) ?_; (case hd => rfl); (case hg => rfl); (case hr => first | (go_simp; done) | (go_simp; rfl)); (case hp => exact (Reps.one (show Kd.M (Kd.int .u8) _ _ _ 0 [.int .u8 0] from rfl) (Reps.none _ _))); intro v12 wq2 ho hb hg hat; replace BK1 := Aside0.mk (blk_grown BK1.out hg (by simp)); replace HB := Aside0.mk hb; have RO := Aside0.mk ho; clear hc1_0 hc1_1 hc1_2; have hc1_0 : wq2.cell? ⟨g1, 0, none⟩ = some (.int .i64 0) := (blk_cell BK1.out 0).trans rfl; have hc1_1 : wq2.cell? ⟨g1, 1, none⟩ = some (.int .i64 a0_1) := (blk_cell BK1.out 1).trans rfl; have hc1_2 : wq2.cell? ⟨g1, 2, none⟩ = some (.string a0_2) := (blk_cell BK1.out 2).trans rfl; clear ho hb hg hat) | ((go_at_call 20); (with_reducible refine (value_held.calls 0 a0_1 a0_2 _).mono ?_); rintro e wq3 ⟨rfl, hb0⟩; have hbb := hb0; replace BK1 := Aside0.mk (blk_below BK1.out hbb); replace HB := Aside0.mk (below_step HB.out hbb); clear hc1_0 hc1_1 hc1_2; have hc1_0 : wq3.cell? ⟨g1, 0, none⟩ = some (.int .i64 0) := (blk_cell BK1.out 0).trans rfl; have hc1_1 : wq3.cell? ⟨g1, 1, none⟩ = some (.int .i64 a0_1) := (blk_cell BK1.out 1).trans rfl; have hc1_2 : wq3.cell? ⟨g1, 2, none⟩ = some (.string a0_2) := (blk_cell BK1.out 2).trans rfl; clear hbb; rw [hv]; replace RO := Aside0.mk (Kd.R_below RO.out hb0)) | ((go_at_call 22); have tk_ := HZ; clear tk_; (with_reducible refine (le_Zig.calls a0_1 z _ HZ.out).mono ?_); rintro e wq4 ⟨rfl, hd0⟩; have hbb := drawn_below hd0; replace BK1 := Aside0.mk (blk_below BK1.out hbb); replace HB := Aside0.mk (below_step HB.out hbb); clear hc1_0 hc1_1 hc1_2; have hc1_0 : wq4.cell? ⟨g1, 0, none⟩ = some (.int .i64 0) := (blk_cell BK1.out 0).trans rfl; have hc1_1 : wq4.cell? ⟨g1, 1, none⟩ = some (.int .i64 a0_1) := (blk_cell BK1.out 1).trans rfl; have hc1_2 : wq4.cell? ⟨g1, 2, none⟩ = some (.string a0_2) := (blk_cell BK1.out 2).trans rfl; clear hbb; replace RO := Aside0.mk (Kd.R_below RO.out (drawn_below hd0)); clear HZ) | ((go_at_call 21); have tk_ := HT; clear tk_; (with_reducible refine (le_Put.calls k z r _ HT.out).mono ?_); rintro e wq5 ⟨vp, rfl, hop, hb0⟩; have hbb := hb0; replace BK1 := Aside0.mk (blk_below BK1.out hbb); replace HB := Aside0.mk (below_step HB.out hbb); clear hc1_0 hc1_1 hc1_2; have hc1_0 : wq5.cell? ⟨g1, 0, none⟩ = some (.int .i64 0) := (blk_cell BK1.out 0).trans rfl; have hc1_1 : wq5.cell? ⟨g1, 1, none⟩ = some (.int .i64 a0_1) := (blk_cell BK1.out 1).trans rfl; have hc1_2 : wq5.cell? ⟨g1, 2, none⟩ = some (.string a0_2) := (blk_cell BK1.out 2).trans rfl; clear hbb; obtain ⟨Ap, cp, rfl⟩ := Kd.R_slice hop; have CP := Aside0.mk (Kd.R_reads' hop).2.2; clear hop; replace RO := Aside0.mk (Kd.R_below RO.out hb0); clear HT) | ((with_reducible refine gate_builtin (b := .append) (xs := #[.tmp 18, .tmp 21]) rfl ?_); at_builtin; refine Kd.R_append_rows (Kd.int .u8) (w0 := w) w.heap.size rfl (.tmp 18) (.tmp 21) 24 5 (.int .u8 0) 1 rfl Try.underlying24 info5 rfl (by decide) (by omega) v12 [0] r _ _ _ (fun _ => True) (fun _ => False) rfl rfl RO.out CP.out (fun _ _ h => h) (fun _ h => h.elim) (fun _ _ => trivial) HB.out HB.out.size (by have := HL.out; first | (simp; omega) | simp) ?_; intro v13 wq6 ho hb hg hat; replace BK1 := Aside0.mk (blk_grown BK1.out hg (Kd.R_ne RO.out BK1.out (by decide))); replace HB := Aside0.mk hb; replace RO := Aside0.mk ho; clear hc1_0 hc1_1 hc1_2; have hc1_0 : wq6.cell? ⟨g1, 0, none⟩ = some (.int .i64 0) := (blk_cell BK1.out 0).trans rfl; have hc1_1 : wq6.cell? ⟨g1, 1, none⟩ = some (.int .i64 a0_1) := (blk_cell BK1.out 1).trans rfl; have hc1_2 : wq6.cell? ⟨g1, 2, none⟩ = some (.string a0_2) := (blk_cell BK1.out 2).trans rfl; clear ho hb hg hat CP))
      go_ret2
      have ho := RO.out
      have e := HR1.out
      rw [List.append_nil] at e
      rw [e] at ho
      exact ⟨_, rfl, ho, HB.out⟩
    · rw [if_neg (by decide), if_neg (by decide)] at h
      obtain ⟨r, hr, h⟩ := Option.bind_eq_some_iff.mp h
      unfold value_Put.o at h
      by_cases hl : r.length ≤ 1000
      case neg => rw [if_neg hl] at h; cases h
      rw [if_pos hl] at h
      simp only [Option.some.injEq, Prod.mk.injEq] at h
      obtain ⟨hr1, rfl⟩ := h
      have HR1 := Aside0.mk hr1
      have HT := Aside0.mk hr
      have HL := Aside0.mk hl
      clear hr1 hr hl hm
      have ta3 : ∀ (T : TypeId) (W : World), (Instr.typeAssert (.iface 4 (.bool (a0_1 == 1))) T 3 true).run Try.prog W = .ok (.tuple #[.int .i64 0, .bool false]) W := fun T W => by kernel_rfl
      have ta4 : ∀ (T : TypeId) (W : World), (Instr.typeAssert (.iface 4 (.bool (a0_1 == 1))) T 4 true).run Try.prog W = .ok (.tuple #[.bool (a0_1 == 1), .bool true]) W := fun T W => by kernel_rfl
      have ta45 : ∀ (T : TypeId) (W : World), (Instr.typeAssert (.iface 4 (.bool (a0_1 == 1))) T 45 true).run Try.prog W = .ok (.tuple #[.int .i64 0, .bool false]) W := fun T W => by kernel_rfl
      have ta9 : ∀ (T : TypeId) (W : World), (Instr.typeAssert (.iface 4 (.bool (a0_1 == 1))) T 9 true).run Try.prog W = .ok (.tuple #[.string ⟨#[]⟩, .bool false]) W := fun T W => by kernel_rfl
      go_enter Try.func12, Try.ntmps12
      go_wp2_with (first | ((with_reducible refine gate_dst (N := 1) rfl ?_); refine box_event ?hg (N := 1) ?hd (cs := #[.int .i64 1, .int .i64 a0_1, .string a0_2]) (t := 23) ?hr ?_; (case hd => rfl); (case hg => rfl); (case hr => first | (go_simp; done) | (go_simp; rfl)); intro g1 hg1 wq1 bk1 hb1; have G1 := Aside0.mk (hg1 ▸ HB.out.size : w.heap.size ≤ g1); have BK1 := Aside0.mk bk1; replace HB := Aside0.mk (below_step HB.out hb1); have hc1_0 : wq1.cell? ⟨g1, 0, none⟩ = some (.int .i64 1) := (blk_cell BK1.out 0).trans rfl; have hc1_1 : wq1.cell? ⟨g1, 1, none⟩ = some (.int .i64 a0_1) := (blk_cell BK1.out 1).trans rfl; have hc1_2 : wq1.cell? ⟨g1, 2, none⟩ = some (.string a0_2) := (blk_cell BK1.out 2).trans rfl; clear hg1 bk1 hb1) | ((with_reducible refine gate_dst (N := 12) rfl ?_); refine Kd.R_lit (Kd.int .u8) (w0 := w) w.heap.size 5 ?hg (N := 12) ?hd (xs := ([1] : List Int)) (inner := [.int .u8 1]) (ok := fun _ => True) (okp := fun _ => True) ?hr ?hp (fun _ hk => hk) trivial HB.out HB.out.size (by simp) ?_; (case hd => rfl); (case hg => rfl); (case hr => first | (go_simp; done) | (go_simp; rfl)); (case hp => exact (Reps.one (show Kd.M (Kd.int .u8) _ _ _ 1 [.int .u8 1] from rfl) (Reps.none _ _))); intro v12 wq2 ho hb hg hat; replace BK1 := Aside0.mk (blk_grown BK1.out hg (by simp)); replace HB := Aside0.mk hb; have RO := Aside0.mk ho; clear hc1_0 hc1_1 hc1_2; have hc1_0 : wq2.cell? ⟨g1, 0, none⟩ = some (.int .i64 1) := (blk_cell BK1.out 0).trans rfl; have hc1_1 : wq2.cell? ⟨g1, 1, none⟩ = some (.int .i64 a0_1) := (blk_cell BK1.out 1).trans rfl; have hc1_2 : wq2.cell? ⟨g1, 2, none⟩ = some (.string a0_2) := (blk_cell BK1.out 2).trans rfl; clear ho hb hg hat) | ((go_at_call 20); (with_reducible refine (value_held.calls 1 a0_1 a0_2 _).mono ?_); rintro e wq3 ⟨rfl, hb0⟩; have hbb := hb0; replace BK1 := Aside0.mk (blk_below BK1.out hbb); replace HB := Aside0.mk (below_step HB.out hbb); clear hc1_0 hc1_1 hc1_2; have hc1_0 : wq3.cell? ⟨g1, 0, none⟩ = some (.int .i64 1) := (blk_cell BK1.out 0).trans rfl; have hc1_1 : wq3.cell? ⟨g1, 1, none⟩ = some (.int .i64 a0_1) := (blk_cell BK1.out 1).trans rfl; have hc1_2 : wq3.cell? ⟨g1, 2, none⟩ = some (.string a0_2) := (blk_cell BK1.out 2).trans rfl; clear hbb; rw [hv]; replace RO := Aside0.mk (Kd.R_below RO.out hb0)) | ((go_at_call 21); have tk_ := HT; clear tk_; (with_reducible refine (le_Put.calls k (IntKind.u64.wrap a0_1) r _ HT.out).mono ?_); rintro e wq4 ⟨vp, rfl, hop, hb0⟩; have hbb := hb0; replace BK1 := Aside0.mk (blk_below BK1.out hbb); replace HB := Aside0.mk (below_step HB.out hbb); clear hc1_0 hc1_1 hc1_2; have hc1_0 : wq4.cell? ⟨g1, 0, none⟩ = some (.int .i64 1) := (blk_cell BK1.out 0).trans rfl; have hc1_1 : wq4.cell? ⟨g1, 1, none⟩ = some (.int .i64 a0_1) := (blk_cell BK1.out 1).trans rfl; have hc1_2 : wq4.cell? ⟨g1, 2, none⟩ = some (.string a0_2) := (blk_cell BK1.out 2).trans rfl; clear hbb; obtain ⟨Ap, cp, rfl⟩ := Kd.R_slice hop; have CP := Aside0.mk (Kd.R_reads' hop).2.2; clear hop; replace RO := Aside0.mk (Kd.R_below RO.out hb0); clear HT) | ((with_reducible refine gate_builtin (b := .append) (xs := #[.tmp 30, .tmp 34]) rfl ?_); at_builtin; refine Kd.R_append_rows (Kd.int .u8) (w0 := w) w.heap.size rfl (.tmp 30) (.tmp 34) 24 5 (.int .u8 0) 1 rfl Try.underlying24 info5 rfl (by decide) (by omega) v12 [1] r _ _ _ (fun _ => True) (fun _ => False) rfl rfl RO.out CP.out (fun _ _ h => h) (fun _ h => h.elim) (fun _ _ => trivial) HB.out HB.out.size (by have := HL.out; first | (simp; omega) | simp) ?_; intro v13 wq5 ho hb hg hat; replace BK1 := Aside0.mk (blk_grown BK1.out hg (Kd.R_ne RO.out BK1.out (by decide))); replace HB := Aside0.mk hb; replace RO := Aside0.mk ho; clear hc1_0 hc1_1 hc1_2; have hc1_0 : wq5.cell? ⟨g1, 0, none⟩ = some (.int .i64 1) := (blk_cell BK1.out 0).trans rfl; have hc1_1 : wq5.cell? ⟨g1, 1, none⟩ = some (.int .i64 a0_1) := (blk_cell BK1.out 1).trans rfl; have hc1_2 : wq5.cell? ⟨g1, 2, none⟩ = some (.string a0_2) := (blk_cell BK1.out 2).trans rfl; clear ho hb hg hat CP))
      go_ret2
      have ho := RO.out
      have e := HR1.out
      rw [List.append_nil] at e
      rw [e] at ho
      exact ⟨_, rfl, ho, HB.out⟩
    · rw [if_neg (by decide), if_pos rfl] at h
      obtain ⟨r, hr, h⟩ := Option.bind_eq_some_iff.mp h
      have hw : IntKind.u64.wrap (a0_2.size : Int) = (a0_2.size : Int) := u64_small' _ (by omega) (by omega)
      have HS := Aside0.mk hs
      unfold value_Put.o at h
      by_cases hl : r.length ≤ 1000
      case neg => rw [if_neg hl] at h; cases h
      rw [if_pos hl] at h
      simp only [Option.some.injEq, Prod.mk.injEq] at h
      obtain ⟨hr1, rfl⟩ := h
      have HR1 := Aside0.mk hr1
      have HT := Aside0.mk hr
      have HL := Aside0.mk hl
      clear hr1 hr hl hm
      have ta3 : ∀ (T : TypeId) (W : World), (Instr.typeAssert (.iface 9 (.string a0_2)) T 3 true).run Try.prog W = .ok (.tuple #[.int .i64 0, .bool false]) W := fun T W => by kernel_rfl
      have ta4 : ∀ (T : TypeId) (W : World), (Instr.typeAssert (.iface 9 (.string a0_2)) T 4 true).run Try.prog W = .ok (.tuple #[.bool false, .bool false]) W := fun T W => by kernel_rfl
      have ta45 : ∀ (T : TypeId) (W : World), (Instr.typeAssert (.iface 9 (.string a0_2)) T 45 true).run Try.prog W = .ok (.tuple #[.int .i64 0, .bool false]) W := fun T W => by kernel_rfl
      have ta9 : ∀ (T : TypeId) (W : World), (Instr.typeAssert (.iface 9 (.string a0_2)) T 9 true).run Try.prog W = .ok (.tuple #[.string a0_2, .bool true]) W := fun T W => by kernel_rfl
      go_enter Try.func12, Try.ntmps12
      go_wp2_with (first | ((with_reducible refine gate_dst (N := 1) rfl ?_); refine box_event ?hg (N := 1) ?hd (cs := #[.int .i64 2, .int .i64 a0_1, .string a0_2]) (t := 23) ?hr ?_; (case hd => rfl); (case hg => rfl); (case hr => first | (go_simp; done) | (go_simp; rfl)); intro g1 hg1 wq1 bk1 hb1; have G1 := Aside0.mk (hg1 ▸ HB.out.size : w.heap.size ≤ g1); have BK1 := Aside0.mk bk1; replace HB := Aside0.mk (below_step HB.out hb1); have hc1_0 : wq1.cell? ⟨g1, 0, none⟩ = some (.int .i64 2) := (blk_cell BK1.out 0).trans rfl; have hc1_1 : wq1.cell? ⟨g1, 1, none⟩ = some (.int .i64 a0_1) := (blk_cell BK1.out 1).trans rfl; have hc1_2 : wq1.cell? ⟨g1, 2, none⟩ = some (.string a0_2) := (blk_cell BK1.out 2).trans rfl; clear hg1 bk1 hb1) | ((with_reducible refine gate_dst (N := 12) rfl ?_); refine Kd.R_lit (Kd.int .u8) (w0 := w) w.heap.size 5 ?hg (N := 12) ?hd (xs := ([2] : List Int)) (inner := [.int .u8 2]) (ok := fun _ => True) (okp := fun _ => True) ?hr ?hp (fun _ hk => hk) trivial HB.out HB.out.size (by simp) ?_; (case hd => rfl); (case hg => rfl); (case hr => first | (go_simp; done) | (go_simp; rfl)); (case hp => exact (Reps.one (show Kd.M (Kd.int .u8) _ _ _ 2 [.int .u8 2] from rfl) (Reps.none _ _))); intro v12 wq2 ho hb hg hat; replace BK1 := Aside0.mk (blk_grown BK1.out hg (by simp)); replace HB := Aside0.mk hb; have RO := Aside0.mk ho; clear hc1_0 hc1_1 hc1_2; have hc1_0 : wq2.cell? ⟨g1, 0, none⟩ = some (.int .i64 2) := (blk_cell BK1.out 0).trans rfl; have hc1_1 : wq2.cell? ⟨g1, 1, none⟩ = some (.int .i64 a0_1) := (blk_cell BK1.out 1).trans rfl; have hc1_2 : wq2.cell? ⟨g1, 2, none⟩ = some (.string a0_2) := (blk_cell BK1.out 2).trans rfl; clear ho hb hg hat) | ((go_at_call 20); (with_reducible refine (value_held.calls 2 a0_1 a0_2 _).mono ?_); rintro e wq3 ⟨rfl, hb0⟩; have hbb := hb0; replace BK1 := Aside0.mk (blk_below BK1.out hbb); replace HB := Aside0.mk (below_step HB.out hbb); clear hc1_0 hc1_1 hc1_2; have hc1_0 : wq3.cell? ⟨g1, 0, none⟩ = some (.int .i64 2) := (blk_cell BK1.out 0).trans rfl; have hc1_1 : wq3.cell? ⟨g1, 1, none⟩ = some (.int .i64 a0_1) := (blk_cell BK1.out 1).trans rfl; have hc1_2 : wq3.cell? ⟨g1, 2, none⟩ = some (.string a0_2) := (blk_cell BK1.out 2).trans rfl; clear hbb; rw [hv]; replace RO := Aside0.mk (Kd.R_below RO.out hb0)) | ((go_at_call 21); have tk_ := HT; clear tk_; (with_reducible refine (le_Put.calls k (a0_2.size : Int) r _ HT.out).mono ?_); rintro e wq4 ⟨vp, rfl, hop, hb0⟩; have hbb := hb0; replace BK1 := Aside0.mk (blk_below BK1.out hbb); replace HB := Aside0.mk (below_step HB.out hbb); clear hc1_0 hc1_1 hc1_2; have hc1_0 : wq4.cell? ⟨g1, 0, none⟩ = some (.int .i64 2) := (blk_cell BK1.out 0).trans rfl; have hc1_1 : wq4.cell? ⟨g1, 1, none⟩ = some (.int .i64 a0_1) := (blk_cell BK1.out 1).trans rfl; have hc1_2 : wq4.cell? ⟨g1, 2, none⟩ = some (.string a0_2) := (blk_cell BK1.out 2).trans rfl; clear hbb; obtain ⟨Ap, cp, rfl⟩ := Kd.R_slice hop; have CP := Aside0.mk (Kd.R_reads' hop).2.2; clear hop; replace RO := Aside0.mk (Kd.R_below RO.out hb0); clear HT) | ((with_reducible refine gate_builtin (b := .append) (xs := #[.tmp 39, .tmp 43]) rfl ?_); at_builtin; refine Kd.R_append_rows (Kd.int .u8) (w0 := w) w.heap.size rfl (.tmp 39) (.tmp 43) 24 5 (.int .u8 0) 1 rfl Try.underlying24 info5 rfl (by decide) (by omega) v12 [2] r _ _ _ (fun _ => True) (fun _ => False) rfl rfl RO.out CP.out (fun _ _ h => h) (fun _ h => h.elim) (fun _ _ => trivial) HB.out HB.out.size (by have := HL.out; first | (simp; omega) | simp) ?_; intro v13 wq5 ho hb hg hat; replace BK1 := Aside0.mk (blk_grown BK1.out hg (Kd.R_ne RO.out BK1.out (by decide))); replace HB := Aside0.mk hb; replace RO := Aside0.mk ho; clear hc1_0 hc1_1 hc1_2; have hc1_0 : wq5.cell? ⟨g1, 0, none⟩ = some (.int .i64 2) := (blk_cell BK1.out 0).trans rfl; have hc1_1 : wq5.cell? ⟨g1, 1, none⟩ = some (.int .i64 a0_1) := (blk_cell BK1.out 1).trans rfl; have hc1_2 : wq5.cell? ⟨g1, 2, none⟩ = some (.string a0_2) := (blk_cell BK1.out 2).trans rfl; clear ho hb hg hat CP) | ((with_reducible refine gate_builtin (b := .append) (xs := #[.tmp 45, .tmp 46]) rfl ?_); at_builtin; refine print_append_str (w0 := w) w.heap.size rfl (.tmp 45) _ 24 9 5 rfl Try.underlying24 Try.underlying9 info5 v13 ([2] ++ r) a0_2 rfl rfl (Kd.own_of_R RO.out) HB.out HB.out.size (by have := HL.out; have := HS.out; simp only [List.length_append, List.length_cons, List.length_nil]; omega) ?_; intro v14 wq6 ho0 hb hg; replace BK1 := Aside0.mk (blk_grown BK1.out hg (Kd.R_ne RO.out BK1.out (by decide))); replace HB := Aside0.mk hb; replace RO := Aside0.mk (Kd.R_of_own (h1 := fun _ => rfl) (ok := fun _ => True) ho0 (fun _ _ => trivial)); clear hc1_0 hc1_1 hc1_2; have hc1_0 : wq6.cell? ⟨g1, 0, none⟩ = some (.int .i64 2) := (blk_cell BK1.out 0).trans rfl; have hc1_1 : wq6.cell? ⟨g1, 1, none⟩ = some (.int .i64 a0_1) := (blk_cell BK1.out 1).trans rfl; have hc1_2 : wq6.cell? ⟨g1, 2, none⟩ = some (.string a0_2) := (blk_cell BK1.out 2).trans rfl; clear ho0 hb hg))
      go_ret2
      have ho := RO.out
      rw [HR1.out] at ho
      exact ⟨_, rfl, ho, HB.out⟩
    · rw [if_neg (by decide), if_neg (by decide)] at h
      obtain ⟨r, hr, h⟩ := Option.bind_eq_some_iff.mp h
      unfold value_Put.o at h
      by_cases hl : r.length ≤ 1000
      case neg => rw [if_neg hl] at h; cases h
      rw [if_pos hl] at h
      simp only [Option.some.injEq, Prod.mk.injEq] at h
      obtain ⟨hr1, rfl⟩ := h
      have HR1 := Aside0.mk hr1
      have HT := Aside0.mk hr
      have HL := Aside0.mk hl
      clear hr1 hr hl hm
      have ta3 : ∀ (T : TypeId) (W : World), (Instr.typeAssert (.iface 45 (.int .i64 a0_1)) T 3 true).run Try.prog W = .ok (.tuple #[.int .i64 0, .bool false]) W := fun T W => by kernel_rfl
      have ta4 : ∀ (T : TypeId) (W : World), (Instr.typeAssert (.iface 45 (.int .i64 a0_1)) T 4 true).run Try.prog W = .ok (.tuple #[.bool false, .bool false]) W := fun T W => by kernel_rfl
      have ta45 : ∀ (T : TypeId) (W : World), (Instr.typeAssert (.iface 45 (.int .i64 a0_1)) T 45 true).run Try.prog W = .ok (.tuple #[.int .i64 a0_1, .bool true]) W := fun T W => by kernel_rfl
      have ta9 : ∀ (T : TypeId) (W : World), (Instr.typeAssert (.iface 45 (.int .i64 a0_1)) T 9 true).run Try.prog W = .ok (.tuple #[.string ⟨#[]⟩, .bool false]) W := fun T W => by kernel_rfl
      go_enter Try.func12, Try.ntmps12
      go_wp2_with (first | ((with_reducible refine gate_dst (N := 1) rfl ?_); refine box_event ?hg (N := 1) ?hd (cs := #[.int .i64 3, .int .i64 a0_1, .string a0_2]) (t := 23) ?hr ?_; (case hd => rfl); (case hg => rfl); (case hr => first | (go_simp; done) | (go_simp; rfl)); intro g1 hg1 wq1 bk1 hb1; have G1 := Aside0.mk (hg1 ▸ HB.out.size : w.heap.size ≤ g1); have BK1 := Aside0.mk bk1; replace HB := Aside0.mk (below_step HB.out hb1); have hc1_0 : wq1.cell? ⟨g1, 0, none⟩ = some (.int .i64 3) := (blk_cell BK1.out 0).trans rfl; have hc1_1 : wq1.cell? ⟨g1, 1, none⟩ = some (.int .i64 a0_1) := (blk_cell BK1.out 1).trans rfl; have hc1_2 : wq1.cell? ⟨g1, 2, none⟩ = some (.string a0_2) := (blk_cell BK1.out 2).trans rfl; clear hg1 bk1 hb1) | ((with_reducible refine gate_dst (N := 12) rfl ?_); refine Kd.R_lit (Kd.int .u8) (w0 := w) w.heap.size 5 ?hg (N := 12) ?hd (xs := ([3] : List Int)) (inner := [.int .u8 3]) (ok := fun _ => True) (okp := fun _ => True) ?hr ?hp (fun _ hk => hk) trivial HB.out HB.out.size (by simp) ?_; (case hd => rfl); (case hg => rfl); (case hr => first | (go_simp; done) | (go_simp; rfl)); (case hp => exact (Reps.one (show Kd.M (Kd.int .u8) _ _ _ 3 [.int .u8 3] from rfl) (Reps.none _ _))); intro v12 wq2 ho hb hg hat; replace BK1 := Aside0.mk (blk_grown BK1.out hg (by simp)); replace HB := Aside0.mk hb; have RO := Aside0.mk ho; clear hc1_0 hc1_1 hc1_2; have hc1_0 : wq2.cell? ⟨g1, 0, none⟩ = some (.int .i64 3) := (blk_cell BK1.out 0).trans rfl; have hc1_1 : wq2.cell? ⟨g1, 1, none⟩ = some (.int .i64 a0_1) := (blk_cell BK1.out 1).trans rfl; have hc1_2 : wq2.cell? ⟨g1, 2, none⟩ = some (.string a0_2) := (blk_cell BK1.out 2).trans rfl; clear ho hb hg hat) | ((go_at_call 20); (with_reducible refine (value_held.calls 3 a0_1 a0_2 _).mono ?_); rintro e wq3 ⟨rfl, hb0⟩; have hbb := hb0; replace BK1 := Aside0.mk (blk_below BK1.out hbb); replace HB := Aside0.mk (below_step HB.out hbb); clear hc1_0 hc1_1 hc1_2; have hc1_0 : wq3.cell? ⟨g1, 0, none⟩ = some (.int .i64 3) := (blk_cell BK1.out 0).trans rfl; have hc1_1 : wq3.cell? ⟨g1, 1, none⟩ = some (.int .i64 a0_1) := (blk_cell BK1.out 1).trans rfl; have hc1_2 : wq3.cell? ⟨g1, 2, none⟩ = some (.string a0_2) := (blk_cell BK1.out 2).trans rfl; clear hbb; rw [hv]; replace RO := Aside0.mk (Kd.R_below RO.out hb0)) | ((go_at_call 21); have tk_ := HT; clear tk_; (with_reducible refine (le_Put.calls k (IntKind.u64.wrap a0_1) r _ HT.out).mono ?_); rintro e wq4 ⟨vp, rfl, hop, hb0⟩; have hbb := hb0; replace BK1 := Aside0.mk (blk_below BK1.out hbb); replace HB := Aside0.mk (below_step HB.out hbb); clear hc1_0 hc1_1 hc1_2; have hc1_0 : wq4.cell? ⟨g1, 0, none⟩ = some (.int .i64 3) := (blk_cell BK1.out 0).trans rfl; have hc1_1 : wq4.cell? ⟨g1, 1, none⟩ = some (.int .i64 a0_1) := (blk_cell BK1.out 1).trans rfl; have hc1_2 : wq4.cell? ⟨g1, 2, none⟩ = some (.string a0_2) := (blk_cell BK1.out 2).trans rfl; clear hbb; obtain ⟨Ap, cp, rfl⟩ := Kd.R_slice hop; have CP := Aside0.mk (Kd.R_reads' hop).2.2; clear hop; replace RO := Aside0.mk (Kd.R_below RO.out hb0); clear HT) | ((with_reducible refine gate_builtin (b := .append) (xs := #[.tmp 30, .tmp 34]) rfl ?_); at_builtin; refine Kd.R_append_rows (Kd.int .u8) (w0 := w) w.heap.size rfl (.tmp 30) (.tmp 34) 24 5 (.int .u8 0) 1 rfl Try.underlying24 info5 rfl (by decide) (by omega) v12 [3] r _ _ _ (fun _ => True) (fun _ => False) rfl rfl RO.out CP.out (fun _ _ h => h) (fun _ h => h.elim) (fun _ _ => trivial) HB.out HB.out.size (by have := HL.out; first | (simp; omega) | simp) ?_; intro v13 wq5 ho hb hg hat; replace BK1 := Aside0.mk (blk_grown BK1.out hg (Kd.R_ne RO.out BK1.out (by decide))); replace HB := Aside0.mk hb; replace RO := Aside0.mk ho; clear hc1_0 hc1_1 hc1_2; have hc1_0 : wq5.cell? ⟨g1, 0, none⟩ = some (.int .i64 3) := (blk_cell BK1.out 0).trans rfl; have hc1_1 : wq5.cell? ⟨g1, 1, none⟩ = some (.int .i64 a0_1) := (blk_cell BK1.out 1).trans rfl; have hc1_2 : wq5.cell? ⟨g1, 2, none⟩ = some (.string a0_2) := (blk_cell BK1.out 2).trans rfl; clear ho hb hg hat CP))
      go_ret2
      have ho := RO.out
      have e := HR1.out
      rw [List.append_nil] at e
      rw [e] at ho
      exact ⟨_, rfl, ho, HB.out⟩
  · rw [if_neg hm] at h
    simp only [Option.some.injEq, Prod.mk.injEq] at h
    obtain ⟨rfl, rfl⟩ := h
    have hv : value_held.v a0_0 a0_1 a0_2 = .nilIface := by
      rcases value_held.forms a0_0 a0_1 a0_2 with ⟨hv, _⟩ | ⟨_, _, _, hb⟩
      · exact hv
      · exact absurd hb hm
    clear hm
    have ta3 : ∀ (T : TypeId) (W : World), (Instr.typeAssert (.nilIface) T 3 true).run Try.prog W = .ok (.tuple #[.int .i64 0, .bool false]) W := fun T W => by kernel_rfl
    have ta4 : ∀ (T : TypeId) (W : World), (Instr.typeAssert (.nilIface) T 4 true).run Try.prog W = .ok (.tuple #[.bool false, .bool false]) W := fun T W => by kernel_rfl
    have ta45 : ∀ (T : TypeId) (W : World), (Instr.typeAssert (.nilIface) T 45 true).run Try.prog W = .ok (.tuple #[.int .i64 0, .bool false]) W := fun T W => by kernel_rfl
    have ta9 : ∀ (T : TypeId) (W : World), (Instr.typeAssert (.nilIface) T 9 true).run Try.prog W = .ok (.tuple #[.string ⟨#[]⟩, .bool false]) W := fun T W => by kernel_rfl
    go_enter Try.func12, Try.ntmps12
    go_wp2_with (first | ((with_reducible refine gate_dst (N := 1) rfl ?_); refine box_event ?hg (N := 1) ?hd (cs := #[.int .i64 a0_0, .int .i64 a0_1, .string a0_2]) (t := 23) ?hr ?_; (case hd => rfl); (case hg => rfl); (case hr => first | (go_simp; done) | (go_simp; rfl)); intro g1 hg1 wq1 bk1 hb1; have G1 := Aside0.mk (hg1 ▸ HB.out.size : w.heap.size ≤ g1); have BK1 := Aside0.mk bk1; replace HB := Aside0.mk (below_step HB.out hb1); have hc1_0 : wq1.cell? ⟨g1, 0, none⟩ = some (.int .i64 a0_0) := (blk_cell BK1.out 0).trans rfl; have hc1_1 : wq1.cell? ⟨g1, 1, none⟩ = some (.int .i64 a0_1) := (blk_cell BK1.out 1).trans rfl; have hc1_2 : wq1.cell? ⟨g1, 2, none⟩ = some (.string a0_2) := (blk_cell BK1.out 2).trans rfl; clear hg1 bk1 hb1) | ((with_reducible refine gate_dst (N := 12) rfl ?_); refine Kd.R_lit (Kd.int .u8) (w0 := w) w.heap.size 5 ?hg (N := 12) ?hd (xs := ([(IntKind.u8.wrap a0_0)] : List Int)) (inner := [.int .u8 (IntKind.u8.wrap a0_0)]) (ok := fun _ => True) (okp := fun _ => True) ?hr ?hp (fun _ hk => hk) trivial HB.out HB.out.size (by simp) ?_; (case hd => rfl); (case hg => rfl); (case hr => first | (go_simp; done) | (go_simp; rfl)); (case hp => exact (Reps.one (show Kd.M (Kd.int .u8) _ _ _ (IntKind.u8.wrap a0_0) [.int .u8 (IntKind.u8.wrap a0_0)] from rfl) (Reps.none _ _))); intro v12 wq2 ho hb hg hat; replace BK1 := Aside0.mk (blk_grown BK1.out hg (by simp)); replace HB := Aside0.mk hb; have RO := Aside0.mk ho; clear hc1_0 hc1_1 hc1_2; have hc1_0 : wq2.cell? ⟨g1, 0, none⟩ = some (.int .i64 a0_0) := (blk_cell BK1.out 0).trans rfl; have hc1_1 : wq2.cell? ⟨g1, 1, none⟩ = some (.int .i64 a0_1) := (blk_cell BK1.out 1).trans rfl; have hc1_2 : wq2.cell? ⟨g1, 2, none⟩ = some (.string a0_2) := (blk_cell BK1.out 2).trans rfl; clear ho hb hg hat) | ((go_at_call 20); (with_reducible refine (value_held.calls a0_0 a0_1 a0_2 _).mono ?_); rintro e wq3 ⟨rfl, hb0⟩; have hbb := hb0; replace BK1 := Aside0.mk (blk_below BK1.out hbb); replace HB := Aside0.mk (below_step HB.out hbb); clear hc1_0 hc1_1 hc1_2; have hc1_0 : wq3.cell? ⟨g1, 0, none⟩ = some (.int .i64 a0_0) := (blk_cell BK1.out 0).trans rfl; have hc1_1 : wq3.cell? ⟨g1, 1, none⟩ = some (.int .i64 a0_1) := (blk_cell BK1.out 1).trans rfl; have hc1_2 : wq3.cell? ⟨g1, 2, none⟩ = some (.string a0_2) := (blk_cell BK1.out 2).trans rfl; clear hbb; rw [hv]; replace RO := Aside0.mk (Kd.R_below RO.out hb0)))
    go_ret2
    exact ⟨_, rfl, Kd.R_nil _ _ _ _ _, HB.out⟩

end Go.Proofs.Ytgijidifmhccpaa.X
