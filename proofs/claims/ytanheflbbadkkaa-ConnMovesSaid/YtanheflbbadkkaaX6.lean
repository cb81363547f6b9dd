/- Functions of the translation as plain Lean functions, and proofs that the calls come to what these say. No condition. Written by a program of this session (wip/xprint.py); not trusted: Lean checks it. -/
import Derived.Test.YtanheflbbadkkaaX0
namespace Go.Proofs.Ytanheflbbadkkaa.X
open Go.RowKit Go.Proofs.YtanheflbbadkkaaW.PrintWords Go.Proofs.YtanheflbbadkkaaW.PrintLast Go.Proofs.YtanheflbbadkkaaW.PrintMore
attribute [local go_sem] max2_int min2_int max_two min_two max_three min_three max_four min_four   -- for this text's walks alone
set_option linter.unusedVariables false
set_option linter.unusedSimpArgs false

/-! ### crc_Next: function 35 -/
def zcT : Array Value := Array.replicate 256 (.int .u32 0)
def zcK : Array Value := Array.replicate 256 (.bool false)
theorem zeroT (w : World) : (zeroValue 64).run Try.prog w = .ok (.agg zcT) w := by kernel_rfl
theorem zeroK (w : World) : (zeroValue 65).run Try.prog w = .ok (.agg zcK) w := by kernel_rfl
theorem zcT_ne : ¬ zcT = #[] := by intro h; have := congrArg Array.size h; simp [zcT] at this
theorem zcK_ne : ¬ zcK = #[] := by intro h; have := congrArg Array.size h; simp [zcK] at this
/-- One step, as the walk has it. -/
def stepI (x : Int) : Int := Go.bits .xor .u32 (x / 2) (Go.bits .and .u32 3988292384 ((-(Go.bits .and .u32 x 1)) % 4294967296))
def stepsI : Nat → Int → Int
  | 0, x => x
  | k + 1, x => stepI (stepsI k x)
set_option maxRecDepth 100000 in
theorem look_known (c : Int) (bk bt : Nat) (t : Int) (w : World) (hc : 0 ≤ c) (hc2 : c < 256) (h1 : w.cell? ⟨bk, c.toNat, none⟩ = some (.bool true)) (h2 : w.cell? ⟨bt, c.toNat, none⟩ = some (.int .u32 t)) :
    Calls Try.prog 42 #[.int .u8 c, .pointer (some ⟨bk, 0, none⟩), .pointer (some ⟨bt, 0, none⟩)] w fun e w' => e = .returned (.int .u32 t) ∧ w = w' := by
  go_enter Try.func42, Try.ntmps42
  go_wp2
  go_ret
  exact ⟨rfl, rfl⟩
set_option maxRecDepth 100000 in
theorem look_new (c : Int) (bk bt : Nat) (t : Int) (w : World) (hc : 0 ≤ c) (hc2 : c < 256) (hne : bk ≠ bt) (h1 : w.cell? ⟨bk, c.toNat, none⟩ = some (.bool false)) (h2 : w.cell? ⟨bt, c.toNat, none⟩ = some (.int .u32 t))
    (f1 : w.frozen? ⟨bk, c.toNat, none⟩ = false) (f2 : w.frozen? ⟨bt, c.toNat, none⟩ = false) :
    Calls Try.prog 42 #[.int .u8 c, .pointer (some ⟨bk, 0, none⟩), .pointer (some ⟨bt, 0, none⟩)] w fun e w' => e = .returned (.int .u32 (stepsI 8 c)) ∧ w' = (w.setCell ⟨bt, c.toNat, none⟩ (.int .u32 (stepsI 8 c))).setCell ⟨bk, c.toNat, none⟩ (.bool true) := by
  go_enter Try.func42, Try.ntmps42
  go_wp2
  go_loop [5, 12] (fun x i => ∃ k : Nat, k ≤ 8 ∧ i = .int .i64 k ∧ x = .int .u32 (stepsI k c)) (fun _ i => 8 - (intOf i).toNat)
  case atStart => exact ⟨0, Nat.zero_le _, rfl, rfl⟩
  case round =>
    obtain ⟨k, hk, rfl, rfl⟩ := hrel
    by_cases hlt : k < 8
    · go_wp2
      go_round
      case rel => exact ⟨k + 1, by omega, by go_num, by simp [stepsI, stepI]⟩
      case measure => simp [intOf]; omega
    · obtain rfl : k = 8 := by omega
      go_wp2
      go_ret
      exact ⟨rfl, rfl⟩
/-- The two tables of a closure: what is known is right. -/
def TabOk (w : World) (bt bk : Nat) : Prop := bk ≠ bt ∧ ∀ i : Nat, i < 256 → w.frozen? ⟨bk, i, none⟩ = false ∧ w.frozen? ⟨bt, i, none⟩ = false ∧ ∃ (b : Bool) (t : Int), w.cell? ⟨bk, i, none⟩ = some (.bool b) ∧ w.cell? ⟨bt, i, none⟩ = some (.int .u32 t) ∧ (b = true → t = stepsI 8 i)
theorem TabOk.below {w w' : World} {bt bk : Nat} (h : TabOk w bt bk) (hb : Below w.heap.size w w') (h1 : bt < w.heap.size) (h2 : bk < w.heap.size) : TabOk w' bt bk :=
  ⟨h.1, fun i hi => by
    obtain ⟨f1, f2, b, t, h3, h4, h5⟩ := h.2 i hi
    exact ⟨(hb.frozen (p := ⟨bk, i, none⟩) h2).trans f1, (hb.frozen (p := ⟨bt, i, none⟩) h1).trans f2, b, t, (hb.cell (p := ⟨bk, i, none⟩) h2).trans h3, (hb.cell (p := ⟨bt, i, none⟩) h1).trans h4, h5⟩⟩
theorem look_any (c : Int) (bk bt B : Nat) (w : World) (hc : 0 ≤ c) (hc2 : c < 256) (ht : TabOk w bt bk) (h1 : B ≤ bt) (h2 : B ≤ bk) :
    Calls Try.prog 42 #[.int .u8 c, .pointer (some ⟨bk, 0, none⟩), .pointer (some ⟨bt, 0, none⟩)] w fun e w' => e = .returned (.int .u32 (stepsI 8 c)) ∧ TabOk w' bt bk ∧ Below B w w' ∧ w'.heap.size = w.heap.size := by
  obtain ⟨f1, f2, b, t, c1, c2, hb⟩ := ht.2 c.toNat (by omega)
  have hcc : ((c.toNat : Nat) : Int) = c := by omega
  cases b with
  | true =>
    refine (look_known c bk bt t w hc hc2 c1 c2).mono ?_
    rintro e w' ⟨rfl, rfl⟩
    exact ⟨by rw [hb rfl, hcc], ht, Below.refl _ _, rfl⟩
  | false =>
    refine (look_new c bk bt t w hc hc2 ht.1 c1 c2 f1 f2).mono ?_
    rintro e w' ⟨rfl, rfl⟩
    refine ⟨rfl, ⟨ht.1, fun i hi => ?_⟩, ((Below.refl _ _).setCell h1 _).setCell h2 _, by simp [World.setCell]⟩
    obtain ⟨g1, g2, b', t', d1, d2, hb'⟩ := ht.2 i hi
    refine ⟨by simpa using g1, by simpa using g2, ?_⟩
    have hne := ht.1
    by_cases hi2 : i = c.toNat
    · subst hi2
      refine ⟨true, stepsI 8 c, ?_, ?_, fun _ => by rw [hcc]⟩
      · obtain ⟨v', hv'⟩ := cell?_setCell_some (w := w) (p := ⟨bt, c.toNat, none⟩) (x := .int .u32 (stepsI 8 c)) (q := ⟨bk, c.toNat, none⟩) (v := .bool false) c1
        exact World.cell?_setCell_same _ _ _ hv'
      · rw [World.cell?_setCell_other _ _ _ _ (by intro h; injection h with h3; exact hne h3)]
        exact World.cell?_setCell_same _ _ _ c2
    · refine ⟨b', t', ?_, ?_, hb'⟩
      · rw [World.cell?_setCell_other _ _ _ _ (by intro h; injection h with _ h3; exact hi2 h3.symm), World.cell?_setCell_other _ _ _ _ (by intro h; injection h with h3; exact hne h3.symm)]
        exact d1
      · rw [World.cell?_setCell_other _ _ _ _ (by intro h; injection h with h3; exact hne h3), World.cell?_setCell_other _ _ _ _ (by intro h; injection h with _ h3; exact hi2 h3.symm)]
        exact d2
set_option maxRecDepth 100000 in
theorem steps_calls (w : World) : Calls Try.prog 40 #[] w fun e w' => e = .returned (.func (Fn.func 42) #[] #[.pointer (some ⟨w.heap.size + 1, 0, none⟩), .pointer (some ⟨w.heap.size, 0, none⟩)]) ∧
    w' = (w.alloc (.cells zcT 64)).alloc (.cells zcK 65) := by
  have h1 := zeroT
  have h2 := zeroK
  have h3 := zcT_ne
  have h4 := zcK_ne
  go_enter Try.func40, Try.ntmps40
  go_wp2
  go_ret
  exact ⟨rfl, rfl⟩
theorem tab_start (w : World) (t1 t2 : TypeId) : TabOk ((w.alloc (.cells zcT t1)).alloc (.cells zcK t2)) w.heap.size (w.heap.size + 1) := by
  have b1 : ((w.alloc (.cells zcT t1)).alloc (.cells zcK t2)).heap[w.heap.size + 1]? = some (.cells zcK t2 (0, 0)) := by
    have := heap_alloc_new (w.alloc (.cells zcT t1)) (.cells zcK t2)
    simpa using this
  have b2 : ((w.alloc (.cells zcT t1)).alloc (.cells zcK t2)).heap[w.heap.size]? = some (.cells zcT t1 (0, 0)) := by
    rw [Below.heap_alloc _ _ _ (by simp)]
    exact heap_alloc_new w _
  refine ⟨by omega, fun i hi => ⟨blk_frozen b1 i, blk_frozen b2 i, false, 0, ?_, ?_, fun h => by cases h⟩⟩
  · rw [blk_cell b1 i]; simp [zcK, hi]
  · rw [blk_cell b2 i]; simp [zcT, hi]
/-- The state behind bytes, as the walk has it. -/
def crcI : List Int → Int → Int
  | [], x => x
  | c :: r, x => crcI r (Go.bits .xor .u32 (stepsI 8 (Go.bits .xor .u8 (x % 256) c)) (x / 256))
theorem crcI_snoc (l : List Int) (c x : Int) : crcI (l ++ [c]) x = Go.bits .xor .u32 (stepsI 8 (Go.bits .xor .u8 (crcI l x % 256) c)) (crcI l x / 256) := by
  induction l generalizing x with
  | nil => rfl
  | cons d r ih => exact ih _
theorem take_rd (l : List Int) (k : Nat) (h : k < l.length) : l.take (k + 1) = l.take k ++ [rd l (k : Int)] := by
  rw [List.take_succ_eq_append_getElem h]
  unfold rd
  simp [List.getD_eq_getElem?_getD, h]
theorem u8_wrap (n : Int) : 0 ≤ IntKind.u8.wrap n ∧ IntKind.u8.wrap n < 256 := by
  rw [IntKind.wrap_u8]; omega
theorem xor8_range (a b : Int) : 0 ≤ Go.bits .xor .u8 a b ∧ Go.bits .xor .u8 a b < 256 := u8_wrap _
def crc_Next.f (a0 : Int) (l1 : List Int) : Option Int := if l1.length < 140737488355328 then some (Go.bits .xor .u32 IntKind.u32.max (crcI l1 (Go.bits .xor .u32 IntKind.u32.max a0))) else none
set_option maxRecDepth 100000 in
theorem crc_Next.calls (a0 : Int) (A1 : Option Addr) (c1 : Nat) (l1 : List Int) (r : Int) (w : World) (hr1 : Kd.C (Kd.int .u8) w A1 l1.length l1) (hc1 : l1.length ≤ c1) (h : crc_Next.f a0 l1 = some r) :
    Calls Try.prog 35 #[.int .u32 a0, .slice A1 l1.length c1] w fun e w' => e = .returned (.int .u32 r) ∧ Below w.heap.size w w' := by
  have hlen : l1.length < 140737488355328 := by
    unfold crc_Next.f at h
    by_cases hl : l1.length < 140737488355328
    · exact hl
    · rw [if_neg hl] at h; cases h
  unfold crc_Next.f at h
  rw [if_pos hlen] at h
  obtain rfl := Option.some.inj h
  clear h
  have ht := Aside0.mk (tab_start w 64 65)
  have hB := Aside0.mk (((Below.refl w.heap.size w).alloc (Nat.le_refl _) (.cells zcT 64)).alloc (by simp) (.cells zcK 65))
  go_enter Try.func35, Try.ntmps35
  go_wp2_with (go_at_call 40; refine (steps_calls _).mono ?_; rintro e w' ⟨rfl, rfl⟩)
  go_loopw [6, 14] (fun x i wr => ∃ k : Nat, k ≤ l1.length ∧ i = .int .i64 k ∧ x = .int .u32 (crcI (l1.take k) (Go.bits .xor .u32 IntKind.u32.max a0)) ∧ Aside0 (TabOk wr w.heap.size (w.heap.size + 1)) ∧ Aside0 (Below w.heap.size w wr))
    (fun _ i _ => l1.length - (intOf i).toNat)
  case atStart => exact ⟨0, Nat.zero_le _, rfl, rfl, ht, hB⟩
  case round =>
    obtain ⟨k, hk, rfl, rfl, ht, hB⟩ := hrel
    by_cases hlt : k < l1.length
    · obtain ⟨ad, e, hx⟩ := Kd.at_int hr1 (k : Int) (by omega) (by omega)
      cases e
      replace hx := (hB.out.cell (World.block_lt_of_cell? w _ hx)).trans hx
      rw [Int.toNat_natCast] at hx
      obtain ⟨x, hxe⟩ : ∃ x, x = crcI (l1.take k) (Go.bits .xor .u32 IntKind.u32.max a0) := ⟨_, rfl⟩
      have hxs := Aside0.mk hxe
      rw [← hxe]
      clear hxe
      go_wp2_with (go_at_call 42; refine (look_any _ _ _ w.heap.size _ (xor8_range _ _).1 (xor8_range _ _).2 ht.out (Nat.le_refl _) (Nat.le_succ _)).mono ?_; rintro e w2 ⟨rfl, ht2, hb2, hs2⟩)
      go_roundw
      case rel => exact ⟨k + 1, by omega, by go_num, by rw [take_rd l1 k hlt, crcI_snoc, ← hxs.out], ⟨ht2⟩, ⟨hB.out.trans hb2⟩⟩
      case measure => simp [intOf]; omega
    · obtain rfl : k = l1.length := by omega
      go_wp2
      go_ret
      exact ⟨by simp only [List.take_length]; rfl, hB.out⟩

end Go.Proofs.Ytanheflbbadkkaa.X
