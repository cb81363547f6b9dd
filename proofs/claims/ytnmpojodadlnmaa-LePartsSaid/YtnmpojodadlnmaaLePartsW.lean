/- The law LeParts: numbers that stand one behind the other are got one by one. -/
import Derived.Test.YtnmpojodadlnmaaX1
import Derived.Test.YtnmpojodadlnmaaX2
import Derived.Test.YtnmpojodadlnmaaLeLaws
import Derived.ScopeJumps
namespace Go.Proofs.Ytnmpojodadlnmaa.X
open Go.RowKit Go.Proofs.YtnmpojodadlnmaaW.PrintWords Go.Proofs.YtnmpojodadlnmaaW.PrintLast Go.Proofs.YtnmpojodadlnmaaW.PrintMore
attribute [local go_sem] max2_int min2_int max_two min_two max_three min_three max_four min_four
set_option linter.unusedVariables false
set_option linter.unusedSimpArgs false
open Go.Proofs.Ytnmpojodadlnmaa.Leb Go.Proofs.Ytnmpojodadlnmaa.LeFacts Go.Proofs.Ytnmpojodadlnmaa.LeLaws
/-- Several numbers' bytes. -/
def lebs (l : List Int) : List Int := (l.map fun x => leb x.toNat).flatten
theorem lebs_cons (x : Int) (l : List Int) : lebs (x :: l) = leb x.toNat ++ lebs l := by simp [lebs]
theorem lebs_snoc (l : List Int) (x : Int) : lebs (l ++ [x]) = lebs l ++ leb x.toNat := by simp [lebs]
theorem lebs_byt (l : List Int) : ∀ x ∈ lebs l, 0 ≤ x ∧ x < 256 := by
  induction l with
  | nil => intro x hx; simp [lebs] at hx
  | cons a r ih =>
    intro x hx
    rw [lebs_cons] at hx
    rcases List.mem_append.1 hx with h | h
    · exact leb_bytes _ x h
    · exact ih x h
theorem lebs_len (l : List Int) (h : ∀ x ∈ l, 0 ≤ x ∧ x < 18446744073709551616) : (lebs l).length ≤ l.length * 10 := by
  induction l with
  | nil => simp [lebs]
  | cons a r ih =>
    have h1 := ih (fun x hx => h x (by simp [hx]))
    have h2 := leb_len10 (n := a.toNat) (by have := h a (by simp); omega)
    rw [lebs_cons, List.length_append, List.length_cons, Nat.succ_mul]
    omega
theorem rd_mem (l : List Int) (k : Nat) (h : k < l.length) : rd l (k : Int) ∈ l := by
  unfold rd
  rw [List.getD_eq_getElem?_getD, Int.toNat_natCast, List.getElem?_eq_getElem h]
  exact List.getElem_mem _
theorem take_rd (l : List Int) (k : Nat) (h : k < l.length) : l.take (k + 1) = l.take k ++ [rd l (k : Int)] := by
  rw [List.take_succ_eq_append_getElem h]
  unfold rd
  simp [List.getD_eq_getElem?_getD, h]
theorem drop_rd (l : List Int) (k : Nat) (h : k < l.length) : l.drop k = rd l (k : Int) :: l.drop (k + 1) := by
  rw [List.drop_eq_getElem_cons h]
  unfold rd
  simp [List.getD_eq_getElem?_getD, h]
theorem put_x (x : Int) (h0 : 0 ≤ x) (h1 : x < 18446744073709551616) : le_Put.f 20 x = some (leb x.toNat) := by
  obtain ⟨m, rfl⟩ := Int.eq_ofNat_of_zero_le h0
  exact put_f m 20 (by omega) (by omega)
theorem get_x (x : Int) (h0 : 0 ≤ x) (h1 : x < 18446744073709551616) (r : List Int) (hr : ∀ y ∈ r, 0 ≤ y ∧ y < 256) : le_Get.f 20 (leb x.toNat ++ r) = some (x, ((leb x.toNat).length : Int), true) := by
  have hb : ∀ y ∈ leb x.toNat ++ r, 0 ≤ y ∧ y < 256 := fun y hy => (List.mem_append.1 hy).elim (leb_bytes _ y) (hr y)
  have hg := get_leb r x.toNat 0 0 (by omega) (by omega) (.inl rfl)
  rw [get_f _ hb 20 (by decide), hg]
  simp [castG]
  omega
set_option maxHeartbeats 8000000 in
set_option maxRecDepth 100000 in
theorem law_LeParts.calls (A0 : Option Addr) (c0 : Nat) (l0 : List Int) (w : World) (hr0 : Kd.C (Kd.int .u64) w A0 l0.length l0) (hc0 : l0.length ≤ c0) (hb0 : ∀ x ∈ l0, 0 ≤ x ∧ x < 18446744073709551616) :
    Calls Try.prog 8 #[.slice A0 l0.length c0] w fun e w' => e = .returned (.bool true) ∧ Below w.heap.size w w' := by
  have CR0 := Aside0.mk hr0
  have HC0 := Aside0.mk hc0
  have HY0 := Aside0.mk hb0
  clear hr0 hc0 hb0
  have AWF := Aside0.mk (awake_f 20 (by decide))
  have HB := Aside0.mk (Below.refl w.heap.size w)
  obtain ⟨i0, hi0, hz0, hs0, hbb0⟩ := info_parts info5
  by_cases h0 : 20 < (l0.length : Int)
  · go_enter Try.func8, Try.ntmps8
    go_wp2_with (first | ((go_at_call 11); have tk_ := AWF; clear tk_; (refine (towncrierlaw01_awake.calls 20 true _ AWF.out).mono ?_); rintro e ww ⟨rfl, hb0⟩; replace HB := Aside0.mk (below_step HB.out hb0); clear hb0 AWF))
    go_ret
    exact ⟨rfl, HB.out⟩
  go_enter Try.func8, Try.ntmps8
  go_wp2_with (first | ((go_at_call 11); have tk_ := AWF; clear tk_; (refine (towncrierlaw01_awake.calls 20 true _ AWF.out).mono ?_); rintro e ww ⟨rfl, hb0⟩; replace HB := Aside0.mk (below_step HB.out hb0); clear hb0 AWF))
  go_loopw [4, 5] (fun s4 i wr => ∃ (k : Nat) (P6 : List Int) (A6 : Option Addr) (c6 : Nat), k ≤ l0.length ∧ s4 = .slice A6 P6.length c6 ∧ i = .int .i64 k ∧ Aside0 (lebs (l0.take k) = P6) ∧ Aside0 (Kd.R (Kd.int .u8) 5 wr w.heap.size (fun _ => True) (.slice A6 P6.length c6) P6) ∧ Aside0 (Below w.heap.size w wr)) (fun _ i _ => l0.length - (intOf i).toNat)
  case atStart => exact ⟨0, [], none, 0, Nat.zero_le _, rfl, rfl, ⟨rfl⟩, ⟨Kd.R_nil _ _ _ _ _⟩, HB⟩
  case round =>
    obtain ⟨k, P6, A6, c6, hk, rfl, rfl, HP6, R6, HB⟩ := hrel
    have HL6 : Aside0 (P6.length ≤ 200) := Aside0.mk (by
      rw [← HP6.out]
      have h := lebs_len (l0.take k) (fun x hx => HY0.out x (List.mem_of_mem_take hx))
      have h2 : (l0.take k).length ≤ 20 := by rw [List.length_take]; omega
      omega)
    by_cases hlt : k < l0.length
    · obtain ⟨ad, e, hx0⟩ := Kd.at_int CR0.out (k : Int) (by omega) (by omega)
      cases e
      rw [Int.toNat_natCast] at hx0
      have htk := take_rd l0 k hlt
      have hyx := HY0.out _ (rd_mem l0 k hlt)
      obtain ⟨x, hxe⟩ : ∃ x, rd l0 (k : Int) = x := ⟨_, rfl⟩
      rw [hxe] at hx0 htk hyx
      have HX := Aside0.mk hx0
      have hx := (HB.out.cell (World.block_lt_of_cell? w _ HX.out)).trans HX.out
      obtain ⟨p, hp⟩ : ∃ p, leb x.toNat = p := ⟨_, rfl⟩
      have FP := Aside0.mk (show le_Put.f 20 x = some p by rw [← hp]; exact put_x x hyx.1 hyx.2)
      have hpl : p.length ≤ 10 := by rw [← hp]; exact leb_len10 (by omega)
      obtain ⟨Q6, hQ6⟩ : ∃ Q6, P6 ++ p = Q6 := ⟨_, rfl⟩
      have HQ6 := Aside0.mk hQ6
      have HQ7 := Aside0.mk (show lebs (l0.take (k + 1)) = Q6 by rw [htk, lebs_snoc, HP6.out, hp, hQ6])
      clear hx0 htk hyx hxe hp hQ6
      go_wp2_with (first | ((go_at_call 12); have tk_ := FP; clear tk_; (refine (le_Put.calls 20 x p _ FP.out).mono ?_); rintro e wp ⟨vp, rfl, hop, hb0⟩; replace R6 := Aside0.mk (Kd.R_below R6.out hb0); replace HB := Aside0.mk (below_step HB.out hb0); obtain ⟨Ap, cp, rfl⟩ := Kd.R_slice hop; have CP := Aside0.mk (Kd.R_reads' hop).2.2; clear hop hb0 FP) | ((with_reducible refine gate_builtin (b := .append) (xs := #[.tmp 25, .tmp 30]) rfl ?_); at_builtin; refine Kd.R_append_rows (Kd.int .u8) (w0 := w) w.heap.size rfl (.tmp 25) (.tmp 30) 23 5 (.int .u8 0) 1 rfl Try.underlying23 info5 rfl (by decide) (by omega) (.slice A6 P6.length c6) P6 p _ _ _ (fun _ => True) (fun _ => False) rfl rfl R6.out CP.out (fun _ _ h => h) (fun _ h => h.elim) (fun _ _ => trivial) HB.out HB.out.size (by have := HL6.out; omega) ?_; intro v31 w31 ho hb hg hat; rw [HQ6.out] at ho; obtain ⟨An, cn, rfl⟩ := Kd.R_slice ho; replace R6 := Aside0.mk ho; replace HB := Aside0.mk hb; clear ho hb hg hat CP))
      go_roundw
      case rel => exact ⟨k + 1, Q6, An, cn, by omega, rfl, by go_num, HQ7, R6, HB⟩
      case measure => simp [intOf]; omega
    · obtain rfl : k = l0.length := by omega
      have hP := HP6.out
      rw [List.take_length] at hP
      have CT0 := Aside0.mk (Kd.R_reads' R6.out).2.2
      have HCT0 := Aside0.mk (Kd.R_reads' R6.out).2.1
      clear HP6 R6
      go_wp2
      go_loopw [4, 6] (fun s4 i wr => ∃ (k : Nat) (T : List Int) (A4 : Option Addr) (c4 : Nat), k ≤ l0.length ∧ s4 = .slice A4 T.length c4 ∧ i = .int .i64 k ∧ Aside0 (lebs (l0.drop k) = T) ∧ Aside0 (Kd.C (Kd.int .u8) wr A4 T.length T) ∧ Aside0 (T.length ≤ c4) ∧ Aside0 (Below w.heap.size w wr)) (fun _ i _ => l0.length - (intOf i).toNat)
      case atStart => exact ⟨0, P6, A6, c6, Nat.zero_le _, rfl, rfl, ⟨hP⟩, CT0, HCT0, HB⟩
      case round =>
        obtain ⟨k, T, A4, c4, hk, rfl, rfl, HT, CT, HCT, HB⟩ := hrel
        by_cases hlt : k < l0.length
        · obtain ⟨ad, e, hx0⟩ := Kd.at_int CR0.out (k : Int) (by omega) (by omega)
          cases e
          rw [Int.toNat_natCast] at hx0
          have hdr := drop_rd l0 k hlt
          have hyx := HY0.out _ (rd_mem l0 k hlt)
          obtain ⟨x, hxe⟩ : ∃ x, rd l0 (k : Int) = x := ⟨_, rfl⟩
          rw [hxe] at hx0 hdr hyx
          have HX := Aside0.mk hx0
          have hx := (HB.out.cell (World.block_lt_of_cell? w _ HX.out)).trans HX.out
          obtain ⟨T2, hT2⟩ : ∃ T2, lebs (l0.drop (k + 1)) = T2 := ⟨_, rfl⟩
          obtain ⟨m, hm⟩ : ∃ m, (leb x.toNat).length = m := ⟨_, rfl⟩
          have hTe : leb x.toNat ++ T2 = T := by rw [← hT2, ← lebs_cons, ← hdr]; exact HT.out
          have FG := Aside0.mk (show le_Get.f 20 T = some (x, (m : Int), true) by rw [← hTe, ← hm]; exact get_x x hyx.1 hyx.2 T2 (by rw [← hT2]; exact lebs_byt _))
          have hml : m ≤ T.length := by rw [← hTe, ← hm, List.length_append]; omega
          have hml' : ¬ ((T.length : Int) < (m : Int)) := by omega
          have hdT : T.drop m = T2 := by rw [← hTe, ← hm, List.drop_left]
          obtain ⟨As, hcd, hAd, hCd⟩ := print_drop_of (P := Try.prog) (Value.int .u8) 0 23 5 .i64 Try.underlying23 hi0 hs0 A4 c4 T (m : Int) (by omega) (by omega) HCT.out
          rw [Int.toNat_natCast, hdT] at hcd hAd hCd
          have CT2 := Aside0.mk (Kd.C_of_reads (d := (0 : Int)) (h1 := fun _ => rfl) (hAd _ (Kd.reads_of_C CT.out)))
          have HCT2 := Aside0.mk hCd
          have HT2 := Aside0.mk hT2
          have hxx : (x != x) = false := by simp
          clear hx0 hdr hyx hxe hT2 hm hTe hdT hAd hCd
          go_wp2_with (first | ((go_at_call 13); have tk_ := FG; clear tk_; (refine (le_Get.calls 20 A4 c4 T x (m : Int) true _ CT.out HCT.out FG.out).mono ?_); rintro e wg ⟨rfl, hb0⟩; replace CT := Aside0.mk (Kd.C_below CT.out hb0); replace CT2 := Aside0.mk (Kd.C_below CT2.out hb0); replace HB := Aside0.mk (below_step HB.out hb0); have hx := (HB.out.cell (World.block_lt_of_cell? w _ HX.out)).trans HX.out; clear hb0 FG))
          go_roundw
          case rel => exact ⟨k + 1, T2, As, c4 - m, by omega, rfl, by go_num, HT2, CT2, HCT2, HB⟩
          case measure => simp [intOf]; omega
        · obtain rfl : k = l0.length := by omega
          have hT := HT.out
          rw [List.drop_length] at hT
          have ht0 : T.length = 0 := by rw [← hT]; rfl
          have ht1 : ((T.length : Int) == 0) = true := beq_iff_eq.mpr (by omega)
          have ht2 : (T.length == 0) = true := beq_iff_eq.mpr ht0
          clear hT ht0
          go_wp2
          go_ret
          exact ⟨by simp, HB.out⟩
end Go.Proofs.Ytnmpojodadlnmaa.X
