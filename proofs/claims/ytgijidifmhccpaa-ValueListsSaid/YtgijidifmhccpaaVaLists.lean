/- The law ValueLists: values that stand one behind the other are got one by one, as they are. -/
import Derived.Test.YtgijidifmhccpaaVaLaws
import Derived.Test.YtgijidifmhccpaaX5
import Derived.Test.YtgijidifmhccpaaX9
import Derived.Test.YtgijidifmhccpaaX1
import Derived.Deep.QuietTactic
import Derived.BigQuiet
namespace Go.Proofs.Ytgijidifmhccpaa.X
open Go.RowKit Go.Proofs.YtgijidifmhccpaaW.PrintWords Go.Proofs.YtgijidifmhccpaaW.PrintLast Go.Proofs.YtgijidifmhccpaaW.PrintMore
attribute [local go_sem] max2_int min2_int max_two min_two max_three min_three max_four min_four
set_option linter.unusedVariables false
set_option linter.unusedSimpArgs false
attribute [local go_sem high] eqA23
open Go.Proofs.Ytgijidifmhccpaa.Va
def VRow (w : World) (A : Option Addr) (l : List (Int × Int × ByteArray)) : Prop := ∀ (i : Nat) (x : Int × Int × ByteArray), l[i]? = some x → ∃ ad, A = some ad ∧ w.cell? (ad.add (i * 3)) = some (.int .i64 x.1) ∧ w.cell? { block := (ad.add (i * 3)).block, off := (ad.add (i * 3)).off + 1 } = some (.int .i64 x.2.1) ∧ w.cell? { block := (ad.add (i * 3)).block, off := (ad.add (i * 3)).off + 2 } = some (.string x.2.2)
def vbs (l : List (Int × Int × ByteArray)) : List Int := (l.map fun x => vb x.1 x.2.1 x.2.2).flatten
theorem vbs_snoc (l : List (Int × Int × ByteArray)) (k : Nat) (x : Int × Int × ByteArray) (h : l[k]? = some x) : vbs (l.take (k + 1)) = vbs (l.take k) ++ vb x.1 x.2.1 x.2.2 := by
  obtain ⟨hk, hx⟩ := List.getElem?_eq_some_iff.1 h
  rw [List.take_succ_eq_append_getElem hk, hx]
  simp [vbs]
theorem vbs_cons (l : List (Int × Int × ByteArray)) (k : Nat) (x : Int × Int × ByteArray) (h : l[k]? = some x) : vbs (l.drop k) = vb x.1 x.2.1 x.2.2 ++ vbs (l.drop (k + 1)) := by
  obtain ⟨hk, hx⟩ := List.getElem?_eq_some_iff.1 h
  rw [List.drop_eq_getElem_cons hk, hx]
  simp [vbs]
theorem vbs_facts : ∀ (l : List (Int × Int × ByteArray)), (∀ x ∈ l, (In64 x.1 ∧ In64 x.2.1) ∧ Ok x.1 x.2.1 x.2.2) → (vbs l).length ≤ 51 * l.length ∧ Byt (vbs l)
  | [], _ => ⟨by simp [vbs], fun x hx => by simp [vbs] at hx⟩
  | x :: l, h => by
    obtain ⟨h1, h2⟩ := vbs_facts l (fun y hy => h y (List.mem_cons_of_mem _ hy))
    obtain ⟨hw, ho⟩ := h x (List.mem_cons_self ..)
    have h3 := vb_len hw.2 ho
    have e : vbs (x :: l) = vb x.1 x.2.1 x.2.2 ++ vbs l := by simp [vbs]
    rw [e]
    refine ⟨by rw [List.length_append, List.length_cons]; omega, (vb_byt hw.2 ho).append h2⟩
theorem ok_size {k n : Int} {s : ByteArray} (h : Ok k n s) : s.size ≤ 100 := by
  rcases h with ⟨_, rfl⟩ | ⟨_, rfl, _⟩ | ⟨_, _, h⟩ | ⟨_, rfl, _⟩
  · exact Nat.zero_le _
  · exact Nat.zero_le _
  · omega
  · exact Nat.zero_le _
set_option maxHeartbeats 8000000 in
set_option maxRecDepth 100000 in
theorem law_ValueLists.calls (A0 : Option Addr) (c0 : Nat) (l0 : List (Int × Int × ByteArray)) (w : World) (hr0 : VRow w A0 l0) (hc0 : l0.length ≤ c0) (hw0 : ∀ x ∈ l0, In64 x.1 ∧ In64 x.2.1) :
    Calls Try.prog 7 #[.slice A0 l0.length c0] w fun e w' => e = .returned (.bool true) ∧ Below w.heap.size w w' := by
  have HR0 := Aside0.mk hr0
  have HC0 := Aside0.mk hc0
  have HW0 := Aside0.mk hw0
  clear hr0 hc0 hw0
  have hu23 := Try.underlying23
  have AWF := Aside0.mk awake_f
  have HB := Aside0.mk (Below.refl w.heap.size w)
  obtain ⟨i0, hi0, _, hsz0, _⟩ := info_parts info5
  by_cases h0 : 10 < (l0.length : Int)
  · go_enter Try.func7, Try.ntmps7
    go_wp2_with (first | ((go_at_call 10); (refine (towncrierlaw04_awake.calls 40 true _ AWF.out).mono ?_); rintro e w_ ⟨rfl, hb0⟩; replace HB := Aside0.mk (below_step HB.out (hb0)); clear hb0))
    go_ret
    exact ⟨rfl, HB.out⟩
  go_enter Try.func7, Try.ntmps7
  go_wp2_with (first | ((go_at_call 10); (refine (towncrierlaw04_awake.calls 40 true _ AWF.out).mono ?_); rintro e w_ ⟨rfl, hb0⟩; replace HB := Aside0.mk (below_step HB.out (hb0)); clear hb0))
  go_loopw [4, 5] (fun s4 i wr => ∃ (k : Nat) (W : World) (P4 : List Int) (A4 : Option Addr) (c4 : Nat), k ≤ l0.length ∧ W = wr ∧ s4 = .slice A4 P4.length c4 ∧ i = .int .i64 k ∧ Aside0 (vbs (l0.take k) = P4) ∧ Aside0 (Kd.R (Kd.int .u8) 5 W w.heap.size (fun _ => True) (.slice A4 P4.length c4) P4) ∧ Aside0 (∀ x ∈ l0.take k, Ok x.1 x.2.1 x.2.2) ∧ Aside0 (Below w.heap.size w W)) (fun _ i _ => l0.length - (intOf i).toNat)
  case atStart => exact ⟨0, _, [], none, 0, Nat.zero_le _, rfl, rfl, rfl, ⟨rfl⟩, ⟨Kd.R_nil _ _ _ _ _⟩, ⟨by simp⟩, HB⟩
  case round =>
    clear HB
    obtain ⟨k, W, P4, A4, c4, hk, rfl, rfl, rfl, HP4, R4, HOK, HB⟩ := hrel
    by_cases hlt : k < l0.length
    · obtain ⟨⟨a, b, s⟩, hxe⟩ : ∃ x, l0[k]? = some x := ⟨l0[k], List.getElem?_eq_getElem hlt⟩
      obtain ⟨ad, e, hx0, hx1, hx2⟩ := HR0.out k _ hxe
      cases e
      have hmem : (a, b, s) ∈ l0 := List.mem_of_getElem? hxe
      have hin := HW0.out _ hmem
      replace hx0 := (HB.out.cell (World.block_lt_of_cell? w _ hx0)).trans hx0
      replace hx1 := (HB.out.cell (World.block_lt_of_cell? w _ hx1)).trans hx1
      replace hx2 := (HB.out.cell (World.block_lt_of_cell? w _ hx2)).trans hx2
      simp only at hx0 hx1 hx2 hin
      by_cases ho : Ok a b s
      · have FP := Aside0.mk (vput_ok 40 (by decide) a b s hin.2 ho)
        have hs100 : ¬ (100 < (s.size : Int)) := by have := ok_size ho; omega
        have hl4 : P4.length ≤ 600 := by
          rw [← HP4.out]
          have := (vbs_facts (l0.take k) (fun x hx => ⟨HW0.out x (List.mem_of_mem_take hx), HOK.out x hx⟩)).1
          rw [List.length_take] at this
          omega
        obtain ⟨p, hp⟩ : ∃ p, vb a b s = p := ⟨_, rfl⟩
        have hpl := (vb_len hin.2 ho).2
        have HP5 := Aside0.mk (vbs_snoc l0 k _ hxe)
        obtain ⟨Q, hQ⟩ : ∃ Q, P4 ++ p = Q := ⟨_, rfl⟩
        have HQ := Aside0.mk hQ
        have HQ5 := Aside0.mk (show vbs (l0.take (k + 1)) = Q by rw [HP5.out, HP4.out, ← hQ, ← hp])
        have HOK2 := Aside0.mk (show ∀ x ∈ l0.take (k + 1), Ok x.1 x.2.1 x.2.2 by
          intro x hx
          obtain ⟨hk', hx'⟩ := List.getElem?_eq_some_iff.1 hxe
          rw [List.take_succ_eq_append_getElem hk', List.mem_append, List.mem_singleton, hx'] at hx
          rcases hx with hx | rfl
          · exact HOK.out x hx
          · exact ho)
        rw [hp] at FP hpl
        clear hp hQ ho hin hmem hxe HP5 HP4
        go_wp2_with (first | ((go_at_call 12); (refine (value_Put.calls 40 a b s p true _ FP.out).mono ?_); rintro e w5 ⟨vp, rfl, hop, hb0⟩; replace HB := Aside0.mk (below_step HB.out hb0); replace R4 := Aside0.mk (Kd.R_below R4.out hb0); replace hx0 := (hb0.cell (World.block_lt_of_cell? _ _ hx0)).trans hx0; replace hx1 := (hb0.cell (World.block_lt_of_cell? _ _ hx1)).trans hx1; replace hx2 := (hb0.cell (World.block_lt_of_cell? _ _ hx2)).trans hx2; obtain ⟨Ap, cp, rfl⟩ := Kd.R_slice hop; have CP := Aside0.mk (Kd.R_reads' hop).2.2; clear hop hb0) | ((with_reducible refine gate_builtin (b := .append) (xs := #[.tmp 46, .tmp 47]) rfl ?_); at_builtin; refine Kd.R_append_rows (Kd.int .u8) (w0 := w) w.heap.size rfl (.tmp 46) (.tmp 47) 24 5 (.int .u8 0) 1 rfl Try.underlying24 info5 rfl (by decide) (by omega) (.slice A4 P4.length c4) P4 p _ _ _ (fun _ => True) (fun _ => False) rfl rfl R4.out CP.out (fun _ _ h => h) (fun _ h => h.elim) (fun _ _ => trivial) HB.out HB.out.size (by omega) ?_; intro v62 w62 ho hb hg hat; rw [HQ.out] at ho; obtain ⟨An, cn, rfl⟩ := Kd.R_slice ho; replace R4 := Aside0.mk ho; replace HB := Aside0.mk hb; clear ho hb hg hat CP hx0 hx1 hx2))
        go_roundw
        case rel => exact ⟨k + 1, _, Q, An, cn, by omega, rfl, rfl, by go_num, HQ5, R4, HOK2, HB⟩
        case measure => simp [intOf]; omega
      · have FP := Aside0.mk (vput_no 40 a b s hin.2 ho)
        clear ho hin hmem hxe
        go_wp2_with (first | ((go_at_call 12); (refine (value_Put.calls 40 a b s [] false _ FP.out).mono ?_); rintro e w5 ⟨vp, rfl, hop, hb0⟩; replace HB := Aside0.mk (below_step HB.out hb0); replace R4 := Aside0.mk (Kd.R_below R4.out hb0); replace hx0 := (hb0.cell (World.block_lt_of_cell? _ _ hx0)).trans hx0; replace hx1 := (hb0.cell (World.block_lt_of_cell? _ _ hx1)).trans hx1; replace hx2 := (hb0.cell (World.block_lt_of_cell? _ _ hx2)).trans hx2; obtain ⟨Ap, cp, rfl⟩ := Kd.R_slice hop; have CP := Aside0.mk (Kd.R_reads' hop).2.2; clear hop hb0))
        go_ret
        exact ⟨rfl, HB.out⟩
    · obtain rfl : k = l0.length := by omega
      have hOK := HOK.out
      have hP4 := HP4.out
      rw [List.take_length] at hOK hP4
      have HF := Aside0.mk (fun x hx => (⟨HW0.out x hx, hOK x hx⟩ : (In64 x.1 ∧ In64 x.2.1) ∧ Ok x.1 x.2.1 x.2.2))
      have HP := Aside0.mk hP4
      have CR := Aside0.mk (Kd.R_reads' R4.out).2.2
      have CRc := Aside0.mk (Kd.R_reads' R4.out).2.1
      clear HOK HP4 R4 hOK hP4
      go_wp2_with (fail)
      go_loopw [4, 8] (fun s4 i wr => ∃ (k : Nat) (W : World) (P4 : List Int) (A4 : Option Addr) (c4 : Nat), k ≤ l0.length ∧ W = wr ∧ s4 = .slice A4 P4.length c4 ∧ i = .int .i64 k ∧ Aside0 (vbs (l0.drop k) = P4) ∧ Aside0 (Kd.C (Kd.int .u8) W A4 P4.length P4) ∧ Aside0 (P4.length ≤ c4) ∧ Aside0 (Below w.heap.size w W)) (fun _ i _ => l0.length - (intOf i).toNat)
      case atStart => exact ⟨0, _, P4, A4, c4, Nat.zero_le _, rfl, rfl, rfl, HP, CR, CRc, HB⟩
      case round =>
        clear HB CR CRc HP
        obtain ⟨k, W, P4, A4, c4, hk, rfl, rfl, rfl, HP, CR, CRc, HB⟩ := hrel
        by_cases hlt : k < l0.length
        · obtain ⟨⟨a, b, s⟩, hxe⟩ : ∃ x, l0[k]? = some x := ⟨l0[k], List.getElem?_eq_getElem hlt⟩
          obtain ⟨ad, e, hx0, hx1, hx2⟩ := HR0.out k _ hxe
          cases e
          have hmem : (a, b, s) ∈ l0 := List.mem_of_getElem? hxe
          obtain ⟨hin, ho⟩ := HF.out _ hmem
          replace hx0 := (HB.out.cell (World.block_lt_of_cell? w _ hx0)).trans hx0
          replace hx1 := (HB.out.cell (World.block_lt_of_cell? w _ hx1)).trans hx1
          replace hx2 := (HB.out.cell (World.block_lt_of_cell? w _ hx2)).trans hx2
          simp only at hx0 hx1 hx2 hin ho
          have hfa := vbs_facts (l0.drop k) (fun x hx => HF.out x (List.mem_of_mem_drop hx))
          rw [HP.out, List.length_drop] at hfa
          have hpv := (vbs_cons l0 k _ hxe)
          rw [HP.out] at hpv
          simp only at hpv
          obtain ⟨p, hp⟩ : ∃ p, vb a b s = p := ⟨_, rfl⟩
          obtain ⟨q, hq⟩ : ∃ q, vbs (l0.drop (k + 1)) = q := ⟨_, rfl⟩
          have FG := Aside0.mk (show value_Get.f 40 P4 = some (a, b, s, (p.length : Int), true) by rw [vget_f 40 (by decide) P4 hfa.2 (by omega), hpv, g_vb a b s hin.2 ho, hp])
          rw [hp, hq] at hpv
          have hpl : P4.length = p.length + q.length := by rw [hpv, List.length_append]
          have HQ := Aside0.mk hq
          have hl600 : P4.length ≤ 600 := by omega
          obtain ⟨A5, hA5⟩ : ∃ Av, (if c4 = p.length then A4 else A4.map (·.add (p.length * 1))) = Av := ⟨_, rfl⟩
          obtain ⟨c5, hc5⟩ : ∃ cv, c4 - p.length = cv := ⟨_, rfl⟩
          have hcut : ∀ W : World, (Instr.slice 24 (.slice A4 P4.length c4) (some (.int .i64 (p.length : Int))) none none).run Try.prog W = .ok (.slice A5 q.length c5) W := fun W => by
            rw [cut_from (P := Try.prog) 24 5 .i64 Try.underlying24 hi0 1 hsz0 A4 P4.length c4 (p.length : Int) (by omega) (by omega) W, Int.toNat_natCast, hA5, hc5, show P4.length - p.length = q.length by omega]
          have CV := Aside0.mk (fun W => fun (h : Kd.C (Kd.int .u8) W A4 P4.length P4) => (by
            have := Kd.C_drop (m := p.length) (c := c4) h (by omega) CRc.out
            rw [show P4.drop p.length = q by rw [hpv, List.drop_left]] at this
            rw [← hA5]
            exact this : Kd.C (Kd.int .u8) W A5 q.length q))
          have CVc := Aside0.mk (show q.length ≤ c5 by have := CRc.out; omega)
          have hnp : ¬ ((P4.length : Int) < (p.length : Int)) := by omega
          have q0 : (0 : Int) ≤ (k : Int) := by omega
          have q1 : (k : Int) < (l0.length : Int) := by omega
          clear hp hq hA5 hc5 hpv hfa hin ho hmem hxe hpl
          go_upto_region 16 with (first | ((go_at_call 14); (refine (value_Get.calls 40 A4 c4 P4 a b s (p.length : Int) true _ CR.out CRc.out FG.out).mono ?_); rintro e w5 ⟨rfl, hb0⟩; replace HB := Aside0.mk (below_step HB.out hb0); replace CR := Aside0.mk (Kd.C_below CR.out hb0); replace hx0 := (hb0.cell (World.block_lt_of_cell? _ _ hx0)).trans hx0; replace hx1 := (hb0.cell (World.block_lt_of_cell? _ _ hx1)).trans hx1; replace hx2 := (hb0.cell (World.block_lt_of_cell? _ _ hx2)).trans hx2; clear hb0) | ((with_reducible refine gate_dst (N := 9) rfl ?_); refine box_event ?hg (N := 9) ?hd (cs := #[.int .i64 0, .int .i64 0, .string ⟨#[]⟩]) (t := 23) ?hr ?_; (case hd => rfl); (case hg => rfl); (case hr => first | (go_simp; done) | (go_simp; rfl)); intro g9 hg9 w6 bk9 hb9; have G9 := Aside0.mk (Nat.le_of_eq hg9.symm); have BK9 := Aside0.mk bk9; have HB9 := Aside0.mk hb9; clear hg9 bk9 hb9) | ((with_reducible refine gate_store (t := 23) (p := 9) rfl ?_); refine seg_ev rfl rfl 23 (.tmp 9) _ rfl (g := g9) (j := 0) (seg := [.int .i64 a, .int .i64 b, .string s]) (cs' := #[.int .i64 a, .int .i64 b, .string s]) rfl rfl rfl BK9.out (by kernel_rfl) (by simp) (by intro q hq; simp only [List.mem_cons, List.not_mem_nil, or_false] at hq; rcases hq with rfl | rfl | rfl <;> rfl) rfl ?_; intro w7 hk hz ho; have hzz := hz _ G9.out HB9.out; replace HB := Aside0.mk (below_step HB.out hzz); replace CR := Aside0.mk (Kd.C_below CR.out hzz); replace hx0 := (hzz.cell (World.block_lt_of_cell? _ _ hx0)).trans hx0; replace hx1 := (hzz.cell (World.block_lt_of_cell? _ _ hx1)).trans hx1; replace hx2 := (hzz.cell (World.block_lt_of_cell? _ _ hx2)).trans hx2; replace BK9 := Aside0.mk hk; have hc9_0 := (blk_cell BK9.out 0).trans (rfl : _ = some (Value.int .i64 a)); have hc9_1 := (blk_cell BK9.out 1).trans (rfl : _ = some (Value.int .i64 b)); have hc9_2 := (blk_cell BK9.out 2).trans (rfl : _ = some (Value.string s)); clear hk hz ho hzz HB9))
          go_quiet (fail)
          obtain ⟨w8, hw8⟩ : ∃ z, z = w7.drewN nq := ⟨_, rfl⟩
          have hbq : Below w7.heap.size w7 w8 := hw8 ▸ pw_below_drewN (Below.refl _ _) nq
          rw [← hw8]
          replace CR := Aside0.mk (Kd.C_below CR.out hbq)
          replace HB := Aside0.mk (below_step HB.out hbq)
          clear hbq hw8 hx0 hx1 hx2 hc9_0 hc9_1 hc9_2
          go_wp2_with (fail)
          go_roundw
          case rel => exact ⟨k + 1, _, q, A5, c5, by omega, rfl, rfl, by go_num, HQ, ⟨CV.out _ CR.out⟩, CVc, HB⟩
          case measure => simp [intOf]; omega
        · obtain rfl : k = l0.length := by omega
          have hP := HP.out
          rw [List.drop_length] at hP
          obtain rfl : [] = P4 := hP
          go_wp2_with (fail)
          go_ret
          exact ⟨by simp, HB.out⟩
end Go.Proofs.Ytgijidifmhccpaa.X
