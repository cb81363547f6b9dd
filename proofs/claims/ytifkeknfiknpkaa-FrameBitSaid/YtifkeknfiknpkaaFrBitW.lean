/- The law FrameBit, walked. -/
import Derived.Test.YtifkeknfiknpkaaFrBase
import Derived.Test.YtifkeknfiknpkaaFrAwake
import Derived.Test.YtifkeknfiknpkaaFrBit
import Derived.Test.YtifkeknfiknpkaaCrcLaws
namespace Go.Proofs.Ytifkeknfiknpkaa.X
open Go.RowKit Go.Proofs.YtifkeknfiknpkaaW.PrintWords Go.Proofs.YtifkeknfiknpkaaW.PrintLast Go.Proofs.YtifkeknfiknpkaaW.PrintMore
attribute [local go_sem] max2_int min2_int max_two min_two max_three min_three max_four min_four
set_option linter.unusedVariables false
set_option linter.unusedSimpArgs false
open Go.Proofs.Ytifkeknfiknpkaa.Fr Go.Proofs.Ytifkeknfiknpkaa.CrcLaws
set_option maxHeartbeats 8000000 in
set_option maxRecDepth 100000 in
theorem towncrierlaw03_FrameBit.calls (A0 : Option Addr) (c0 : Nat) (l0 : List Int) (a1 : Int) (a2 : Int) (w : World) (hr0 : Kd.C (Kd.int .u8) w A0 l0.length l0) (hc0 : l0.length ≤ c0) (hb0 : Byt l0) (hw1 : (Lit.int .i64 a1).wf = true) (hw2 : (Lit.int .u8 a2).wf = true) : Calls Try.prog 12 #[.slice A0 l0.length c0, .int .i64 a1, .int .u8 a2] w fun e w' => e = .returned (.bool true) ∧ Below w.heap.size w w' := by
  have hu33 := Try.underlying33
  have CR0 := Aside0.mk hr0
  have HC0 := Aside0.mk hc0
  have HY0 := Aside0.mk hb0
  clear hr0 hc0 hb0
  have HB := Aside0.mk (Below.refl w.heap.size w)
  have ha1 := wf_i64 hw1
  have ha2 := wf_u8 hw2
  clear hw1 hw2
  by_cases h0 : 400 < (l0.length : Int)
  · go_enter Try.func12, Try.ntmps12
    go_wp2_with (first | ((go_at_call 20); (with_reducible refine (towncrierlaw03_awake.calls _).mono ?_); rintro e ww ⟨rfl, hb0⟩; have hbb := hb0; replace HB := Aside0.mk (below_step HB.out hbb); replace CR0 := Aside0.mk (Kd.C_below CR0.out hbb); clear hbb))
    go_ret
    exact ⟨rfl, HB.out⟩
  by_cases h1 : a1 < 4
  · go_enter Try.func12, Try.ntmps12
    go_wp2_with (first | ((go_at_call 20); (with_reducible refine (towncrierlaw03_awake.calls _).mono ?_); rintro e ww ⟨rfl, hb0⟩; have hbb := hb0; replace HB := Aside0.mk (below_step HB.out hbb); replace CR0 := Aside0.mk (Kd.C_below CR0.out hbb); clear hbb))
    go_ret
    exact ⟨rfl, HB.out⟩
  by_cases h2 : (l0.length : Int) + 8 ≤ a1
  · go_enter Try.func12, Try.ntmps12
    go_wp2_with (first | ((go_at_call 20); (with_reducible refine (towncrierlaw03_awake.calls _).mono ?_); rintro e ww ⟨rfl, hb0⟩; have hbb := hb0; replace HB := Aside0.mk (below_step HB.out hbb); replace CR0 := Aside0.mk (Kd.C_below CR0.out hbb); clear hbb))
    go_ret
    exact ⟨rfl, HB.out⟩
  obtain ⟨p, hp⟩ : ∃ p, p = pack l0 := ⟨_, rfl⟩
  have FP := Aside0.mk (show frame_Pack.f l0 = some (p, true) by rw [hp]; exact pack_f l0 HY0.out (by omega))
  have hpl : (p.length : Int) = (l0.length : Int) + 8 := by rw [hp, pack_len]; omega
  have HPL := Aside0.mk hpl
  have h3 : 4 ≤ a1 := by omega
  have h4 : a1 < (p.length : Int) := by omega
  have h5 : 0 ≤ a1 := by omega
  by_cases hce : rd p a1 = a2
  · have hce1 : (rd p a1 == a2) = true := beq_iff_eq.mpr hce
    clear hp hce
    go_enter Try.func12, Try.ntmps12
    go_wp2_with (first | ((go_at_call 20); (with_reducible refine (towncrierlaw03_awake.calls _).mono ?_); rintro e ww ⟨rfl, hb0⟩; have hbb := hb0; replace HB := Aside0.mk (below_step HB.out hbb); replace CR0 := Aside0.mk (Kd.C_below CR0.out hbb); clear hbb) | ((go_at_call 21); have tk_ := FP; clear tk_; (with_reducible refine (frame_Pack.calls A0 c0 l0 p true _ CR0.out HC0.out FP.out).mono ?_); rintro e wp1 ⟨v1, rfl, ho, hb0⟩; have hbb := hb0; replace HB := Aside0.mk (below_step HB.out hbb); replace CR0 := Aside0.mk (Kd.C_below CR0.out hbb); clear hbb; obtain ⟨Ap1, cp1, rfl⟩ := Kd.R_slice ho; have CP1 := Aside0.mk (Kd.R_reads' ho).2.2; have CPc1 := Aside0.mk (Kd.R_reads' ho).2.1; clear ho; clear FP; obtain ⟨adp, hAp, hcp⟩ := Kd.at_int CP1.out a1 (by omega) (by have := HPL.out; omega); subst hAp))
    go_ret
    exact ⟨by simp, HB.out⟩
  · obtain ⟨q, hq⟩ : ∃ q, p.set a1.toNat a2 = q := ⟨_, rfl⟩
    have HQ := Aside0.mk hq
    have HQL := Aside0.mk (show q.length = p.length by rw [← hq, List.length_set])
    have hbq : Byt q := fun x hx => by
      rw [← hq] at hx
      rcases List.mem_or_eq_of_mem_set hx with hx | rfl
      · rw [hp] at hx; exact pack_bytes HY0.out x hx
      · exact ha2
    have hff : frame_Feed.f [] false q = some ([], true, []) := by
      rw [feed_f [] false q Byt.nil hbq (by decide) (by rw [HQL.out]; omega), show feed [] false q = fdA q from rfl, ← hq, hp, fdA_bit l0 HY0.out (by omega) a1.toNat a2 (by omega) (by omega) ha2 (fun e => hce ?_)]
      unfold rd
      rw [hp, List.getD_eq_getElem?_getD, e]
      rfl
    have CRF : Aside0 (∀ (g c : Nat) (W : World), Kd.C (Kd.int .u8) W (some ⟨g, 0, none⟩) p.length q → p.length ≤ c → Calls Try.prog 23 #[.agg #[.slice none 0 0, .bool false], .slice (some ⟨g, 0, none⟩) p.length c] W fun e w' => ∃ Ab cb Al cl, e = .returned (.tuple #[.agg #[.slice Ab 0 cb, .bool true], .slice Al 0 cl]) ∧ Kd.C (Kd.int .u8) w' Ab 0 [] ∧ 0 ≤ cb ∧ Kd.C (Kd.slice 5 (Kd.int .u8)) w' Al 0 [] ∧ 0 ≤ cl ∧ Below W.heap.size W w') := Aside0.mk (fun g c W h1 h2 => by
      have := frame_Feed.calls none 0 [] false (some ⟨g, 0, none⟩) c q [] true [] W (Kd.C_nil _ _) (Nat.le_refl _) (by rw [HQL.out]; exact h1) (by rw [HQL.out]; exact h2) hff
      rw [HQL.out] at this
      exact this)
    have hce1 : (rd p a1 == a2) = false := beq_eq_false_iff_ne.mpr hce
    clear hff hbq hq hp
    go_enter Try.func12, Try.ntmps12
    go_wp2_with (first | ((go_at_call 20); (with_reducible refine (towncrierlaw03_awake.calls _).mono ?_); rintro e ww ⟨rfl, hb0⟩; have hbb := hb0; replace HB := Aside0.mk (below_step HB.out hbb); replace CR0 := Aside0.mk (Kd.C_below CR0.out hbb); clear hbb) | ((go_at_call 21); have tk_ := FP; clear tk_; (with_reducible refine (frame_Pack.calls A0 c0 l0 p true _ CR0.out HC0.out FP.out).mono ?_); rintro e wp1 ⟨v1, rfl, ho, hb0⟩; have hbb := hb0; replace HB := Aside0.mk (below_step HB.out hbb); replace CR0 := Aside0.mk (Kd.C_below CR0.out hbb); clear hbb; obtain ⟨Ap1, cp1, rfl⟩ := Kd.R_slice ho; have CP1 := Aside0.mk (Kd.R_reads' ho).2.2; have CPc1 := Aside0.mk (Kd.R_reads' ho).2.1; clear ho; clear FP; obtain ⟨adp, hAp, hcp⟩ := Kd.at_int CP1.out a1 (by omega) (by have := HPL.out; omega); subst hAp) | ((with_reducible refine gate_builtin (b := .append) (xs := #[.const (.slice none 0 0), .tmp 58]) rfl ?_); at_builtin; refine Kd.R_append_rows (Kd.int .u8) (w0 := w) w.heap.size rfl (.const (.slice none 0 0)) (.tmp 58) 23 5 (.int .u8 0) 1 rfl Try.underlying23 info5 rfl (by decide) (by omega) (.slice none 0 0) [] p _ _ _ (fun _ => True) (fun _ => False) rfl rfl (Kd.R_nil _ _ _ _ _) CP1.out (fun _ _ h => h) (fun _ h => h.elim) (fun _ _ => trivial) HB.out HB.out.size (by have := HPL.out; simp; omega) ?_; intro vx wx hox hbx hgx hatx; simp only [List.nil_append] at hox; obtain ⟨gx, cx, hvx, hgx1, hgx2, _⟩ := Kd.R_form hox (by have := HPL.out; omega); subst hvx; have RX := Aside0.mk hox; have GX := Aside0.mk hgx1; replace HB := Aside0.mk hbx; obtain ⟨hcx, hfx⟩ := Kd.R_celln (0 : Int) hox a1 (by omega) (by have := HPL.out; omega); clear hox hbx hgx hatx hgx1 hgx2 CR0 CP1) | ((go_at_call 23); have tk_ := CRF; clear tk_; (refine (CRF.out gx cx _ (by have := Kd.R_reads' (Kd.R_putn RX.out a1 a2); have h3 := this.2.2; rw [HQ.out, HQL.out] at h3; exact h3) (by have := (Kd.R_reads' RX.out).2.1; exact this)).mono ?_); rintro e wfx ⟨Abx, cbx, Alx, clx, rfl, hx, hxc, hy, hyc, hb0⟩; replace HB := Aside0.mk (below_step (below_set (j := a1.toNat) (v := .int .u8 a2) HB.out GX.out) hb0); clear CRF) | ((with_reducible refine gate_dst (N := 11) rfl ?_); refine box_event ?hg (N := 11) ?hd (cs := #[.slice none 0 0, .bool false]) (t := 33) ?hr ?_; (case hd => rfl); (case hg => rfl); (case hr => first | (go_simp; done) | (go_simp; rfl)); intro g11 hg11 wa11 bk11 hb11; replace hg11 := Aside0.mk (Nat.le_of_eq hg11.symm); replace hb11 := Aside0.mk hb11; replace bk11 := Aside0.mk bk11) | ((with_reducible refine gate_store (t := 33) (p := 11) rfl ?_); refine store2_ev rfl rfl 33 (.tmp 11) _ rfl (g := g11) (u := Value.slice Abx 0 cbx) (v := Value.bool true) rfl rfl bk11.out (by kernel_rfl) rfl rfl ?_; intro wv11 hk11 hz11; replace hz11 := hz11 _ hg11.out hb11.out; replace HB := Aside0.mk (below_step HB.out hz11); have BK11 := Aside0.mk hk11; have hcg11_0 : wv11.cell? ⟨g11, 0, none⟩ = some (Value.slice Abx 0 cbx) := (blk_cell BK11.out 0).trans rfl; have hcg11_1 : wv11.cell? ⟨g11, 1, none⟩ = some (Value.bool true) := (blk_cell BK11.out 1).trans rfl; clear hk11 hz11 bk11 hb11 hg11))
    go_ret
    exact ⟨by simp, HB.out⟩
end Go.Proofs.Ytifkeknfiknpkaa.X
