/- The law LeTells: any number is put, and any bytes are got, as the document says; so is one that may be below 0, and one of four bytes. -/
import Derived.Test.YtnmpojodadlnmaaRefLe
import Derived.Test.YtnmpojodadlnmaaLeLaws
import Derived.Test.YtnmpojodadlnmaaLeWord
import Derived.Test.YtnmpojodadlnmaaX14
import Derived.Test.YtnmpojodadlnmaaX15
import Derived.Test.YtnmpojodadlnmaaX16
import Derived.Test.YtnmpojodadlnmaaX17
import Derived.Deep.RegionWith
namespace Go.Proofs.Ytnmpojodadlnmaa.X
open Go.RowKit Go.Proofs.YtnmpojodadlnmaaW.PrintWords Go.Proofs.YtnmpojodadlnmaaW.PrintLast Go.Proofs.YtnmpojodadlnmaaW.PrintMore
attribute [local go_sem] max2_int min2_int max_two min_two max_three min_three max_four min_four
set_option linter.unusedVariables false
set_option linter.unusedSimpArgs false
open Go.Proofs.Ytnmpojodadlnmaa.Leb Go.Proofs.Ytnmpojodadlnmaa.LeFacts Go.Proofs.Ytnmpojodadlnmaa.LeLaws Go.Proofs.Ytnmpojodadlnmaa.LeZig Go.Proofs.Ytnmpojodadlnmaa.RefLe Go.Proofs.Ytnmpojodadlnmaa.LeWord
theorem drawn_below {w w' : World} (h : Drawn0 w w') : Below w.heap.size w w' := by
  obtain ⟨nd, rfl⟩ := h
  exact pw_below_drewN (Below.refl _ _) nd
theorem read_same (l : List Int) (hb : ∀ x ∈ l, 0 ≤ x ∧ x < 256) : ∃ r, le_Read.f 60 l = some r ∧ towncrierref01_Read.f l = some r := by
  by_cases h4 : l.length = 4
  · match l, h4 with
    | [a, b, c, d], h =>
      have ha := hb a (by simp)
      have hb' := hb b (by simp)
      have hc := hb c (by simp)
      have hd := hb d (by simp)
      refine ⟨_, read_f [a, b, c, d] hb 60 (by decide), ?_⟩
      unfold towncrierref01_Read.f
      rw [if_pos (by rfl), if_pos (by simp), if_pos (by simp), if_pos (by simp), if_pos (by simp)]
      simp only [rdw, rd, List.getD_eq_getElem?_getD]
      simp
      omega
  · refine ⟨(0, false), ?_, ?_⟩
    · unfold le_Read.f
      rw [if_neg (by omega)]
    · unfold towncrierref01_Read.f
      rw [if_neg (by omega)]
theorem refWord_f (n : Nat) (h : n < 4294967296) : towncrierref01_Word.f (n : Int) = some (wd n) := by
  unfold towncrierref01_Word.f wd
  have e : ∀ m : Int, 0 ≤ m → Int.tdiv (n : Int) m = (n : Int) / m := fun m _ => Int.tdiv_eq_ediv_of_nonneg (by omega)
  have e' : Int.tmod (n : Int) 256 = (n : Int) % 256 := Int.tmod_eq_emod_of_nonneg (by omega)
  rw [e 256 (by omega), e 65536 (by omega), e 16777216 (by omega), e']
  congr 1
  simp only [List.cons.injEq, and_true]
  refine ⟨?_, ?_, ?_, ?_⟩ <;> omega
set_option maxHeartbeats 8000000 in
set_option maxRecDepth 100000 in
theorem law_LeTells.calls (a0 a1 a2 : Int) (A3 : Option Addr) (c3 : Nat) (l3 : List Int) (w : World) (hw0 : (Lit.int .u64 a0).wf = true) (hw1 : (Lit.int .i64 a1).wf = true) (hw2 : (Lit.int .u32 a2).wf = true) (hr3 : Kd.C (Kd.int .u8) w A3 l3.length l3) (hc3 : l3.length ≤ c3) (hb3 : ∀ x ∈ l3, 0 ≤ x ∧ x < 256) :
    Calls Try.prog 9 #[.int .u64 a0, .int .i64 a1, .int .u32 a2, .slice A3 l3.length c3] w fun e w' => e = .returned (.bool true) ∧ Below w.heap.size w w' := by
  have HR3 := Aside0.mk hr3
  have HC3 := Aside0.mk hc3
  clear hr3 hc3
  have u0 := wf_u64 hw0
  have u1 := wf_i64 hw1
  have u2 := wf_u32 hw2
  clear hw0 hw1 hw2
  have AWF := Aside0.mk (awake_f 20 (by decide))
  have HB := Aside0.mk (Below.refl w.heap.size w)
  by_cases h0 : 100 < (l3.length : Int)
  · clear u0 u1 u2
    go_enter Try.func9, Try.ntmps9
    go_wp2_with (first | ((go_at_call 11); (refine (towncrierlaw01_awake.calls 20 true _ AWF.out).mono ?_); rintro e w_ ⟨rfl, hb0⟩; replace HB := Aside0.mk (below_step HB.out (hb0))))
    go_ret
    exact ⟨rfl, HB.out⟩
  have hl3 : l3.length ≤ 1000000 := by omega
  obtain ⟨gx, gu, gi, hg⟩ : ∃ a b c, castG (getL l3 0 0) = (a, b, c) := ⟨_, _, _, rfl⟩
  have G1 := Aside0.mk ((get_f l3 hb3 60 (by decide)).trans (congrArg some hg))
  have G2 := Aside0.mk ((refGet_f l3 hb3 hl3 60 (by decide)).trans (congrArg some hg))
  obtain ⟨⟨px, pb⟩, e1, e2⟩ := read_same l3 hb3
  have R1 := Aside0.mk e1
  have R2 := Aside0.mk e2
  obtain ⟨P, hP⟩ : ∃ P, leb a0.toNat = P := ⟨_, rfl⟩
  obtain ⟨n0, hn0⟩ := Int.eq_ofNat_of_zero_le u0.1
  have en0 : a0.toNat = n0 := by omega
  have hn0' : n0 < 18446744073709551616 := by omega
  have FP1 := Aside0.mk (show le_Put.f 60 a0 = some P by rw [hn0, put_f n0 60 (by decide) hn0', ← hP, en0])
  have FP2 := Aside0.mk (show towncrierref01_Put.f 60 a0 = some P by rw [hn0, refPut_f n0 60 (by decide) hn0', ← hP, en0])
  obtain ⟨n2, hn2⟩ := Int.eq_ofNat_of_zero_le u2.1
  have hn2' : n2 < 4294967296 := by omega
  obtain ⟨Wd, hWd⟩ : ∃ Wd, wd n2 = Wd := ⟨_, rfl⟩
  have FW1 := Aside0.mk (show le_Word.f 60 a2 = some Wd by rw [hn2, word_f n2 60 (by decide), hWd])
  have FW2 := Aside0.mk (show towncrierref01_Word.f a2 = some Wd by rw [hn2, refWord_f n2 hn2', hWd])
  have Z1 := Aside0.mk (zig_f a1 u1.1 u1.2)
  have Z2 := Aside0.mk (refZig_f a1 u1.1 u1.2)
  have Y1 := Aside0.mk (zag_f a0 u0.1 u0.2)
  have Y2 := Aside0.mk (refZag_f a0 u0.1 u0.2)
  obtain ⟨zg, hzg⟩ : ∃ z, zig a1 = z := ⟨_, rfl⟩
  obtain ⟨zz, hzz⟩ : ∃ z, zag a0 = z := ⟨_, rfl⟩
  rw [hzg] at Z1 Z2
  rw [hzz] at Y1 Y2
  obtain ⟨S1, hS1⟩ : ∃ S, strOfNums P = S := ⟨_, rfl⟩
  obtain ⟨S2, hS2⟩ : ∃ S, strOfNums Wd = S := ⟨_, rfl⟩
  have T1 := Aside0.mk hS1
  have T2 := Aside0.mk hS2
  clear u0 u1 u2 hg e1 e2 hP hn0 en0 hn0' hn2 hn2' hWd hzg hzz hS1 hS2 hb3 hl3
  go_enter Try.func9, Try.ntmps9
  go_upto_region 8 with (first | ((go_at_call 11); (refine (towncrierlaw01_awake.calls 20 true _ AWF.out).mono ?_); rintro e w_ ⟨rfl, hb0⟩; replace HB := Aside0.mk (below_step HB.out (hb0))) | ((go_at_call 13); (refine (le_Get.calls 60 A3 c3 l3 gx gu gi _ (Kd.C_below HR3.out HB.out) HC3.out G1.out).mono ?_); rintro e w_ ⟨rfl, hb0⟩; replace HB := Aside0.mk (below_step HB.out (hb0))) | ((go_at_call 16); (refine (towncrierref01_Get.calls 60 A3 c3 l3 gx gu gi _ (Kd.C_below HR3.out HB.out) HC3.out G2.out).mono ?_); rintro e w_ ⟨rfl, hb0⟩; replace HB := Aside0.mk (below_step HB.out (hb0))) | ((go_at_call 17); (refine (le_Read.calls 60 A3 c3 l3 px pb _ (Kd.C_below HR3.out HB.out) HC3.out R1.out).mono ?_); rintro e w_ ⟨rfl, hd0⟩; replace HB := Aside0.mk (below_step HB.out (drawn_below hd0))) | ((go_at_call 18); (refine (towncrierref01_Read.calls A3 c3 l3 px pb _ (Kd.C_below HR3.out HB.out) HC3.out R2.out).mono ?_); rintro e w_ ⟨rfl, hd0⟩; replace HB := Aside0.mk (below_step HB.out (drawn_below hd0))))
  go_cut [20] (fun v20 wc => v20 = .bool true ∧ Aside0 (Below w.heap.size w wc))
  case first =>
    replace HB := Aside0.mk (below_drew1 HB.out)
    go_region_with (first | ((go_at_call 12); (refine (le_Put.calls 60 a0 P _ FP1.out).mono ?_); rintro e w_ ⟨v_, rfl, ho, hb0⟩; obtain ⟨Apa, cpa, rfl⟩ := Kd.R_slice ho; have Ca := Aside0.mk (Kd.R_reads' ho).2.2; have hva := Kd.C_string (P := Try.prog) (A := Apa) (c := cpa) Try.underlying23 Try.underlying5 Try.underlying9 Ca.out; rw [T1.out] at hva; (try (replace Cb := Aside0.mk (Kd.C_below Cb.out hb0); (try clear hvb); have hvb := Kd.C_string (P := Try.prog) (A := Apb) (c := cpb) Try.underlying23 Try.underlying5 Try.underlying9 Cb.out; rw [T1.out] at hvb)); (try (replace Cc := Aside0.mk (Kd.C_below Cc.out hb0); (try clear hvc); have hvc := Kd.C_string (P := Try.prog) (A := Apc) (c := cpc) Try.underlying23 Try.underlying5 Try.underlying9 Cc.out; rw [T2.out] at hvc)); (try (replace Cd := Aside0.mk (Kd.C_below Cd.out hb0); (try clear hvd); have hvd := Kd.C_string (P := Try.prog) (A := Apd) (c := cpd) Try.underlying23 Try.underlying5 Try.underlying9 Cd.out; rw [T2.out] at hvd)); replace HB := Aside0.mk (below_step HB.out hb0); clear ho hb0) | ((go_at_call 19); (refine (towncrierref01_Put.calls 60 a0 P _ FP2.out).mono ?_); rintro e w_ ⟨v_, rfl, ho, hb0⟩; obtain ⟨Apb, cpb, rfl⟩ := Kd.R_slice ho; have Cb := Aside0.mk (Kd.R_reads' ho).2.2; have hvb := Kd.C_string (P := Try.prog) (A := Apb) (c := cpb) Try.underlying23 Try.underlying5 Try.underlying9 Cb.out; rw [T1.out] at hvb; (try (replace Ca := Aside0.mk (Kd.C_below Ca.out hb0); (try clear hva); have hva := Kd.C_string (P := Try.prog) (A := Apa) (c := cpa) Try.underlying23 Try.underlying5 Try.underlying9 Ca.out; rw [T1.out] at hva)); (try (replace Cc := Aside0.mk (Kd.C_below Cc.out hb0); (try clear hvc); have hvc := Kd.C_string (P := Try.prog) (A := Apc) (c := cpc) Try.underlying23 Try.underlying5 Try.underlying9 Cc.out; rw [T2.out] at hvc)); (try (replace Cd := Aside0.mk (Kd.C_below Cd.out hb0); (try clear hvd); have hvd := Kd.C_string (P := Try.prog) (A := Apd) (c := cpd) Try.underlying23 Try.underlying5 Try.underlying9 Cd.out; rw [T2.out] at hvd)); replace HB := Aside0.mk (below_step HB.out hb0); clear ho hb0) | ((go_at_call 20); (refine (le_Word.calls 60 a2 Wd _ FW1.out).mono ?_); rintro e w_ ⟨v_, rfl, ho, hb0⟩; obtain ⟨Apc, cpc, rfl⟩ := Kd.R_slice ho; have Cc := Aside0.mk (Kd.R_reads' ho).2.2; have hvc := Kd.C_string (P := Try.prog) (A := Apc) (c := cpc) Try.underlying23 Try.underlying5 Try.underlying9 Cc.out; rw [T2.out] at hvc; (try (replace Ca := Aside0.mk (Kd.C_below Ca.out hb0); (try clear hva); have hva := Kd.C_string (P := Try.prog) (A := Apa) (c := cpa) Try.underlying23 Try.underlying5 Try.underlying9 Ca.out; rw [T1.out] at hva)); (try (replace Cb := Aside0.mk (Kd.C_below Cb.out hb0); (try clear hvb); have hvb := Kd.C_string (P := Try.prog) (A := Apb) (c := cpb) Try.underlying23 Try.underlying5 Try.underlying9 Cb.out; rw [T1.out] at hvb)); (try (replace Cd := Aside0.mk (Kd.C_below Cd.out hb0); (try clear hvd); have hvd := Kd.C_string (P := Try.prog) (A := Apd) (c := cpd) Try.underlying23 Try.underlying5 Try.underlying9 Cd.out; rw [T2.out] at hvd)); replace HB := Aside0.mk (below_step HB.out hb0); clear ho hb0) | ((go_at_call 21); (refine (towncrierref01_Word.calls a2 Wd _ FW2.out).mono ?_); rintro e w_ ⟨v_, rfl, ho, hb0⟩; obtain ⟨Apd, cpd, rfl⟩ := Kd.R_slice ho; have Cd := Aside0.mk (Kd.R_reads' ho).2.2; have hvd := Kd.C_string (P := Try.prog) (A := Apd) (c := cpd) Try.underlying23 Try.underlying5 Try.underlying9 Cd.out; rw [T2.out] at hvd; (try (replace Ca := Aside0.mk (Kd.C_below Ca.out hb0); (try clear hva); have hva := Kd.C_string (P := Try.prog) (A := Apa) (c := cpa) Try.underlying23 Try.underlying5 Try.underlying9 Ca.out; rw [T1.out] at hva)); (try (replace Cb := Aside0.mk (Kd.C_below Cb.out hb0); (try clear hvb); have hvb := Kd.C_string (P := Try.prog) (A := Apb) (c := cpb) Try.underlying23 Try.underlying5 Try.underlying9 Cb.out; rw [T1.out] at hvb)); (try (replace Cc := Aside0.mk (Kd.C_below Cc.out hb0); (try clear hvc); have hvc := Kd.C_string (P := Try.prog) (A := Apc) (c := cpc) Try.underlying23 Try.underlying5 Try.underlying9 Cc.out; rw [T2.out] at hvc)); replace HB := Aside0.mk (below_step HB.out hb0); clear ho hb0))
    all_goals (go_wp2_with (fail); go_meet)
    all_goals exact ⟨by simp, HB⟩
  case rest =>
    obtain ⟨rfl, HB⟩ := hcut
    go_wp2_with (first | ((go_at_call 15); (refine (le_Zig.calls a1 zg _ Z1.out).mono ?_); rintro e w_ ⟨rfl, hd0⟩; replace HB := Aside0.mk (below_step HB.out (drawn_below hd0))) | ((go_at_call 22); (refine (towncrierref01_Zig.calls a1 zg _ Z2.out).mono ?_); rintro e w_ ⟨rfl, hd0⟩; replace HB := Aside0.mk (below_step HB.out (drawn_below hd0))) | ((go_at_call 14); (refine (le_Zag.calls a0 zz _ Y1.out).mono ?_); rintro e w_ ⟨rfl, hd0⟩; replace HB := Aside0.mk (below_step HB.out (drawn_below hd0))) | ((go_at_call 23); (refine (towncrierref01_Zag.calls a0 zz _ Y2.out).mono ?_); rintro e w_ ⟨rfl, hd0⟩; replace HB := Aside0.mk (below_step HB.out (drawn_below hd0))))
    go_ret
    exact ⟨by simp, HB.out⟩
end Go.Proofs.Ytnmpojodadlnmaa.X
