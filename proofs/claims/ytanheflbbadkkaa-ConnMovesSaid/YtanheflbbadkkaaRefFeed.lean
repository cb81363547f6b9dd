/- What towncrierref03.Feed does: its walk. No condition. -/
import Derived.Test.YtanheflbbadkkaaFeed
import Derived.Test.YtanheflbbadkkaaX32
import Derived.Test.YtanheflbbadkkaaX25
namespace Go.Proofs.Ytanheflbbadkkaa.X
open Go.RowKit Go.Proofs.YtanheflbbadkkaaW.PrintWords Go.Proofs.YtanheflbbadkkaaW.PrintLast Go.Proofs.YtanheflbbadkkaaW.PrintMore
attribute [local go_sem] max2_int min2_int max_two min_two max_three min_three max_four min_four
set_option linter.unusedVariables false
set_option linter.unusedSimpArgs false
theorem ty_grown {w w1 : World} {q e : Nat} {row : Option Nat} (h : ∃ cells, w.heap[q]? = some (.cells cells e (0, 0))) (hg : w.grownBy w1 row) (hne : some q ≠ row) : ∃ cells, w1.heap[q]? = some (.cells cells e (0, 0)) := by
  obtain ⟨cells, hc⟩ := h
  exact ⟨cells, blk_grown hc hg hne⟩
def refFeedO (kf : Nat) : Nat → List Int → List (List Int) → Option (List Int × Bool × List (List Int))
  | 0, _, _ => none
  | k + 1, all, out => if (all.length : Int) < 8 then some (all, false, out) else
    (towncrierref01_Read.f (all.take 4)).bind fun n => (towncrierref01_Read.f ((all.take 8).drop 4)).bind fun s =>
      if 0 ≤ n.1 ∧ n.1 ≤ 4294967295 then
        if n.1 > 512 then some ([], true, out) else if 8 + n.1 > (all.length : Int) then some (all, false, out) else
          (towncrierref02_Of.f kf ((all.take (8 + n.1).toNat).drop 8)).bind fun c =>
            if c = s.1 then refFeedO kf k (all.drop (8 + n.1).toNat) (out ++ [(all.take (8 + n.1).toNat).drop 8]) else some ([], true, out)
      else none
def towncrierref03_Feed.f (k : Nat) (l0 : List Int) (d : Bool) (l1 : List Int) : Option (List Int × Bool × List (List Int)) :=
  if l0.length ≤ 1000000 ∧ l1.length ≤ 1000000 then (if d = true then some (l0, true, []) else refFeedO k (l0.length + l1.length + 1) (l0 ++ l1) []) else none
set_option maxHeartbeats 8000000 in
set_option maxRecDepth 100000 in
theorem towncrierref03_Feed.callsN (k : Nat) (A0 : Option Addr) (c0 : Nat) (l0 : List Int) (d : Bool) (A1 : Option Addr) (c1 : Nat) (l1 : List Int) (r1 : List Int) (r2 : Bool) (r3 : List (List Int)) (w : World) (hr0 : Kd.C (Kd.int .u8) w A0 l0.length l0) (hc0 : l0.length ≤ c0) (hr1 : Kd.C (Kd.int .u8) w A1 l1.length l1) (hc1 : l1.length ≤ c1) (h : towncrierref03_Feed.f k l0 d l1 = some (r1, r2, r3)) :
    Calls Try.prog 32 #[.agg #[.slice A0 l0.length c0, .bool d], .slice A1 l1.length c1] w fun e w' => ∃ Ab cb Al cl, e = .returned (.tuple #[.agg #[.slice Ab r1.length cb, .bool r2], .slice Al r3.length cl]) ∧ Kd.C (Kd.int .u8) w' Ab r1.length r1 ∧ r1.length ≤ cb ∧ Kd.C (Kd.slice 5 (Kd.int .u8)) w' Al r3.length r3 ∧ r3.length ≤ cl ∧ (∀ ad : Addr, Al = some ad → w.heap.size ≤ ad.block) ∧ Below w.heap.size w w' := by
  have hu33 := Try.underlying27
  unfold towncrierref03_Feed.f at h
  by_cases hb : l0.length ≤ 1000000 ∧ l1.length ≤ 1000000
  · rw [if_pos hb] at h
    have H := Aside0.mk h
    clear h
    have HR0 := Aside0.mk hr0
    have HR1 := Aside0.mk hr1
    have HC0 := Aside0.mk hc0
    have HC1 := Aside0.mk hc1
    clear hr0 hr1 hc0 hc1
    have HB := Aside0.mk (Below.refl w.heap.size w)
    obtain ⟨ab, hab⟩ : ∃ ab, l0 ++ l1 = ab := ⟨_, rfl⟩
    have habl : ab.length = l0.length + l1.length := by rw [← hab, List.length_append]
    rw [hab] at H
    have HAB := Aside0.mk habl
    clear habl
    go_enter Try.func32, Try.ntmps32
    go_wp2_with (first
      | ((with_reducible refine gate_dst (N := 2) rfl ?_); refine box_event ?hg (N := 2) ?hd (cs := #[.slice A0 l0.length c0, .bool d]) (t := 27) ?hr ?_; (case hd => rfl); (case hg => rfl); (case hr => first | (go_simp; done) | (go_simp; rfl)); intro g2 hg2 wa bk2 hba; have G2 := Aside0.mk (Nat.le_of_eq hg2.symm); have BK2 := Aside0.mk bk2; have HB := Aside0.mk (below_step HB.out hba); have HS := Aside0.mk hba.size; clear hg2 bk2 hba)
      | ((with_reducible refine gate_dst (N := 4) rfl ?_); refine box_event ?hg (N := 4) ?hd (cs := #[.slice none 0 0, .bool false]) (t := 27) ?hr ?_; (case hd => rfl); (case hg => rfl); (case hr => first | (go_simp; done) | (go_simp; rfl)); intro g4 hg4 wb bk4 hbb; have G4 := Aside0.mk (hg4 ▸ HS.out : w.heap.size ≤ g4); have N24 := Aside0.mk (hg4 ▸ Nat.ne_of_lt (blk_lt BK2.out) : g2 ≠ g4); have BK2 := Aside0.mk (blk_below BK2.out hbb); have BK4 := Aside0.mk bk4; have HB := Aside0.mk (below_step HB.out hbb); have hcz2_0 : wb.cell? ⟨g2, 0, none⟩ = some (.slice A0 l0.length c0) := (blk_cell BK2.out 0).trans rfl; have hcz2_1 : wb.cell? ⟨g2, 1, none⟩ = some (.bool d) := (blk_cell BK2.out 1).trans rfl; have hcx4_0 : wb.cell? ⟨g4, 0, none⟩ = some (.slice none 0 0) := (blk_cell BK4.out 0).trans rfl; have hcx4_1 : wb.cell? ⟨g4, 1, none⟩ = some (.bool false) := (blk_cell BK4.out 1).trans rfl; have hfx4_0 := blk_frozen BK4.out 0; have hfx4_1 := blk_frozen BK4.out 1; clear hg4 bk4 hbb HS)
      | ((with_reducible refine gate_builtin (b := .append) (xs := #[.const (.slice none 0 0), .tmp 17]) rfl ?_); at_builtin; refine Kd.R_append_rows (Kd.int .u8) (w0 := w) w.heap.size rfl (.const (.slice none 0 0)) (.tmp 17) 25 5 (.int .u8 0) 1 rfl Try.underlying25 info5 rfl (by decide) (by omega) (.slice none 0 0) [] l0 _ _ _ (fun _ => True) (fun _ => False) rfl rfl (Kd.R_nil _ _ _ _ _) (Kd.C_below HR0.out HB.out) (fun _ _ h => h) (fun _ h => h.elim) (fun _ _ => trivial) HB.out HB.out.size (by have := hb; simp; omega) ?_; intro v18 wc ho hbc hg hat; simp only [List.nil_append] at ho; have O18 := Aside0.mk ho; have HBc := Aside0.mk hbc; have BK4c := Aside0.mk (blk_grown BK4.out hg (by simp [Value.ownBlock])); clear ho hg hat)
      | ((with_reducible refine gate_builtin (b := .append) (xs := #[.tmp 18, .tmp 19]) rfl ?_); at_builtin; refine Kd.R_append_rows (Kd.int .u8) (w0 := w) w.heap.size rfl (.tmp 18) (.tmp 19) 25 5 (.int .u8 0) 1 rfl Try.underlying25 info5 rfl (by decide) (by omega) v18 l0 l1 _ _ _ (fun _ => True) (fun _ => False) rfl rfl O18.out (Kd.C_below HR1.out HBc.out) (fun _ _ h => h) (fun _ h => h.elim) (fun _ _ => trivial) HBc.out HBc.out.size (by have := hb; simp; omega) ?_; intro v20 wd ho hbd hg hat; have O20 := Aside0.mk (hab ▸ ho : Kd.R (Kd.int .u8) 5 wd w.heap.size (fun _ => True) v20 ab); have HBd := Aside0.mk hbd; have BK4d := Aside0.mk (blk_grown BK4c.out hg (Kd.R_ne O18.out BK4c.out (by decide))); clear ho hg hat))
    · have hf := H.out
      rw [if_pos (by assumption)] at hf
      simp only [Option.some.injEq, Prod.mk.injEq] at hf
      obtain ⟨rfl, rfl, rfl⟩ := hf
      refine bodyPost_ret (results_ct rfl _ _ g4 27 #[.slice A0 l0.length c0, .bool true] (0, 0) _ rfl (blk_put (blk_put BK4.out _ _ rfl) _ _ rfl) hu33 rfl (by kernel_rfl)) rfl ?_
      have hbel := below_set (j := 1) (v := .bool true) (below_set (j := 0) (v := .slice A0 l0.length c0) HB.out G4.out) G4.out
      exact ⟨A0, c0, none, 0, rfl, Kd.C_below HR0.out hbel, HC0.out, Kd.C_nil _ _, Nat.le_refl _, (fun _ e => by cases e), hbel⟩
    · obtain ⟨vo, hvo⟩ : ∃ vo, vo = v20.ownBlock := ⟨_, rfl⟩
      have hH := H.out
      rw [if_neg (ne_true_of_eq_false (by assumption))] at hH
      obtain ⟨A20, c20, rfl⟩ := Kd.R_slice O20.out
      have NE : Aside0 (∀ q, some q = vo → q ≠ g4) := Aside0.mk (fun q hq e => by subst e; exact Kd.R_ne O20.out BK4d.out (by decide) (hq.trans hvo))
      have TY0 : Aside0 (∀ q, some q = vo → ∃ cells, wd.heap[q]? = some (.cells cells 5 (0, 0))) := Aside0.mk (fun q hq => Kd.R_typed O20.out q ((hq.trans hvo).symm))
      have F20 := Aside0.mk (hvo ▸ Kd.R_F (Kd.R_tight rfl O20.out) : Kd.F (Kd.int .u8) wd (fun q => some q = vo) A20 ab.length ab)
      have C20 := Aside0.mk (Kd.R_reads' O20.out).2.1
      go_loopw [6, 7] (fun v6 v7 ur => ∃ (kk : Nat) (all : List Int) (out : List (List Int)) (A6 : Option Addr) (c6 : Nat), v6 = .slice A6 all.length c6 ∧ Aside0 (all.length ≤ c6) ∧ Aside0 (refFeedO k kk all out = some (r1, r2, r3)) ∧ Aside0 (out.length + all.length ≤ 2000000) ∧ Aside0 (Kd.F (Kd.int .u8) ur (fun q => some q = vo) A6 all.length all) ∧ Aside0 (∀ q, some q = vo → ∃ cells, ur.heap[q]? = some (.cells cells 5 (0, 0))) ∧ Aside0 (Kd.N (Kd.slice 5 (Kd.int .u8)) 25 ur w.heap.size (fun k => k ≠ g4) v7 out) ∧ Aside0 (ur.heap[g4]? = some (.cells #[.slice none 0 0, .bool false] 27 (0, 0))) ∧ Aside0 (Below w.heap.size w ur)) (fun v6 _ _ => match v6 with | .slice _ n _ => n | _ => 0)
      case atStart => exact ⟨l0.length + l1.length + 1, ab, [], A20, c20, rfl, C20, Aside0.mk hH, Aside0.mk (by have := HAB.out; simp; omega), F20, TY0, Aside0.mk (Kd.N_nil _ _ _ _ _), BK4d, HBd⟩
      case round =>
        clear F20 TY0 C20 O20 O18 HBd HBc BK4d BK4c hvo
        obtain ⟨kk, all, out, A6, c6, rfl, HC6, HK, HL, hF, TY, hN, HB4, hBl⟩ := hrel
        have hC6 := Aside0.mk (Kd.F_now hF.out)
        have hfz4_0 := blk_frozen HB4.out 0; have hfz4_1 := blk_frozen HB4.out 1; have hcx4_0 : wr.cell? ⟨g4, 0, none⟩ = some (.slice none 0 0) := (blk_cell HB4.out 0).trans rfl; have hcx4_1 : wr.cell? ⟨g4, 1, none⟩ = some (.bool false) := (blk_cell HB4.out 1).trans rfl
        obtain ⟨i0, hi0, _, hsz0, _⟩ := info_parts info5
        obtain ⟨A7, c7, rfl⟩ := Kd.N_slice hN.out
        cases kk with
        | zero => have := HK.out; simp [refFeedO] at this
        | succ kk =>
        have hf := HK.out
        unfold refFeedO at hf
        clear HK
        by_cases h8 : (all.length : Int) < 8
        · rw [if_pos h8] at hf
          simp only [Option.some.injEq, Prod.mk.injEq] at hf
          obtain ⟨rfl, rfl, rfl⟩ := hf
          go_wp2
          refine bodyPost_ret (results_ct rfl _ _ g4 27 #[.slice A6 all.length c6, .bool false] (0, 0) _ rfl (blk_put (blk_put HB4.out _ _ rfl) _ _ rfl) hu33 rfl (by kernel_rfl)) rfl ?_
          have hbel := below_set (j := 1) (v := .bool false) (below_set (j := 0) (v := .slice A6 all.length c6) hBl.out G4.out) G4.out
          have hout := Kd.N_reads' (Kd.N_far (p := ⟨g4, 1, none⟩) (Kd.N_far (p := ⟨g4, 0, none⟩) hN.out (fun _ h => h) (.slice A6 all.length c6)) (fun _ h => h) (.bool false))
          have hrow := Kd.F_now (Kd.F_far (p := ⟨g4, 1, none⟩) (Kd.F_far (p := ⟨g4, 0, none⟩) hF.out (fun k hk => NE.out k hk) (.slice A6 all.length c6)) (fun k hk => NE.out k hk) (.bool false))
          exact ⟨A6, c6, A7, c7, rfl, hrow, HC6.out, hout.2.2, hout.2.1, (fun ad e => Kd.N_base hN.out ad.block (by rw [e]; rfl)), hbel⟩
        · rw [if_neg h8] at hf
          obtain ⟨⟨n, bn⟩, e1, hf⟩ := Option.bind_eq_some_iff.mp hf
          obtain ⟨⟨s, bs⟩, e2, hf⟩ := Option.bind_eq_some_iff.mp hf
          have E1 := Aside0.mk e1
          have E2 := Aside0.mk e2
          clear e1 e2
          by_cases hn : 0 ≤ n ∧ n ≤ 4294967295
          · rw [if_pos hn] at hf
            have HF := Aside0.mk hf
            clear hf
            obtain ⟨hn0, hn1⟩ := hn
            have hcut4 := cut4 (P := Try.prog) 25 5 Try.underlying25 hi0 A6 all.length c6 (by omega) HC6.out
            have hcut48 := cut48 (P := Try.prog) 25 5 Try.underlying25 hi0 hsz0 A6 all.length c6 (by omega) HC6.out
            have hL4 : (all.take 4).length = 4 := by rw [List.length_take]; omega
            have hL48 : ((all.take 8).drop 4).length = 4 := by rw [List.length_drop, List.length_take]; omega
            obtain ⟨A48, hA48⟩ : ∃ A', A' = (if c6 = 4 then A6 else A6.map (·.add (4 * 1))) := ⟨_, rfl⟩
            obtain ⟨c48, hc48⟩ : ∃ c', c' = c6 - 4 := ⟨_, rfl⟩
            have hT48 : Kd.C (Kd.int .u8) wr A48 ((all.take 8).drop 4).length ((all.take 8).drop 4) := by rw [hA48]; exact Kd.C_mid (lo := 4) (hi := 8) hC6.out (by decide) (by omega) HC6.out
            rw [← hA48, ← hc48] at hcut48
            have hc66 : 4 ≤ c48 := by have := HC6.out; omega
            have CR1 := Aside0.mk (fun W => towncrierref01_Read.calls A6 c6 (all.take 4) n bn W)
            have CR2 := Aside0.mk (fun W => towncrierref01_Read.calls A48 c48 ((all.take 8).drop 4) s bs W)
            rw [hL4] at CR1
            rw [hL48] at CR2
            have hT4 := Aside0.mk (Kd.C_take (m := 4) hC6.out (by omega))
            rw [hL4] at hT4
            rw [hL48] at hT48
            replace hT48 := Aside0.mk hT48
            have hc64 : 4 ≤ c6 := by have := HC6.out; omega
            clear hL4 hL48 hA48 hc48
            by_cases h512 : n > 512
            · have hf := HF.out
              rw [if_pos h512] at hf
              simp only [Option.some.injEq, Prod.mk.injEq] at hf
              obtain ⟨rfl, rfl, rfl⟩ := hf
              go_wp2_with (first | ((go_at_call 39); (with_reducible refine (CR1.out _ hT4.out hc64 E1.out).mono ?_); rintro e w' ⟨rfl, ⟨nd1, rfl⟩⟩) | ((go_at_call 39); (with_reducible refine (CR2.out _ (Kd.C_drewN hT48.out _) hc66 E2.out).mono ?_); rintro e w' ⟨rfl, ⟨nd2, rfl⟩⟩))
              refine bodyPost_ret (results_ct rfl _ _ g4 27 #[.slice none 0 0, .bool true] (0, 0) _ rfl (blk_put (blk_put (blk_drewN HB4.out (nd1 + nd2)) _ _ rfl) _ _ rfl) hu33 rfl (by kernel_rfl)) rfl ?_
              have hbel := below_set (j := 1) (v := .bool true) (below_set (j := 0) (v := .slice none 0 0) (pw_below_drewN hBl.out (nd1 + nd2)) G4.out) G4.out
              have hout := Kd.N_reads' (Kd.N_far (p := ⟨g4, 1, none⟩) (Kd.N_far (p := ⟨g4, 0, none⟩) (Kd.N_drewN hN.out (nd1 + nd2)) (fun _ h => h) (.slice none 0 0)) (fun _ h => h) (.bool true))
              exact ⟨none, 0, A7, c7, rfl, Kd.C_nil _ _, Nat.le_refl _, hout.2.2, hout.2.1, (fun ad e => Kd.N_base hN.out ad.block (by rw [e]; rfl)), hbel⟩
            · have hf := HF.out
              rw [if_neg h512] at hf
              replace HF := Aside0.mk hf
              clear hf
              have hsub : (all.length : Int) - 8 < 9223372036854775808 := by have := HL.out; omega
              by_cases he : 8 + n > (all.length : Int)
              · have hf := HF.out
                rw [if_pos he] at hf
                have he' : (all.length : Int) - 8 < n := by omega
                simp only [Option.some.injEq, Prod.mk.injEq] at hf
                obtain ⟨rfl, rfl, rfl⟩ := hf
                go_wp2_with (first | ((go_at_call 39); (with_reducible refine (CR1.out _ hT4.out hc64 E1.out).mono ?_); rintro e w' ⟨rfl, ⟨nd1, rfl⟩⟩) | ((go_at_call 39); (with_reducible refine (CR2.out _ (Kd.C_drewN hT48.out _) hc66 E2.out).mono ?_); rintro e w' ⟨rfl, ⟨nd2, rfl⟩⟩))
                refine bodyPost_ret (results_ct rfl _ _ g4 27 #[.slice A6 all.length c6, .bool false] (0, 0) _ rfl (blk_put (blk_put (blk_drewN HB4.out (nd1 + nd2)) _ _ rfl) _ _ rfl) hu33 rfl (by kernel_rfl)) rfl ?_
                have hbel := below_set (j := 1) (v := .bool false) (below_set (j := 0) (v := .slice A6 all.length c6) (pw_below_drewN hBl.out (nd1 + nd2)) G4.out) G4.out
                have hout := Kd.N_reads' (Kd.N_far (p := ⟨g4, 1, none⟩) (Kd.N_far (p := ⟨g4, 0, none⟩) (Kd.N_drewN hN.out (nd1 + nd2)) (fun _ h => h) (.slice A6 all.length c6)) (fun _ h => h) (.bool false))
                have hrow := Kd.F_now (Kd.F_far (p := ⟨g4, 1, none⟩) (Kd.F_far (p := ⟨g4, 0, none⟩) (Kd.F_drewN hF.out (nd1 + nd2)) (fun k hk => NE.out k hk) (.slice A6 all.length c6)) (fun k hk => NE.out k hk) (.bool false))
                exact ⟨A6, c6, A7, c7, rfl, hrow, HC6.out, hout.2.2, hout.2.1, (fun ad e => Kd.N_base hN.out ad.block (by rw [e]; rfl)), hbel⟩
              · have hf := HF.out
                rw [if_neg he] at hf
                have he' : ¬ ((all.length : Int) - 8 < n) := by omega
                obtain ⟨c, e3, hf⟩ := Option.bind_eq_some_iff.mp hf
                have E3 := Aside0.mk e3
                replace HF := Aside0.mk hf
                clear hf e3
                have hcut8 := cut8e (P := Try.prog) 25 5 Try.underlying25 hi0 hsz0 A6 all.length c6 n hn0 (by omega) HC6.out
                have hT8 := Kd.F_mid (lo := 8) (hi := (8 + n).toNat) (c := c6) hF.out (by omega) (by omega) HC6.out
                have hc8 : n.toNat ≤ c6 - 8 := by have := HC6.out; omega
                obtain ⟨x, hx⟩ : ∃ x, x = (all.take (8 + n).toNat).drop 8 := ⟨_, rfl⟩
                have hxl : x.length = n.toNat := by rw [hx, List.length_drop, List.length_take]; omega
                rw [← hx] at HF E3 hT8
                obtain ⟨A8, hA8⟩ : ∃ A', A' = (if c6 = 8 then A6 else A6.map (·.add (8 * (Kd.int .u8).sz))) := ⟨_, rfl⟩
                rw [← hA8] at hT8
                rw [show (if c6 = 8 then A6 else A6.map (·.add (8 * 1))) = A8 from hA8.symm, ← hxl] at hcut8
                obtain ⟨c8, hc8'⟩ : ∃ c', c' = c6 - 8 := ⟨_, rfl⟩
                rw [← hc8'] at hcut8 hc8
                rw [← hxl] at hc8
                have CR3 := Aside0.mk (fun W => towncrierref02_Of.calls k A8 c8 x c W)
                have HT8 := Aside0.mk hT8
                replace hT8 := Aside0.mk (Kd.F_now hT8)
                have HXL := Aside0.mk hxl
                clear hx hxl hA8 hc8'
                by_cases hcs : c = s
                · rw [if_pos hcs] at HF
                  subst hcs
                  have hcutE := cute (P := Try.prog) 25 5 Try.underlying25 hi0 hsz0 A6 all.length c6 (8 + n) (by omega) (by omega)
                  obtain ⟨m, hm⟩ : ∃ m, m = (8 + n).toNat := ⟨_, rfl⟩
                  rw [← hm] at hcutE
                  obtain ⟨Ar, hAr⟩ : ∃ A', A' = (if c6 = m then A6 else A6.map (·.add (m * 1))) := ⟨_, rfl⟩
                  obtain ⟨cr, hcr⟩ : ∃ c', c' = c6 - m := ⟨_, rfl⟩
                  obtain ⟨y, hy⟩ : ∃ y, y = all.drop m := ⟨_, rfl⟩
                  have hyl : y.length = all.length - m := by rw [hy, List.length_drop]
                  rw [← hAr, ← hcr, ← hyl] at hcutE
                  rw [← hm, ← hy] at HF
                  have hTY : ∀ W, Kd.F (Kd.int .u8) W (fun q => some q = vo) A6 all.length all → Kd.F (Kd.int .u8) W (fun q => some q = vo) Ar y.length y := fun W h => by
                    have := Kd.F_cut (m := m) (c := c6) h (by omega) HC6.out
                    rw [← hy] at this
                    rw [hAr]
                    exact this
                  have hcy : y.length ≤ cr := by have := HC6.out; omega
                  have HM := Aside0.mk (show y.length + 8 ≤ all.length by omega)
                  clear hyl hm hAr hcr hy
                  go_wp2_with (first | ((go_at_call 39); (with_reducible refine (CR1.out _ hT4.out hc64 E1.out).mono ?_); rintro e w' ⟨rfl, ⟨nd1, rfl⟩⟩) | ((go_at_call 39); (with_reducible refine (CR2.out _ (Kd.C_drewN hT48.out _) hc66 E2.out).mono ?_); rintro e w' ⟨rfl, ⟨nd2, rfl⟩⟩) | ((go_at_call 37); (with_reducible refine (CR3.out _ (Kd.C_drewN hT8.out _) hc8 E3.out).mono ?_); rintro e w' ⟨rfl, ⟨nd3, rfl⟩⟩) | ((with_reducible refine gate_builtin (b := .append) (xs := #[.const (.slice none 0 0), .tmp 58]) rfl ?_); at_builtin; refine Kd.R_append_rows (Kd.int .u8) (w0 := w) w.heap.size rfl (.const (.slice none 0 0)) (.tmp 58) 25 5 (.int .u8 0) 1 rfl Try.underlying25 info5 rfl (by decide) (by omega) (.slice none 0 0) [] x _ _ _ (fun q => some q ≠ (Value.slice A7 out.length c7).ownBlock ∧ q ≠ g4) (fun _ => False) rfl rfl (Kd.R_nil _ _ _ _ _) (Kd.C_drewN hT8.out _) (fun _ _ h => h) (fun _ h => h.elim) ?hfr (pw_below_drewN hBl.out _) (pw_below_drewN hBl.out _).size (by have := HL.out; have := HXL.out; simp; omega) ?_; (case hfr => exact fun q hq => ⟨fun e => by have := Kd.N_lt hN.out q e.symm; have hq2 : wr.heap.size ≤ q := hq; omega, fun e => by have := blk_lt HB4.out; have hq2 : wr.heap.size ≤ q := hq; omega⟩); intro v1 w6 ho1 hb6 hg6 hat6; simp only [List.nil_append] at ho1; have F6 := Aside0.mk (Kd.F_grown (Kd.F_drewN hF.out _) hg6 (fun _ _ => by simp [Value.ownBlock])); have N6 := Aside0.mk (Kd.N_grown (Kd.N_drewN hN.out _) hg6 (fun _ _ => by simp [Value.ownBlock])); have B6 := Aside0.mk (blk_grown (blk_drewN HB4.out _) hg6 (by simp [Value.ownBlock])); have L6 := Aside0.mk hb6; have O6 := Aside0.mk ho1; obtain ⟨A8', c8', rfl⟩ := Kd.R_slice ho1; have T6 := Aside0.mk (fun q (hq : some q = vo) => ty_grown (w := wr.drewN _) (TY.out q hq) hg6 (by simp [Value.ownBlock])); clear ho1 hb6 hg6 hat6) | ((with_reducible refine gate_builtin (b := .append) (xs := #[.tmp 57, .tmp 60]) rfl ?_); at_builtin; go_loud (refine Kd.N_append (Kd.slice 5 (Kd.int .u8)) (w0 := w) w.heap.size rfl (.tmp 57) (.tmp 60) 22 25 (.slice none 0 0) 24 rfl Try.underlying22 info25 rfl (by decide) (by omega) (.slice A7 out.length c7) out x [.slice A8' x.length c8'] (fun k => k ≠ g4) (fun q => some q ≠ (Value.slice A7 out.length c7).ownBlock ∧ q ≠ g4) rfl rfl (Kd.FK_slice_mk (Kd.R_reads' O6.out).2.1 (Kd.R_F O6.out)) (fun q hq => ⟨hq.2, hq.1⟩) (fun q hq e => by have := blk_lt B6.out; omega) N6.out L6.out L6.out.size (by have := HL.out; omega) ?_; intro v1 w7 hn7 hb7 hg7 hat7; have N7 := Aside0.mk hn7; have L7 := Aside0.mk hb7; have F7 := Aside0.mk (hTY _ (Kd.F_grown F6.out hg7 (fun q hq => by obtain ⟨cells, hc⟩ := T6.out q hq; exact Kd.N_ne N6.out hc (by decide)))); have T7 := Aside0.mk (fun q (hq : some q = vo) => ty_grown (T6.out q hq) hg7 (by obtain ⟨cells, hc⟩ := T6.out q hq; exact Kd.N_ne N6.out hc (by decide))); have B7 := Aside0.mk (blk_grown B6.out hg7 (Kd.N_away N6.out (fun k h => h))); clear hn7 hb7 hg7 hat7)))
                  go_roundw
                  case rel => exact ⟨kk, y, out ++ [x], Ar, cr, rfl, Aside0.mk hcy, HF, Aside0.mk (by have := HM.out; have := HL.out; rw [List.length_append]; simp only [List.length_singleton]; omega), F7, T7, N7, B7, L7⟩
                  case measure => have := HM.out; simp; omega
                · rw [if_neg hcs] at HF
                  have hf := HF.out
                  simp only [Option.some.injEq, Prod.mk.injEq] at hf
                  obtain ⟨rfl, rfl, rfl⟩ := hf
                  go_wp2_with (first | ((go_at_call 39); (with_reducible refine (CR1.out _ hT4.out hc64 E1.out).mono ?_); rintro e w' ⟨rfl, ⟨nd1, rfl⟩⟩) | ((go_at_call 39); (with_reducible refine (CR2.out _ (Kd.C_drewN hT48.out _) hc66 E2.out).mono ?_); rintro e w' ⟨rfl, ⟨nd2, rfl⟩⟩) | ((go_at_call 37); (with_reducible refine (CR3.out _ (Kd.C_drewN hT8.out _) hc8 E3.out).mono ?_); rintro e w' ⟨rfl, ⟨nd3, rfl⟩⟩))
                  refine bodyPost_ret (results_ct rfl _ _ g4 27 #[.slice none 0 0, .bool true] (0, 0) _ rfl (blk_put (blk_put (blk_drewN HB4.out (nd1 + nd2 + nd3)) _ _ rfl) _ _ rfl) hu33 rfl (by kernel_rfl)) rfl ?_
                  have hbel := below_set (j := 1) (v := .bool true) (below_set (j := 0) (v := .slice none 0 0) (pw_below_drewN hBl.out (nd1 + nd2 + nd3)) G4.out) G4.out
                  have hout := Kd.N_reads' (Kd.N_far (p := ⟨g4, 1, none⟩) (Kd.N_far (p := ⟨g4, 0, none⟩) (Kd.N_drewN hN.out (nd1 + nd2 + nd3)) (fun _ h => h) (.slice none 0 0)) (fun _ h => h) (.bool true))
                  exact ⟨none, 0, A7, c7, rfl, Kd.C_nil _ _, Nat.le_refl _, hout.2.2, hout.2.1, (fun ad e => Kd.N_base hN.out ad.block (by rw [e]; rfl)), hbel⟩
          · rw [if_neg hn] at hf
            cases hf
  · rw [if_neg hb] at h
    cases h
theorem towncrierref03_Feed.calls (k : Nat) (A0 : Option Addr) (c0 : Nat) (l0 : List Int) (d : Bool) (A1 : Option Addr) (c1 : Nat) (l1 : List Int) (r1 : List Int) (r2 : Bool) (r3 : List (List Int)) (w : World) (hr0 : Kd.C (Kd.int .u8) w A0 l0.length l0) (hc0 : l0.length ≤ c0) (hr1 : Kd.C (Kd.int .u8) w A1 l1.length l1) (hc1 : l1.length ≤ c1) (h : towncrierref03_Feed.f k l0 d l1 = some (r1, r2, r3)) :
    Calls Try.prog 32 #[.agg #[.slice A0 l0.length c0, .bool d], .slice A1 l1.length c1] w fun e w' => ∃ Ab cb Al cl, e = .returned (.tuple #[.agg #[.slice Ab r1.length cb, .bool r2], .slice Al r3.length cl]) ∧ Kd.C (Kd.int .u8) w' Ab r1.length r1 ∧ r1.length ≤ cb ∧ Kd.C (Kd.slice 5 (Kd.int .u8)) w' Al r3.length r3 ∧ r3.length ≤ cl ∧ Below w.heap.size w w' := by
  refine (towncrierref03_Feed.callsN k A0 c0 l0 d A1 c1 l1 r1 r2 r3 w hr0 hc0 hr1 hc1 h).mono ?_
  rintro e w' ⟨Ab, cb, Al, cl, h1, h2, h3, h4, h5, _, h6⟩
  exact ⟨Ab, cb, Al, cl, h1, h2, h3, h4, h5, h6⟩
end Go.Proofs.Ytanheflbbadkkaa.X
