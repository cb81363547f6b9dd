/- Functions of the translation as plain Lean functions, and proofs that the calls come to what these say. No condition. Written by a program of this session (wip/xprint.py); not trusted: Lean checks it. -/
import Derived.Test.YtanheflbbadkkaaX0
import Derived.Test.YtanheflbbadkkaaX3
import Derived.Test.YtanheflbbadkkaaX4
import Derived.Test.YtanheflbbadkkaaX7
namespace Go.Proofs.Ytanheflbbadkkaa.X
open Go.RowKit Go.Proofs.YtanheflbbadkkaaW.PrintWords Go.Proofs.YtanheflbbadkkaaW.PrintLast Go.Proofs.YtanheflbbadkkaaW.PrintMore
attribute [local go_sem] max2_int min2_int max_two min_two max_three min_three max_four min_four   -- for this text's walks alone
set_option linter.unusedVariables false
set_option linter.unusedSimpArgs false

/-! ### frame_Pack: function 11 -/
theorem three_rows (w : World) (t : TypeId) (a d b : List Int) (A1 A3 A0 : Option Addr) (c1 c3 c0 : Nat) (h1 : a.length ≤ c1) (h3 : d.length ≤ c3) (h0 : b.length ≤ c0)
    (C1 : Kd.C (Kd.int .u8) w A1 a.length a) (C3 : Kd.C (Kd.int .u8) w A3 d.length d) (C0 : Kd.C (Kd.int .u8) w A0 b.length b) (e : Nat) :
    Kd.C (Kd.slice e (Kd.int .u8)) (w.alloc (.cells #[.slice A1 a.length c1, .slice A3 d.length c3, .slice A0 b.length c0] t)) (some ⟨w.heap.size, 0, none⟩) 3 [a, d, b] := by
  have hc : ∀ j, (w.alloc (.cells #[.slice A1 a.length c1, .slice A3 d.length c3, .slice A0 b.length c0] t)).cell? (Addr.add ⟨w.heap.size, 0, none⟩ j) = (#[Value.slice A1 a.length c1, .slice A3 d.length c3, .slice A0 b.length c0])[j]? := fun j => by
    rw [show Addr.add ⟨w.heap.size, 0, none⟩ j = ⟨w.heap.size, j, none⟩ from by unfold Addr.add; split <;> simp_all]
    exact World.cell?_alloc_mark w _ t (0, 0) j
  have hb : Below w.heap.size w (w.alloc (.cells #[.slice A1 a.length c1, .slice A3 d.length c3, .slice A0 b.length c0] t)) := (Below.refl _ _).alloc (Nat.le_refl _) _
  refine C_of_rows _ _ rfl (by decide) (fun j l hj => ?_)
  match j, hj with
  | 0, hj => simp at hj; subst hj; exact ⟨A1, c1, (hc 0).trans rfl, h1, Kd.C_below C1 hb⟩
  | 1, hj => simp at hj; subst hj; exact ⟨A3, c3, (hc 1).trans rfl, h3, Kd.C_below C3 hb⟩
  | 2, hj => simp at hj; subst hj; exact ⟨A0, c0, (hc 2).trans rfl, h0, Kd.C_below C0 hb⟩
  | j + 3, hj => simp at hj
def frame_Pack.f (l0 : List Int) : Option (List Int × Bool) := if (l0.length : Int) > 512 then some ([], false) else
  (le_Word.f 5 (l0.length : Int)).bind fun a => (crc_Of.f l0).bind fun c => (le_Word.f 5 c).bind fun d => (slices_Concat_byte_byte.f [a, d, l0]).bind fun r => some (r, true)
set_option maxHeartbeats 8000000 in
set_option maxRecDepth 100000 in
theorem frame_Pack.calls (A0 : Option Addr) (c0 : Nat) (l0 : List Int) (r1 : List Int) (r2 : Bool) (w : World) (hr0 : Kd.C (Kd.int .u8) w A0 l0.length l0) (hc0 : l0.length ≤ c0) (h : frame_Pack.f l0 = some (r1, r2)) :
    Calls Try.prog 11 #[.slice A0 l0.length c0] w fun e w' => ∃ v0_ : Value, e = .returned (.tuple #[v0_, .bool r2]) ∧ Kd.R (Kd.int .u8) 5 w' w.heap.size (fun _ => True) v0_ r1 ∧ Below w.heap.size w w' := by
  unfold frame_Pack.f at h
  have HR0 := Aside0.mk hr0
  clear hr0
  by_cases h1 : (l0.length : Int) > 512
  · rw [if_pos h1] at h
    simp only [Option.some.injEq, Prod.mk.injEq] at h
    obtain ⟨rfl, rfl⟩ := h
    go_enter Try.func11, Try.ntmps11
    go_wp2
    go_ret2
    exact ⟨_, rfl, Kd.R_nil _ _ _ _ _, Below.refl _ _⟩
  · rw [if_neg h1] at h
    obtain ⟨a, e1, h⟩ := Option.bind_eq_some_iff.mp h
    obtain ⟨c, e2, h⟩ := Option.bind_eq_some_iff.mp h
    obtain ⟨d, e3, h⟩ := Option.bind_eq_some_iff.mp h
    obtain ⟨r, e4, h⟩ := Option.bind_eq_some_iff.mp h
    simp only [Option.some.injEq, Prod.mk.injEq] at h
    obtain ⟨rfl, rfl⟩ := h
    have E1 := Aside0.mk e1
    have E2 := Aside0.mk e2
    have E3 := Aside0.mk e3
    have E4 := Aside0.mk e4
    clear e1 e2 e3 e4
    have hw : (l0.length : Int) % 4294967296 = (l0.length : Int) := by omega
    have HW := Aside0.mk hw
    clear hw
    go_enter Try.func11, Try.ntmps11
    go_wp2_with (fail)
    refine (le_Word.calls 5 _ a _ E1.out).mono ?_
    rintro e w1 ⟨v1, rfl, ho1, hb1⟩
    have HO1 := Aside0.mk ho1
    have HB1 := Aside0.mk hb1
    clear ho1 hb1
    go_wp2_with (fail)
    refine (crc_Of.calls A0 c0 l0 c _ (Kd.C_below HR0.out HB1.out) hc0 E2.out).mono ?_
    rintro e w2 ⟨rfl, hb2⟩
    have HB2 := Aside0.mk hb2
    clear hb2
    go_wp2_with (fail)
    refine (le_Word.calls 5 _ d _ E3.out).mono ?_
    rintro e w3 ⟨v3, rfl, ho3, hb3⟩
    obtain ⟨A1, c1, rfl⟩ := Kd.R_slice HO1.out
    obtain ⟨A3, c3, rfl⟩ := Kd.R_slice ho3
    have HO3 := Aside0.mk ho3
    have HB3 := Aside0.mk hb3
    clear ho3 hb3
    go_wp2_with (fail)
    have hB3 : Below w.heap.size w w3 := (HB1.out.trans (HB2.out.mono HB1.out.size)).trans (HB3.out.mono (Nat.le_trans HB1.out.size HB2.out.size))
    have hC := three_rows w3 25 a d l0 A1 A3 A0 c1 c3 c0 (Kd.R_reads' HO1.out).2.1 (Kd.R_reads' HO3.out).2.1 hc0
      (Kd.C_below (Kd.C_below (Kd.R_reads' HO1.out).2.2 HB2.out) HB3.out) (Kd.R_reads' HO3.out).2.2 (Kd.C_below HR0.out hB3)
    refine (slices_Concat_byte_byte.calls (some ⟨w3.heap.size, 0, none⟩) 3 [a, d, l0] r _ (hC _) (Nat.le_refl _) E4.out).mono ?_
    rintro e w5 ⟨v5, rfl, ho5, hb5⟩
    have HO5 := Aside0.mk (Kd.R_lower ho5 (Nat.le_trans hB3.size (by simp)))
    have HB5 := Aside0.mk ((hB3.alloc hB3.size _).trans (hb5.mono (Nat.le_trans hB3.size (by simp))))
    clear ho5 hb5 hC hB3
    go_wp2
    go_ret2
    exact ⟨_, rfl, HO5.out, HB5.out⟩

end Go.Proofs.Ytanheflbbadkkaa.X
