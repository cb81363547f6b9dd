/- Functions of the translation as plain Lean functions, and proofs that the calls come to what these say. No condition. Written by a program of this session (wip/xprint.py); not trusted: Lean checks it. -/
import Derived.Test.YtifkeknfiknpkaaX0
import Derived.Test.YtifkeknfiknpkaaX3
namespace Go.Proofs.Ytifkeknfiknpkaa.X
open Go.RowKit Go.Proofs.YtifkeknfiknpkaaW.PrintWords Go.Proofs.YtifkeknfiknpkaaW.PrintLast Go.Proofs.YtifkeknfiknpkaaW.PrintMore
attribute [local go_sem] max2_int min2_int max_two min_two max_three min_three max_four min_four   -- for this text's walks alone
set_option linter.unusedVariables false
set_option linter.unusedSimpArgs false

/-! ### towncrierlaw02_awake: function 15 -/
def towncrierlaw02_awake.f : Option (Bool) := (crc_Of.f ([49, 50, 51, 52, 53, 54, 55, 56, 57] : List Int)).bind fun t => (if t = 3421780262 then ((crc_Of.f ([] : List Int)).bind fun u => (some (u == 0))) else (some false))
theorem nine_C (w : World) (t : TypeId) (m : Nat × Nat) : Kd.C (Kd.int .u8) (w.alloc (.cells #[.int .u8 49, .int .u8 50, .int .u8 51, .int .u8 52, .int .u8 53, .int .u8 54, .int .u8 55, .int .u8 56, .int .u8 57] t m)) (some ⟨w.heap.size, 0, none⟩) ([49, 50, 51, 52, 53, 54, 55, 56, 57] : List Int).length ([49, 50, 51, 52, 53, 54, 55, 56, 57] : List Int) := by
  refine Kd.C_of_reads (d := (0 : Int)) (h1 := fun _ => rfl) ⟨rfl, by decide, fun _ => ⟨_, rfl, fun j hj => ?_⟩⟩
  have this := World.cell?_alloc_mark w #[Value.int .u8 49, .int .u8 50, .int .u8 51, .int .u8 52, .int .u8 53, .int .u8 54, .int .u8 55, .int .u8 56, .int .u8 57] t m j
  rw [show Addr.add ⟨w.heap.size, 0, none⟩ j = ⟨w.heap.size, j, none⟩ from by unfold Addr.add; split <;> simp_all]
  rw [this]
  have hj' : j < 9 := hj
  match j, hj' with
  | 0, _ => rfl
  | 1, _ => rfl
  | 2, _ => rfl
  | 3, _ => rfl
  | 4, _ => rfl
  | 5, _ => rfl
  | 6, _ => rfl
  | 7, _ => rfl
  | 8, _ => rfl
set_option maxRecDepth 100000 in
theorem towncrierlaw02_awake.calls (r : Bool) (w : World) (h : towncrierlaw02_awake.f = some r) :
    Calls Try.prog 15 #[] w fun e w' => e = .returned (.bool r) ∧ Below w.heap.size w w' := by
  obtain ⟨t, A1, H⟩ := Option.bind_eq_some_iff.mp h
  clear h
  have kc := fun (w : World) (C : Array Value) (n c : Nat) => Lib.run_convert_bytes_const (P := Try.prog) w 23 5 C n c Try.underlying23 Try.underlying5
  have A1 := Aside0.mk A1
  by_cases h1 : t = 3421780262
  · rw [if_pos h1] at H
    obtain ⟨u, A2, H⟩ := Option.bind_eq_some_iff.mp H
    obtain rfl := Option.some.inj H
    clear H
    have A2 := Aside0.mk A2
    have h1' : (t == 3421780262) = true := beq_iff_eq.mpr h1
    clear h1
    go_enter Try.func15, Try.ntmps15
    go_wp2_with (first | (go_at_call 18; refine (crc_Of.calls (some ⟨w.heap.size, 0, none⟩) 9 [49, 50, 51, 52, 53, 54, 55, 56, 57] t _ (nine_C w _ _) (by decide) A1.out).mono ?_; rintro e w1 ⟨rfl, hb⟩) | (go_at_call 18; refine (crc_Of.calls none 0 [] u _ (Kd.C_nil _ _) (Nat.le_refl _) A2.out).mono ?_; rintro e w2 ⟨rfl, hb2⟩))
    go_ret
    exact ⟨rfl, (((Below.refl w.heap.size w).alloc (Nat.le_refl _) _).trans (hb.mono (by simp))).trans (hb2.mono (by have := hb.size; simp at this; omega))⟩
  · rw [if_neg h1] at H
    obtain rfl := Option.some.inj H
    clear H
    have h1' : (t == 3421780262) = false := beq_eq_false_iff_ne.mpr h1
    clear h1
    go_enter Try.func15, Try.ntmps15
    go_wp2_with (go_at_call 18; refine (crc_Of.calls (some ⟨w.heap.size, 0, none⟩) 9 [49, 50, 51, 52, 53, 54, 55, 56, 57] t _ (nine_C w _ _) (by decide) A1.out).mono ?_; rintro e w1 ⟨rfl, hb⟩)
    go_ret
    exact ⟨rfl, ((Below.refl w.heap.size w).alloc (Nat.le_refl _) _).trans (hb.mono (by simp))⟩

end Go.Proofs.Ytifkeknfiknpkaa.X
