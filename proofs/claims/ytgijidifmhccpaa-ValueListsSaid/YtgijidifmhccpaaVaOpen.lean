/- A parameter that is a row of values, opened. -/
import Derived.Test.YtgijidifmhccpaaVaLists
import Derived.Deep.Strs
import Derived.Deep.Slices
namespace Go.Proofs.Ytgijidifmhccpaa.X
open Go.RowKit Go.Proofs.YtgijidifmhccpaaW.PrintWords Go.Proofs.YtgijidifmhccpaaW.PrintLast Go.Proofs.YtgijidifmhccpaaW.PrintMore
attribute [local go_sem] max2_int min2_int max_two min_two max_three min_three max_four min_four
set_option linter.unusedVariables false
set_option linter.unusedSimpArgs false
open Go.Proofs.Ytgijidifmhccpaa.Va
theorem in64_wf {n : Int} (h : (Lit.int .i64 n).wf = true) : In64 n := wf_in h
open Go.ChangeShapes Go.WideShapes Go.Deep in
theorem open_vals {H : Type} {enc : TypeId × Value → H} {P : Program} {w : World} {base : Nat} {held : Bool} {t e : TypeId} {f0 f1 f2 : Field} {fuel : Nat} {cs : List Value} {x : DataW H × List MemPlace} (ht : P.underlying t = some (.slice e)) (he : P.underlying e = some (.struct #[f0, f1, f2]))
    (o0 : f0.offset = 0) (o1 : f1.offset = 1) (o2 : f2.offset = 2) (h0 : P.underlying f0.type = some (.int .i64)) (h1 : P.underlying f1.type = some (.int .i64)) (h2 : P.underlying f2.type = some .string) (c0 : P.cellsOf f0.type = 1) (c1 : P.cellsOf f1.type = 1) (c2 : P.cellsOf f2.type = 1) (ce : P.cellsOf e = 3)
    (h : DataW.trod enc P w base (fun _ => true) held fuel t cs = some x) : ∃ (A : Option Addr) (c : Nat) (L : List (Int × Int × ByteArray)), cs = [.slice A L.length c] ∧ VRow w A L ∧ L.length ≤ c ∧ ∀ x ∈ L, In64 x.1 ∧ In64 x.2.1 := by
  rcases open_slice ht h with ⟨rfl, _⟩ | ⟨a, len, cap, m, n, D, Pl, rfl, _, hl, hm, hmm, _, hi⟩
  · exact ⟨none, 0, [], rfl, fun i x hx => by simp at hx, Nat.le_refl _, by simp⟩
  · rw [if_pos rfl] at hmm
    subst hmm
    have key : ∀ i, ∃ x : Int × Int × ByteArray, i < len → (w.cell? (a.add (i * 3)) = some (.int .i64 x.1) ∧ w.cell? { block := (a.add (i * 3)).block, off := (a.add (i * 3)).off + 1 } = some (.int .i64 x.2.1) ∧ w.cell? { block := (a.add (i * 3)).block, off := (a.add (i * 3)).off + 2 } = some (.string x.2.2)) ∧ In64 x.1 ∧ In64 x.2.1 := fun i => by
      by_cases hil : i < len
      · obtain ⟨cs', hc, ht'⟩ := hi i (Nat.lt_of_lt_of_le hil hl)
        rw [ce] at hc
        obtain ⟨_, hcl, hat⟩ := World.cells?_some hc
        obtain ⟨y0, y1, y2, n', _, hl3, t0, t1, t2⟩ := trod_struct3 he ht'
        rw [o0, c0] at t0
        rw [o1, c1] at t1
        rw [o2, c2] at t2
        match cs', hcl with
        | [u0, u1, u2], _ =>
          obtain ⟨x0, e0, _, w0⟩ := DataW.trod_int h0 t0
          obtain ⟨x1, e1, _, w1⟩ := DataW.trod_int h1 t1
          obtain ⟨x2, e2, _, w2⟩ := DataW.trod_string h2 t2
          obtain rfl : u0 = .int .i64 x0 := by simpa using e0
          obtain rfl : u1 = .int .i64 x1 := by simpa using e1
          obtain rfl : u2 = .string x2 := by simpa using e2
          refine ⟨(x0, x1, x2), fun _ => ⟨⟨?_, ?_, ?_⟩, in64_wf w0, in64_wf w1⟩⟩
          · exact (hat 0 (by decide)).trans rfl
          · exact (hat 1 (by decide)).trans rfl
          · exact (hat 2 (by decide)).trans rfl
      · exact ⟨(0, 0, ⟨#[]⟩), fun h => absurd h hil⟩
    obtain ⟨f, hf⟩ := Classical.axiomOfChoice key
    refine ⟨some a, m, (List.range len).map f, by simp, ?_, by simpa using hl, ?_⟩
    · intro i x hx
      rw [List.getElem?_map] at hx
      by_cases hil : i < len
      · rw [List.getElem?_range hil] at hx
        simp only [Option.map_some, Option.some.injEq] at hx
        subst hx
        exact ⟨a, rfl, (hf i hil).1⟩
      · rw [List.getElem?_eq_none (by simpa using hil)] at hx
        cases hx
    · intro x hx
      obtain ⟨i, hi', rfl⟩ := List.mem_map.1 hx
      exact (hf i (List.mem_range.1 hi')).2
end Go.Proofs.Ytgijidifmhccpaa.X
