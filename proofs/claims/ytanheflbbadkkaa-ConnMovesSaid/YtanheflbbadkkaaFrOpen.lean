/- A parameter that is a row of rows of bytes, opened; and several frames one behind the other, plainly. -/
import Derived.Test.YtanheflbbadkkaaFrBase
import Derived.Deep.Matrix
namespace Go.Proofs.Ytanheflbbadkkaa.X
open Go.RowKit Go.Proofs.YtanheflbbadkkaaW.PrintWords Go.Proofs.YtanheflbbadkkaaW.PrintLast Go.Proofs.YtanheflbbadkkaaW.PrintMore
attribute [local go_sem] max2_int min2_int max_two min_two max_three min_three max_four min_four
set_option linter.unusedVariables false
set_option linter.unusedSimpArgs false
open Go.ChangeShapes Go.WideShapes Go.Deep in
theorem open_rows {H : Type} {enc : TypeId × Value → H} {P : Program} {w : World} {base : Nat} {held : Bool} {t e q : TypeId} {fuel : Nat} {cs : List Value} {x : DataW H × List MemPlace} (ht : P.underlying t = some (.slice e)) (he : P.underlying e = some (.slice q)) (hq : P.underlying q = some (.int .u8)) (ce : P.cellsOf e = 1) (cq : P.cellsOf q = 1)
    (h : DataW.trod enc P w base (fun _ => true) held fuel t cs = some x) : ∃ (A : Option Addr) (c : Nat) (L : List (List Int)), cs = [.slice A L.length c] ∧ Kd.C (Kd.slice q (Kd.int .u8)) w A L.length L ∧ L.length ≤ c ∧ ∀ l ∈ L, ∀ z ∈ l, 0 ≤ z ∧ z < 256 := by
  rcases open_int_rows ht he hq ce cq h with ⟨rfl, _⟩ | ⟨a, len, cap, A, Ln, C, Z, rfl, _, hl, hm, _, hr⟩
  · exact ⟨none, 0, [], rfl, Kd.C_nil _ _, Nat.le_refl _, by simp⟩
  · have hln : ∀ r, r < cap → ((Z r).take (Ln r)).length = Ln r := fun r hr' => by
      obtain ⟨_, h1, _, h3, _⟩ := hr r hr'
      rw [List.length_take]; omega
    refine ⟨some a, cap, (List.range len).map fun r => (Z r).take (Ln r), by simp, ?_, by simpa using hl, ?_⟩
    · refine C_of_rows a _ rfl (by simp only [List.length_map, List.length_range]; exact Nat.le_trans hl (Nat.le_trans hm (by decide))) (fun j l hj => ?_)
      have hj1 : j < len := by
        by_cases hj1 : j < len
        · exact hj1
        · rw [List.getElem?_eq_none (by simp; omega)] at hj; cases hj
      rw [List.getElem?_map, List.getElem?_range hj1] at hj
      simp only [Option.map_some, Option.some.injEq] at hj
      obtain ⟨h0, h1, h2, h3, h4, h5, h6⟩ := hr j (by omega)
      subst hj
      have hlj := hln j (by omega)
      refine ⟨A j, C j, by rw [hlj]; exact h0, by rw [hlj]; exact h1, Kd.C_of_reads (d := (0 : Int)) (h1 := fun _ => rfl) ⟨rfl, by rw [hlj]; exact Nat.le_trans h1 (Nat.le_trans h2 (by decide)), fun hp => ?_⟩⟩
      cases hA : A j with
      | none => have := h5 hA; omega
      | some a' =>
        refine ⟨a', rfl, fun i hi => ?_⟩
        rw [(h6 a' hA).2 i (by omega)]
        rw [hlj] at hi
        simp [List.getD_eq_getElem?_getD, List.getElem?_take, hi]
    · intro l hl' z hz
      obtain ⟨r, hr', rfl⟩ := List.mem_map.1 hl'
      have := (hr r (by have := List.mem_range.1 hr'; omega)).2.2.2.2.1 z (List.mem_of_mem_take hz)
      simp only [Lit.wf, IntKind.min, IntKind.max, IntKind.signed, IntKind.bits, Bool.and_eq_true] at this
      simp at this; omega
end Go.Proofs.Ytanheflbbadkkaa.X
namespace Go.Proofs.Ytanheflbbadkkaa.Fr
open Go.RowKit Go.Proofs.Ytanheflbbadkkaa.X Go.Proofs.YtanheflbbadkkaaW.PrintWords Go.Proofs.YtanheflbbadkkaaW.PrintLast Go.Proofs.YtanheflbbadkkaaW.PrintMore
open Go.Proofs.Ytanheflbbadkkaa.Crc Go.Proofs.Ytanheflbbadkkaa.CrcFacts Go.Proofs.Ytanheflbbadkkaa.CrcRef Go.Proofs.Ytanheflbbadkkaa.LeWord
/-- Several frames. -/
def packs (l : List (List Int)) : List Int := (l.map pack).flatten
theorem packs_snoc (l : List (List Int)) (b : List Int) : packs (l ++ [b]) = packs l ++ pack b := by simp [packs]
theorem packs_bytes {l : List (List Int)} (h : ∀ b ∈ l, Byt b) : Byt (packs l) := fun x hx => by
  unfold packs at hx
  rw [List.mem_flatten] at hx
  obtain ⟨p, hp, hx⟩ := hx
  obtain ⟨b, hb, rfl⟩ := List.mem_map.1 hp
  exact pack_bytes (h b hb) x hx
theorem packs_len (m : Nat) (l : List (List Int)) (h : ∀ b ∈ l, b.length ≤ m) : (packs l).length ≤ l.length * (m + 8) := by
  induction l with
  | nil => simp [packs]
  | cons b r ih =>
    have h1 := ih (fun x hx => h x (by simp [hx]))
    have h2 := h b (by simp)
    have e : packs (b :: r) = pack b ++ packs r := by simp [packs]
    rw [e, List.length_append, pack_len, List.length_cons, Nat.succ_mul]
    omega
theorem fdA_packs (rest : List Int) (hr : rest.length ≤ 7) : ∀ (l : List (List Int)), (∀ b ∈ l, Byt b ∧ b.length ≤ 512) → fdA (packs l ++ rest) = (rest, false, l) := by
  intro l
  induction l with
  | nil => intro _; rw [show packs [] ++ rest = rest from rfl, fdA_eq, if_pos (by omega)]
  | cons b r ih =>
    intro h
    have e : packs (b :: r) ++ rest = pack b ++ (packs r ++ rest) := by simp [packs]
    rw [e, fdA_pack b _ (h b (by simp)).1 (h b (by simp)).2, ih (fun x hx => h x (by simp [hx]))]
end Go.Proofs.Ytanheflbbadkkaa.Fr
