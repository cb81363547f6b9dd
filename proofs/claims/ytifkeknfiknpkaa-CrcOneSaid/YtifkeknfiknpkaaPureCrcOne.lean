/- The law CrcOne: bytes that differ in one place alone have other checks. No condition. -/
import Derived.Test.YtifkeknfiknpkaaX10
import Derived.Test.YtifkeknfiknpkaaCrcLaws
namespace Go.Proofs.Ytifkeknfiknpkaa.Pure
open Go.RowKit Go.Proofs.Ytifkeknfiknpkaa.X Go.Proofs.YtifkeknfiknpkaaW.PrintWords Go.Proofs.YtifkeknfiknpkaaW.PrintLast Go.Proofs.YtifkeknfiknpkaaW.PrintMore
open Go.Proofs.Ytifkeknfiknpkaa.Crc Go.Proofs.Ytifkeknfiknpkaa.CrcFacts Go.Proofs.Ytifkeknfiknpkaa.CrcLaws

theorem CrcOne : towncrierlaw02_CrcOne.Pure := by
  intro b a c _ _ hb ha hc
  have hb := wf_bytes hb
  have ha := wf_i64 ha
  have hc := wf_u8 hc
  refine ⟨2, ?_⟩
  unfold towncrierlaw02_CrcOne.f
  rw [awake_f, Option.bind_some, if_pos rfl]
  simp only [towncrierlaw02_CrcOne.j0]
  by_cases hl : (b.length : Int) > 400
  · rw [if_pos hl, if_pos trivial]
  · rw [if_neg hl]
    by_cases h1 : a < 0
    · rw [if_pos h1, if_pos trivial]
    · rw [if_neg h1]
      by_cases h2 : a ≥ (b.length : Int)
      · rw [if_pos (by simpa using h2)]
      · have h3 : 0 ≤ a := Int.not_lt.1 h1
        have h4 : a < (b.length : Int) := Int.not_le.1 h2
        obtain ⟨i, rfl⟩ := Int.eq_ofNat_of_zero_le h3
        have h5 : b.length ≤ 400 := by omega
        have h6 : i < b.length := by omega
        have hs : b = b.take i ++ b[i] :: b.drop (i + 1) := by
          conv => lhs; rw [← List.take_append_drop i b]
          rw [List.drop_eq_getElem_cons h6]
        have hset : b.set i c = b.take i ++ c :: b.drop (i + 1) := by
          rw [List.set_eq_take_append_cons_drop, if_pos h6]
        have hrd : rd b (i : Int) = b[i] := by
          unfold rd; simp [List.getD_eq_getElem?_getD, h6]
        have hbs : ∀ x ∈ b.set i c, 0 ≤ x ∧ x < 256 := fun x hx => by
          rcases List.mem_or_eq_of_mem_set hx with hx | rfl
          · exact hb x hx
          · exact hc
        rw [if_neg (by simpa using h2), if_pos (by simp; omega)]
        simp only [List.nil_append]
        rw [Option.bind_some, if_pos h3, if_pos h4, Int.toNat_natCast, of_f _ hbs (by rw [List.length_set]; omega), Option.bind_some, of_f b hb (by omega), Option.bind_some, if_pos h4, hrd]
        by_cases h : c = b[i]
        · have e : b.set i c = b := by rw [hset, h, ← hs]
          rw [e, h]; simp
        · have h7 : ¬ ((sumB 0#32 (b.set i c)).toNat : Int) = ((sumB 0#32 b).toNat : Int) := by
            intro e
            have e := not_inj (toNat_inj.1 e)
            rw [hset] at e
            conv at e => rhs; rw [hs]
            exact h (crcB_one _ _ hc (hb _ (List.getElem_mem h6)) _ e)
          rw [beq_eq_false_iff_ne.2 h7, beq_eq_false_iff_ne.2 h]; rfl

end Go.Proofs.Ytifkeknfiknpkaa.Pure
