/- Functions of the translation as plain Lean functions, and proofs that the calls come to what these say. No condition. Written by a program of this session (wip/xprint.py); not trusted: Lean checks it. -/
import Derived.Test.YtanheflbbadkkaaX0
namespace Go.Proofs.Ytanheflbbadkkaa.X
open Go.RowKit Go.Proofs.YtanheflbbadkkaaW.PrintWords Go.Proofs.YtanheflbbadkkaaW.PrintLast Go.Proofs.YtanheflbbadkkaaW.PrintMore
attribute [local go_sem] max2_int min2_int max_two min_two max_three min_three max_four min_four   -- for this text's walks alone
set_option linter.unusedVariables false
set_option linter.unusedSimpArgs false

/-! ### slices_Concat_byte_byte: function 25 -/
theorem C_of_rows {w : World} {n e : Nat} (ad : Addr) (ls : List (List Int)) (hn : ls.length = n) (h63 : n ≤ 9223372036854775807)
    (h : ∀ j l, ls[j]? = some l → ∃ A c, w.cell? (ad.add j) = some (.slice A l.length c) ∧ l.length ≤ c ∧ Kd.C (Kd.int .u8) w A l.length l) : Kd.C (Kd.slice e (Kd.int .u8)) w (some ad) n ls := by
  refine ⟨hn, h63, fun _ => ⟨ad, rfl, fun j l hj => ?_⟩⟩
  obtain ⟨A, c, hc, hl, hC⟩ := h j l hj
  refine ⟨[.slice A l.length c], rfl, ⟨A, c, rfl, hl, hC⟩, fun i u hu => ?_⟩
  have : i = 0 := by
    rcases Nat.eq_zero_or_pos i with h0 | h0
    · exact h0
    · rw [List.getElem?_eq_none (by simp; omega)] at hu; cases hu
  subst this
  simp at hu
  subst hu
  simpa [Kd.slice] using hc
theorem row_nil_take {e n c : Nat} {w : World} {base : Nat} {ok : Nat → Prop} {A : Option Addr} {xs : List Int} (h : Kd.R (Kd.int .u8) e w base ok (.slice A n c) xs) : Kd.R (Kd.int .u8) e w base ok (.slice A 0 c) [] := by
  have := Kd.R_take (m := 0) h (Nat.zero_le _)
  simpa using this
set_option maxHeartbeats 8000000 in
set_option maxRecDepth 100000 in
theorem grow_nil (n : Int) (w : World) (h0 : 0 ≤ n) (hn : n ≤ 100000000) :
    Calls Try.prog 34 #[.slice none 0 0, .int .i64 n] w fun e w' => ∃ v, e = .returned v ∧ Kd.R (Kd.int .u8) 5 w' w.heap.size (fun _ => True) v [] ∧ Below w.heap.size w w' := by
  obtain ⟨i0, hi0, hz0, hs0, hb0⟩ := info_parts info5
  by_cases h1 : n = 0
  · subst h1
    go_enter Try.func34, Try.ntmps34
    go_wp2
    go_ret
    exact ⟨_, rfl, Kd.R_nil _ _ _ _ _, Below.refl _ _⟩
  · have h2 : 0 < n := by omega
    have hcut0 := cut_to (P := Try.prog) 25 5 .i64 Try.underlying25 hi0 none 0 0 0 (by omega) (by omega) (by omega)
    go_enter Try.func34, Try.ntmps34
    go_wp2_with (at_builtin; refine Kd.R_append_zeros (Kd.int .u8) (w0 := w) w.heap.size rfl (.tmp 20) (.tmp 21) 25 3 5 (.int .u8 0) 1 rfl Try.underlying25 Try.underlying3 info5 rfl (by decide) (by omega) (.slice none 0 0) [] 0 n (fun _ => True) rfl rfl rfl (fun _ _ => trivial) (Kd.R_nil _ _ _ _ _) h0 (Below.refl _ _) (Nat.le_refl _) (by simp; omega) ?_; intro v1 w1 ho hb hg hat; obtain ⟨A, c, hv⟩ := Kd.R_slice ho; subst hv; have hcut := cut_to (P := Try.prog) 25 5 .i64 Try.underlying25 hi0 A _ c 0 (by omega) (by omega) (Kd.R_reads' ho).2.1; have ho := Aside0.mk ho; have hb := Aside0.mk hb)
    go_ret
    exact ⟨_, rfl, row_nil_take ho.out, hb.out⟩
def rowAt (l : List (List Int)) (k : Nat) : List Int := l.getD k []
def flatTo (l : List (List Int)) (k : Nat) : List Int := (l.take k).flatten
theorem elem_at {w : World} {A : Option Addr} {n e : Nat} {xs : List (List Int)} (h : Kd.C (Kd.slice e (Kd.int .u8)) w A n xs) (k : Nat) (hk : k < n) :
    ∃ ad A' c', A = some ad ∧ w.cell? (ad.add k) = some (.slice A' (rowAt xs k).length c') ∧ (rowAt xs k).length ≤ c' ∧ Kd.C (Kd.int .u8) w A' (rowAt xs k).length (rowAt xs k) := by
  obtain ⟨ad, c, e1, _, ⟨A', c', rfl, h1, h2⟩, h3⟩ := ReadsRow.get_ h [] (k : Int) (by omega) (by omega)
  have h4 := h3 0 _ rfl
  simp only [Int.toNat_natCast] at h1 h2 h4
  refine ⟨ad, A', c', e1, ?_, h1, h2⟩
  unfold rowAt
  simpa [Kd.slice] using h4
theorem flat_take (l : List (List Int)) (k : Nat) (h : k < l.length) : flatTo l (k + 1) = flatTo l k ++ rowAt l k := by
  unfold flatTo rowAt
  rw [List.take_succ_eq_append_getElem h, List.flatten_append]
  simp [List.getD_eq_getElem?_getD, h]
theorem flat_all (l : List (List Int)) : flatTo l l.length = l.flatten := by unfold flatTo; rw [List.take_length]
theorem flat_le (l : List (List Int)) (k : Nat) : (flatTo l k).length ≤ l.flatten.length := by
  unfold flatTo
  conv => rhs; rw [← List.take_append_drop k l, List.flatten_append, List.length_append]
  omega
def slices_Concat_byte_byte.f (l0 : List (List Int)) : Option (List Int) := if l0.length ≤ 1000000 ∧ l0.flatten.length ≤ 100000000 then some l0.flatten else none
set_option maxHeartbeats 8000000 in
set_option maxRecDepth 100000 in
theorem slices_Concat_byte_byte.calls (A0 : Option Addr) (c0 : Nat) (l0 : List (List Int)) (r : List Int) (w : World) (hr0 : Kd.C (Kd.slice 5 (Kd.int .u8)) w A0 l0.length l0) (hc0 : l0.length ≤ c0) (h : slices_Concat_byte_byte.f l0 = some r) :
    Calls Try.prog 25 #[.slice A0 l0.length c0] w fun e w' => ∃ v0_ : Value, e = .returned (v0_) ∧ Kd.R (Kd.int .u8) 5 w' w.heap.size (fun _ => True) v0_ r ∧ Below w.heap.size w w' := by
  unfold slices_Concat_byte_byte.f at h
  by_cases hb : l0.length ≤ 1000000 ∧ l0.flatten.length ≤ 100000000
  · rw [if_pos hb] at h
    obtain rfl := Option.some.inj h
    clear h
    obtain ⟨hb1, hb2⟩ := hb
    have HR0 := Aside0.mk hr0
    clear hr0
    go_enter Try.func25, Try.ntmps25
    go_wp2
    go_loop [3, 11] (fun s i => ∃ k : Nat, k ≤ l0.length ∧ i = .int .i64 k ∧ s = .int .i64 ((flatTo l0 k).length : Nat)) (fun _ i => l0.length - (intOf i).toNat)
    case atStart => exact ⟨0, Nat.zero_le _, rfl, rfl⟩
    case round =>
      obtain ⟨k, hk, rfl, rfl⟩ := hrel
      by_cases hlt : k < l0.length
      · obtain ⟨ad, A', c', e, hx, hl', _⟩ := elem_at HR0.out k hlt
        cases e
        have hf := Aside0.mk (flat_take l0 k hlt)
        have hg := flat_le l0 (k + 1)
        rw [hf.out, List.length_append] at hg
        have hg0 : (flatTo l0 k).length ≤ 100000000 := by omega
        go_wp2
        go_round
        case rel => exact ⟨k + 1, by omega, by go_num, by rw [hf.out, List.length_append]; go_num⟩
        case measure => simp [intOf]; omega
      · obtain rfl : k = l0.length := by omega
        rw [flat_all]
        obtain ⟨n, hn⟩ : ∃ n : Nat, n = l0.flatten.length := ⟨_, rfl⟩
        rw [← hn] at hb2 ⊢
        have Hn := Aside0.mk hn
        clear hn
        go_wp2_with (go_at_call 34; refine (grow_nil (n : Int) _ (by omega) (by omega)).mono ?_; rintro e w1 ⟨v, rfl, ho, hb⟩; have HO := Aside0.mk ho; have HB := Aside0.mk hb; clear ho hb)
        go_loopw [6, 27] (fun v i wr => ∃ k : Nat, k ≤ l0.length ∧ i = .int .i64 k ∧ Aside0 (Kd.R (Kd.int .u8) 5 wr w.heap.size (fun _ => True) v (flatTo l0 k)) ∧ Aside0 (Below w.heap.size w wr)) (fun _ i _ => l0.length - (intOf i).toNat)
        case atStart => exact ⟨0, Nat.zero_le _, rfl, HO, HB⟩
        case round =>
          clear HO HB
          obtain ⟨k, hk, rfl, HO, HB⟩ := hrel
          by_cases hlt : k < l0.length
          · obtain ⟨ad, A', c', e, hx, hl', hC⟩ := elem_at (Kd.C_below HR0.out HB.out) k hlt
            cases e
            have hf := Aside0.mk (flat_take l0 k hlt)
            have hg := flat_le l0 (k + 1)
            rw [hf.out, List.length_append, ← Hn.out] at hg
            have hg0 := Aside0.mk hg
            have hC := Aside0.mk hC
            clear hg
            go_wp2_with (at_builtin; refine Kd.R_append_rows (Kd.int .u8) (w0 := w) w.heap.size rfl (.tmp 31) (.tmp 32) 25 5 (.int .u8 0) 1 rfl Try.underlying25 info5 rfl (by decide) (by omega) u6 (flatTo l0 k) (rowAt l0 k) _ _ _ (fun _ => True) (fun _ => False) rfl rfl HO.out hC.out (fun _ _ h => h) (fun _ h => h.elim) (fun _ _ => trivial) HB.out HB.out.size (by have := hg0.out; omega) ?_; intro v2 w2 ho hb hg hat; rw [← hf.out] at ho; have ho := Aside0.mk ho; have hb := Aside0.mk hb)
            go_roundw
            case rel => exact ⟨k + 1, by omega, by go_num, ho, hb⟩
            case measure => simp [intOf]; omega
          · obtain rfl : k = l0.length := by omega
            go_wp2
            go_ret
            exact ⟨_, rfl, by rw [← flat_all]; exact HO.out, HB.out⟩
  · rw [if_neg hb] at h
    cases h

end Go.Proofs.Ytanheflbbadkkaa.X
