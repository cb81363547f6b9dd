/- The document's values as bytes, plainly: they come to the same. -/
import Derived.Test.YtgijidifmhccpaaVaLaws
import Derived.Test.YtgijidifmhccpaaRefLe
import Derived.Test.YtgijidifmhccpaaX21
import Derived.Test.YtgijidifmhccpaaX24
import Derived.Test.YtgijidifmhccpaaX18
import Derived.Test.YtgijidifmhccpaaX25
namespace Go.Proofs.Ytgijidifmhccpaa.Va
open Go.RowKit Go.Proofs.Ytgijidifmhccpaa.X Go.Proofs.YtgijidifmhccpaaW.PrintWords Go.Proofs.YtgijidifmhccpaaW.PrintLast Go.Proofs.YtgijidifmhccpaaW.PrintMore
open Go.Proofs.Ytgijidifmhccpaa.Leb Go.Proofs.Ytgijidifmhccpaa.LeFacts Go.Proofs.Ytgijidifmhccpaa.LeZig Go.Proofs.Ytgijidifmhccpaa.RefLe
set_option linter.unusedVariables false
set_option linter.unusedSimpArgs false

theorem rmay_j0 (j : Nat) (b : Bool) (k n : Int) (s : ByteArray) : towncrierref04_May.j0 (j + 1) b k n s = some (if b = true then false else if k = 0 then true else if k = 1 then (decide (n = 0) || n == 1) else if k = 2 then (decide (n = 0) && decide ((s.size : Int) ≤ 40)) else if k = 3 then (decide (n ≥ 0) && decide (n ≤ 1125899906842624)) else false) := by
  simp only [towncrierref04_May.j0]
  by_cases h0 : b = true
  · rw [if_pos h0, if_pos h0]
  · rw [if_neg h0, if_neg h0]
    by_cases h1 : k = 0
    · rw [if_pos h1, if_pos h1]
    · rw [if_neg h1, if_neg h1]
      by_cases h2 : k = 1
      · rw [if_pos h2, if_pos h2]
        by_cases h3 : n = 0
        · rw [if_pos h3, decide_eq_true h3]; rfl
        · rw [if_neg h3, decide_eq_false h3]; rfl
      · rw [if_neg h2, if_neg h2]
        by_cases h3 : k = 2
        · rw [if_pos h3, if_pos h3]
          by_cases h4 : n = 0
          · rw [if_pos h4, decide_eq_true h4]; rfl
          · rw [if_neg h4, decide_eq_false h4]; rfl
        · rw [if_neg h3, if_neg h3]
          by_cases h4 : k = 3
          · rw [if_pos h4, if_pos h4]
            by_cases h5 : n ≥ 0
            · rw [if_pos h5, decide_eq_true h5]; rfl
            · rw [if_neg h5, decide_eq_false h5]; rfl
          · rw [if_neg h4, if_neg h4]
theorem rmay_f (j : Nat) (hj : 1 ≤ j) (k n : Int) (s : ByteArray) (hn : In64 n) : towncrierref04_May.f j k n s = some (value_May.b k n s) := by
  obtain ⟨j, rfl⟩ : ∃ m, j = m + 1 := ⟨j - 1, by omega⟩
  unfold towncrierref04_May.f
  rw [rmay_j0, rmay_j0]
  by_cases h2 : k = 2
  · rw [if_pos h2]
    subst h2
    unfold value_May.b
    rw [if_pos rfl, if_neg (by decide), if_neg (by decide), if_neg (by decide), if_pos rfl]
    by_cases h3 : n = 0
    · rw [if_pos h3, decide_eq_true h3]; rfl
    · rw [if_neg h3, decide_eq_false h3]; rfl
  · rw [if_neg h2]
    unfold value_May.b
    simp only [if_neg h2]
    by_cases h3 : s.toList = []
    · have e : (s.toList != ([] : List UInt8)) = false := by rw [h3]; rfl
      rw [e, if_neg (by decide), if_pos h3]
      by_cases h4 : k = 0
      · rw [if_pos h4, if_pos h4]
      · rw [if_neg h4, if_neg h4]
        by_cases h5 : k = 1
        · rw [if_pos h5, if_pos h5]
          have hw := wrap_lt2 n hn
          by_cases h6 : n = 0 ∨ n = 1
          · rw [decide_eq_true (hw.2 h6)]
            rcases h6 with rfl | rfl <;> rfl
          · rw [decide_eq_false (fun q => h6 (hw.1 q)), decide_eq_false (fun q => h6 (.inl q)), beq_eq_false_iff_ne.mpr (fun q => h6 (.inr q))]; rfl
        · rw [if_neg h5, if_neg h5]
          by_cases h6 : k = 3
          · rw [if_pos h6, if_pos h6]
            by_cases h7 : n ≥ 0
            · rw [if_pos h7, decide_eq_true h7]; rfl
            · rw [if_neg h7, decide_eq_false h7]; rfl
          · rw [if_neg h6, if_neg h6]
    · have e : (s.toList != ([] : List UInt8)) = true := bne_iff_ne.mpr h3
      rw [e, if_pos rfl, if_neg h3]
theorem refPut_f' (n : Int) (k : Nat) (hk : 10 ≤ k) (h0 : 0 ≤ n) (h1 : n < 18446744073709551616) : towncrierref01_Put.f k n = some (leb n.toNat) := by
  obtain ⟨m, rfl⟩ := Int.eq_ofNat_of_zero_le h0
  exact refPut_f m k hk (by omega)
theorem bytesOf_empty : bytesOf (⟨#[]⟩ : ByteArray) = [] := rfl
theorem rput_ok (j : Nat) (hj : 11 ≤ j) (k n : Int) (s : ByteArray) (hn : In64 n) (h : Ok k n s) : towncrierref04_Put.f j k n s = some (vb k n s, true) := by
  have hm := (may_ok k n s hn).2 h
  have hlt := num_lt hn h
  have hlen := leb_len10 hlt
  unfold towncrierref04_Put.f
  rw [rmay_f j (by omega) k n s hn, hm, Option.bind_some, if_pos rfl]
  unfold vb tl
  rcases h with ⟨rfl, rfl⟩ | ⟨rfl, rfl, h⟩ | ⟨rfl, rfl, h⟩ | ⟨rfl, rfl, h0, h1⟩
  · have e : num 0 n ⟨#[]⟩ = (zig n).toNat := by unfold num; rw [if_pos rfl]
    rw [e] at hlen ⊢
    rw [if_pos rfl, refZig_f n hn.1 hn.2, Option.bind_some, if_neg (by decide), Option.bind_some, refPut_f' _ j (by omega) (zig_range n hn.1 hn.2).1 (zig_range n hn.1 hn.2).2, Option.bind_some]
    rw [if_pos (by simp only [List.length_cons, List.length_nil]; omega), Option.bind_some, if_pos (by have hE : (⟨#[]⟩ : ByteArray).size = 0 := rfl; simp only [List.length_append, List.length_cons, List.length_nil]; omega), bytesOf_empty]
    simp
  · have e : num 1 n ⟨#[]⟩ = n.toNat := by unfold num; rw [if_neg (by decide), if_neg (by decide)]
    rw [e] at hlen ⊢
    rw [if_neg (by decide), if_neg (by decide), Option.bind_some, u64_id n (by omega) (by omega), refPut_f' _ j (by omega) (by omega) (by omega), Option.bind_some]
    rw [if_pos (by simp only [List.length_cons, List.length_nil]; omega), Option.bind_some, if_pos (by have hE : (⟨#[]⟩ : ByteArray).size = 0 := rfl; simp only [List.length_append, List.length_cons, List.length_nil]; omega), bytesOf_empty]
    simp
  · have e : num 2 0 s = s.size := by unfold num; rw [if_neg (by decide), if_pos rfl]
    rw [e] at hlen ⊢
    rw [if_neg (by decide), if_pos rfl, Option.bind_some, u64_id _ (by omega) (by omega), refPut_f _ j (by omega) (by omega), Option.bind_some]
    rw [if_pos (by simp only [List.length_cons, List.length_nil]; omega), Option.bind_some, if_pos (by simp only [List.length_append, List.length_cons, List.length_nil]; omega)]
    simp
  · have e : num 3 n ⟨#[]⟩ = n.toNat := by unfold num; rw [if_neg (by decide), if_neg (by decide)]
    rw [e] at hlen ⊢
    rw [if_neg (by decide), if_neg (by decide), Option.bind_some, u64_id n (by omega) (by omega), refPut_f' _ j (by omega) (by omega) (by omega), Option.bind_some]
    rw [if_pos (by simp only [List.length_cons, List.length_nil]; omega), Option.bind_some, if_pos (by have hE : (⟨#[]⟩ : ByteArray).size = 0 := rfl; simp only [List.length_append, List.length_cons, List.length_nil]; omega), bytesOf_empty]
    simp
theorem rput_no (j : Nat) (hj : 1 ≤ j) (k n : Int) (s : ByteArray) (hn : In64 n) (h : ¬ Ok k n s) : towncrierref04_Put.f j k n s = some ([], false) := by
  have hm : value_May.b k n s = false := Bool.eq_false_iff.mpr (fun e => h ((may_ok k n s hn).1 e))
  unfold towncrierref04_Put.f
  rw [rmay_f j hj k n s hn, hm, Option.bind_some, if_neg (by decide)]
theorem rge_f (j : Nat) (hj : 1 ≤ j) (k n : Int) (s : ByteArray) (e : Int) (hn : In64 n) : towncrierref04_Get.e j k n s e = some (ge k n s e) := by
  unfold towncrierref04_Get.e ge none5
  rw [rmay_f j hj k n s hn, Option.bind_some]
  by_cases h : value_May.b k n s = true
  · rw [if_pos h, if_pos h]
  · rw [if_neg h, if_neg h]
theorem ge_long (s : ByteArray) (e : Int) (h : 40 < s.size) : ge 2 0 s e = none5 := by
  unfold ge
  rw [if_neg (fun q => by
    rcases (may_ok 2 0 s in0).1 q with ⟨h, _⟩ | ⟨h, _⟩ | ⟨_, _, h⟩ | ⟨h, _⟩ <;> omega)]
theorem rget_f (j : Nat) (hj : 34 ≤ j) (l : List Int) (hb : Byt l) (hl : l.length ≤ 1000000) : towncrierref04_Get.f j l = some (g l) := by
  unfold towncrierref04_Get.f
  match l with
  | [] => rw [if_pos (show ([] : List Int).length = 0 from rfl)]; rfl
  | x :: r =>
    have hx := hb x (by simp)
    have hr : Byt r := fun y hy => hb y (by simp [hy])
    have hrl : r.length ≤ 1000000 := by simp only [List.length_cons] at hl; omega
    rw [if_neg (by simp), if_pos hl, show (x :: r).drop 1 = r from rfl, refGet_f r hr hrl j hj, Option.bind_some]
    have e0 : rd (x :: r) 0 = x := rfl
    rw [e0]
    unfold g
    obtain ⟨y, u, is, hg⟩ : ∃ y u is, getL r 0 0 = (y, u, is) := ⟨_, _, _, rfl⟩
    simp only [hg, castG]
    cases is with
    | false => rw [if_neg (by decide), if_neg (by decide)]; rfl
    | true =>
      rw [if_pos rfl, if_pos rfl]
      obtain ⟨m, e1, e2, e3, e4, e5, e6, e7⟩ := get_some r 0 0 y u hr hg
      have hu : u ≤ r.length := by omega
      have hy : y < 18446744073709551616 := by omega
      rw [if_pos ⟨by omega, by simp only [List.length_cons]; omega, by omega, hx.1, hx.2⟩]
      have eu : (1 : Int) + (u : Int) = (u : Int) + 1 := by omega
      rw [eu]
      by_cases h0 : x = 0
      · rw [if_pos h0, if_pos h0, refZag_f _ (by omega) (by omega), Option.bind_some, rge_f j (by omega) _ _ _ _ (zag_range _ (by omega) (by omega))]
      · rw [if_neg h0, if_neg h0]
        by_cases h2 : x = 2
        · rw [if_pos h2, if_pos h2]
          by_cases hlt : r.length < u + y
          · rw [if_pos hlt, if_pos (.inr (by simp only [List.length_cons]; omega))]; rfl
          · rw [if_neg hlt]
            have et : ((u : Int) + 1 + (y : Int)).toNat = u + y + 1 := by omega
            have et2 : ((u : Int) + 1).toNat = u + 1 := by omega
            have es : ((x :: r).take (u + y + 1)).drop (u + 1) = (r.drop u).take y := by
              rw [List.take_succ_cons, List.drop_succ_cons, List.drop_take, show u + y - u = y by omega]
            have ee : (u : Int) + 1 + (y : Int) = ((u + y : Nat) : Int) + 1 := by omega
            have hsz : (strOfNums ((r.drop u).take y)).size = y := by rw [strOfNums_size, List.length_take, List.length_drop]; omega
            by_cases h40 : (40 : Int) < (y : Int)
            · rw [if_pos (.inl h40), ge_long _ _ (by rw [hsz]; omega)]; rfl
            · have hno : ¬ ((40 : Int) < (y : Int) ∨ (((x :: r).length : Nat) : Int) - ((u : Int) + 1) < (y : Int)) := by
                rintro (h | h)
                · exact h40 h
                · simp only [List.length_cons] at h; omega
              rw [if_neg hno, et, et2, es, ee, rge_f j (by omega) _ _ _ _ in0]
        · rw [if_neg h2, if_neg h2, rge_f j (by omega) _ _ _ _ (wrap64_in _)]
/-- The document's less, byte by byte. -/
theorem bt_nth (s : ByteArray) (i : Nat) (h : i < s.size) : ∃ b, s.toList[i]? = some b ∧ bt s (i : Int) = (b.toNat : Int) := by
  have hd : i < s.data.toList.length := by rw [Array.length_toList]; exact h
  refine ⟨s.data.toList[i], ?_, ?_⟩
  · rw [ByteArray.toList_eq, List.getElem?_eq_getElem hd]
  · rw [← rd_bytesOf]
    unfold rd bytesOf
    rw [List.getD_eq_getElem?_getD, Int.toNat_natCast, List.getElem?_map, List.getElem?_eq_getElem hd]
    rfl
theorem rless_l0 (k n : Int) (s : ByteArray) (k' n' : Int) (s' : ByteArray) (hs : s.size ≤ 1000) (hs' : s'.size ≤ 1000) : ∀ (d i j : Nat), s'.size - i = d → i ≤ s'.size → i ≤ s.size → d < j →
    towncrierref04_Less.l0 j (i : Int) k n s k' n' s' = some (Op.bytesLess (s.toList.drop i) (s'.toList.drop i), true) := by
  have hl : s.toList.length = s.size := by rw [ByteArray.toList_eq, Array.length_toList]; rfl
  have hl' : s'.toList.length = s'.size := by rw [ByteArray.toList_eq, Array.length_toList]; rfl
  intro d
  induction d with
  | zero =>
    intro i j hd hi hi2 hj
    obtain ⟨j, rfl⟩ : ∃ m, j = m + 1 := ⟨j - 1, by omega⟩
    unfold towncrierref04_Less.l0
    rw [if_neg (by omega), List.drop_eq_nil_of_le (show s'.toList.length ≤ i by omega)]
    cases s.toList.drop i <;> rfl
  | succ d ih =>
    intro i j hd hi hi2 hj
    obtain ⟨j, rfl⟩ : ∃ m, j = m + 1 := ⟨j - 1, by omega⟩
    unfold towncrierref04_Less.l0
    have hw : wrap64 ((i : Int) + 1) = ((i + 1 : Nat) : Int) := step_wrap i (by omega)
    obtain ⟨b', hb', ht'⟩ := bt_nth s' i (by omega)
    have hd' : s'.toList.drop i = b' :: s'.toList.drop (i + 1) := by
      have hlt : i < s'.toList.length := by omega
      rw [List.drop_eq_getElem_cons hlt]
      rw [List.getElem?_eq_getElem hlt] at hb'
      rw [Option.some.inj hb']
    rw [if_pos (by omega), hd']
    by_cases h1 : (i : Int) ≥ (s.size : Int)
    · rw [if_pos h1, List.drop_eq_nil_of_le (show s.toList.length ≤ i by omega)]; rfl
    · rw [if_neg h1]
      obtain ⟨b, hbb, ht⟩ := bt_nth s i (by omega)
      have hdd : s.toList.drop i = b :: s.toList.drop (i + 1) := by
        have hlt : i < s.toList.length := by omega
        rw [List.drop_eq_getElem_cons hlt]
        rw [List.getElem?_eq_getElem hlt] at hbb
        rw [Option.some.inj hbb]
      rw [if_pos (by omega), if_pos (by omega), ht, ht', hdd, hw]
      by_cases h2 : (b.toNat : Int) = (b'.toNat : Int)
      · have e : b = b' := UInt8.toNat_inj.1 (by omega)
        subst e
        rw [if_pos rfl, ih (i + 1) j (by omega) (by omega) (by omega) (by omega)]
        simp [Op.bytesLess, UInt8.lt_irrefl]
      · rw [if_neg h2]
        have e : ¬ b = b' := fun q => h2 (by rw [q])
        simp only [Op.bytesLess]
        have e2 : (b == b') = false := beq_eq_false_iff_ne.mpr e
        rw [e2, Bool.false_and, Bool.or_false]
        congr 2
        exact decide_eq_decide.2 (by rw [UInt8.lt_iff_toNat_lt]; omega)
theorem rless_f (j : Nat) (hj : 50 ≤ j) (k n : Int) (s : ByteArray) (k' n' : Int) (s' : ByteArray) (hn : In64 n) (hn' : In64 n') :
    towncrierref04_Less.f j k n s k' n' s' = some (if value_May.b k n s = true ∧ value_May.b k' n' s' = true ∧ k = k' then (lt n s n' s', true) else (false, false)) := by
  obtain ⟨j, rfl⟩ : ∃ m, j = m + 1 := ⟨j - 1, by omega⟩
  unfold towncrierref04_Less.f
  rw [rmay_f _ (by omega) k n s hn, rmay_f _ (by omega) k' n' s' hn', Option.bind_some, Option.bind_some]
  by_cases h1 : value_May.b k n s = true
  · rw [if_pos h1]
    by_cases h2 : value_May.b k' n' s' = true
    · rw [if_pos h2]
      by_cases h3 : k = k'
      · rw [if_pos ⟨h1, h2, h3⟩]
        subst h3
        simp only [towncrierref04_Less.j0, bne_self_eq_false]
        rw [if_neg (by decide)]
        have o1 := (may_ok k n s hn).1 h1
        have o2 := (may_ok k n' s' hn').1 h2
        by_cases hk : k = 2
        · rw [if_pos hk]
          subst hk
          have a1 : n = 0 ∧ s.size ≤ 40 := by rcases o1 with ⟨h, _⟩ | ⟨h, _⟩ | ⟨_, h, h'⟩ | ⟨h, _⟩ <;> first | exact ⟨h, h'⟩ | omega
          have a2 : n' = 0 ∧ s'.size ≤ 40 := by rcases o2 with ⟨h, _⟩ | ⟨h, _⟩ | ⟨_, h, h'⟩ | ⟨h, _⟩ <;> first | exact ⟨h, h'⟩ | omega
          have hz := rless_l0 2 n s 2 n' s' (by omega) (by omega) (s'.size) 0 j (by omega) (by omega) (by omega) (by omega)
          rw [show ((0 : Nat) : Int) = 0 from rfl] at hz
          rw [hz, a1.1, a2.1]
          simp [lt]
        · rw [if_neg hk]
          have b1 : s = ⟨#[]⟩ := by rcases o1 with ⟨_, h⟩ | ⟨_, h, _⟩ | ⟨h, _⟩ | ⟨_, h, _⟩ <;> first | exact h | omega
          have b2 : s' = ⟨#[]⟩ := by rcases o2 with ⟨_, h⟩ | ⟨_, h, _⟩ | ⟨h, _⟩ | ⟨_, h, _⟩ <;> first | exact h | omega
          subst b1 b2
          unfold lt
          rw [bl_irr, Bool.and_false, Bool.or_false]
      · rw [if_neg (fun h => h3 h.2.2)]
        have : (k != k') = true := bne_iff_ne.mpr h3
        simp only [towncrierref04_Less.j0, this, if_true]
    · rw [if_neg h2, if_neg (fun h => h2 h.2.1)]
      simp only [towncrierref04_Less.j0, if_true]
  · rw [if_neg h1, if_neg (fun h => h1 h.1)]
    simp only [towncrierref04_Less.j0, if_true]
end Go.Proofs.Ytgijidifmhccpaa.Va
