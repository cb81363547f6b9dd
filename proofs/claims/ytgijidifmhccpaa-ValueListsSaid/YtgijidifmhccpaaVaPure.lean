/- Values as bytes, plainly: what may be, is put, and is got, and that the walks come to it. -/
import Derived.Test.YtgijidifmhccpaaX5
import Derived.Test.YtgijidifmhccpaaX9
import Derived.Test.YtgijidifmhccpaaX6
import Derived.Test.YtgijidifmhccpaaLeFacts
import Derived.Test.YtgijidifmhccpaaLeZig
import Derived.Lib.LazyBuf
namespace Go.Proofs.Ytgijidifmhccpaa.Va
open Go.RowKit Go.Proofs.Ytgijidifmhccpaa.X Go.Proofs.YtgijidifmhccpaaW.PrintWords Go.Proofs.YtgijidifmhccpaaW.PrintLast Go.Proofs.YtgijidifmhccpaaW.PrintMore
open Go.Proofs.Ytgijidifmhccpaa.Leb Go.Proofs.Ytgijidifmhccpaa.LeFacts Go.Proofs.Ytgijidifmhccpaa.LeZig
set_option linter.unusedVariables false
set_option linter.unusedSimpArgs false

def Byt (l : List Int) : Prop := ∀ x ∈ l, 0 ≤ x ∧ x < 256
theorem Byt.append {a b : List Int} (ha : Byt a) (hb : Byt b) : Byt (a ++ b) := fun x hx => by
  rcases List.mem_append.1 hx with h | h
  · exact ha x h
  · exact hb x h
theorem bytesOf_byt (s : ByteArray) : Byt (bytesOf s) := fun x hx => by
  unfold bytesOf at hx
  obtain ⟨b, _, rfl⟩ := List.mem_map.1 hx
  have := b.toNat_lt
  omega
theorem str_bytes (s : ByteArray) : strOfNums (bytesOf s) = s := by
  unfold bytesOf
  refine ByteArray.ext (Array.toList_inj.1 ?_)
  rw [strOfNums_data, List.map_map]
  conv => rhs; rw [← List.map_id s.data.toList]
  refine List.map_congr_left fun x _ => ?_
  simp
theorem bytes_str {l : List Int} (h : Byt l) : bytesOf (strOfNums l) = l := by
  unfold bytesOf
  rw [strOfNums_data, List.map_map]
  conv => rhs; rw [← List.map_id l]
  refine List.map_congr_left fun x hx => ?_
  have := h x hx
  simp only [Function.comp, UInt8.toNat_ofNat', id]
  omega
theorem empty_list (s : ByteArray) : s.toList = [] ↔ s = ⟨#[]⟩ := by
  constructor
  · intro h
    rw [ByteArray.toList_eq] at h
    exact ByteArray.ext (by simpa using h)
  · rintro rfl; rw [ByteArray.toList_eq]
/-- In 64 bits. -/
def In64 (n : Int) : Prop := -9223372036854775808 ≤ n ∧ n < 9223372036854775808
def Ok (k n : Int) (s : ByteArray) : Prop :=
  (k = 0 ∧ s = ⟨#[]⟩) ∨ (k = 1 ∧ s = ⟨#[]⟩ ∧ (n = 0 ∨ n = 1)) ∨ (k = 2 ∧ n = 0 ∧ s.size ≤ 40) ∨ (k = 3 ∧ s = ⟨#[]⟩ ∧ 0 ≤ n ∧ n ≤ 1125899906842624)
theorem wrap_lt2 (n : Int) (h : In64 n) : IntKind.u64.wrap n < 2 ↔ n = 0 ∨ n = 1 := by
  unfold In64 at h
  rw [wrap_u64]
  omega
theorem may_ok (k n : Int) (s : ByteArray) (h : In64 n) : value_May.b k n s = true ↔ Ok k n s := by
  unfold value_May.b Ok
  by_cases h2 : k = 2
  · rw [if_pos h2]
    by_cases h3 : n = 0
    · rw [if_pos h3]
      simp only [decide_eq_true_eq]
      constructor
      · intro h; exact .inr (.inr (.inl ⟨h2, h3, by omega⟩))
      · rintro (⟨h, _⟩ | ⟨h, _⟩ | ⟨_, _, h⟩ | ⟨h, _⟩) <;> omega
    · rw [if_neg h3]
      constructor
      · intro h; cases h
      · rintro (⟨h, _⟩ | ⟨h, _⟩ | ⟨_, h, _⟩ | ⟨h, _⟩) <;> omega
  · rw [if_neg h2]
    by_cases h3 : s.toList = []
    · rw [if_pos h3]
      have he := (empty_list s).1 h3
      by_cases h4 : k = 0
      · rw [if_pos h4]; exact ⟨fun _ => .inl ⟨h4, he⟩, fun _ => rfl⟩
      · rw [if_neg h4]
        by_cases h5 : k = 1
        · rw [if_pos h5, decide_eq_true_eq, wrap_lt2 n h]
          constructor
          · intro h; exact .inr (.inl ⟨h5, he, h⟩)
          · rintro (⟨h, _⟩ | ⟨_, _, h⟩ | ⟨h, _⟩ | ⟨h, _⟩)
            · omega
            · exact h
            · omega
            · omega
        · rw [if_neg h5]
          by_cases h6 : k = 3
          · rw [if_pos h6]
            by_cases h7 : n ≥ 0
            · rw [if_pos h7, decide_eq_true_eq]
              constructor
              · intro h; exact .inr (.inr (.inr ⟨h6, he, h7, h⟩))
              · rintro (⟨h, _⟩ | ⟨h, _⟩ | ⟨h, _⟩ | ⟨_, _, _, h⟩)
                · omega
                · omega
                · omega
                · exact h
            · rw [if_neg h7]
              constructor
              · intro h; cases h
              · rintro (⟨h, _⟩ | ⟨h, _⟩ | ⟨h, _⟩ | ⟨_, _, h, _⟩) <;> omega
          · rw [if_neg h6]
            constructor
            · intro h; cases h
            · rintro (⟨h, _⟩ | ⟨h, _⟩ | ⟨h, _⟩ | ⟨h, _⟩) <;> omega
    · rw [if_neg h3]
      constructor
      · intro h; cases h
      · rintro (⟨_, h⟩ | ⟨_, h, _⟩ | ⟨h, _⟩ | ⟨_, h, _⟩)
        · exact absurd ((empty_list s).2 h) h3
        · exact absurd ((empty_list s).2 h) h3
        · omega
        · exact absurd ((empty_list s).2 h) h3
theorem may_f (k n : Int) (s : ByteArray) : value_May.f k n s = some (value_May.b k n s) := rfl

/-- A value's number, and its bytes. -/
def num (k n : Int) (s : ByteArray) : Nat := if k = 0 then (zig n).toNat else if k = 2 then s.size else n.toNat
def tl (k : Int) (s : ByteArray) : List Int := if k = 2 then bytesOf s else []
def vb (k n : Int) (s : ByteArray) : List Int := k :: (leb (num k n s) ++ tl k s)
theorem num_lt {k n : Int} {s : ByteArray} (hn : In64 n) (h : Ok k n s) : num k n s < 18446744073709551616 := by
  unfold num
  have hz := zig_range n hn.1 hn.2
  unfold In64 at hn
  by_cases h0 : k = 0
  · rw [if_pos h0]; omega
  · rw [if_neg h0]
    by_cases h2 : k = 2
    · rw [if_pos h2]
      rcases h with ⟨h, _⟩ | ⟨h, _⟩ | ⟨_, _, h⟩ | ⟨h, _⟩ <;> omega
    · rw [if_neg h2]; omega
theorem vb_len {k n : Int} {s : ByteArray} (hn : In64 n) (h : Ok k n s) : 2 ≤ (vb k n s).length ∧ (vb k n s).length ≤ 51 := by
  have h1 := leb_len10 (num_lt hn h)
  have h2 := leb_pos (num k n s)
  unfold vb tl
  simp only [List.length_cons, List.length_append]
  by_cases hk : k = 2
  · rw [if_pos hk, bytesOf_length]
    rcases h with ⟨h, _⟩ | ⟨h, _⟩ | ⟨_, _, h⟩ | ⟨h, _⟩ <;> omega
  · rw [if_neg hk]; simp only [List.length_nil]; omega
theorem vb_byt {k n : Int} {s : ByteArray} (hn : In64 n) (h : Ok k n s) : Byt (vb k n s) := by
  intro x hx
  unfold vb tl at hx
  simp only [List.mem_cons, List.mem_append] at hx
  rcases hx with rfl | hx | hx
  · rcases h with ⟨h, _⟩ | ⟨h, _⟩ | ⟨h, _⟩ | ⟨h, _⟩ <;> omega
  · exact leb_bytes _ x hx
  · by_cases hk : k = 2
    · rw [if_pos hk] at hx; exact bytesOf_byt s x hx
    · rw [if_neg hk] at hx; cases hx
theorem put_f' (n : Int) (k : Nat) (hk : 10 ≤ k) (h0 : 0 ≤ n) (h1 : n < 18446744073709551616) : le_Put.f k n = some (leb n.toNat) := by
  obtain ⟨m, rfl⟩ := Int.eq_ofNat_of_zero_le h0
  exact put_f m k hk (by omega)
theorem u64_id (n : Int) (h0 : 0 ≤ n) (h1 : n < 18446744073709551616) : IntKind.u64.wrap n = n := by
  rw [wrap_u64]; omega
theorem vput_ok (j : Nat) (hj : 10 ≤ j) (k n : Int) (s : ByteArray) (hn : In64 n) (h : Ok k n s) : value_Put.f j k n s = some (vb k n s, true) := by
  have hm := (may_ok k n s hn).2 h
  have hlt := num_lt hn h
  have hlen := leb_len10 hlt
  unfold value_Put.f
  rw [if_pos hm]
  unfold value_Put.o vb tl
  rcases h with ⟨rfl, rfl⟩ | ⟨rfl, rfl, h⟩ | ⟨rfl, rfl, h⟩ | ⟨rfl, rfl, h0, h1⟩
  · have e : num 0 n ⟨#[]⟩ = (zig n).toNat := by unfold num; rw [if_pos rfl]
    rw [e] at hlen ⊢
    rw [if_pos rfl, zig_f n hn.1 hn.2, Option.bind_some, put_f' _ j hj (zig_range n hn.1 hn.2).1 (zig_range n hn.1 hn.2).2, Option.bind_some, if_pos (by omega), if_neg (by decide)]
    rfl
  · have e : num 1 n ⟨#[]⟩ = n.toNat := by unfold num; rw [if_neg (by decide), if_neg (by decide)]
    rw [e] at hlen ⊢
    rw [if_neg (by decide), if_neg (by decide), u64_id n (by omega) (by omega), put_f' _ j hj (by omega) (by omega), Option.bind_some, if_pos (by omega), if_neg (by decide)]
    rfl
  · have e : num 2 0 s = s.size := by unfold num; rw [if_neg (by decide), if_pos rfl]
    rw [e] at hlen ⊢
    rw [if_neg (by decide), if_pos rfl, put_f _ j hj (by omega), Option.bind_some, if_pos (by omega), if_pos rfl]
    rfl
  · have e : num 3 n ⟨#[]⟩ = n.toNat := by unfold num; rw [if_neg (by decide), if_neg (by decide)]
    rw [e] at hlen ⊢
    rw [if_neg (by decide), if_neg (by decide), u64_id n (by omega) (by omega), put_f' _ j hj (by omega) (by omega), Option.bind_some, if_pos (by omega), if_neg (by decide)]
    rfl
theorem vput_no (j : Nat) (k n : Int) (s : ByteArray) (hn : In64 n) (h : ¬ Ok k n s) : value_Put.f j k n s = some ([], false) := by
  have hm : ¬ value_May.b k n s = true := fun e => h ((may_ok k n s hn).1 e)
  unfold value_Put.f
  rw [if_neg hm]

/-- What bytes begin by. -/
def none5 : Int × Int × ByteArray × Int × Bool := (0, 0, ⟨#[]⟩, 0, false)
def ge (k n : Int) (s : ByteArray) (e : Int) : Int × Int × ByteArray × Int × Bool := if value_May.b k n s = true then (k, n, s, e, true) else none5
def g : List Int → Int × Int × ByteArray × Int × Bool
  | [] => none5
  | x :: r => if (getL r 0 0).2.2 = true then
      (if x = 0 then ge 0 (zag ((getL r 0 0).1 : Int)) ⟨#[]⟩ (((getL r 0 0).2.1 : Nat) + 1 : Int) else
       if x = 2 then (if r.length < (getL r 0 0).2.1 + (getL r 0 0).1 then none5 else ge 2 0 (strOfNums ((r.drop (getL r 0 0).2.1).take (getL r 0 0).1)) (((getL r 0 0).2.1 + (getL r 0 0).1 : Nat) + 1 : Int)) else
       ge x (wrap64 ((getL r 0 0).1 : Int)) ⟨#[]⟩ (((getL r 0 0).2.1 : Nat) + 1 : Int)) else none5
theorem ge_f (k n : Int) (s : ByteArray) (e : Int) : value_Get.e k n s e = some (ge k n s e) := by
  unfold value_Get.e ge none5
  by_cases h : value_May.b k n s = true
  · rw [if_pos h, if_pos h]
  · rw [if_neg h, if_neg h]
theorem vget_f (j : Nat) (hj : 11 ≤ j) (l : List Int) (hb : Byt l) (hl : l.length ≤ 1000000) : value_Get.f j l = some (g l) := by
  unfold value_Get.f
  match l with
  | [] => rw [if_pos (show ([] : List Int).length = 0 from rfl)]; rfl
  | x :: r =>
    have hx := hb x (by simp)
    have hr : Byt r := fun y hy => hb y (by simp [hy])
    rw [if_neg (by simp), if_pos hl, show (x :: r).drop 1 = r from rfl, get_f r hr j hj, Option.bind_some]
    have e0 : rd (x :: r) 0 = x := rfl
    rw [e0]
    unfold g
    obtain ⟨y, u, is, hg⟩ : ∃ y u is, getL r 0 0 = (y, u, is) := ⟨_, _, _, rfl⟩
    simp only [hg, castG]
    cases is with
    | false => rw [if_neg (by decide), if_neg (by decide)]; rfl
    | true =>
      rw [if_pos rfl, if_pos rfl]
      obtain ⟨m, e1, e2, e3, e4, e5, e6, e7⟩ := get_some r 0 0 y u hr hg
      have hu : u ≤ r.length := by omega
      rw [if_pos ⟨by omega, by simp only [List.length_cons]; omega, by omega, hx.1, hx.2⟩]
      by_cases h0 : x = 0
      · rw [if_pos h0, if_pos h0, zag_f _ (by omega) (by omega), Option.bind_some, ge_f]
      · rw [if_neg h0, if_neg h0]
        by_cases h2 : x = 2
        · rw [if_pos h2, if_pos h2]
          by_cases hlt : r.length < u + y
          · rw [if_pos hlt, if_pos (by simp only [List.length_cons]; omega)]; rfl
          · rw [if_neg hlt, if_neg (by simp only [List.length_cons]; omega), ge_f]
            have et : ((u : Int) + 1 + (y : Int)).toNat = u + y + 1 := by omega
            have et2 : ((u : Int) + 1).toNat = u + 1 := by omega
            rw [et, et2, List.take_succ_cons, List.drop_succ_cons, List.drop_take, show u + y - u = y by omega]
            congr 2
            omega
        · rw [if_neg h2, if_neg h2, ge_f]

theorem wrap64_id (n : Int) (h : In64 n) : wrap64 n = n := by
  unfold In64 at h; unfold wrap64; omega
/-- What is put is got. -/
theorem g_vb (k n : Int) (s : ByteArray) (hn : In64 n) (h : Ok k n s) (rest : List Int) : g (vb k n s ++ rest) = (k, n, s, ((vb k n s).length : Int), true) := by
  have hlt := num_lt hn h
  have hm := (may_ok k n s hn).2 h
  have hg := get_leb (tl k s ++ rest) (num k n s) 0 0 (by omega) (by omega) (.inl rfl)
  simp only [Nat.pow_zero, Nat.mul_one, Nat.zero_add] at hg
  have e : vb k n s ++ rest = k :: (leb (num k n s) ++ (tl k s ++ rest)) := by unfold vb; simp
  have el : ((vb k n s).length : Int) = ((leb (num k n s)).length : Int) + ((tl k s).length : Int) + 1 := by unfold vb; simp only [List.length_cons, List.length_append]; omega
  rw [e, el]
  unfold g
  simp only [hg, if_true]
  rcases h with ⟨rfl, rfl⟩ | ⟨rfl, rfl, h⟩ | ⟨rfl, rfl, h⟩ | ⟨rfl, rfl, h0, h1⟩
  · have e1 : num 0 n ⟨#[]⟩ = (zig n).toNat := by unfold num; rw [if_pos rfl]
    have hz := zig_range n hn.1 hn.2
    have e2 : (((zig n).toNat : Nat) : Int) = zig n := by omega
    rw [if_pos rfl, e1, e2, zag_zig]
    unfold ge
    rw [if_pos hm]
    simp [tl]
  · have e1 : num 1 n ⟨#[]⟩ = n.toNat := by unfold num; rw [if_neg (by decide), if_neg (by decide)]
    have e2 : ((n.toNat : Nat) : Int) = n := by omega
    rw [if_neg (by decide), if_neg (by decide), e1, e2, wrap64_id n hn]
    unfold ge
    rw [if_pos hm]
    simp [tl]
  · have e1 : num 2 0 s = s.size := by unfold num; rw [if_neg (by decide), if_pos rfl]
    have e2 : tl 2 s = bytesOf s := by unfold tl; rw [if_pos rfl]
    have e3 := bytesOf_length s
    rw [if_neg (by decide), if_pos rfl, e1, e2, if_neg (by simp only [List.length_append]; omega)]
    have e4 : ((leb s.size ++ (bytesOf s ++ rest)).drop (leb s.size).length).take s.size = bytesOf s := by
      rw [List.drop_left, ← e3, List.take_left]
    rw [e4, str_bytes]
    unfold ge
    rw [if_pos hm, e3]
    simp
  · have e1 : num 3 n ⟨#[]⟩ = n.toNat := by unfold num; rw [if_neg (by decide), if_neg (by decide)]
    have e2 : ((n.toNat : Nat) : Int) = n := by omega
    rw [if_neg (by decide), if_neg (by decide), e1, e2, wrap64_id n hn]
    unfold ge
    rw [if_pos hm]
    simp [tl]
theorem wrap64_in (n : Int) : In64 (wrap64 n) := by unfold In64 wrap64; omega
theorem wrap64_nat (y : Nat) (h : y < 18446744073709551616) (h0 : 0 ≤ wrap64 (y : Int)) : (wrap64 (y : Int)).toNat = y := by unfold wrap64 at *; omega
theorem ge_cases (k n : Int) (s : ByteArray) (e : Int) : ge k n s e = none5 ∨ (value_May.b k n s = true ∧ ge k n s e = (k, n, s, e, true)) := by
  unfold ge
  by_cases h : value_May.b k n s = true
  · rw [if_pos h]; exact .inr ⟨h, rfl⟩
  · rw [if_neg h]; exact .inl rfl
/-- What is got may be, and is put as the same bytes; or nothing is got. -/
theorem g_some (l : List Int) (hb : Byt l) : g l = none5 ∨ ∃ k n s, In64 n ∧ Ok k n s ∧ (vb k n s).length ≤ l.length ∧ g l = (k, n, s, ((vb k n s).length : Int), true) ∧ l.take (vb k n s).length = vb k n s := by
  match l with
  | [] => exact .inl rfl
  | x :: r =>
    have hx := hb x (by simp)
    have hr : Byt r := fun y hy => hb y (by simp [hy])
    unfold g
    obtain ⟨y, u, is, hg⟩ : ∃ y u is, getL r 0 0 = (y, u, is) := ⟨_, _, _, rfl⟩
    simp only [hg]
    cases is with
    | false => rw [if_neg (by decide)]; exact .inl rfl
    | true =>
      rw [if_pos rfl]
      obtain ⟨m, e1, e2, e3, e4, e5, e6, e7⟩ := get_some r 0 0 y u hr hg
      have hym : y = m := by omega
      subst hym
      have hur : u ≤ r.length := by omega
      have htk : r.take u = leb y := by rw [Nat.sub_zero] at e7; exact e7.symm
      have hu : u = (leb y).length := by rw [← htk, List.length_take]; omega
      by_cases h0 : x = 0
      · rw [if_pos h0]
        rcases ge_cases 0 (zag (y : Int)) ⟨#[]⟩ ((u : Int) + 1) with h | ⟨hm, h⟩
        · exact .inl h
        · have hi : In64 (zag (y : Int)) := zag_range _ (by omega) (by omega)
          have hv : vb 0 (zag (y : Int)) ⟨#[]⟩ = 0 :: leb y := by
            unfold vb num tl
            rw [if_pos rfl, if_neg (by decide), zig_zag _ (by omega)]; simp
          refine .inr ⟨0, zag (y : Int), ⟨#[]⟩, hi, (may_ok _ _ _ hi).1 hm, ?_, ?_, ?_⟩
          · rw [hv]; simp only [List.length_cons]; omega
          · rw [h, hv]; simp only [List.length_cons]; rw [hu]; rfl
          · rw [hv]; simp only [List.length_cons, List.take_succ_cons]; rw [← hu, htk, h0]
      · rw [if_neg h0]
        by_cases h2 : x = 2
        · rw [if_pos h2]
          by_cases hlt : r.length < u + y
          · rw [if_pos hlt]; exact .inl rfl
          · rw [if_neg hlt]
            rcases ge_cases 2 0 (strOfNums ((r.drop u).take y)) (((u + y : Nat) : Int) + 1) with h | ⟨hm, h⟩
            · exact .inl h
            · have hi : In64 0 := by unfold In64; omega
              have hl2 : ((r.drop u).take y).length = y := by rw [List.length_take, List.length_drop]; omega
              have hv : vb 2 0 (strOfNums ((r.drop u).take y)) = 2 :: (leb y ++ (r.drop u).take y) := by
                unfold vb num tl
                rw [if_neg (by decide), if_pos rfl, if_pos rfl, strOfNums_size, hl2, bytes_str (fun z hz => hr z (List.mem_of_mem_drop (List.mem_of_mem_take hz)))]
              refine .inr ⟨2, 0, strOfNums ((r.drop u).take y), hi, (may_ok _ _ _ hi).1 hm, ?_, ?_, ?_⟩
              · rw [hv]; simp only [List.length_cons, List.length_append, hl2]; omega
              · rw [h, hv, List.length_cons, List.length_append, hl2, ← hu]; rfl
              · rw [hv]; simp only [List.length_cons, List.length_append, hl2, List.take_succ_cons]
                rw [← hu, h2, List.take_add, htk]
        · rw [if_neg h2]
          rcases ge_cases x (wrap64 (y : Int)) ⟨#[]⟩ ((u : Int) + 1) with h | ⟨hm, h⟩
          · exact .inl h
          · have hi := wrap64_in (y : Int)
            have hok := (may_ok _ _ _ hi).1 hm
            have h00 : 0 ≤ wrap64 (y : Int) := by
              rcases hok with ⟨h, _⟩ | ⟨_, _, h⟩ | ⟨h, _⟩ | ⟨_, _, h, _⟩ <;> omega
            have hv : vb x (wrap64 (y : Int)) ⟨#[]⟩ = x :: leb y := by
              unfold vb num tl
              rw [if_neg h0, if_neg h2, if_neg h2, wrap64_nat y (by omega) h00]; simp
            refine .inr ⟨x, wrap64 (y : Int), ⟨#[]⟩, hi, hok, ?_, ?_, ?_⟩
            · rw [hv]; simp only [List.length_cons]; omega
            · rw [h, hv]; simp only [List.length_cons]; rw [hu]; rfl
            · rw [hv]; simp only [List.length_cons, List.take_succ_cons]; rw [← hu, htk]
theorem vb_inj {k n : Int} {s : ByteArray} {k' n' : Int} {s' : ByteArray} (hn : In64 n) (h : Ok k n s) (hn' : In64 n') (h' : Ok k' n' s') (e : vb k n s = vb k' n' s') : k = k' ∧ n = n' ∧ s = s' := by
  have h1 := g_vb k n s hn h []
  have h2 := g_vb k' n' s' hn' h' []
  rw [e, h2] at h1
  simp only [Prod.mk.injEq] at h1
  exact ⟨h1.1.symm, h1.2.1.symm, h1.2.2.1.symm⟩
/-- A beginning is none. -/
theorem g_cut (k n : Int) (s : ByteArray) (hn : In64 n) (h : Ok k n s) (a : Nat) (ha : a < (vb k n s).length) : g ((vb k n s).take a) = none5 := by
  have hb : Byt ((vb k n s).take a) := fun x hx => vb_byt hn h x (List.mem_of_mem_take hx)
  rcases g_some _ hb with h1 | ⟨k', n', s', hn', h', hl, hg, ht⟩
  · exact h1
  · exfalso
    rw [List.length_take] at hl
    have hl2 : (vb k' n' s').length ≤ a := by omega
    rw [List.take_take, Nat.min_eq_left hl2] at ht
    have e := List.take_append_drop (vb k' n' s').length (vb k n s)
    rw [ht] at e
    have h1 := g_vb k n s hn h []
    rw [List.append_nil] at h1
    have h2 := g_vb k' n' s' hn' h' ((vb k n s).drop (vb k' n' s').length)
    rw [e, h1] at h2
    simp only [Prod.mk.injEq] at h2
    omega
end Go.Proofs.Ytgijidifmhccpaa.Va
