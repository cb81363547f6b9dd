/- Frames out of bytes, plainly: what the fed bytes come to, and that both printed walks come to it. -/
import Derived.Test.YtanheflbbadkkaaRefFeed
import Derived.Test.YtanheflbbadkkaaX8
import Derived.Test.YtanheflbbadkkaaLeWord
import Derived.Test.YtanheflbbadkkaaCrcRef
namespace Go.Proofs.Ytanheflbbadkkaa.Fr
open Go.RowKit Go.Proofs.Ytanheflbbadkkaa.X Go.Proofs.YtanheflbbadkkaaW.PrintWords Go.Proofs.YtanheflbbadkkaaW.PrintLast Go.Proofs.YtanheflbbadkkaaW.PrintMore
open Go.Proofs.Ytanheflbbadkkaa.Crc Go.Proofs.Ytanheflbbadkkaa.CrcFacts Go.Proofs.Ytanheflbbadkkaa.CrcRef Go.Proofs.Ytanheflbbadkkaa.LeWord
set_option linter.unusedVariables false
set_option linter.unusedSimpArgs false

def Byt (l : List Int) : Prop := ∀ x ∈ l, 0 ≤ x ∧ x < 256
theorem Byt.take {l : List Int} (h : Byt l) (n : Nat) : Byt (l.take n) := fun x hx => h x (List.mem_of_mem_take hx)
theorem Byt.drop {l : List Int} (h : Byt l) (n : Nat) : Byt (l.drop n) := fun x hx => h x (List.mem_of_mem_drop hx)
theorem Byt.append {a b : List Int} (ha : Byt a) (hb : Byt b) : Byt (a ++ b) := fun x hx => by
  rcases List.mem_append.1 hx with h | h
  · exact ha x h
  · exact hb x h
theorem Byt.nil : Byt [] := fun x hx => by cases hx

def sm (x : List Int) : Nat := (sumB 0#32 x).toNat
/-- The length that a frame's first bytes tell; its check; its own bytes; what is behind. -/
def hl (all : List Int) : Nat := rdw (all.take 4)
def hs (all : List Int) : Nat := rdw ((all.take 8).drop 4)
def own (all : List Int) : List Int := (all.take (8 + hl all)).drop 8
def fd : Nat → List Int → List Int × Bool × List (List Int)
  | 0, all => (all, false, [])
  | k + 1, all => if all.length < 8 then (all, false, []) else
    if 512 < hl all then ([], true, []) else
    if all.length < 8 + hl all then (all, false, []) else
    if sm (own all) = hs all then ((fd k (all.drop (8 + hl all))).1, (fd k (all.drop (8 + hl all))).2.1, own all :: (fd k (all.drop (8 + hl all))).2.2) else ([], true, [])

theorem fd_fuel : ∀ (k k' : Nat) (all : List Int), all.length < k → all.length < k' → fd k all = fd k' all := by
  intro k
  induction k with
  | zero => intro k' all h; omega
  | succ k ih =>
    intro k' all h h'
    obtain ⟨k', rfl⟩ : ∃ m, k' = m + 1 := ⟨k' - 1, by omega⟩
    unfold fd
    by_cases h8 : all.length < 8
    · rw [if_pos h8, if_pos h8]
    · rw [if_neg h8, if_neg h8]
      have hd : (all.drop (8 + hl all)).length ≤ all.length - 8 := by rw [List.length_drop]; omega
      rw [ih k' (all.drop (8 + hl all)) (by omega) (by omega)]
def fdA (all : List Int) : List Int × Bool × List (List Int) := fd (all.length + 1) all
theorem fdA_eq (all : List Int) : fdA all = if all.length < 8 then (all, false, []) else
    if 512 < hl all then ([], true, []) else
    if all.length < 8 + hl all then (all, false, []) else
    if sm (own all) = hs all then ((fdA (all.drop (8 + hl all))).1, (fdA (all.drop (8 + hl all))).2.1, own all :: (fdA (all.drop (8 + hl all))).2.2) else ([], true, []) := by
  conv => lhs; unfold fdA fd
  by_cases h8 : all.length < 8
  · rw [if_pos h8, if_pos h8]
  · rw [if_neg h8, if_neg h8]
    have hd : (all.drop (8 + hl all)).length ≤ all.length - 8 := by rw [List.length_drop]; omega
    rw [show fd all.length (all.drop (8 + hl all)) = fdA (all.drop (8 + hl all)) from fd_fuel _ _ _ (by omega) (by omega)]

theorem feedO_eq : ∀ (k : Nat) (all : List Int) (out : List (List Int)), Byt all → all.length ≤ 2000000 → all.length < k →
    feedO k all out = some ((fdA all).1, (fdA all).2.1, out ++ (fdA all).2.2) := by
  intro k
  induction k with
  | zero => intro all out _ _ h; omega
  | succ k ih =>
    intro all out hb hll hk
    rw [fdA_eq]
    unfold feedO
    by_cases h8 : all.length < 8
    · rw [if_pos (by omega), if_pos h8]; simp
    · rw [if_neg (by omega), if_neg h8, read_f _ (hb.take 4) 5 (by decide), Option.bind_some, read_f _ ((hb.take 8).drop 4) 5 (by decide), Option.bind_some]
      have hlt := rdw_lt _ (hb.take 4)
      have e : hl all = rdw (all.take 4) := rfl
      have e2 : hs all = rdw ((all.take 8).drop 4) := rfl
      simp only []
      rw [← e] at hlt ⊢
      rw [← e2, if_pos (by omega)]
      by_cases h5 : 512 < hl all
      · rw [if_pos (by omega), if_pos h5]; simp
      · rw [if_neg (by omega), if_neg h5]
        by_cases he : all.length < 8 + hl all
        · rw [if_pos (by omega), if_pos he]; simp
        · rw [if_neg (by omega), if_neg he, show (8 + ((hl all : Nat) : Int)).toNat = 8 + hl all by omega, show (all.take (8 + hl all)).drop 8 = own all from rfl,
            of_f (own all) (show Byt (own all) from (hb.take _).drop 8) (by rw [show own all = (all.take (8 + hl all)).drop 8 from rfl, List.length_drop, List.length_take]; omega), Option.bind_some]
          have e3 : (((sumB 0#32 (own all)).toNat : Int) = ((hs all : Nat) : Int)) = (sm (own all) = hs all) := by simp only [sm, eq_iff_iff]; omega
          by_cases hc : sm (own all) = hs all
          · rw [if_pos (e3.mpr hc), if_pos hc, ih _ _ (hb.drop _) (by rw [List.length_drop]; omega) (by rw [List.length_drop]; omega)]
            simp
          · rw [if_neg (fun h => hc (e3.mp h)), if_neg hc]; simp

theorem refRead_f (l : List Int) (hb : Byt l) (h : l.length = 4) : towncrierref01_Read.f l = some (((rdw l : Nat) : Int), true) := by
  match l, h with
  | [a, b, c, d], h =>
    have ha := hb a (by simp)
    have hb' := hb b (by simp)
    have hc := hb c (by simp)
    have hd := hb d (by simp)
    unfold towncrierref01_Read.f
    rw [if_pos (by rfl), if_pos (by simp), if_pos (by simp), if_pos (by simp), if_pos (by simp)]
    simp only [rdw, rd, List.getD_eq_getElem?_getD]
    simp
    omega

theorem refFeedO_eq (kf : Nat) (hkf : 6000 ≤ kf) : ∀ (k : Nat) (all : List Int) (out : List (List Int)), Byt all → all.length ≤ 2000000 → all.length < k →
    refFeedO kf k all out = some ((fdA all).1, (fdA all).2.1, out ++ (fdA all).2.2) := by
  intro k
  induction k with
  | zero => intro all out _ _ h; omega
  | succ k ih =>
    intro all out hb hll hk
    rw [fdA_eq]
    unfold refFeedO
    by_cases h8 : all.length < 8
    · rw [if_pos (by omega), if_pos h8]; simp
    · rw [if_neg (by omega), if_neg h8, refRead_f _ (hb.take 4) (by rw [List.length_take]; omega), Option.bind_some, refRead_f _ ((hb.take 8).drop 4) (by rw [List.length_drop, List.length_take]; omega), Option.bind_some]
      have hlt := rdw_lt _ (hb.take 4)
      have e : hl all = rdw (all.take 4) := rfl
      have e2 : hs all = rdw ((all.take 8).drop 4) := rfl
      simp only []
      rw [← e] at hlt ⊢
      rw [← e2, if_pos (by omega)]
      by_cases h5 : 512 < hl all
      · rw [if_pos (by omega), if_pos h5]; simp
      · rw [if_neg (by omega), if_neg h5]
        by_cases he : all.length < 8 + hl all
        · rw [if_pos (by omega), if_pos he]; simp
        · have hol : (own all).length ≤ 512 := by rw [own, List.length_drop, List.length_take]; omega
          rw [if_neg (by omega), if_neg he, show (8 + ((hl all : Nat) : Int)).toNat = 8 + hl all by omega, show (all.take (8 + hl all)).drop 8 = own all from rfl,
            refOf_f (own all) (show Byt (own all) from (hb.take _).drop 8) (by omega) kf (by omega), Option.bind_some]
          have e3 : (((sumB 0#32 (own all)).toNat : Int) = ((hs all : Nat) : Int)) = (sm (own all) = hs all) := by simp only [sm, eq_iff_iff]; omega
          by_cases hc : sm (own all) = hs all
          · rw [if_pos (e3.mpr hc), if_pos hc, ih _ _ (hb.drop _) (by rw [List.length_drop]; omega) (by rw [List.length_drop]; omega)]
            simp
          · rw [if_neg (fun h => hc (e3.mp h)), if_neg hc]; simp

/-- What feeding comes to. -/
def feed (B : List Int) (d : Bool) (b : List Int) : List Int × Bool × List (List Int) := if d = true then (B, true, []) else fdA (B ++ b)
theorem feed_f (B : List Int) (d : Bool) (b : List Int) (hB : Byt B) (hb : Byt b) (h1 : B.length ≤ 1000000) (h2 : b.length ≤ 1000000) : frame_Feed.f B d b = some (feed B d b) := by
  unfold frame_Feed.f feed
  rw [if_pos ⟨h1, h2⟩]
  cases d with
  | true => simp
  | false => rw [if_neg (by simp), if_neg (by simp), feedO_eq _ _ _ (hB.append hb) (by rw [List.length_append]; omega) (by rw [List.length_append]; omega)]; simp
theorem refFeed_f (k : Nat) (hk : 6000 ≤ k) (B : List Int) (d : Bool) (b : List Int) (hB : Byt B) (hb : Byt b) (h1 : B.length ≤ 1000000) (h2 : b.length ≤ 1000000) : towncrierref03_Feed.f k B d b = some (feed B d b) := by
  unfold towncrierref03_Feed.f feed
  rw [if_pos ⟨h1, h2⟩]
  cases d with
  | true => simp
  | false => rw [if_neg (by simp), if_neg (by simp), refFeedO_eq k hk _ _ _ (hB.append hb) (by rw [List.length_append]; omega) (by rw [List.length_append]; omega)]; simp

/-- Bytes of what feeding leaves, and tells. -/
theorem fd_bytes : ∀ (k : Nat) (all : List Int), Byt all → Byt (fd k all).1 ∧ (∀ l ∈ (fd k all).2.2, Byt l ∧ l.length ≤ 512) ∧ (fd k all).1.length ≤ all.length ∧ 8 * (fd k all).2.2.length + (fd k all).1.length ≤ all.length := by
  intro k
  induction k with
  | zero => intro all hb; exact ⟨hb, by simp [fd], by simp [fd], by simp [fd]⟩
  | succ k ih =>
    intro all hb
    unfold fd
    by_cases h8 : all.length < 8
    · rw [if_pos h8]; exact ⟨hb, by simp, by simp, by simp⟩
    · rw [if_neg h8]
      by_cases h5 : 512 < hl all
      · rw [if_pos h5]; exact ⟨Byt.nil, by simp, by simp, by simp⟩
      · rw [if_neg h5]
        by_cases he : all.length < 8 + hl all
        · rw [if_pos he]; exact ⟨hb, by simp, by simp, by simp⟩
        · rw [if_neg he]
          by_cases hc : sm (own all) = hs all
          · rw [if_pos hc]
            obtain ⟨h1, h2, h3, h4⟩ := ih (all.drop (8 + hl all)) (hb.drop _)
            rw [List.length_drop] at h3 h4
            refine ⟨h1, ?_, by simp only; omega, by simp only [List.length_cons]; omega⟩
            intro l hm
            simp only [List.mem_cons] at hm
            rcases hm with rfl | hm
            · exact ⟨(hb.take _).drop 8, by rw [own, List.length_drop, List.length_take]; omega⟩
            · exact h2 l hm
          · rw [if_neg hc]; exact ⟨Byt.nil, by simp, by simp, by simp⟩
theorem feed_bytes (B : List Int) (d : Bool) (b : List Int) (hB : Byt B) (hb : Byt b) : Byt (feed B d b).1 ∧ (∀ l ∈ (feed B d b).2.2, Byt l ∧ l.length ≤ 512) ∧ (feed B d b).1.length ≤ B.length + b.length ∧ 8 * (feed B d b).2.2.length ≤ B.length + b.length := by
  unfold feed
  cases d with
  | true => rw [if_pos rfl]; exact ⟨hB, by simp, by simp, by simp⟩
  | false =>
    rw [if_neg (by simp)]
    obtain ⟨h1, h2, h3, h4⟩ := fd_bytes ((B ++ b).length + 1) (B ++ b) (hB.append hb)
    change Byt (fdA (B ++ b)).1 at h1
    change (fdA (B ++ b)).1.length ≤ _ at h3
    change 8 * (fdA (B ++ b)).2.2.length + (fdA (B ++ b)).1.length ≤ _ at h4
    rw [List.length_append] at h3 h4
    exact ⟨h1, h2, h3, by omega⟩

/-- Of bytes that come in two parts. -/
theorem fdA_append : ∀ (n : Nat) (u v : List Int), u.length ≤ n → fdA (u ++ v) = if (fdA u).2.1 = true then fdA u else ((fdA ((fdA u).1 ++ v)).1, (fdA ((fdA u).1 ++ v)).2.1, (fdA u).2.2 ++ (fdA ((fdA u).1 ++ v)).2.2) := by
  intro n
  induction n with
  | zero =>
    intro u v h
    have : u = [] := List.eq_nil_of_length_eq_zero (by omega)
    subst this
    rw [show fdA [] = ([], false, []) from rfl]
    simp
  | succ n ih =>
    intro u v h
    by_cases h8 : u.length < 8
    · have e : fdA u = (u, false, []) := by rw [fdA_eq, if_pos h8]
      rw [e]; simp
    · have t4 : (u ++ v).take 4 = u.take 4 := List.take_append_of_le_length (by omega)
      have t8 : (u ++ v).take 8 = u.take 8 := List.take_append_of_le_length (by omega)
      have eh : hl (u ++ v) = hl u := by unfold hl; rw [t4]
      have es : hs (u ++ v) = hs u := by unfold hs; rw [t8]
      by_cases h5 : 512 < hl u
      · have e : fdA u = ([], true, []) := by rw [fdA_eq, if_neg h8, if_pos h5]
        rw [e, if_pos rfl, fdA_eq, if_neg (by rw [List.length_append]; omega), eh, if_pos h5]
      · by_cases he : u.length < 8 + hl u
        · have e : fdA u = (u, false, []) := by rw [fdA_eq, if_neg h8, if_neg h5, if_pos he]
          rw [e]; simp
        · have too : own (u ++ v) = own u := by unfold own; rw [eh, List.take_append_of_le_length (by omega)]
          have td : (u ++ v).drop (8 + hl u) = u.drop (8 + hl u) ++ v := List.drop_append_of_le_length (by omega)
          by_cases hc : sm (own u) = hs u
          · have e : fdA u = ((fdA (u.drop (8 + hl u))).1, (fdA (u.drop (8 + hl u))).2.1, own u :: (fdA (u.drop (8 + hl u))).2.2) := by rw [fdA_eq, if_neg h8, if_neg h5, if_neg he, if_pos hc]
            have i := ih (u.drop (8 + hl u)) v (by rw [List.length_drop]; omega)
            rw [fdA_eq (u ++ v), if_neg (by rw [List.length_append]; omega), eh, if_neg h5, if_neg (by rw [List.length_append]; omega), too, es, if_pos hc, td, i, e]
            by_cases hd : (fdA (u.drop (8 + hl u))).2.1 = true
            · rw [if_pos hd, if_pos (by simpa using hd)]
            · rw [if_neg hd, if_neg (by simpa using hd)]; simp
          · have e : fdA u = ([], true, []) := by rw [fdA_eq, if_neg h8, if_neg h5, if_neg he, if_neg hc]
            rw [e, if_pos rfl, fdA_eq, if_neg (by rw [List.length_append]; omega), eh, if_neg h5, if_neg (by rw [List.length_append]; omega), too, es, if_neg hc]
theorem feed_append (B : List Int) (d : Bool) (u v : List Int) : feed B d (u ++ v) = ((feed (feed B d u).1 (feed B d u).2.1 v).1, (feed (feed B d u).1 (feed B d u).2.1 v).2.1, (feed B d u).2.2 ++ (feed (feed B d u).1 (feed B d u).2.1 v).2.2) := by
  cases d with
  | true => simp [feed]
  | false =>
    have h := fdA_append _ (B ++ u) v (Nat.le_refl _)
    rw [List.append_assoc] at h
    have e : ∀ w, feed B false w = fdA (B ++ w) := fun w => by unfold feed; rw [if_neg (by simp)]
    rw [e, e, h]
    by_cases hd : (fdA (B ++ u)).2.1 = true
    · rw [if_pos hd]
      have : (fdA (B ++ u)) = ((fdA (B ++ u)).1, true, (fdA (B ++ u)).2.2) := by rw [← hd]
      rw [hd]
      simp only [feed, if_true, List.append_nil]
      exact this
    · rw [if_neg hd]
      simp only [Bool.not_eq_true] at hd
      rw [hd]
      simp [feed]
/-- What is left is less than a frame. -/
theorem fd_left : ∀ (k : Nat) (all : List Int), all.length < k → (fd k all).2.1 = true ∨ (fd k all).1.length < 520 := by
  intro k
  induction k with
  | zero => intro all h; omega
  | succ k ih =>
    intro all h
    unfold fd
    by_cases h8 : all.length < 8
    · rw [if_pos h8]; right; simp only; omega
    · rw [if_neg h8]
      by_cases h5 : 512 < hl all
      · rw [if_pos h5]; left; rfl
      · rw [if_neg h5]
        by_cases he : all.length < 8 + hl all
        · rw [if_pos he]; right; simp only; omega
        · rw [if_neg he]
          by_cases hc : sm (own all) = hs all
          · rw [if_pos hc]
            exact ih (all.drop (8 + hl all)) (by rw [List.length_drop]; omega)
          · rw [if_neg hc]; left; rfl

theorem feed_left (B : List Int) (d : Bool) (b : List Int) : (feed B d b).2.1 = true ∨ (feed B d b).1.length < 520 := by
  unfold feed
  cases d with
  | true => left; rw [if_pos rfl]
  | false => rw [if_neg (by simp)]; exact fd_left _ _ (by omega)

/-- What is packed. -/
def pack (b : List Int) : List Int := wd b.length ++ (wd (sm b) ++ b)
theorem wd_len (n : Nat) : (wd n).length = 4 := rfl
theorem pack_len (b : List Int) : (pack b).length = b.length + 8 := by simp only [pack, List.length_append, wd_len]; omega
theorem pack_bytes {b : List Int} (h : Byt b) : Byt (pack b) := Byt.append (wd_bytes _) (Byt.append (wd_bytes _) h)
theorem sm_lt (b : List Int) : sm b < 4294967296 := (sumB 0#32 b).isLt
theorem pack_f (b : List Int) (hb : Byt b) (h : b.length ≤ 512) : frame_Pack.f b = some (pack b, true) := by
  unfold frame_Pack.f
  rw [if_neg (by omega), word_f _ 5 (by decide), Option.bind_some, of_f b hb (by omega), Option.bind_some, word_f _ 5 (by decide), Option.bind_some]
  unfold slices_Concat_byte_byte.f
  rw [if_pos ⟨by simp, by simp only [List.flatten_cons, List.flatten_nil, List.length_append, wd_len, List.length_nil]; omega⟩, Option.bind_some]
  simp [pack, sm]
theorem pack_long (b : List Int) (h : ¬ b.length ≤ 512) : frame_Pack.f b = some ([], false) := by
  unfold frame_Pack.f
  rw [if_pos (by omega)]
/-- One frame, and what comes behind. -/
theorem fdA_pack (b v : List Int) (hb : Byt b) (h : b.length ≤ 512) : fdA (pack b ++ v) = ((fdA v).1, (fdA v).2.1, b :: (fdA v).2.2) := by
  have hw : ((wd b.length).length = 4) := rfl
  have hw2 : ((wd (sm b)).length = 4) := rfl
  have e4 : (pack b ++ v).take 4 = wd b.length := by simp only [pack, List.append_assoc]; rw [List.take_append_of_le_length (by omega), List.take_of_length_le (by omega)]
  have eh : hl (pack b ++ v) = b.length := by unfold hl; rw [e4, rdw_wd _ (by omega)]
  have e8 : ((pack b ++ v).take 8).drop 4 = wd (sm b) := by
    simp only [pack, List.append_assoc, wd]
    rfl
  have es : hs (pack b ++ v) = sm b := by unfold hs; rw [e8, rdw_wd _ (sm_lt b)]
  have ep : (pack b).drop 8 = b := by simp only [pack, wd]; rfl
  have eo : own (pack b ++ v) = b := by
    unfold own
    rw [eh, show 8 + b.length = (pack b).length by rw [pack_len]; omega, List.take_left', ep]
    rfl
  have ed : (pack b ++ v).drop (8 + b.length) = v := by rw [show 8 + b.length = (pack b).length by rw [pack_len]; omega, List.drop_left']; rfl
  have hle := pack_len b
  rw [fdA_eq, if_neg (by rw [List.length_append]; omega), eh, if_neg (by omega), if_neg (by rw [List.length_append]; omega), eo, es, if_pos rfl, ed]
end Go.Proofs.Ytanheflbbadkkaa.Fr
