/- What le.Word and le.Read (as printed) come to: four bytes, and their number. -/
import Derived.Test.YtanheflbbadkkaaX4
import Derived.Test.YtanheflbbadkkaaX29
import Derived.Laws.BitsAllLaws
import Derived.Laws.BitsLemmas
namespace Go.Proofs.Ytanheflbbadkkaa.LeWord
open Go.RowKit Go.Proofs.Ytanheflbbadkkaa.X Go.Proofs.YtanheflbbadkkaaW.PrintWords Go.Proofs.YtanheflbbadkkaaW.PrintLast Go.Proofs.YtanheflbbadkkaaW.PrintMore

theorem shr_u32 (n j : Nat) (hj : j ≤ 32) : shr .u32 (n : Int) (j : Int) = ((n / 2 ^ j : Nat) : Int) := by
  unfold shr
  have hm : min ((j : Nat) : Int).toNat IntKind.u32.bits = j := by
    show min ((j : Nat) : Int).toNat 32 = j
    omega
  rw [hm]
  simp

theorem or_shl (n c j : Nat) (hc : c < 256) (hn : n < 2 ^ j) (hj : j ≤ 24) :
    Go.bits .or .u32 (n : Int) (shl .u32 ((c : Int) % 4294967296) (j : Int)) = ((n + c * 2 ^ j : Nat) : Int) := by
  have hp : 2 ^ j ≤ 2 ^ 24 := Nat.pow_le_pow_right (by decide) hj
  have hlt : c * 2 ^ j ≤ 255 * 2 ^ 24 := Nat.mul_le_mul (by omega) hp
  have hlt' : c * 2 ^ j < 4294967296 := by omega
  have hs : shl .u32 ((c : Int) % 4294967296) (j : Int) = ((c * 2 ^ j : Nat) : Int) := by
    unfold shl
    have hm : min ((j : Nat) : Int).toNat IntKind.u32.bits = j := by
      show min ((j : Nat) : Int).toNat 32 = j
      omega
    rw [hm]
    have e : ((c : Int) % 4294967296) * 2 ^ j = ((c * 2 ^ j : Nat) : Int) := by
      rw [Int.emod_eq_of_lt (by omega) (by omega)]; simp
    rw [e, IntKind.wrap_u32]
    omega
  rw [hs, u32_or_nat _ _ (by omega) hlt', Nat.or_comm, nat_join j _ _ (Nat.mul_mod_left _ _) hn, Nat.add_comm]

/-- The four bytes of a number. -/
def wd (n : Nat) : List Int := [((n % 256 : Nat) : Int), ((n / 256 % 256 : Nat) : Int), ((n / 65536 % 256 : Nat) : Int), ((n / 16777216 % 256 : Nat) : Int)]

theorem wrapn (i : Nat) (h : i ≤ 100) : wrap64 ((i : Nat) : Int) = ((i : Nat) : Int) := by unfold wrap64; omega
theorem wrap8 (i : Nat) (h : i ≤ 10) : wrap64 (8 * (i : Int)) = ((8 * i : Nat) : Int) := by
  have e : (8 * (i : Int)) = ((8 * i : Nat) : Int) := by omega
  rw [e]; exact wrapn _ (by omega)
theorem wrap1 (i : Nat) (h : i ≤ 10) : wrap64 ((i : Int) + 1) = ((i + 1 : Nat) : Int) := by
  have e : ((i : Int) + 1) = ((i + 1 : Nat) : Int) := by omega
  rw [e]; exact wrapn _ (by omega)

theorem word_step (n k i : Nat) (l : List Int) (hi : i < 4) (hl : l.length = 4) :
    le_Word.l0 (k + 1) (n : Int) l (i : Int) = le_Word.l0 k (n : Int) (l.set i ((n / 2 ^ (8 * i) % 256 : Nat) : Int)) ((i + 1 : Nat) : Int) := by
  conv => lhs; unfold le_Word.l0
  rw [if_pos (by omega), wrap8 i (by omega), if_pos (by omega), if_pos (by omega), if_pos (by omega), wrap1 i (by omega), shr_u32 n (8 * i) (by omega)]
  rfl

theorem word_f (n k : Nat) (hk : 5 ≤ k) : le_Word.f k (n : Int) = some (wd n) := by
  obtain ⟨k, rfl⟩ : ∃ m, k = m + 5 := ⟨k - 5, by omega⟩
  unfold le_Word.f
  rw [if_pos (by decide)]
  have h0 := word_step n (k + 4) 0 (List.replicate 4 0) (by decide) rfl
  rw [show ((0 : Nat) : Int) = 0 from rfl] at h0
  rw [h0, word_step n (k + 3) 1 _ (by decide) (by simp), word_step n (k + 2) 2 _ (by decide) (by simp), word_step n (k + 1) 3 _ (by decide) (by simp)]
  unfold le_Word.l0
  rw [if_neg (by decide)]
  simp [wd, List.replicate]

theorem wd_bytes (n : Nat) : ∀ x ∈ wd n, 0 ≤ x ∧ x < 256 := by
  intro x hx
  simp only [wd, List.mem_cons, List.not_mem_nil, or_false] at hx
  rcases hx with rfl | rfl | rfl | rfl <;> omega

/-- The number of four bytes. -/
def rdw (l : List Int) : Nat := match l with
  | [a, b, c, d] => a.toNat + b.toNat * 256 + c.toNat * 65536 + d.toNat * 16777216
  | _ => 0

theorem read_step (l : List Int) (k i n c : Nat) (hi : i < 4) (hl : l.length = 4) (hc : rd l (i : Int) = (c : Int)) (hc' : c < 256) (hn : n < 2 ^ (8 * i)) :
    le_Read.l0 (k + 1) l (n : Int) (i : Int) = le_Read.l0 k l ((n + c * 2 ^ (8 * i) : Nat) : Int) ((i + 1 : Nat) : Int) := by
  conv => lhs; unfold le_Read.l0
  rw [if_pos (by omega), if_pos (by omega), if_pos (by omega), wrap8 i (by omega), if_pos (by omega), wrap1 i (by omega), hc, or_shl n c (8 * i) hc' hn (by omega)]

theorem read_f (l : List Int) (hb : ∀ x ∈ l, 0 ≤ x ∧ x < 256) (k : Nat) (hk : 5 ≤ k) :
    le_Read.f k l = some (((rdw l : Nat) : Int), decide (l.length = 4)) := by
  obtain ⟨k, rfl⟩ : ∃ m, k = m + 5 := ⟨k - 5, by omega⟩
  unfold le_Read.f
  by_cases h : l.length = 4
  · rw [if_pos (by omega)]
    match l, h with
    | [a, b, c, d], h =>
      obtain ⟨a, rfl⟩ := Int.eq_ofNat_of_zero_le (hb a (by simp)).1
      obtain ⟨b, rfl⟩ := Int.eq_ofNat_of_zero_le (hb b (by simp)).1
      obtain ⟨c, rfl⟩ := Int.eq_ofNat_of_zero_le (hb c (by simp)).1
      obtain ⟨d, rfl⟩ := Int.eq_ofNat_of_zero_le (hb d (by simp)).1
      have ha := (hb a (by simp)).2
      have hb' := (hb b (by simp)).2
      have hc := (hb c (by simp)).2
      have hd := (hb d (by simp)).2
      have h0 := read_step [(a : Int), b, c, d] (k + 4) 0 0 a (by decide) rfl rfl (by omega) (by decide)
      rw [show ((0 : Nat) : Int) = 0 from rfl] at h0
      rw [h0, read_step [(a : Int), b, c, d] (k + 3) 1 _ b (by decide) rfl rfl (by omega) (by omega),
        read_step [(a : Int), b, c, d] (k + 2) 2 _ c (by decide) rfl rfl (by omega) (by omega),
        read_step [(a : Int), b, c, d] (k + 1) 3 _ d (by decide) rfl rfl (by omega) (by omega)]
      unfold le_Read.l0
      rw [if_neg (by decide)]
      simp [rdw]
  · rw [if_neg (by omega)]
    have : rdw l = 0 := by
      unfold rdw
      split
      · exact absurd rfl h
      · rfl
    rw [this, decide_eq_false h]; rfl

theorem rdw_wd (n : Nat) (h : n < 4294967296) : rdw (wd n) = n := by
  simp only [rdw, wd]; omega

theorem wd_rdw (l : List Int) (hb : ∀ x ∈ l, 0 ≤ x ∧ x < 256) (h : l.length = 4) : wd (rdw l) = l := by
  match l, h with
  | [a, b, c, d], _ =>
    have ha := hb a (by simp)
    have hb' := hb b (by simp)
    have hc := hb c (by simp)
    have hd := hb d (by simp)
    simp only [rdw, wd, List.cons.injEq, and_true]
    refine ⟨?_, ?_, ?_, ?_⟩ <;> omega

theorem rdw_lt (l : List Int) (hb : ∀ x ∈ l, 0 ≤ x ∧ x < 256) : rdw l < 4294967296 := by
  unfold rdw
  split
  · have h1 := hb _ (List.mem_cons_self)
    rename_i a b c d
    have h2 := hb b (by simp)
    have h3 := hb c (by simp)
    have h4 := hb d (by simp)
    omega
  · decide

end Go.Proofs.Ytanheflbbadkkaa.LeWord
