/- With one byte of a packed frame changed nothing is told any more, plainly. -/
import Derived.Test.YtifkeknfiknpkaaFrPure
namespace Go.Proofs.Ytifkeknfiknpkaa.Fr
open Go.RowKit Go.Proofs.Ytifkeknfiknpkaa.X Go.Proofs.YtifkeknfiknpkaaW.PrintWords Go.Proofs.YtifkeknfiknpkaaW.PrintLast Go.Proofs.YtifkeknfiknpkaaW.PrintMore
open Go.Proofs.Ytifkeknfiknpkaa.Crc Go.Proofs.Ytifkeknfiknpkaa.CrcFacts Go.Proofs.Ytifkeknfiknpkaa.CrcRef Go.Proofs.Ytifkeknfiknpkaa.LeWord
theorem fdA_wrong (m o : List Int) (hm : m.length = 4) (ho : o.length ≤ 512) (hne : sm o ≠ rdw m) : fdA (wd o.length ++ (m ++ o)) = ([], true, []) := by
  match m, hm with
  | [m0, m1, m2, m3], hm =>
    have e4 : (wd o.length ++ ([m0, m1, m2, m3] ++ o)).take 4 = wd o.length := by simp only [wd]; rfl
    have eh : hl (wd o.length ++ ([m0, m1, m2, m3] ++ o)) = o.length := by unfold hl; rw [e4, rdw_wd _ (by omega)]
    have e8 : ((wd o.length ++ ([m0, m1, m2, m3] ++ o)).take 8).drop 4 = [m0, m1, m2, m3] := by simp only [wd]; rfl
    have es : hs (wd o.length ++ ([m0, m1, m2, m3] ++ o)) = rdw [m0, m1, m2, m3] := by unfold hs; rw [e8]
    have eq : (wd o.length ++ ([m0, m1, m2, m3] ++ o)).length = 8 + o.length := by simp only [List.length_append, wd_len, List.length_cons, List.length_nil]; omega
    have eo : own (wd o.length ++ ([m0, m1, m2, m3] ++ o)) = o := by
      unfold own
      rw [eh, ← eq, List.take_length]
      simp only [wd]; rfl
    rw [fdA_eq, if_neg (by omega), eh, if_neg (by omega), if_neg (by omega), eo, es, if_neg hne]
theorem fdA_bit (b : List Int) (hb : Byt b) (hl : b.length ≤ 512) (i : Nat) (c : Int) (h4 : 4 ≤ i) (hi : i < b.length + 8) (hc : 0 ≤ c ∧ c < 256) (hne : (pack b)[i]? ≠ some c) : fdA ((pack b).set i c) = ([], true, []) := by
  have hwb : Byt (wd (sm b)) := wd_bytes _
  have hps : pack b = wd b.length ++ (wd (sm b) ++ b) := rfl
  rw [hps] at hne ⊢
  rw [List.set_append, if_neg (by rw [wd_len]; omega), List.set_append]
  rw [List.getElem?_append_right (by rw [wd_len]; omega)] at hne
  simp only [wd_len] at hne
  by_cases h8 : i - 4 < 4
  · rw [if_pos (by rw [wd_len, wd_len]; exact h8), wd_len]
    refine fdA_wrong _ b (by rw [List.length_set, wd_len]) hl (fun e => hne ?_)
    have hby : Byt ((wd (sm b)).set (i - 4) c) := fun x hx => by
      rcases List.mem_or_eq_of_mem_set hx with hx | rfl
      · exact hwb x hx
      · exact hc
    have e2 := wd_rdw _ hby (by rw [List.length_set, wd_len])
    rw [← e] at e2
    rw [List.getElem?_append_left (by rw [wd_len]; omega)]
    conv => lhs; rw [e2]
    rw [List.getElem?_set_self (by rw [wd_len]; omega)]
  · rw [if_neg (by rw [wd_len, wd_len]; exact h8), wd_len, wd_len]
    have hlen : (b.set (i - 4 - 4) c).length = b.length := List.length_set
    have hk : i - 4 - 4 < b.length := by omega
    rw [← hlen]
    refine fdA_wrong _ _ (wd_len _) (by rw [hlen]; exact hl) (fun e => hne ?_)
    rw [rdw_wd _ (sm_lt b)] at e
    have e' : sumB 0#32 (b.set (i - 4 - 4) c) = sumB 0#32 b := BitVec.eq_of_toNat_eq e
    have e'' := not_inj e'
    have hset : b.set (i - 4 - 4) c = b.take (i - 4 - 4) ++ c :: b.drop (i - 4 - 4 + 1) := by rw [List.set_eq_take_append_cons_drop, if_pos hk]
    have hsp : b = b.take (i - 4 - 4) ++ b[i - 4 - 4] :: b.drop (i - 4 - 4 + 1) := by
      conv => lhs; rw [← List.take_append_drop (i - 4 - 4) b]
      rw [List.drop_eq_getElem_cons hk]
    rw [hset] at e''
    conv at e'' => rhs; rw [hsp]
    have := crcB_one _ _ hc (hb _ (List.getElem_mem hk)) _ e''
    rw [List.getElem?_append_right (by rw [wd_len]; omega), wd_len, List.getElem?_eq_getElem hk, this]
end Go.Proofs.Ytifkeknfiknpkaa.Fr
