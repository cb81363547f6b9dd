/- The row of the law ConnTells: for every input the law returns true, and each argument reads behind the call as before. No condition. Written by a program of this session (wip/row.py), out of this session's walk. -/
import Derived.Test.YtanheflbbadkkaaRows
import Derived.Test.YtanheflbbadkkaaCoTellsW
import Derived.WalkKit
import Derived.ProofKit
import Derived.OpenShut
import Derived.ShutString
import Derived.ChangeOld
import Derived.Below
import Derived.SizedLaws
import Derived.Lib.SmallJoins
namespace Go.Proofs.Ytanheflbbadkkaa.connTells
open Go.Joins Go.ChangeShapes Go.WideShapes Go.ChangeAt Go.RowKit Go.Deep
open Go.Proofs.YtanheflbbadkkaaW.PrintWords
set_option linter.unusedVariables false
theorem own : ownKnob Try.prog.godebug = none := by kernel_rfl
theorem laidOut : laidOutB Try.prog = true := by kernel_rfl
def IsRow (k : IntKind) (w : World) (a : Option Addr) (len cap : Nat) (zs : List Int) : Prop :=
  (a = none ∧ len = 0 ∧ cap = 0 ∧ zs = []) ∨
  ∃ x, a = some x ∧ len ≤ cap ∧ cap ≤ maxLen ∧ zs.length = cap ∧ (∀ i, i < zs.length → w.cell? (x.add i) = some (.int k (zs.getD i 0))) ∧ ∀ n ∈ zs, (Lit.int k n).wf = true
theorem wf_byt {l : List Int} (h : ∀ x ∈ l, (Lit.int .u8 x).wf = true) : ∀ x ∈ l, 0 ≤ x ∧ x < 256 := fun x hx => by
  have h := h x hx
  simp only [Lit.wf, IntKind.min, IntKind.max, IntKind.signed, IntKind.bits, Bool.and_eq_true] at h
  simp at h; omega
set_option maxRecDepth 100000 in
theorem lifted (os : Os) (started : os.Started) (H : Type) (enc : TypeId × Value → H) :
    ReturnsInHanded {} Try.checked os 6 .any (Rows.connTellsSpec.pre6 enc Try.prog Try.f6 Rows.connTellsRow.domain false) (Rows.connTellsSpec.post enc Try.prog Try.f6 false true false false) := by
  refine returnsInHanded_of_change_sized (C := Try.checked) own started (by kernel_rfl) Try.func6
    (ChangeSpec.witness6 (enc := enc) (C := Try.checked) false ⟨#[], #[.agg #[.int .i64 0, .slice none 0 0, .bool false, .slice none 0 0], .agg #[.int .i64 0, .slice none 0 0, .bool false, .slice none 0 0], .slice none 0 0, .int .i64 0], []⟩ 8 (by kernel_rfl) (by kernel_rfl) (by kernel_rfl) (by kernel_rfl)) ?_
  intro W base args ds gs before hval0 hW hcnd hsz0 _
  have hval : ∀ (j : Nat) t v, Try.f6.params[j]? = some t → args[j]? = some v → Value.okWide Try.prog W .any base t v := hval0
  have hW' := hW
  obtain ⟨p, q, hA0, hV, rfl, hfz, hnd⟩ := hW
  have hA : DataW.TrodAll enc Try.prog W 0 (fun _ => true) true Try.f6.params.toList args.toList ds p := hA0
  rw [Try.params6] at hA hval
  obtain ⟨v0, vs0, d0, ds0, p0, q0, hargs, rfl, rfl, h0, r0⟩ := trodAll_cons hA
  obtain ⟨v1, vs1, d1, ds1, p1, q1, rfl, rfl, rfl, h1, r1⟩ := trodAll_cons r0
  obtain ⟨v2, vs2, d2, ds2, p2, q2, rfl, rfl, rfl, h2, r2⟩ := trodAll_cons r1
  obtain ⟨v3, vs3, d3, ds3, p3, q3, rfl, rfl, rfl, h3, r3⟩ := trodAll_cons r2
  obtain ⟨rfl, rfl, rfl⟩ := trodAll_nil r3
  obtain rfl : args = #[v0, v1, v2, v3] := by cases args; simp_all
  obtain ⟨rfl, rfl⟩ := trodVars_none hV
  have k0 := h0
  have lt0 : ∀ x ∈ p0, x.block < W.heap.size := by obtain ⟨m, hm⟩ := k0; exact DataW.trod_lt m _ _ _ hm
  obtain ⟨cs0, rfl, hsz0⟩ := okWide_struct Try.underlying29 (hval 0 29 v0 rfl rfl)
  obtain ⟨ca0, cb0, cc0, cd0, rfl⟩ := array4 (hsz0.trans (by kernel_rfl))
  obtain ⟨fu0, hfu0⟩ := h0
  obtain ⟨y00, y10, y20, n0, hx0, _, t00, t10, t20⟩ := trod_struct3 Try.underlying29 hfu0
  have e30 : Try.prog.cellsOf 3 = 1 := by kernel_rfl
  have e270 : Try.prog.cellsOf 27 = 2 := by kernel_rfl
  have e250 : Try.prog.cellsOf 25 = 1 := by kernel_rfl
  have e40 : Try.prog.cellsOf 4 = 1 := by kernel_rfl
  replace t00 : DataW.trod enc Try.prog W 0 (fun _ => true) true n0 3 [ca0] = some y00 := by simpa [Value.cells, e30] using t00
  replace t10 : DataW.trod enc Try.prog W 0 (fun _ => true) true n0 27 [cb0, cc0] = some y10 := by simpa [Value.cells, e270] using t10
  replace t20 : DataW.trod enc Try.prog W 0 (fun _ => true) true n0 25 [cd0] = some y20 := by simpa [Value.cells, e250] using t20
  obtain ⟨id0, hca0, _, wid0⟩ := DataW.trod_int Try.underlying3 t00
  obtain rfl : ca0 = .int .i64 id0 := by simpa using hca0
  obtain ⟨z00, z10, nn0, hz0, _, u00, u10⟩ := trod_struct2 Try.underlying27 t10
  replace u00 : DataW.trod enc Try.prog W 0 (fun _ => true) true nn0 25 [cb0] = some z00 := by simpa [Value.cells, e250] using u00
  replace u10 : DataW.trod enc Try.prog W 0 (fun _ => true) true nn0 4 [cc0] = some z10 := by simpa [Value.cells, e40] using u10
  obtain ⟨bd0, hcc0, _⟩ := DataW.trod_bool Try.underlying4 u10
  obtain rfl : cc0 = .bool bd0 := by simpa using hcc0
  obtain ⟨ab0, lenb0, capb0, zb0, rfl, wb0⟩ : ∃ a len cap zs, cb0 = .slice a len cap ∧ IsRow .u8 W a len cap zs := by
    have hf := u00
    rcases open_ints Try.underlying25 Try.underlying5 (by kernel_rfl) hf with ⟨hcs, _⟩ | ⟨x, l, c, zs, hcs, _, hl, hm, hz, _, hcell, hwz⟩
    · exact ⟨none, 0, 0, [], by simpa using hcs, .inl ⟨rfl, rfl, rfl, rfl⟩⟩
    · exact ⟨some x, l, c, zs, by simpa using hcs, .inr ⟨_, rfl, hl, hm, by simpa using hz, hcell, hwz⟩⟩
  obtain ⟨ao0, leno0, capo0, zo0, rfl, wo0⟩ : ∃ a len cap zs, cd0 = .slice a len cap ∧ IsRow .u8 W a len cap zs := by
    have hf := t20
    rcases open_ints Try.underlying25 Try.underlying5 (by kernel_rfl) hf with ⟨hcs, _⟩ | ⟨x, l, c, zs, hcs, _, hl, hm, hz, _, hcell, hwz⟩
    · exact ⟨none, 0, 0, [], by simpa using hcs, .inl ⟨rfl, rfl, rfl, rfl⟩⟩
    · exact ⟨some x, l, c, zs, by simpa using hcs, .inr ⟨_, rfl, hl, hm, by simpa using hz, hcell, hwz⟩⟩
  have k1 := h1
  have lt1 : ∀ x ∈ p1, x.block < W.heap.size := by obtain ⟨m, hm⟩ := k1; exact DataW.trod_lt m _ _ _ hm
  obtain ⟨cs1, rfl, hsz1⟩ := okWide_struct Try.underlying29 (hval 1 29 v1 rfl rfl)
  obtain ⟨ca1, cb1, cc1, cd1, rfl⟩ := array4 (hsz1.trans (by kernel_rfl))
  obtain ⟨fu1, hfu1⟩ := h1
  obtain ⟨y01, y11, y21, n1, hx1, _, t01, t11, t21⟩ := trod_struct3 Try.underlying29 hfu1
  have e31 : Try.prog.cellsOf 3 = 1 := by kernel_rfl
  have e271 : Try.prog.cellsOf 27 = 2 := by kernel_rfl
  have e251 : Try.prog.cellsOf 25 = 1 := by kernel_rfl
  have e41 : Try.prog.cellsOf 4 = 1 := by kernel_rfl
  replace t01 : DataW.trod enc Try.prog W 0 (fun _ => true) true n1 3 [ca1] = some y01 := by simpa [Value.cells, e31] using t01
  replace t11 : DataW.trod enc Try.prog W 0 (fun _ => true) true n1 27 [cb1, cc1] = some y11 := by simpa [Value.cells, e271] using t11
  replace t21 : DataW.trod enc Try.prog W 0 (fun _ => true) true n1 25 [cd1] = some y21 := by simpa [Value.cells, e251] using t21
  obtain ⟨id1, hca1, _, wid1⟩ := DataW.trod_int Try.underlying3 t01
  obtain rfl : ca1 = .int .i64 id1 := by simpa using hca1
  obtain ⟨z01, z11, nn1, hz1, _, u01, u11⟩ := trod_struct2 Try.underlying27 t11
  replace u01 : DataW.trod enc Try.prog W 0 (fun _ => true) true nn1 25 [cb1] = some z01 := by simpa [Value.cells, e251] using u01
  replace u11 : DataW.trod enc Try.prog W 0 (fun _ => true) true nn1 4 [cc1] = some z11 := by simpa [Value.cells, e41] using u11
  obtain ⟨bd1, hcc1, _⟩ := DataW.trod_bool Try.underlying4 u11
  obtain rfl : cc1 = .bool bd1 := by simpa using hcc1
  obtain ⟨ab1, lenb1, capb1, zb1, rfl, wb1⟩ : ∃ a len cap zs, cb1 = .slice a len cap ∧ IsRow .u8 W a len cap zs := by
    have hf := u01
    rcases open_ints Try.underlying25 Try.underlying5 (by kernel_rfl) hf with ⟨hcs, _⟩ | ⟨x, l, c, zs, hcs, _, hl, hm, hz, _, hcell, hwz⟩
    · exact ⟨none, 0, 0, [], by simpa using hcs, .inl ⟨rfl, rfl, rfl, rfl⟩⟩
    · exact ⟨some x, l, c, zs, by simpa using hcs, .inr ⟨_, rfl, hl, hm, by simpa using hz, hcell, hwz⟩⟩
  obtain ⟨ao1, leno1, capo1, zo1, rfl, wo1⟩ : ∃ a len cap zs, cd1 = .slice a len cap ∧ IsRow .u8 W a len cap zs := by
    have hf := t21
    rcases open_ints Try.underlying25 Try.underlying5 (by kernel_rfl) hf with ⟨hcs, _⟩ | ⟨x, l, c, zs, hcs, _, hl, hm, hz, _, hcell, hwz⟩
    · exact ⟨none, 0, 0, [], by simpa using hcs, .inl ⟨rfl, rfl, rfl, rfl⟩⟩
    · exact ⟨some x, l, c, zs, by simpa using hcs, .inr ⟨_, rfl, hl, hm, by simpa using hz, hcell, hwz⟩⟩
  have k2 := h2
  have lt2 : ∀ x ∈ p2, x.block < W.heap.size := by obtain ⟨m, hm⟩ := k2; exact DataW.trod_lt m _ _ _ hm
  obtain ⟨a2, len2, cap2, rfl⟩ := okWide_slice Try.underlying25 (hval 2 25 v2 rfl rfl)
  obtain ⟨z2, w2⟩ : ∃ zs, IsRow .u8 W a2 len2 cap2 zs := by
    obtain ⟨fuel, hf⟩ := h2
    rcases open_ints Try.underlying25 Try.underlying5 (by kernel_rfl) hf with ⟨hcs, _⟩ | ⟨x, l, c, zs, hcs, _, hl, hm, hz, _, hcell, hwz⟩
    · simp [Value.cells] at hcs
      obtain ⟨rfl, rfl, rfl⟩ := hcs
      exact ⟨[], .inl ⟨rfl, rfl, rfl, rfl⟩⟩
    · simp [Value.cells] at hcs
      obtain ⟨rfl, rfl, rfl⟩ := hcs
      exact ⟨zs, .inr ⟨_, rfl, hl, hm, by simpa using hz, hcell, hwz⟩⟩
  obtain ⟨a3, rfl, rfl, rfl, w3⟩ := open_int Try.underlying3 (hval 3 3 v3 rfl rfl) h3
  obtain ⟨lb0, rfl, hrb0, hmb0, hwb0, hcb0⟩ := ReadsInt.ofRowC wb0
  obtain ⟨lo0, rfl, hro0, hmo0, hwo0, hco0⟩ := ReadsInt.ofRowC wo0
  obtain ⟨lb1, rfl, hrb1, hmb1, hwb1, hcb1⟩ := ReadsInt.ofRowC wb1
  obtain ⟨lo1, rfl, hro1, hmo1, hwo1, hco1⟩ := ReadsInt.ofRowC wo1
  obtain ⟨l2, rfl, hr2, hm2, hw2, hc2⟩ := ReadsInt.ofRowC w2
  refine (X.law_ConnTells.calls id0 ab0 capb0 lb0 bd0 ao0 capo0 lo0 id1 ab1 capb1 lb1 bd1 ao1 capo1 lo1 a2 cap2 l2 a3 W wid0 (Kd.C_of_reads (d := (0 : Int)) (h1 := fun _ => rfl) hrb0) hcb0 (wf_byt hwb0) (Kd.C_of_reads (d := (0 : Int)) (h1 := fun _ => rfl) hro0) hco0 (wf_byt hwo0) wid1 (Kd.C_of_reads (d := (0 : Int)) (h1 := fun _ => rfl) hrb1) hcb1 (wf_byt hwb1) (Kd.C_of_reads (d := (0 : Int)) (h1 := fun _ => rfl) hro1) hco1 (wf_byt hwo1) (Kd.C_of_reads (d := (0 : Int)) (h1 := fun _ => rfl) hr2) hc2 (wf_byt hw2) w3).mono fun e W' ⟨he, bel⟩ => ?_
  subst he
  exact ⟨_, rfl, _, _, _, [], _, [], hW', trodAll_mk1 (shut_bool Try.underlying4 _), (trodAll_cons_mk (Below.trod laidOut (by kernel_rfl) (of_decide_eq_true (by kernel_rfl)) k0 bel lt0) (trodAll_cons_mk (Below.trod laidOut (by kernel_rfl) (of_decide_eq_true (by kernel_rfl)) k1 bel lt1) (trodAll_cons_mk (Below.trod laidOut (by kernel_rfl) (of_decide_eq_true (by kernel_rfl)) k2 bel lt2) (trodAll_cons_mk (shut_int Try.underlying3 w3) trodAll_mk0)))), rfl, bel.frame _, fun h => by cases h⟩
theorem over : Rows.connTellsRow.holds Try.pinned (OpenSpec.ofChange Rows.connTellsSpec) :=
  OpenClaim.holds_of_wide 6 Try.f6 rfl rfl rfl rfl rfl rfl rfl ⟨rfl, rfl, rfl, rfl, rfl⟩ rfl rfl rfl rfl rfl (by kernel_rfl) Try.func6 (by kernel_rfl)
    (of_decide_eq_true (by kernel_rfl)) (by unfold Func.isWrapper; first | (rw [if_pos (by decide +kernel)]; kernel_rfl) | (rw [if_neg (by decide +kernel)]; exact ⟨rfl, rfl⟩))
    (fun os started H enc _ => lifted os started H enc)
theorem proved : Rows.ConnTellsSaid := over
#print axioms proved
end Go.Proofs.Ytanheflbbadkkaa.connTells
namespace Go.Proofs.Ytanheflbbadkkaa
/-- The row, under a short name, for the claim. -/
theorem connTells_holds : Rows.ConnTellsSaid := connTells.proved
end Go.Proofs.Ytanheflbbadkkaa
