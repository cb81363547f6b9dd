/-
  No cell of these rows narrows 'for every input' (looked for: loops, veiled, ifaces, maps, wideKeys, modest, calm, conditions, laid).
  DERIVED. THE GIVEN ROWS OF THIS SEAT. 7 by the template 'for every input the law returns true; each argument reads behind the call as it read before'; 0 by the template 'total and deterministic' (their statements: YtgijidifmhccpaaTotals.lean).
  GIVEN WITH THE SEED: the statements are not yours to turn. If you find one false, say at which input.
  Laid BY PROGRAM, IN A SANDBOX (cutbox-rows.mjs): the forced cells as the released guide's own fill.sh prints them over the translation 8a2e850d21653044… (all of the seat's roots in one cut). By AI agents, Wed Nov 11 2026. No macro, syntax, notation, axiom, sorry.
-/
import Derived.Test.YtgijidifmhccpaaChecked
import GoSem.Claim
import GoSem.ClaimJoined
import GoSem.ClaimMapViews
import Derived.JoinedTies
import Derived.KernelRfl
namespace Go.Proofs.Ytgijidifmhccpaa
/- THE CELL 'sum', in the pinned program and in every row, IS THE sha256 OF THE DUMP (.gsa) THAT YtgijidifmhccpaaProg.lean LOADS. Nothing in Lean hashes anything: it is a label: what it is worth is what the hold of that sum in a sandbox is worth. -/
noncomputable def Try.pinned : Pinned := { name := "ytgijidifmhccpaa", sum := "8a2e850d21653044c58ab9614a135bbbd94a33b25d5b91bd4fe882535e88da66", checked := Try.checked }
namespace Rows
def none {H : Type} : Left H := { results := [], args := [] }

/-- 'towncrierlaw04.ValueTells': WHATEVER THE INPUT: true; the input reads as it did. -/
def valueTellsSpec : ChangeSpec := { name := "valueTells", fn := fun _ => fun
  | [d1, d2, d3] => { results := [.lit (.bool true)], args := [d1, d2, d3] }
  | _ => none }
def valueTellsRow : OpenClaim := { program := "ytgijidifmhccpaa", sum := "8a2e850d21653044c58ab9614a135bbbd94a33b25d5b91bd4fe882535e88da66", func := "towncrier/towncrierlaw04.ValueTells", spec := "valueTells", apart := false }
def ValueTellsSaid : Prop := valueTellsRow.holds Try.pinned (OpenSpec.ofChange valueTellsSpec)

/-- ITS FALSE NEIGHBOUR: 'it returns false'. Refute it at one input. -/
def valueTellsWrong : ChangeSpec := { name := "valueTells", fn := fun _ => fun
  | [d1, d2, d3] => { results := [.lit (.bool false)], args := [d1, d2, d3] }
  | _ => none }
def ValueTellsWrongFalsely : Prop := valueTellsRow.holds Try.pinned (OpenSpec.ofChange valueTellsWrong)

/-- 'towncrierlaw04.ValueBack': WHATEVER THE INPUT: true; the input reads as it did. -/
def valueBackSpec : ChangeSpec := { name := "valueBack", fn := fun _ => fun
  | [d1, d2] => { results := [.lit (.bool true)], args := [d1, d2] }
  | _ => none }
def valueBackRow : OpenClaim := { program := "ytgijidifmhccpaa", sum := "8a2e850d21653044c58ab9614a135bbbd94a33b25d5b91bd4fe882535e88da66", func := "towncrier/towncrierlaw04.ValueBack", spec := "valueBack", apart := false }
def ValueBackSaid : Prop := valueBackRow.holds Try.pinned (OpenSpec.ofChange valueBackSpec)

/-- ITS FALSE NEIGHBOUR: 'it returns false'. Refute it at one input. -/
def valueBackWrong : ChangeSpec := { name := "valueBack", fn := fun _ => fun
  | [d1, d2] => { results := [.lit (.bool false)], args := [d1, d2] }
  | _ => none }
def ValueBackWrongFalsely : Prop := valueBackRow.holds Try.pinned (OpenSpec.ofChange valueBackWrong)

/-- 'towncrierlaw04.ValueOrder': WHATEVER THE INPUT: true; the input reads as it did. -/
def valueOrderSpec : ChangeSpec := { name := "valueOrder", fn := fun _ => fun
  | [d1, d2, d3] => { results := [.lit (.bool true)], args := [d1, d2, d3] }
  | _ => none }
def valueOrderRow : OpenClaim := { program := "ytgijidifmhccpaa", sum := "8a2e850d21653044c58ab9614a135bbbd94a33b25d5b91bd4fe882535e88da66", func := "towncrier/towncrierlaw04.ValueOrder", spec := "valueOrder", apart := false }
def ValueOrderSaid : Prop := valueOrderRow.holds Try.pinned (OpenSpec.ofChange valueOrderSpec)

/-- ITS FALSE NEIGHBOUR: 'it returns false'. Refute it at one input. -/
def valueOrderWrong : ChangeSpec := { name := "valueOrder", fn := fun _ => fun
  | [d1, d2, d3] => { results := [.lit (.bool false)], args := [d1, d2, d3] }
  | _ => none }
def ValueOrderWrongFalsely : Prop := valueOrderRow.holds Try.pinned (OpenSpec.ofChange valueOrderWrong)

/-- 'towncrierlaw04.ValueKinds': WHATEVER THE INPUT: true; the input reads as it did. -/
def valueKindsSpec : ChangeSpec := { name := "valueKinds", fn := fun _ => fun
  | [d1, d2] => { results := [.lit (.bool true)], args := [d1, d2] }
  | _ => none }
def valueKindsRow : OpenClaim := { program := "ytgijidifmhccpaa", sum := "8a2e850d21653044c58ab9614a135bbbd94a33b25d5b91bd4fe882535e88da66", func := "towncrier/towncrierlaw04.ValueKinds", spec := "valueKinds", apart := false }
def ValueKindsSaid : Prop := valueKindsRow.holds Try.pinned (OpenSpec.ofChange valueKindsSpec)

/-- ITS FALSE NEIGHBOUR: 'it returns false'. Refute it at one input. -/
def valueKindsWrong : ChangeSpec := { name := "valueKinds", fn := fun _ => fun
  | [d1, d2] => { results := [.lit (.bool false)], args := [d1, d2] }
  | _ => none }
def ValueKindsWrongFalsely : Prop := valueKindsRow.holds Try.pinned (OpenSpec.ofChange valueKindsWrong)

/-- 'towncrierlaw04.ValueLists': WHATEVER THE INPUT: true; the input reads as it did. -/
def valueListsSpec : ChangeSpec := { name := "valueLists", fn := fun _ => fun
  | [d] => { results := [.lit (.bool true)], args := [d] }
  | _ => none }
def valueListsRow : OpenClaim := { program := "ytgijidifmhccpaa", sum := "8a2e850d21653044c58ab9614a135bbbd94a33b25d5b91bd4fe882535e88da66", func := "towncrier/towncrierlaw04.ValueLists", spec := "valueLists", apart := false }
def ValueListsSaid : Prop := valueListsRow.holds Try.pinned (OpenSpec.ofChange valueListsSpec)

/-- ITS FALSE NEIGHBOUR: 'it returns false'. Refute it at one input. -/
def valueListsWrong : ChangeSpec := { name := "valueLists", fn := fun _ => fun
  | [d] => { results := [.lit (.bool false)], args := [d] }
  | _ => none }
def ValueListsWrongFalsely : Prop := valueListsRow.holds Try.pinned (OpenSpec.ofChange valueListsWrong)

/-- 'towncrierlaw04.ValueCut': WHATEVER THE INPUT: true; the input reads as it did. -/
def valueCutSpec : ChangeSpec := { name := "valueCut", fn := fun _ => fun
  | [d1, d2] => { results := [.lit (.bool true)], args := [d1, d2] }
  | _ => none }
def valueCutRow : OpenClaim := { program := "ytgijidifmhccpaa", sum := "8a2e850d21653044c58ab9614a135bbbd94a33b25d5b91bd4fe882535e88da66", func := "towncrier/towncrierlaw04.ValueCut", spec := "valueCut", apart := false }
def ValueCutSaid : Prop := valueCutRow.holds Try.pinned (OpenSpec.ofChange valueCutSpec)

/-- ITS FALSE NEIGHBOUR: 'it returns false'. Refute it at one input. -/
def valueCutWrong : ChangeSpec := { name := "valueCut", fn := fun _ => fun
  | [d1, d2] => { results := [.lit (.bool false)], args := [d1, d2] }
  | _ => none }
def ValueCutWrongFalsely : Prop := valueCutRow.holds Try.pinned (OpenSpec.ofChange valueCutWrong)

/-- 'towncrierlaw04.ValueLess': WHATEVER THE INPUT: true; the input reads as it did. -/
def valueLessSpec : ChangeSpec := { name := "valueLess", fn := fun _ => fun
  | [d1, d2, d3] => { results := [.lit (.bool true)], args := [d1, d2, d3] }
  | _ => none }
def valueLessRow : OpenClaim := { program := "ytgijidifmhccpaa", sum := "8a2e850d21653044c58ab9614a135bbbd94a33b25d5b91bd4fe882535e88da66", func := "towncrier/towncrierlaw04.ValueLess", spec := "valueLess", apart := false }
def ValueLessSaid : Prop := valueLessRow.holds Try.pinned (OpenSpec.ofChange valueLessSpec)

/-- ITS FALSE NEIGHBOUR: 'it returns false'. Refute it at one input. -/
def valueLessWrong : ChangeSpec := { name := "valueLess", fn := fun _ => fun
  | [d1, d2, d3] => { results := [.lit (.bool false)], args := [d1, d2, d3] }
  | _ => none }
def ValueLessWrongFalsely : Prop := valueLessRow.holds Try.pinned (OpenSpec.ofChange valueLessWrong)

/- THE SECOND FORM. 'bulk': how many values and letters a reading holds, each counted each time it is reached (what is shared counts as often as it is met; a slice's spare places count too). A statement '..UptoSaid' is the law's where the arguments, and the package variables that the reading takes, are together of bulk at most 1048576: NARROWER than '..Said'. Prove '..Said' where nothing that the law and all that it calls make is longer than what came in: it says more and counts as full. Else prove '..UptoSaid'. A law counts once. -/
mutual
def uptoBulk {H : Type} : DataW H → Nat
  | .lit (.string bytes) => bytes.length + 1
  | .lit _ => 1
  | .nil => 1
  | .ptr d => uptoBulk d + 1
  | .slice elems spare => uptoBulkAll elems + uptoBulkAll spare + 1
  | .agg parts => uptoBulkAll parts + 1
  | .iface _ d => uptoBulk d + 1
  | .map entries => uptoBulkEntries entries + 1
  | .held _ => 1
def uptoBulkAll {H : Type} : List (DataW H) → Nat
  | [] => 0
  | d :: r => uptoBulk d + uptoBulkAll r
def uptoBulkEntries {H : Type} : List (Lit × DataW H) → Nat
  | [] => 0
  | x :: r => uptoBulkEntry x + uptoBulkEntries r
def uptoBulkEntry {H : Type} : Lit × DataW H → Nat
  | (.string bytes, d) => bytes.length + uptoBulk d + 1
  | (_, d) => uptoBulk d + 1
 end
def uptoSmall : (H : Type) → List (DataW H) → Bool := fun _ ds => decide (uptoBulkAll ds ≤ 1048576)
def OpenSpec.upto (s : _root_.Go.ChangeSpec) : _root_.Go.OpenSpec := { _root_.Go.OpenSpec.ofChange s with cond := some uptoSmall }

/-- 'towncrierlaw04.ValueTells', WHERE WHAT IT READS IS OF BULK AT MOST 1048576: true; the input reads as it did. -/
def valueTellsUptoRow : OpenClaim := { program := "ytgijidifmhccpaa", sum := "8a2e850d21653044c58ab9614a135bbbd94a33b25d5b91bd4fe882535e88da66", func := "towncrier/towncrierlaw04.ValueTells", spec := "valueTells", apart := false, narrowed := true }
def ValueTellsUptoSaid : Prop := valueTellsUptoRow.holds Try.pinned (OpenSpec.upto valueTellsSpec)

/-- 'towncrierlaw04.ValueBack', WHERE WHAT IT READS IS OF BULK AT MOST 1048576: true; the input reads as it did. -/
def valueBackUptoRow : OpenClaim := { program := "ytgijidifmhccpaa", sum := "8a2e850d21653044c58ab9614a135bbbd94a33b25d5b91bd4fe882535e88da66", func := "towncrier/towncrierlaw04.ValueBack", spec := "valueBack", apart := false, narrowed := true }
def ValueBackUptoSaid : Prop := valueBackUptoRow.holds Try.pinned (OpenSpec.upto valueBackSpec)

/-- 'towncrierlaw04.ValueOrder', WHERE WHAT IT READS IS OF BULK AT MOST 1048576: true; the input reads as it did. -/
def valueOrderUptoRow : OpenClaim := { program := "ytgijidifmhccpaa", sum := "8a2e850d21653044c58ab9614a135bbbd94a33b25d5b91bd4fe882535e88da66", func := "towncrier/towncrierlaw04.ValueOrder", spec := "valueOrder", apart := false, narrowed := true }
def ValueOrderUptoSaid : Prop := valueOrderUptoRow.holds Try.pinned (OpenSpec.upto valueOrderSpec)

/-- 'towncrierlaw04.ValueKinds', WHERE WHAT IT READS IS OF BULK AT MOST 1048576: true; the input reads as it did. -/
def valueKindsUptoRow : OpenClaim := { program := "ytgijidifmhccpaa", sum := "8a2e850d21653044c58ab9614a135bbbd94a33b25d5b91bd4fe882535e88da66", func := "towncrier/towncrierlaw04.ValueKinds", spec := "valueKinds", apart := false, narrowed := true }
def ValueKindsUptoSaid : Prop := valueKindsUptoRow.holds Try.pinned (OpenSpec.upto valueKindsSpec)

/-- 'towncrierlaw04.ValueLists', WHERE WHAT IT READS IS OF BULK AT MOST 1048576: true; the input reads as it did. -/
def valueListsUptoRow : OpenClaim := { program := "ytgijidifmhccpaa", sum := "8a2e850d21653044c58ab9614a135bbbd94a33b25d5b91bd4fe882535e88da66", func := "towncrier/towncrierlaw04.ValueLists", spec := "valueLists", apart := false, narrowed := true }
def ValueListsUptoSaid : Prop := valueListsUptoRow.holds Try.pinned (OpenSpec.upto valueListsSpec)

/-- 'towncrierlaw04.ValueCut', WHERE WHAT IT READS IS OF BULK AT MOST 1048576: true; the input reads as it did. -/
def valueCutUptoRow : OpenClaim := { program := "ytgijidifmhccpaa", sum := "8a2e850d21653044c58ab9614a135bbbd94a33b25d5b91bd4fe882535e88da66", func := "towncrier/towncrierlaw04.ValueCut", spec := "valueCut", apart := false, narrowed := true }
def ValueCutUptoSaid : Prop := valueCutUptoRow.holds Try.pinned (OpenSpec.upto valueCutSpec)

/-- 'towncrierlaw04.ValueLess', WHERE WHAT IT READS IS OF BULK AT MOST 1048576: true; the input reads as it did. -/
def valueLessUptoRow : OpenClaim := { program := "ytgijidifmhccpaa", sum := "8a2e850d21653044c58ab9614a135bbbd94a33b25d5b91bd4fe882535e88da66", func := "towncrier/towncrierlaw04.ValueLess", spec := "valueLess", apart := false, narrowed := true }
def ValueLessUptoSaid : Prop := valueLessUptoRow.holds Try.pinned (OpenSpec.upto valueLessSpec)

end Rows
end Go.Proofs.Ytgijidifmhccpaa
