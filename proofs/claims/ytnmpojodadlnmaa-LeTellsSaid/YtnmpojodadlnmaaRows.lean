/-
  No cell of these rows narrows 'for every input' (looked for: loops, veiled, ifaces, maps, wideKeys, modest, calm, conditions, laid).
  DERIVED. THE GIVEN ROWS OF THIS SEAT. 8 by the template 'for every input the law returns true; each argument reads behind the call as it read before'; 0 by the template 'total and deterministic' (their statements: YtnmpojodadlnmaaTotals.lean).
  GIVEN WITH THE SEED: the statements are not yours to turn. If you find one false, say at which input.
  Laid BY PROGRAM, IN A SANDBOX (cutbox-rows.mjs): the forced cells as the released guide's own fill.sh prints them over the translation 01029eefcc7dd081… (all of the seat's roots in one cut). By AI agents, Wed Nov 11 2026. No macro, syntax, notation, axiom, sorry.
-/
import Derived.Test.YtnmpojodadlnmaaChecked
import GoSem.Claim
import GoSem.ClaimJoined
import GoSem.ClaimMapViews
import Derived.JoinedTies
import Derived.KernelRfl
namespace Go.Proofs.Ytnmpojodadlnmaa
/- THE CELL 'sum', in the pinned program and in every row, IS THE sha256 OF THE DUMP (.gsa) THAT YtnmpojodadlnmaaProg.lean LOADS. Nothing in Lean hashes anything: it is a label: what it is worth is what the hold of that sum in a sandbox is worth. -/
noncomputable def Try.pinned : Pinned := { name := "ytnmpojodadlnmaa", sum := "01029eefcc7dd081e09f6fdee923053efb4131094b995187db27d29d3f9ecf79", checked := Try.checked }
namespace Rows
def none {H : Type} : Left H := { results := [], args := [] }

/-- 'towncrierlaw01.LeBack': WHATEVER THE INPUT: true; the input reads as it did. -/
def leBackSpec : ChangeSpec := { name := "leBack", fn := fun _ => fun
  | [d1, d2] => { results := [.lit (.bool true)], args := [d1, d2] }
  | _ => none }
def leBackRow : OpenClaim := { program := "ytnmpojodadlnmaa", sum := "01029eefcc7dd081e09f6fdee923053efb4131094b995187db27d29d3f9ecf79", func := "towncrier/towncrierlaw01.LeBack", spec := "leBack", apart := false }
def LeBackSaid : Prop := leBackRow.holds Try.pinned (OpenSpec.ofChange leBackSpec)

/-- ITS FALSE NEIGHBOUR: 'it returns false'. Refute it at one input. -/
def leBackWrong : ChangeSpec := { name := "leBack", fn := fun _ => fun
  | [d1, d2] => { results := [.lit (.bool false)], args := [d1, d2] }
  | _ => none }
def LeBackWrongFalsely : Prop := leBackRow.holds Try.pinned (OpenSpec.ofChange leBackWrong)

/-- 'towncrierlaw01.LeZigs': WHATEVER THE INPUT: true; the input reads as it did. -/
def leZigsSpec : ChangeSpec := { name := "leZigs", fn := fun _ => fun
  | [d1, d2, d3] => { results := [.lit (.bool true)], args := [d1, d2, d3] }
  | _ => none }
def leZigsRow : OpenClaim := { program := "ytnmpojodadlnmaa", sum := "01029eefcc7dd081e09f6fdee923053efb4131094b995187db27d29d3f9ecf79", func := "towncrier/towncrierlaw01.LeZigs", spec := "leZigs", apart := false }
def LeZigsSaid : Prop := leZigsRow.holds Try.pinned (OpenSpec.ofChange leZigsSpec)

/-- ITS FALSE NEIGHBOUR: 'it returns false'. Refute it at one input. -/
def leZigsWrong : ChangeSpec := { name := "leZigs", fn := fun _ => fun
  | [d1, d2, d3] => { results := [.lit (.bool false)], args := [d1, d2, d3] }
  | _ => none }
def LeZigsWrongFalsely : Prop := leZigsRow.holds Try.pinned (OpenSpec.ofChange leZigsWrong)

/-- 'towncrierlaw01.LeOrder': WHATEVER THE INPUT: true; the input reads as it did. -/
def leOrderSpec : ChangeSpec := { name := "leOrder", fn := fun _ => fun
  | [d1, d2] => { results := [.lit (.bool true)], args := [d1, d2] }
  | _ => none }
def leOrderRow : OpenClaim := { program := "ytnmpojodadlnmaa", sum := "01029eefcc7dd081e09f6fdee923053efb4131094b995187db27d29d3f9ecf79", func := "towncrier/towncrierlaw01.LeOrder", spec := "leOrder", apart := false }
def LeOrderSaid : Prop := leOrderRow.holds Try.pinned (OpenSpec.ofChange leOrderSpec)

/-- ITS FALSE NEIGHBOUR: 'it returns false'. Refute it at one input. -/
def leOrderWrong : ChangeSpec := { name := "leOrder", fn := fun _ => fun
  | [d1, d2] => { results := [.lit (.bool false)], args := [d1, d2] }
  | _ => none }
def LeOrderWrongFalsely : Prop := leOrderRow.holds Try.pinned (OpenSpec.ofChange leOrderWrong)

/-- 'towncrierlaw01.LeSmall': WHATEVER THE INPUT: true; the input reads as it did. -/
def leSmallSpec : ChangeSpec := { name := "leSmall", fn := fun _ => fun
  | [d] => { results := [.lit (.bool true)], args := [d] }
  | _ => none }
def leSmallRow : OpenClaim := { program := "ytnmpojodadlnmaa", sum := "01029eefcc7dd081e09f6fdee923053efb4131094b995187db27d29d3f9ecf79", func := "towncrier/towncrierlaw01.LeSmall", spec := "leSmall", apart := false }
def LeSmallSaid : Prop := leSmallRow.holds Try.pinned (OpenSpec.ofChange leSmallSpec)

/-- ITS FALSE NEIGHBOUR: 'it returns false'. Refute it at one input. -/
def leSmallWrong : ChangeSpec := { name := "leSmall", fn := fun _ => fun
  | [d] => { results := [.lit (.bool false)], args := [d] }
  | _ => none }
def LeSmallWrongFalsely : Prop := leSmallRow.holds Try.pinned (OpenSpec.ofChange leSmallWrong)

/-- 'towncrierlaw01.LeCut': WHATEVER THE INPUT: true; the input reads as it did. -/
def leCutSpec : ChangeSpec := { name := "leCut", fn := fun _ => fun
  | [d1, d2] => { results := [.lit (.bool true)], args := [d1, d2] }
  | _ => none }
def leCutRow : OpenClaim := { program := "ytnmpojodadlnmaa", sum := "01029eefcc7dd081e09f6fdee923053efb4131094b995187db27d29d3f9ecf79", func := "towncrier/towncrierlaw01.LeCut", spec := "leCut", apart := false }
def LeCutSaid : Prop := leCutRow.holds Try.pinned (OpenSpec.ofChange leCutSpec)

/-- ITS FALSE NEIGHBOUR: 'it returns false'. Refute it at one input. -/
def leCutWrong : ChangeSpec := { name := "leCut", fn := fun _ => fun
  | [d1, d2] => { results := [.lit (.bool false)], args := [d1, d2] }
  | _ => none }
def LeCutWrongFalsely : Prop := leCutRow.holds Try.pinned (OpenSpec.ofChange leCutWrong)

/-- 'towncrierlaw01.LeParts': WHATEVER THE INPUT: true; the input reads as it did. -/
def lePartsSpec : ChangeSpec := { name := "leParts", fn := fun _ => fun
  | [d] => { results := [.lit (.bool true)], args := [d] }
  | _ => none }
def lePartsRow : OpenClaim := { program := "ytnmpojodadlnmaa", sum := "01029eefcc7dd081e09f6fdee923053efb4131094b995187db27d29d3f9ecf79", func := "towncrier/towncrierlaw01.LeParts", spec := "leParts", apart := false }
def LePartsSaid : Prop := lePartsRow.holds Try.pinned (OpenSpec.ofChange lePartsSpec)

/-- ITS FALSE NEIGHBOUR: 'it returns false'. Refute it at one input. -/
def lePartsWrong : ChangeSpec := { name := "leParts", fn := fun _ => fun
  | [d] => { results := [.lit (.bool false)], args := [d] }
  | _ => none }
def LePartsWrongFalsely : Prop := lePartsRow.holds Try.pinned (OpenSpec.ofChange lePartsWrong)

/-- 'towncrierlaw01.LeTells': WHATEVER THE INPUT: true; the input reads as it did. -/
def leTellsSpec : ChangeSpec := { name := "leTells", fn := fun _ => fun
  | [d1, d2, d3, d4] => { results := [.lit (.bool true)], args := [d1, d2, d3, d4] }
  | _ => none }
def leTellsRow : OpenClaim := { program := "ytnmpojodadlnmaa", sum := "01029eefcc7dd081e09f6fdee923053efb4131094b995187db27d29d3f9ecf79", func := "towncrier/towncrierlaw01.LeTells", spec := "leTells", apart := false }
def LeTellsSaid : Prop := leTellsRow.holds Try.pinned (OpenSpec.ofChange leTellsSpec)

/-- ITS FALSE NEIGHBOUR: 'it returns false'. Refute it at one input. -/
def leTellsWrong : ChangeSpec := { name := "leTells", fn := fun _ => fun
  | [d1, d2, d3, d4] => { results := [.lit (.bool false)], args := [d1, d2, d3, d4] }
  | _ => none }
def LeTellsWrongFalsely : Prop := leTellsRow.holds Try.pinned (OpenSpec.ofChange leTellsWrong)

/-- 'towncrierlaw01.LeWords': WHATEVER THE INPUT: true; the input reads as it did. -/
def leWordsSpec : ChangeSpec := { name := "leWords", fn := fun _ => fun
  | [d1, d2] => { results := [.lit (.bool true)], args := [d1, d2] }
  | _ => none }
def leWordsRow : OpenClaim := { program := "ytnmpojodadlnmaa", sum := "01029eefcc7dd081e09f6fdee923053efb4131094b995187db27d29d3f9ecf79", func := "towncrier/towncrierlaw01.LeWords", spec := "leWords", apart := false }
def LeWordsSaid : Prop := leWordsRow.holds Try.pinned (OpenSpec.ofChange leWordsSpec)

/-- ITS FALSE NEIGHBOUR: 'it returns false'. Refute it at one input. -/
def leWordsWrong : ChangeSpec := { name := "leWords", fn := fun _ => fun
  | [d1, d2] => { results := [.lit (.bool false)], args := [d1, d2] }
  | _ => none }
def LeWordsWrongFalsely : Prop := leWordsRow.holds Try.pinned (OpenSpec.ofChange leWordsWrong)

/- THE SECOND FORM. 'bulk': how many values and letters a reading holds, each counted each time it is reached (what is shared counts as often as it is met; a slice's spare places count too). A statement '..UptoSaid' is the law's where the arguments, and the package variables that the reading takes, are together of bulk at most 1048576: NARROWER than '..Said'. Prove '..Said' where nothing that the law and all that it calls make is longer than what came in: it says more and counts as full. Else prove '..UptoSaid'. A law counts once. -/
mutual
def uptoBulk {H : Type} : DataW H → Nat
  | .lit (.string bytes) => bytes.length + 1
  | .lit _ => 1
  | .nil => 1
  | .ptr d => uptoBulk d + 1
  | .slice elems spare => uptoBulkAll elems + uptoBulkAll spare + 1
  | .agg parts => uptoBulkAll parts + 1
  | .iface _ d => uptoBulk d + 1
  | .map entries => uptoBulkEntries entries + 1
  | .held _ => 1
def uptoBulkAll {H : Type} : List (DataW H) → Nat
  | [] => 0
  | d :: r => uptoBulk d + uptoBulkAll r
def uptoBulkEntries {H : Type} : List (Lit × DataW H) → Nat
  | [] => 0
  | x :: r => uptoBulkEntry x + uptoBulkEntries r
def uptoBulkEntry {H : Type} : Lit × DataW H → Nat
  | (.string bytes, d) => bytes.length + uptoBulk d + 1
  | (_, d) => uptoBulk d + 1
 end
def uptoSmall : (H : Type) → List (DataW H) → Bool := fun _ ds => decide (uptoBulkAll ds ≤ 1048576)
def OpenSpec.upto (s : _root_.Go.ChangeSpec) : _root_.Go.OpenSpec := { _root_.Go.OpenSpec.ofChange s with cond := some uptoSmall }

/-- 'towncrierlaw01.LeBack', WHERE WHAT IT READS IS OF BULK AT MOST 1048576: true; the input reads as it did. -/
def leBackUptoRow : OpenClaim := { program := "ytnmpojodadlnmaa", sum := "01029eefcc7dd081e09f6fdee923053efb4131094b995187db27d29d3f9ecf79", func := "towncrier/towncrierlaw01.LeBack", spec := "leBack", apart := false, narrowed := true }
def LeBackUptoSaid : Prop := leBackUptoRow.holds Try.pinned (OpenSpec.upto leBackSpec)

/-- 'towncrierlaw01.LeZigs', WHERE WHAT IT READS IS OF BULK AT MOST 1048576: true; the input reads as it did. -/
def leZigsUptoRow : OpenClaim := { program := "ytnmpojodadlnmaa", sum := "01029eefcc7dd081e09f6fdee923053efb4131094b995187db27d29d3f9ecf79", func := "towncrier/towncrierlaw01.LeZigs", spec := "leZigs", apart := false, narrowed := true }
def LeZigsUptoSaid : Prop := leZigsUptoRow.holds Try.pinned (OpenSpec.upto leZigsSpec)

/-- 'towncrierlaw01.LeOrder', WHERE WHAT IT READS IS OF BULK AT MOST 1048576: true; the input reads as it did. -/
def leOrderUptoRow : OpenClaim := { program := "ytnmpojodadlnmaa", sum := "01029eefcc7dd081e09f6fdee923053efb4131094b995187db27d29d3f9ecf79", func := "towncrier/towncrierlaw01.LeOrder", spec := "leOrder", apart := false, narrowed := true }
def LeOrderUptoSaid : Prop := leOrderUptoRow.holds Try.pinned (OpenSpec.upto leOrderSpec)

/-- 'towncrierlaw01.LeSmall', WHERE WHAT IT READS IS OF BULK AT MOST 1048576: true; the input reads as it did. -/
def leSmallUptoRow : OpenClaim := { program := "ytnmpojodadlnmaa", sum := "01029eefcc7dd081e09f6fdee923053efb4131094b995187db27d29d3f9ecf79", func := "towncrier/towncrierlaw01.LeSmall", spec := "leSmall", apart := false, narrowed := true }
def LeSmallUptoSaid : Prop := leSmallUptoRow.holds Try.pinned (OpenSpec.upto leSmallSpec)

/-- 'towncrierlaw01.LeCut', WHERE WHAT IT READS IS OF BULK AT MOST 1048576: true; the input reads as it did. -/
def leCutUptoRow : OpenClaim := { program := "ytnmpojodadlnmaa", sum := "01029eefcc7dd081e09f6fdee923053efb4131094b995187db27d29d3f9ecf79", func := "towncrier/towncrierlaw01.LeCut", spec := "leCut", apart := false, narrowed := true }
def LeCutUptoSaid : Prop := leCutUptoRow.holds Try.pinned (OpenSpec.upto leCutSpec)

/-- 'towncrierlaw01.LeParts', WHERE WHAT IT READS IS OF BULK AT MOST 1048576: true; the input reads as it did. -/
def lePartsUptoRow : OpenClaim := { program := "ytnmpojodadlnmaa", sum := "01029eefcc7dd081e09f6fdee923053efb4131094b995187db27d29d3f9ecf79", func := "towncrier/towncrierlaw01.LeParts", spec := "leParts", apart := false, narrowed := true }
def LePartsUptoSaid : Prop := lePartsUptoRow.holds Try.pinned (OpenSpec.upto lePartsSpec)

/-- 'towncrierlaw01.LeTells', WHERE WHAT IT READS IS OF BULK AT MOST 1048576: true; the input reads as it did. -/
def leTellsUptoRow : OpenClaim := { program := "ytnmpojodadlnmaa", sum := "01029eefcc7dd081e09f6fdee923053efb4131094b995187db27d29d3f9ecf79", func := "towncrier/towncrierlaw01.LeTells", spec := "leTells", apart := false, narrowed := true }
def LeTellsUptoSaid : Prop := leTellsUptoRow.holds Try.pinned (OpenSpec.upto leTellsSpec)

/-- 'towncrierlaw01.LeWords', WHERE WHAT IT READS IS OF BULK AT MOST 1048576: true; the input reads as it did. -/
def leWordsUptoRow : OpenClaim := { program := "ytnmpojodadlnmaa", sum := "01029eefcc7dd081e09f6fdee923053efb4131094b995187db27d29d3f9ecf79", func := "towncrier/towncrierlaw01.LeWords", spec := "leWords", apart := false, narrowed := true }
def LeWordsUptoSaid : Prop := leWordsUptoRow.holds Try.pinned (OpenSpec.upto leWordsSpec)

end Rows
end Go.Proofs.Ytnmpojodadlnmaa
