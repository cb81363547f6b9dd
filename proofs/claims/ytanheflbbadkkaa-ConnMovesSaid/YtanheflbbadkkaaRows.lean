/-
  No cell of these rows narrows 'for every input' (looked for: loops, veiled, ifaces, maps, wideKeys, modest, calm, conditions, laid).
  DERIVED. THE GIVEN ROWS OF THIS SEAT. 5 by the template 'for every input the law returns true; each argument reads behind the call as it read before'; 0 by the template 'total and deterministic' (their statements: YtanheflbbadkkaaTotals.lean).
  GIVEN WITH THE SEED: the statements are not yours to turn. If you find one false, say at which input.
  Laid BY PROGRAM, IN A SANDBOX (cutbox-rows.mjs): the forced cells as the released guide's own fill.sh prints them over the translation a60358c18c675cbd… (all of the seat's roots in one cut). By AI agents, Wed Nov 11 2026. No macro, syntax, notation, axiom, sorry.
-/
import Derived.Test.YtanheflbbadkkaaChecked
import GoSem.Claim
import GoSem.ClaimJoined
import GoSem.ClaimMapViews
import Derived.JoinedTies
import Derived.KernelRfl
namespace Go.Proofs.Ytanheflbbadkkaa
/- THE CELL 'sum', in the pinned program and in every row, IS THE sha256 OF THE DUMP (.gsa) THAT YtanheflbbadkkaaProg.lean LOADS. Nothing in Lean hashes anything: it is a label: what it is worth is what the hold of that sum in a sandbox is worth. -/
noncomputable def Try.pinned : Pinned := { name := "ytanheflbbadkkaa", sum := "a60358c18c675cbda3504e58a896b8305e4096b30b7242e44daf4b7950b5f4fb", checked := Try.checked }
namespace Rows
def none {H : Type} : Left H := { results := [], args := [] }

/-- 'towncrierlaw18.ConnMoves': WHATEVER THE INPUT: true; the input reads as it did. -/
def connMovesSpec : ChangeSpec := { name := "connMoves", fn := fun _ => fun
  | [d1, d2] => { results := [.lit (.bool true)], args := [d1, d2] }
  | _ => none }
def connMovesRow : OpenClaim := { program := "ytanheflbbadkkaa", sum := "a60358c18c675cbda3504e58a896b8305e4096b30b7242e44daf4b7950b5f4fb", func := "towncrier/towncrierlaw18.ConnMoves", spec := "connMoves", unfollowed := true, recurses := true, apart := false }
def ConnMovesSaid : Prop := connMovesRow.holds Try.pinned (OpenSpec.ofChange connMovesSpec)

/-- ITS FALSE NEIGHBOUR: 'it returns false'. Refute it at one input. -/
def connMovesWrong : ChangeSpec := { name := "connMoves", fn := fun _ => fun
  | [d1, d2] => { results := [.lit (.bool false)], args := [d1, d2] }
  | _ => none }
def ConnMovesWrongFalsely : Prop := connMovesRow.holds Try.pinned (OpenSpec.ofChange connMovesWrong)

/-- 'towncrierlaw18.ConnRoom': WHATEVER THE INPUT: true; the input reads as it did. -/
def connRoomSpec : ChangeSpec := { name := "connRoom", fn := fun _ => fun
  | [d1, d2] => { results := [.lit (.bool true)], args := [d1, d2] }
  | _ => none }
def connRoomRow : OpenClaim := { program := "ytanheflbbadkkaa", sum := "a60358c18c675cbda3504e58a896b8305e4096b30b7242e44daf4b7950b5f4fb", func := "towncrier/towncrierlaw18.ConnRoom", spec := "connRoom", unfollowed := true, recurses := true, apart := false }
def ConnRoomSaid : Prop := connRoomRow.holds Try.pinned (OpenSpec.ofChange connRoomSpec)

/-- ITS FALSE NEIGHBOUR: 'it returns false'. Refute it at one input. -/
def connRoomWrong : ChangeSpec := { name := "connRoom", fn := fun _ => fun
  | [d1, d2] => { results := [.lit (.bool false)], args := [d1, d2] }
  | _ => none }
def ConnRoomWrongFalsely : Prop := connRoomRow.holds Try.pinned (OpenSpec.ofChange connRoomWrong)

/-- 'towncrierlaw18.ConnParts': WHATEVER THE INPUT: true; the input reads as it did. -/
def connPartsSpec : ChangeSpec := { name := "connParts", fn := fun _ => fun
  | [d1, d2, d3] => { results := [.lit (.bool true)], args := [d1, d2, d3] }
  | _ => none }
def connPartsRow : OpenClaim := { program := "ytanheflbbadkkaa", sum := "a60358c18c675cbda3504e58a896b8305e4096b30b7242e44daf4b7950b5f4fb", func := "towncrier/towncrierlaw18.ConnParts", spec := "connParts", unfollowed := true, recurses := true, apart := false }
def ConnPartsSaid : Prop := connPartsRow.holds Try.pinned (OpenSpec.ofChange connPartsSpec)

/-- ITS FALSE NEIGHBOUR: 'it returns false'. Refute it at one input. -/
def connPartsWrong : ChangeSpec := { name := "connParts", fn := fun _ => fun
  | [d1, d2, d3] => { results := [.lit (.bool false)], args := [d1, d2, d3] }
  | _ => none }
def ConnPartsWrongFalsely : Prop := connPartsRow.holds Try.pinned (OpenSpec.ofChange connPartsWrong)

/-- 'towncrierlaw18.ConnTells': WHATEVER THE INPUT: true; the input reads as it did. -/
def connTellsSpec : ChangeSpec := { name := "connTells", fn := fun _ => fun
  | [d1, d2, d3, d4] => { results := [.lit (.bool true)], args := [d1, d2, d3, d4] }
  | _ => none }
def connTellsRow : OpenClaim := { program := "ytanheflbbadkkaa", sum := "a60358c18c675cbda3504e58a896b8305e4096b30b7242e44daf4b7950b5f4fb", func := "towncrier/towncrierlaw18.ConnTells", spec := "connTells", unfollowed := true, recurses := true, apart := false }
def ConnTellsSaid : Prop := connTellsRow.holds Try.pinned (OpenSpec.ofChange connTellsSpec)

/-- ITS FALSE NEIGHBOUR: 'it returns false'. Refute it at one input. -/
def connTellsWrong : ChangeSpec := { name := "connTells", fn := fun _ => fun
  | [d1, d2, d3, d4] => { results := [.lit (.bool false)], args := [d1, d2, d3, d4] }
  | _ => none }
def ConnTellsWrongFalsely : Prop := connTellsRow.holds Try.pinned (OpenSpec.ofChange connTellsWrong)

/-- 'towncrierlaw18.ConnFeeds': WHATEVER THE INPUT: true; the input reads as it did. -/
def connFeedsSpec : ChangeSpec := { name := "connFeeds", fn := fun _ => fun
  | [d1, d2] => { results := [.lit (.bool true)], args := [d1, d2] }
  | _ => none }
def connFeedsRow : OpenClaim := { program := "ytanheflbbadkkaa", sum := "a60358c18c675cbda3504e58a896b8305e4096b30b7242e44daf4b7950b5f4fb", func := "towncrier/towncrierlaw18.ConnFeeds", spec := "connFeeds", unfollowed := true, recurses := true, apart := false }
def ConnFeedsSaid : Prop := connFeedsRow.holds Try.pinned (OpenSpec.ofChange connFeedsSpec)

/-- ITS FALSE NEIGHBOUR: 'it returns false'. Refute it at one input. -/
def connFeedsWrong : ChangeSpec := { name := "connFeeds", fn := fun _ => fun
  | [d1, d2] => { results := [.lit (.bool false)], args := [d1, d2] }
  | _ => none }
def ConnFeedsWrongFalsely : Prop := connFeedsRow.holds Try.pinned (OpenSpec.ofChange connFeedsWrong)

/- THE SECOND FORM. 'bulk': how many values and letters a reading holds, each counted each time it is reached (what is shared counts as often as it is met; a slice's spare places count too). A statement '..UptoSaid' is the law's where the arguments, and the package variables that the reading takes, are together of bulk at most 1048576: NARROWER than '..Said'. Prove '..Said' where nothing that the law and all that it calls make is longer than what came in: it says more and counts as full. Else prove '..UptoSaid'. A law counts once. -/
mutual
def uptoBulk {H : Type} : DataW H → Nat
  | .lit (.string bytes) => bytes.length + 1
  | .lit _ => 1
  | .nil => 1
  | .ptr d => uptoBulk d + 1
  | .slice elems spare => uptoBulkAll elems + uptoBulkAll spare + 1
  | .agg parts => uptoBulkAll parts + 1
  | .iface _ d => uptoBulk d + 1
  | .map entries => uptoBulkEntries entries + 1
  | .held _ => 1
def uptoBulkAll {H : Type} : List (DataW H) → Nat
  | [] => 0
  | d :: r => uptoBulk d + uptoBulkAll r
def uptoBulkEntries {H : Type} : List (Lit × DataW H) → Nat
  | [] => 0
  | x :: r => uptoBulkEntry x + uptoBulkEntries r
def uptoBulkEntry {H : Type} : Lit × DataW H → Nat
  | (.string bytes, d) => bytes.length + uptoBulk d + 1
  | (_, d) => uptoBulk d + 1
 end
def uptoSmall : (H : Type) → List (DataW H) → Bool := fun _ ds => decide (uptoBulkAll ds ≤ 1048576)
def OpenSpec.upto (s : _root_.Go.ChangeSpec) : _root_.Go.OpenSpec := { _root_.Go.OpenSpec.ofChange s with cond := some uptoSmall }

/-- 'towncrierlaw18.ConnMoves', WHERE WHAT IT READS IS OF BULK AT MOST 1048576: true; the input reads as it did. -/
def connMovesUptoRow : OpenClaim := { program := "ytanheflbbadkkaa", sum := "a60358c18c675cbda3504e58a896b8305e4096b30b7242e44daf4b7950b5f4fb", func := "towncrier/towncrierlaw18.ConnMoves", spec := "connMoves", unfollowed := true, recurses := true, apart := false, narrowed := true }
def ConnMovesUptoSaid : Prop := connMovesUptoRow.holds Try.pinned (OpenSpec.upto connMovesSpec)

/-- 'towncrierlaw18.ConnRoom', WHERE WHAT IT READS IS OF BULK AT MOST 1048576: true; the input reads as it did. -/
def connRoomUptoRow : OpenClaim := { program := "ytanheflbbadkkaa", sum := "a60358c18c675cbda3504e58a896b8305e4096b30b7242e44daf4b7950b5f4fb", func := "towncrier/towncrierlaw18.ConnRoom", spec := "connRoom", unfollowed := true, recurses := true, apart := false, narrowed := true }
def ConnRoomUptoSaid : Prop := connRoomUptoRow.holds Try.pinned (OpenSpec.upto connRoomSpec)

/-- 'towncrierlaw18.ConnParts', WHERE WHAT IT READS IS OF BULK AT MOST 1048576: true; the input reads as it did. -/
def connPartsUptoRow : OpenClaim := { program := "ytanheflbbadkkaa", sum := "a60358c18c675cbda3504e58a896b8305e4096b30b7242e44daf4b7950b5f4fb", func := "towncrier/towncrierlaw18.ConnParts", spec := "connParts", unfollowed := true, recurses := true, apart := false, narrowed := true }
def ConnPartsUptoSaid : Prop := connPartsUptoRow.holds Try.pinned (OpenSpec.upto connPartsSpec)

/-- 'towncrierlaw18.ConnTells', WHERE WHAT IT READS IS OF BULK AT MOST 1048576: true; the input reads as it did. -/
def connTellsUptoRow : OpenClaim := { program := "ytanheflbbadkkaa", sum := "a60358c18c675cbda3504e58a896b8305e4096b30b7242e44daf4b7950b5f4fb", func := "towncrier/towncrierlaw18.ConnTells", spec := "connTells", unfollowed := true, recurses := true, apart := false, narrowed := true }
def ConnTellsUptoSaid : Prop := connTellsUptoRow.holds Try.pinned (OpenSpec.upto connTellsSpec)

/-- 'towncrierlaw18.ConnFeeds', WHERE WHAT IT READS IS OF BULK AT MOST 1048576: true; the input reads as it did. -/
def connFeedsUptoRow : OpenClaim := { program := "ytanheflbbadkkaa", sum := "a60358c18c675cbda3504e58a896b8305e4096b30b7242e44daf4b7950b5f4fb", func := "towncrier/towncrierlaw18.ConnFeeds", spec := "connFeeds", unfollowed := true, recurses := true, apart := false, narrowed := true }
def ConnFeedsUptoSaid : Prop := connFeedsUptoRow.holds Try.pinned (OpenSpec.upto connFeedsSpec)

end Rows
end Go.Proofs.Ytanheflbbadkkaa
