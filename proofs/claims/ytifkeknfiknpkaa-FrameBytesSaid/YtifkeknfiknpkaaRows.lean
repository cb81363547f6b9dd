/-
  No cell of these rows narrows 'for every input' (looked for: loops, veiled, ifaces, maps, wideKeys, modest, calm, conditions, laid).
  DERIVED. THE GIVEN ROWS OF THIS SEAT. 12 by the template 'for every input the law returns true; each argument reads behind the call as it read before'; 0 by the template 'total and deterministic' (their statements: YtifkeknfiknpkaaTotals.lean).
  GIVEN WITH THE SEED: the statements are not yours to turn. If you find one false, say at which input.
  Laid BY PROGRAM, IN A SANDBOX (cutbox-rows.mjs): the forced cells as the released guide's own fill.sh prints them over the translation 240dde4091ca13b4… (all of the seat's roots in one cut). By AI agents, Wed Nov 11 2026. No macro, syntax, notation, axiom, sorry.
-/
import Derived.Test.YtifkeknfiknpkaaChecked
import GoSem.Claim
import GoSem.ClaimJoined
import GoSem.ClaimMapViews
import Derived.JoinedTies
import Derived.KernelRfl
namespace Go.Proofs.Ytifkeknfiknpkaa
/- THE CELL 'sum', in the pinned program and in every row, IS THE sha256 OF THE DUMP (.gsa) THAT YtifkeknfiknpkaaProg.lean LOADS. Nothing in Lean hashes anything: it is a label: what it is worth is what the hold of that sum in a sandbox is worth. -/
noncomputable def Try.pinned : Pinned := { name := "ytifkeknfiknpkaa", sum := "240dde4091ca13b454fd1133fb7d5fa57e9407a931e495b7b114264de1c1b58f", checked := Try.checked }
namespace Rows
def none {H : Type} : Left H := { results := [], args := [] }

/-- 'towncrierlaw02.CrcTells': WHATEVER THE INPUT: true; the input reads as it did. -/
def crcTellsSpec : ChangeSpec := { name := "crcTells", fn := fun _ => fun
  | [d1, d2] => { results := [.lit (.bool true)], args := [d1, d2] }
  | _ => none }
def crcTellsRow : OpenClaim := { program := "ytifkeknfiknpkaa", sum := "240dde4091ca13b454fd1133fb7d5fa57e9407a931e495b7b114264de1c1b58f", func := "towncrier/towncrierlaw02.CrcTells", spec := "crcTells", unfollowed := true, recurses := true, apart := false }
def CrcTellsSaid : Prop := crcTellsRow.holds Try.pinned (OpenSpec.ofChange crcTellsSpec)

/-- ITS FALSE NEIGHBOUR: 'it returns false'. Refute it at one input. -/
def crcTellsWrong : ChangeSpec := { name := "crcTells", fn := fun _ => fun
  | [d1, d2] => { results := [.lit (.bool false)], args := [d1, d2] }
  | _ => none }
def CrcTellsWrongFalsely : Prop := crcTellsRow.holds Try.pinned (OpenSpec.ofChange crcTellsWrong)

/-- 'towncrierlaw02.CrcParts': WHATEVER THE INPUT: true; the input reads as it did. -/
def crcPartsSpec : ChangeSpec := { name := "crcParts", fn := fun _ => fun
  | [d1, d2] => { results := [.lit (.bool true)], args := [d1, d2] }
  | _ => none }
def crcPartsRow : OpenClaim := { program := "ytifkeknfiknpkaa", sum := "240dde4091ca13b454fd1133fb7d5fa57e9407a931e495b7b114264de1c1b58f", func := "towncrier/towncrierlaw02.CrcParts", spec := "crcParts", unfollowed := true, recurses := true, apart := false }
def CrcPartsSaid : Prop := crcPartsRow.holds Try.pinned (OpenSpec.ofChange crcPartsSpec)

/-- ITS FALSE NEIGHBOUR: 'it returns false'. Refute it at one input. -/
def crcPartsWrong : ChangeSpec := { name := "crcParts", fn := fun _ => fun
  | [d1, d2] => { results := [.lit (.bool false)], args := [d1, d2] }
  | _ => none }
def CrcPartsWrongFalsely : Prop := crcPartsRow.holds Try.pinned (OpenSpec.ofChange crcPartsWrong)

/-- 'towncrierlaw02.CrcOne': WHATEVER THE INPUT: true; the input reads as it did. -/
def crcOneSpec : ChangeSpec := { name := "crcOne", fn := fun _ => fun
  | [d1, d2, d3] => { results := [.lit (.bool true)], args := [d1, d2, d3] }
  | _ => none }
def crcOneRow : OpenClaim := { program := "ytifkeknfiknpkaa", sum := "240dde4091ca13b454fd1133fb7d5fa57e9407a931e495b7b114264de1c1b58f", func := "towncrier/towncrierlaw02.CrcOne", spec := "crcOne", unfollowed := true, recurses := true, apart := false }
def CrcOneSaid : Prop := crcOneRow.holds Try.pinned (OpenSpec.ofChange crcOneSpec)

/-- ITS FALSE NEIGHBOUR: 'it returns false'. Refute it at one input. -/
def crcOneWrong : ChangeSpec := { name := "crcOne", fn := fun _ => fun
  | [d1, d2, d3] => { results := [.lit (.bool false)], args := [d1, d2, d3] }
  | _ => none }
def CrcOneWrongFalsely : Prop := crcOneRow.holds Try.pinned (OpenSpec.ofChange crcOneWrong)

/-- 'towncrierlaw02.CrcBits': WHATEVER THE INPUT: true; the input reads as it did. -/
def crcBitsSpec : ChangeSpec := { name := "crcBits", fn := fun _ => fun
  | [d1, d2, d3] => { results := [.lit (.bool true)], args := [d1, d2, d3] }
  | _ => none }
def crcBitsRow : OpenClaim := { program := "ytifkeknfiknpkaa", sum := "240dde4091ca13b454fd1133fb7d5fa57e9407a931e495b7b114264de1c1b58f", func := "towncrier/towncrierlaw02.CrcBits", spec := "crcBits", unfollowed := true, recurses := true, apart := false }
def CrcBitsSaid : Prop := crcBitsRow.holds Try.pinned (OpenSpec.ofChange crcBitsSpec)

/-- ITS FALSE NEIGHBOUR: 'it returns false'. Refute it at one input. -/
def crcBitsWrong : ChangeSpec := { name := "crcBits", fn := fun _ => fun
  | [d1, d2, d3] => { results := [.lit (.bool false)], args := [d1, d2, d3] }
  | _ => none }
def CrcBitsWrongFalsely : Prop := crcBitsRow.holds Try.pinned (OpenSpec.ofChange crcBitsWrong)

/-- 'towncrierlaw02.CrcNext': WHATEVER THE INPUT: true; the input reads as it did. -/
def crcNextSpec : ChangeSpec := { name := "crcNext", fn := fun _ => fun
  | [d1, d2, d3] => { results := [.lit (.bool true)], args := [d1, d2, d3] }
  | _ => none }
def crcNextRow : OpenClaim := { program := "ytifkeknfiknpkaa", sum := "240dde4091ca13b454fd1133fb7d5fa57e9407a931e495b7b114264de1c1b58f", func := "towncrier/towncrierlaw02.CrcNext", spec := "crcNext", unfollowed := true, recurses := true, apart := false }
def CrcNextSaid : Prop := crcNextRow.holds Try.pinned (OpenSpec.ofChange crcNextSpec)

/-- ITS FALSE NEIGHBOUR: 'it returns false'. Refute it at one input. -/
def crcNextWrong : ChangeSpec := { name := "crcNext", fn := fun _ => fun
  | [d1, d2, d3] => { results := [.lit (.bool false)], args := [d1, d2, d3] }
  | _ => none }
def CrcNextWrongFalsely : Prop := crcNextRow.holds Try.pinned (OpenSpec.ofChange crcNextWrong)

/-- 'towncrierlaw03.FrameTells': WHATEVER THE INPUT: true; the input reads as it did. -/
def frameTellsSpec : ChangeSpec := { name := "frameTells", fn := fun _ => fun
  | [d1, d2, d3] => { results := [.lit (.bool true)], args := [d1, d2, d3] }
  | _ => none }
def frameTellsRow : OpenClaim := { program := "ytifkeknfiknpkaa", sum := "240dde4091ca13b454fd1133fb7d5fa57e9407a931e495b7b114264de1c1b58f", func := "towncrier/towncrierlaw03.FrameTells", spec := "frameTells", unfollowed := true, recurses := true, apart := false }
def FrameTellsSaid : Prop := frameTellsRow.holds Try.pinned (OpenSpec.ofChange frameTellsSpec)

/-- ITS FALSE NEIGHBOUR: 'it returns false'. Refute it at one input. -/
def frameTellsWrong : ChangeSpec := { name := "frameTells", fn := fun _ => fun
  | [d1, d2, d3] => { results := [.lit (.bool false)], args := [d1, d2, d3] }
  | _ => none }
def FrameTellsWrongFalsely : Prop := frameTellsRow.holds Try.pinned (OpenSpec.ofChange frameTellsWrong)

/-- 'towncrierlaw03.FrameParts': WHATEVER THE INPUT: true; the input reads as it did. -/
def framePartsSpec : ChangeSpec := { name := "frameParts", fn := fun _ => fun
  | [d1, d2, d3] => { results := [.lit (.bool true)], args := [d1, d2, d3] }
  | _ => none }
def framePartsRow : OpenClaim := { program := "ytifkeknfiknpkaa", sum := "240dde4091ca13b454fd1133fb7d5fa57e9407a931e495b7b114264de1c1b58f", func := "towncrier/towncrierlaw03.FrameParts", spec := "frameParts", unfollowed := true, recurses := true, apart := false }
def FramePartsSaid : Prop := framePartsRow.holds Try.pinned (OpenSpec.ofChange framePartsSpec)

/-- ITS FALSE NEIGHBOUR: 'it returns false'. Refute it at one input. -/
def framePartsWrong : ChangeSpec := { name := "frameParts", fn := fun _ => fun
  | [d1, d2, d3] => { results := [.lit (.bool false)], args := [d1, d2, d3] }
  | _ => none }
def FramePartsWrongFalsely : Prop := framePartsRow.holds Try.pinned (OpenSpec.ofChange framePartsWrong)

/-- 'towncrierlaw03.FrameBack': WHATEVER THE INPUT: true; the input reads as it did. -/
def frameBackSpec : ChangeSpec := { name := "frameBack", fn := fun _ => fun
  | [d1, d2] => { results := [.lit (.bool true)], args := [d1, d2] }
  | _ => none }
def frameBackRow : OpenClaim := { program := "ytifkeknfiknpkaa", sum := "240dde4091ca13b454fd1133fb7d5fa57e9407a931e495b7b114264de1c1b58f", func := "towncrier/towncrierlaw03.FrameBack", spec := "frameBack", unfollowed := true, recurses := true, apart := false }
def FrameBackSaid : Prop := frameBackRow.holds Try.pinned (OpenSpec.ofChange frameBackSpec)

/-- ITS FALSE NEIGHBOUR: 'it returns false'. Refute it at one input. -/
def frameBackWrong : ChangeSpec := { name := "frameBack", fn := fun _ => fun
  | [d1, d2] => { results := [.lit (.bool false)], args := [d1, d2] }
  | _ => none }
def FrameBackWrongFalsely : Prop := frameBackRow.holds Try.pinned (OpenSpec.ofChange frameBackWrong)

/-- 'towncrierlaw03.FrameDead': WHATEVER THE INPUT: true; the input reads as it did. -/
def frameDeadSpec : ChangeSpec := { name := "frameDead", fn := fun _ => fun
  | [d1, d2, d3] => { results := [.lit (.bool true)], args := [d1, d2, d3] }
  | _ => none }
def frameDeadRow : OpenClaim := { program := "ytifkeknfiknpkaa", sum := "240dde4091ca13b454fd1133fb7d5fa57e9407a931e495b7b114264de1c1b58f", func := "towncrier/towncrierlaw03.FrameDead", spec := "frameDead", unfollowed := true, recurses := true, apart := false }
def FrameDeadSaid : Prop := frameDeadRow.holds Try.pinned (OpenSpec.ofChange frameDeadSpec)

/-- ITS FALSE NEIGHBOUR: 'it returns false'. Refute it at one input. -/
def frameDeadWrong : ChangeSpec := { name := "frameDead", fn := fun _ => fun
  | [d1, d2, d3] => { results := [.lit (.bool false)], args := [d1, d2, d3] }
  | _ => none }
def FrameDeadWrongFalsely : Prop := frameDeadRow.holds Try.pinned (OpenSpec.ofChange frameDeadWrong)

/-- 'towncrierlaw03.FrameBit': WHATEVER THE INPUT: true; the input reads as it did. -/
def frameBitSpec : ChangeSpec := { name := "frameBit", fn := fun _ => fun
  | [d1, d2, d3] => { results := [.lit (.bool true)], args := [d1, d2, d3] }
  | _ => none }
def frameBitRow : OpenClaim := { program := "ytifkeknfiknpkaa", sum := "240dde4091ca13b454fd1133fb7d5fa57e9407a931e495b7b114264de1c1b58f", func := "towncrier/towncrierlaw03.FrameBit", spec := "frameBit", unfollowed := true, recurses := true, apart := false }
def FrameBitSaid : Prop := frameBitRow.holds Try.pinned (OpenSpec.ofChange frameBitSpec)

/-- ITS FALSE NEIGHBOUR: 'it returns false'. Refute it at one input. -/
def frameBitWrong : ChangeSpec := { name := "frameBit", fn := fun _ => fun
  | [d1, d2, d3] => { results := [.lit (.bool false)], args := [d1, d2, d3] }
  | _ => none }
def FrameBitWrongFalsely : Prop := frameBitRow.holds Try.pinned (OpenSpec.ofChange frameBitWrong)

/-- 'towncrierlaw03.FrameLong': WHATEVER THE INPUT: true; the input reads as it did. -/
def frameLongSpec : ChangeSpec := { name := "frameLong", fn := fun _ => fun
  | [d1, d2] => { results := [.lit (.bool true)], args := [d1, d2] }
  | _ => none }
def frameLongRow : OpenClaim := { program := "ytifkeknfiknpkaa", sum := "240dde4091ca13b454fd1133fb7d5fa57e9407a931e495b7b114264de1c1b58f", func := "towncrier/towncrierlaw03.FrameLong", spec := "frameLong", unfollowed := true, recurses := true, apart := false }
def FrameLongSaid : Prop := frameLongRow.holds Try.pinned (OpenSpec.ofChange frameLongSpec)

/-- ITS FALSE NEIGHBOUR: 'it returns false'. Refute it at one input. -/
def frameLongWrong : ChangeSpec := { name := "frameLong", fn := fun _ => fun
  | [d1, d2] => { results := [.lit (.bool false)], args := [d1, d2] }
  | _ => none }
def FrameLongWrongFalsely : Prop := frameLongRow.holds Try.pinned (OpenSpec.ofChange frameLongWrong)

/-- 'towncrierlaw03.FrameBytes': WHATEVER THE INPUT: true; the input reads as it did. -/
def frameBytesSpec : ChangeSpec := { name := "frameBytes", fn := fun _ => fun
  | [d1, d2] => { results := [.lit (.bool true)], args := [d1, d2] }
  | _ => none }
def frameBytesRow : OpenClaim := { program := "ytifkeknfiknpkaa", sum := "240dde4091ca13b454fd1133fb7d5fa57e9407a931e495b7b114264de1c1b58f", func := "towncrier/towncrierlaw03.FrameBytes", spec := "frameBytes", unfollowed := true, recurses := true, apart := false }
def FrameBytesSaid : Prop := frameBytesRow.holds Try.pinned (OpenSpec.ofChange frameBytesSpec)

/-- ITS FALSE NEIGHBOUR: 'it returns false'. Refute it at one input. -/
def frameBytesWrong : ChangeSpec := { name := "frameBytes", fn := fun _ => fun
  | [d1, d2] => { results := [.lit (.bool false)], args := [d1, d2] }
  | _ => none }
def FrameBytesWrongFalsely : Prop := frameBytesRow.holds Try.pinned (OpenSpec.ofChange frameBytesWrong)

/- THE SECOND FORM. 'bulk': how many values and letters a reading holds, each counted each time it is reached (what is shared counts as often as it is met; a slice's spare places count too). A statement '..UptoSaid' is the law's where the arguments, and the package variables that the reading takes, are together of bulk at most 1048576: NARROWER than '..Said'. Prove '..Said' where nothing that the law and all that it calls make is longer than what came in: it says more and counts as full. Else prove '..UptoSaid'. A law counts once. -/
mutual
def uptoBulk {H : Type} : DataW H → Nat
  | .lit (.string bytes) => bytes.length + 1
  | .lit _ => 1
  | .nil => 1
  | .ptr d => uptoBulk d + 1
  | .slice elems spare => uptoBulkAll elems + uptoBulkAll spare + 1
  | .agg parts => uptoBulkAll parts + 1
  | .iface _ d => uptoBulk d + 1
  | .map entries => uptoBulkEntries entries + 1
  | .held _ => 1
def uptoBulkAll {H : Type} : List (DataW H) → Nat
  | [] => 0
  | d :: r => uptoBulk d + uptoBulkAll r
def uptoBulkEntries {H : Type} : List (Lit × DataW H) → Nat
  | [] => 0
  | x :: r => uptoBulkEntry x + uptoBulkEntries r
def uptoBulkEntry {H : Type} : Lit × DataW H → Nat
  | (.string bytes, d) => bytes.length + uptoBulk d + 1
  | (_, d) => uptoBulk d + 1
 end
def uptoSmall : (H : Type) → List (DataW H) → Bool := fun _ ds => decide (uptoBulkAll ds ≤ 1048576)
def OpenSpec.upto (s : _root_.Go.ChangeSpec) : _root_.Go.OpenSpec := { _root_.Go.OpenSpec.ofChange s with cond := some uptoSmall }

/-- 'towncrierlaw02.CrcTells', WHERE WHAT IT READS IS OF BULK AT MOST 1048576: true; the input reads as it did. -/
def crcTellsUptoRow : OpenClaim := { program := "ytifkeknfiknpkaa", sum := "240dde4091ca13b454fd1133fb7d5fa57e9407a931e495b7b114264de1c1b58f", func := "towncrier/towncrierlaw02.CrcTells", spec := "crcTells", unfollowed := true, recurses := true, apart := false, narrowed := true }
def CrcTellsUptoSaid : Prop := crcTellsUptoRow.holds Try.pinned (OpenSpec.upto crcTellsSpec)

/-- 'towncrierlaw02.CrcParts', WHERE WHAT IT READS IS OF BULK AT MOST 1048576: true; the input reads as it did. -/
def crcPartsUptoRow : OpenClaim := { program := "ytifkeknfiknpkaa", sum := "240dde4091ca13b454fd1133fb7d5fa57e9407a931e495b7b114264de1c1b58f", func := "towncrier/towncrierlaw02.CrcParts", spec := "crcParts", unfollowed := true, recurses := true, apart := false, narrowed := true }
def CrcPartsUptoSaid : Prop := crcPartsUptoRow.holds Try.pinned (OpenSpec.upto crcPartsSpec)

/-- 'towncrierlaw02.CrcOne', WHERE WHAT IT READS IS OF BULK AT MOST 1048576: true; the input reads as it did. -/
def crcOneUptoRow : OpenClaim := { program := "ytifkeknfiknpkaa", sum := "240dde4091ca13b454fd1133fb7d5fa57e9407a931e495b7b114264de1c1b58f", func := "towncrier/towncrierlaw02.CrcOne", spec := "crcOne", unfollowed := true, recurses := true, apart := false, narrowed := true }
def CrcOneUptoSaid : Prop := crcOneUptoRow.holds Try.pinned (OpenSpec.upto crcOneSpec)

/-- 'towncrierlaw02.CrcBits', WHERE WHAT IT READS IS OF BULK AT MOST 1048576: true; the input reads as it did. -/
def crcBitsUptoRow : OpenClaim := { program := "ytifkeknfiknpkaa", sum := "240dde4091ca13b454fd1133fb7d5fa57e9407a931e495b7b114264de1c1b58f", func := "towncrier/towncrierlaw02.CrcBits", spec := "crcBits", unfollowed := true, recurses := true, apart := false, narrowed := true }
def CrcBitsUptoSaid : Prop := crcBitsUptoRow.holds Try.pinned (OpenSpec.upto crcBitsSpec)

/-- 'towncrierlaw02.CrcNext', WHERE WHAT IT READS IS OF BULK AT MOST 1048576: true; the input reads as it did. -/
def crcNextUptoRow : OpenClaim := { program := "ytifkeknfiknpkaa", sum := "240dde4091ca13b454fd1133fb7d5fa57e9407a931e495b7b114264de1c1b58f", func := "towncrier/towncrierlaw02.CrcNext", spec := "crcNext", unfollowed := true, recurses := true, apart := false, narrowed := true }
def CrcNextUptoSaid : Prop := crcNextUptoRow.holds Try.pinned (OpenSpec.upto crcNextSpec)

/-- 'towncrierlaw03.FrameTells', WHERE WHAT IT READS IS OF BULK AT MOST 1048576: true; the input reads as it did. -/
def frameTellsUptoRow : OpenClaim := { program := "ytifkeknfiknpkaa", sum := "240dde4091ca13b454fd1133fb7d5fa57e9407a931e495b7b114264de1c1b58f", func := "towncrier/towncrierlaw03.FrameTells", spec := "frameTells", unfollowed := true, recurses := true, apart := false, narrowed := true }
def FrameTellsUptoSaid : Prop := frameTellsUptoRow.holds Try.pinned (OpenSpec.upto frameTellsSpec)

/-- 'towncrierlaw03.FrameParts', WHERE WHAT IT READS IS OF BULK AT MOST 1048576: true; the input reads as it did. -/
def framePartsUptoRow : OpenClaim := { program := "ytifkeknfiknpkaa", sum := "240dde4091ca13b454fd1133fb7d5fa57e9407a931e495b7b114264de1c1b58f", func := "towncrier/towncrierlaw03.FrameParts", spec := "frameParts", unfollowed := true, recurses := true, apart := false, narrowed := true }
def FramePartsUptoSaid : Prop := framePartsUptoRow.holds Try.pinned (OpenSpec.upto framePartsSpec)

/-- 'towncrierlaw03.FrameBack', WHERE WHAT IT READS IS OF BULK AT MOST 1048576: true; the input reads as it did. -/
def frameBackUptoRow : OpenClaim := { program := "ytifkeknfiknpkaa", sum := "240dde4091ca13b454fd1133fb7d5fa57e9407a931e495b7b114264de1c1b58f", func := "towncrier/towncrierlaw03.FrameBack", spec := "frameBack", unfollowed := true, recurses := true, apart := false, narrowed := true }
def FrameBackUptoSaid : Prop := frameBackUptoRow.holds Try.pinned (OpenSpec.upto frameBackSpec)

/-- 'towncrierlaw03.FrameDead', WHERE WHAT IT READS IS OF BULK AT MOST 1048576: true; the input reads as it did. -/
def frameDeadUptoRow : OpenClaim := { program := "ytifkeknfiknpkaa", sum := "240dde4091ca13b454fd1133fb7d5fa57e9407a931e495b7b114264de1c1b58f", func := "towncrier/towncrierlaw03.FrameDead", spec := "frameDead", unfollowed := true, recurses := true, apart := false, narrowed := true }
def FrameDeadUptoSaid : Prop := frameDeadUptoRow.holds Try.pinned (OpenSpec.upto frameDeadSpec)

/-- 'towncrierlaw03.FrameBit', WHERE WHAT IT READS IS OF BULK AT MOST 1048576: true; the input reads as it did. -/
def frameBitUptoRow : OpenClaim := { program := "ytifkeknfiknpkaa", sum := "240dde4091ca13b454fd1133fb7d5fa57e9407a931e495b7b114264de1c1b58f", func := "towncrier/towncrierlaw03.FrameBit", spec := "frameBit", unfollowed := true, recurses := true, apart := false, narrowed := true }
def FrameBitUptoSaid : Prop := frameBitUptoRow.holds Try.pinned (OpenSpec.upto frameBitSpec)

/-- 'towncrierlaw03.FrameLong', WHERE WHAT IT READS IS OF BULK AT MOST 1048576: true; the input reads as it did. -/
def frameLongUptoRow : OpenClaim := { program := "ytifkeknfiknpkaa", sum := "240dde4091ca13b454fd1133fb7d5fa57e9407a931e495b7b114264de1c1b58f", func := "towncrier/towncrierlaw03.FrameLong", spec := "frameLong", unfollowed := true, recurses := true, apart := false, narrowed := true }
def FrameLongUptoSaid : Prop := frameLongUptoRow.holds Try.pinned (OpenSpec.upto frameLongSpec)

/-- 'towncrierlaw03.FrameBytes', WHERE WHAT IT READS IS OF BULK AT MOST 1048576: true; the input reads as it did. -/
def frameBytesUptoRow : OpenClaim := { program := "ytifkeknfiknpkaa", sum := "240dde4091ca13b454fd1133fb7d5fa57e9407a931e495b7b114264de1c1b58f", func := "towncrier/towncrierlaw03.FrameBytes", spec := "frameBytes", unfollowed := true, recurses := true, apart := false, narrowed := true }
def FrameBytesUptoSaid : Prop := frameBytesUptoRow.holds Try.pinned (OpenSpec.upto frameBytesSpec)

end Rows
end Go.Proofs.Ytifkeknfiknpkaa
