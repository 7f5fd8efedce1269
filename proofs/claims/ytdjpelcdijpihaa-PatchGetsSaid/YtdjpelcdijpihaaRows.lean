/-
  No cell of these rows narrows 'for every input' (looked for: loops, veiled, ifaces, maps, wideKeys, modest, calm, conditions, laid).
  DERIVED. THE GIVEN ROWS OF THIS SEAT. 16 by the template 'for every input the law returns true; each argument reads behind the call as it read before'; 0 by the template 'total and deterministic' (their statements: YtdjpelcdijpihaaTotals.lean).
  GIVEN WITH THE SEED: the statements are not yours to turn. If you find one false, say at which input.
  Laid BY PROGRAM, IN A SANDBOX (cutbox-rows.mjs): the forced cells as the released guide's own fill.sh prints them over the translation 9d78c23bb8ded0b4… (all of the seat's roots in one cut). By AI agents, Wed Nov 11 2026. No macro, syntax, notation, axiom, sorry.
-/
import Derived.Test.YtdjpelcdijpihaaChecked
import GoSem.Claim
import GoSem.ClaimJoined
import GoSem.ClaimMapViews
import Derived.JoinedTies
import Derived.KernelRfl
namespace Go.Proofs.Ytdjpelcdijpihaa
/- THE CELL 'sum', in the pinned program and in every row, IS THE sha256 OF THE DUMP (.gsa) THAT YtdjpelcdijpihaaProg.lean LOADS. Nothing in Lean hashes anything: it is a label: what it is worth is what the hold of that sum in a sandbox is worth. -/
noncomputable def Try.pinned : Pinned := { name := "ytdjpelcdijpihaa", sum := "9d78c23bb8ded0b43932b6c3a1d1249f1c83155c2cf8f52ebeea108316231e1e", checked := Try.checked }
namespace Rows
def none {H : Type} : Left H := { results := [], args := [] }

/-- 'dioramalaw03.CrcSums': WHATEVER THE INPUT: true; the input reads as it did. -/
def crcSumsSpec : ChangeSpec := { name := "crcSums", fn := fun _ => fun
  | [d] => { results := [.lit (.bool true)], args := [d] }
  | _ => none }
def crcSumsRow : OpenClaim := { program := "ytdjpelcdijpihaa", sum := "9d78c23bb8ded0b43932b6c3a1d1249f1c83155c2cf8f52ebeea108316231e1e", func := "diorama/dioramalaw03.CrcSums", spec := "crcSums", apart := false }
def CrcSumsSaid : Prop := crcSumsRow.holds Try.pinned (OpenSpec.ofChange crcSumsSpec)

/-- ITS FALSE NEIGHBOUR: 'it returns false'. Refute it at one input. -/
def crcSumsWrong : ChangeSpec := { name := "crcSums", fn := fun _ => fun
  | [d] => { results := [.lit (.bool false)], args := [d] }
  | _ => none }
def CrcSumsWrongFalsely : Prop := crcSumsRow.holds Try.pinned (OpenSpec.ofChange crcSumsWrong)

/-- 'dioramalaw03.CrcParts': WHATEVER THE INPUT: true; the input reads as it did. -/
def crcPartsSpec : ChangeSpec := { name := "crcParts", fn := fun _ => fun
  | [d1, d2] => { results := [.lit (.bool true)], args := [d1, d2] }
  | _ => none }
def crcPartsRow : OpenClaim := { program := "ytdjpelcdijpihaa", sum := "9d78c23bb8ded0b43932b6c3a1d1249f1c83155c2cf8f52ebeea108316231e1e", func := "diorama/dioramalaw03.CrcParts", spec := "crcParts", apart := false }
def CrcPartsSaid : Prop := crcPartsRow.holds Try.pinned (OpenSpec.ofChange crcPartsSpec)

/-- ITS FALSE NEIGHBOUR: 'it returns false'. Refute it at one input. -/
def crcPartsWrong : ChangeSpec := { name := "crcParts", fn := fun _ => fun
  | [d1, d2] => { results := [.lit (.bool false)], args := [d1, d2] }
  | _ => none }
def CrcPartsWrongFalsely : Prop := crcPartsRow.holds Try.pinned (OpenSpec.ofChange crcPartsWrong)

/-- 'dioramalaw03.CrcPuts': WHATEVER THE INPUT: true; the input reads as it did. -/
def crcPutsSpec : ChangeSpec := { name := "crcPuts", fn := fun _ => fun
  | [d1, d2] => { results := [.lit (.bool true)], args := [d1, d2] }
  | _ => none }
def crcPutsRow : OpenClaim := { program := "ytdjpelcdijpihaa", sum := "9d78c23bb8ded0b43932b6c3a1d1249f1c83155c2cf8f52ebeea108316231e1e", func := "diorama/dioramalaw03.CrcPuts", spec := "crcPuts", apart := false }
def CrcPutsSaid : Prop := crcPutsRow.holds Try.pinned (OpenSpec.ofChange crcPutsSpec)

/-- ITS FALSE NEIGHBOUR: 'it returns false'. Refute it at one input. -/
def crcPutsWrong : ChangeSpec := { name := "crcPuts", fn := fun _ => fun
  | [d1, d2] => { results := [.lit (.bool false)], args := [d1, d2] }
  | _ => none }
def CrcPutsWrongFalsely : Prop := crcPutsRow.holds Try.pinned (OpenSpec.ofChange crcPutsWrong)

/-- 'dioramalaw03.CrcBurst': WHATEVER THE INPUT: true; the input reads as it did. -/
def crcBurstSpec : ChangeSpec := { name := "crcBurst", fn := fun _ => fun
  | [d1, d2, d3] => { results := [.lit (.bool true)], args := [d1, d2, d3] }
  | _ => none }
def crcBurstRow : OpenClaim := { program := "ytdjpelcdijpihaa", sum := "9d78c23bb8ded0b43932b6c3a1d1249f1c83155c2cf8f52ebeea108316231e1e", func := "diorama/dioramalaw03.CrcBurst", spec := "crcBurst", apart := false }
def CrcBurstSaid : Prop := crcBurstRow.holds Try.pinned (OpenSpec.ofChange crcBurstSpec)

/-- ITS FALSE NEIGHBOUR: 'it returns false'. Refute it at one input. -/
def crcBurstWrong : ChangeSpec := { name := "crcBurst", fn := fun _ => fun
  | [d1, d2, d3] => { results := [.lit (.bool false)], args := [d1, d2, d3] }
  | _ => none }
def CrcBurstWrongFalsely : Prop := crcBurstRow.holds Try.pinned (OpenSpec.ofChange crcBurstWrong)

/-- 'dioramalaw03.CrcAdds': WHATEVER THE INPUT: true; the input reads as it did. -/
def crcAddsSpec : ChangeSpec := { name := "crcAdds", fn := fun _ => fun
  | [d1, d2, d3] => { results := [.lit (.bool true)], args := [d1, d2, d3] }
  | _ => none }
def crcAddsRow : OpenClaim := { program := "ytdjpelcdijpihaa", sum := "9d78c23bb8ded0b43932b6c3a1d1249f1c83155c2cf8f52ebeea108316231e1e", func := "diorama/dioramalaw03.CrcAdds", spec := "crcAdds", apart := false }
def CrcAddsSaid : Prop := crcAddsRow.holds Try.pinned (OpenSpec.ofChange crcAddsSpec)

/-- ITS FALSE NEIGHBOUR: 'it returns false'. Refute it at one input. -/
def crcAddsWrong : ChangeSpec := { name := "crcAdds", fn := fun _ => fun
  | [d1, d2, d3] => { results := [.lit (.bool false)], args := [d1, d2, d3] }
  | _ => none }
def CrcAddsWrongFalsely : Prop := crcAddsRow.holds Try.pinned (OpenSpec.ofChange crcAddsWrong)

/-- 'dioramalaw04.FramePuts': WHATEVER THE INPUT: true; the input reads as it did. -/
def framePutsSpec : ChangeSpec := { name := "framePuts", fn := fun _ => fun
  | [d1, d2, d3] => { results := [.lit (.bool true)], args := [d1, d2, d3] }
  | _ => none }
def framePutsRow : OpenClaim := { program := "ytdjpelcdijpihaa", sum := "9d78c23bb8ded0b43932b6c3a1d1249f1c83155c2cf8f52ebeea108316231e1e", func := "diorama/dioramalaw04.FramePuts", spec := "framePuts", inPlace := ["internal/abi.NoEscape"], recurses := true, apart := false }
def FramePutsSaid : Prop := framePutsRow.holds Try.pinned (OpenSpec.ofChange framePutsSpec)

/-- ITS FALSE NEIGHBOUR: 'it returns false'. Refute it at one input. -/
def framePutsWrong : ChangeSpec := { name := "framePuts", fn := fun _ => fun
  | [d1, d2, d3] => { results := [.lit (.bool false)], args := [d1, d2, d3] }
  | _ => none }
def FramePutsWrongFalsely : Prop := framePutsRow.holds Try.pinned (OpenSpec.ofChange framePutsWrong)

/-- 'dioramalaw04.FrameGets': WHATEVER THE INPUT: true; the input reads as it did. -/
def frameGetsSpec : ChangeSpec := { name := "frameGets", fn := fun _ => fun
  | [d1, d2] => { results := [.lit (.bool true)], args := [d1, d2] }
  | _ => none }
def frameGetsRow : OpenClaim := { program := "ytdjpelcdijpihaa", sum := "9d78c23bb8ded0b43932b6c3a1d1249f1c83155c2cf8f52ebeea108316231e1e", func := "diorama/dioramalaw04.FrameGets", spec := "frameGets", inPlace := ["internal/abi.NoEscape"], apart := false }
def FrameGetsSaid : Prop := frameGetsRow.holds Try.pinned (OpenSpec.ofChange frameGetsSpec)

/-- ITS FALSE NEIGHBOUR: 'it returns false'. Refute it at one input. -/
def frameGetsWrong : ChangeSpec := { name := "frameGets", fn := fun _ => fun
  | [d1, d2] => { results := [.lit (.bool false)], args := [d1, d2] }
  | _ => none }
def FrameGetsWrongFalsely : Prop := frameGetsRow.holds Try.pinned (OpenSpec.ofChange frameGetsWrong)

/-- 'dioramalaw04.FrameBack': WHATEVER THE INPUT: true; the input reads as it did. -/
def frameBackSpec : ChangeSpec := { name := "frameBack", fn := fun _ => fun
  | [d1, d2] => { results := [.lit (.bool true)], args := [d1, d2] }
  | _ => none }
def frameBackRow : OpenClaim := { program := "ytdjpelcdijpihaa", sum := "9d78c23bb8ded0b43932b6c3a1d1249f1c83155c2cf8f52ebeea108316231e1e", func := "diorama/dioramalaw04.FrameBack", spec := "frameBack", inPlace := ["internal/abi.NoEscape"], apart := false }
def FrameBackSaid : Prop := frameBackRow.holds Try.pinned (OpenSpec.ofChange frameBackSpec)

/-- ITS FALSE NEIGHBOUR: 'it returns false'. Refute it at one input. -/
def frameBackWrong : ChangeSpec := { name := "frameBack", fn := fun _ => fun
  | [d1, d2] => { results := [.lit (.bool false)], args := [d1, d2] }
  | _ => none }
def FrameBackWrongFalsely : Prop := frameBackRow.holds Try.pinned (OpenSpec.ofChange frameBackWrong)

/-- 'dioramalaw04.FrameOne': WHATEVER THE INPUT: true; the input reads as it did. -/
def frameOneSpec : ChangeSpec := { name := "frameOne", fn := fun _ => fun
  | [d1, d2] => { results := [.lit (.bool true)], args := [d1, d2] }
  | _ => none }
def frameOneRow : OpenClaim := { program := "ytdjpelcdijpihaa", sum := "9d78c23bb8ded0b43932b6c3a1d1249f1c83155c2cf8f52ebeea108316231e1e", func := "diorama/dioramalaw04.FrameOne", spec := "frameOne", inPlace := ["internal/abi.NoEscape"], apart := false }
def FrameOneSaid : Prop := frameOneRow.holds Try.pinned (OpenSpec.ofChange frameOneSpec)

/-- ITS FALSE NEIGHBOUR: 'it returns false'. Refute it at one input. -/
def frameOneWrong : ChangeSpec := { name := "frameOne", fn := fun _ => fun
  | [d1, d2] => { results := [.lit (.bool false)], args := [d1, d2] }
  | _ => none }
def FrameOneWrongFalsely : Prop := frameOneRow.holds Try.pinned (OpenSpec.ofChange frameOneWrong)

/-- 'dioramalaw04.FrameBurst': WHATEVER THE INPUT: true; the input reads as it did. -/
def frameBurstSpec : ChangeSpec := { name := "frameBurst", fn := fun _ => fun
  | [d1, d2, d3] => { results := [.lit (.bool true)], args := [d1, d2, d3] }
  | _ => none }
def frameBurstRow : OpenClaim := { program := "ytdjpelcdijpihaa", sum := "9d78c23bb8ded0b43932b6c3a1d1249f1c83155c2cf8f52ebeea108316231e1e", func := "diorama/dioramalaw04.FrameBurst", spec := "frameBurst", inPlace := ["internal/abi.NoEscape"], recurses := true, apart := false }
def FrameBurstSaid : Prop := frameBurstRow.holds Try.pinned (OpenSpec.ofChange frameBurstSpec)

/-- ITS FALSE NEIGHBOUR: 'it returns false'. Refute it at one input. -/
def frameBurstWrong : ChangeSpec := { name := "frameBurst", fn := fun _ => fun
  | [d1, d2, d3] => { results := [.lit (.bool false)], args := [d1, d2, d3] }
  | _ => none }
def FrameBurstWrongFalsely : Prop := frameBurstRow.holds Try.pinned (OpenSpec.ofChange frameBurstWrong)

/-- 'dioramalaw04.FrameCut': WHATEVER THE INPUT: true; the input reads as it did. -/
def frameCutSpec : ChangeSpec := { name := "frameCut", fn := fun _ => fun
  | [d1, d2] => { results := [.lit (.bool true)], args := [d1, d2] }
  | _ => none }
def frameCutRow : OpenClaim := { program := "ytdjpelcdijpihaa", sum := "9d78c23bb8ded0b43932b6c3a1d1249f1c83155c2cf8f52ebeea108316231e1e", func := "diorama/dioramalaw04.FrameCut", spec := "frameCut", inPlace := ["internal/abi.NoEscape"], apart := false }
def FrameCutSaid : Prop := frameCutRow.holds Try.pinned (OpenSpec.ofChange frameCutSpec)

/-- ITS FALSE NEIGHBOUR: 'it returns false'. Refute it at one input. -/
def frameCutWrong : ChangeSpec := { name := "frameCut", fn := fun _ => fun
  | [d1, d2] => { results := [.lit (.bool false)], args := [d1, d2] }
  | _ => none }
def FrameCutWrongFalsely : Prop := frameCutRow.holds Try.pinned (OpenSpec.ofChange frameCutWrong)

/-- 'dioramalaw24.PatchPuts': WHATEVER THE INPUT: true; the input reads as it did. -/
def patchPutsSpec : ChangeSpec := { name := "patchPuts", fn := fun _ => fun
  | [d] => { results := [.lit (.bool true)], args := [d] }
  | _ => none }
def patchPutsRow : OpenClaim := { program := "ytdjpelcdijpihaa", sum := "9d78c23bb8ded0b43932b6c3a1d1249f1c83155c2cf8f52ebeea108316231e1e", func := "diorama/dioramalaw24.PatchPuts", spec := "patchPuts", inPlace := ["internal/abi.NoEscape"], unfollowed := true, recurses := true, apart := false }
def PatchPutsSaid : Prop := patchPutsRow.holds Try.pinned (OpenSpec.ofChange patchPutsSpec)

/-- ITS FALSE NEIGHBOUR: 'it returns false'. Refute it at one input. -/
def patchPutsWrong : ChangeSpec := { name := "patchPuts", fn := fun _ => fun
  | [d] => { results := [.lit (.bool false)], args := [d] }
  | _ => none }
def PatchPutsWrongFalsely : Prop := patchPutsRow.holds Try.pinned (OpenSpec.ofChange patchPutsWrong)

/-- 'dioramalaw24.PatchGets': WHATEVER THE INPUT: true; the input reads as it did. -/
def patchGetsSpec : ChangeSpec := { name := "patchGets", fn := fun _ => fun
  | [d] => { results := [.lit (.bool true)], args := [d] }
  | _ => none }
def patchGetsRow : OpenClaim := { program := "ytdjpelcdijpihaa", sum := "9d78c23bb8ded0b43932b6c3a1d1249f1c83155c2cf8f52ebeea108316231e1e", func := "diorama/dioramalaw24.PatchGets", spec := "patchGets", inPlace := ["internal/abi.NoEscape"], unfollowed := true, recurses := true, apart := false }
def PatchGetsSaid : Prop := patchGetsRow.holds Try.pinned (OpenSpec.ofChange patchGetsSpec)

/-- ITS FALSE NEIGHBOUR: 'it returns false'. Refute it at one input. -/
def patchGetsWrong : ChangeSpec := { name := "patchGets", fn := fun _ => fun
  | [d] => { results := [.lit (.bool false)], args := [d] }
  | _ => none }
def PatchGetsWrongFalsely : Prop := patchGetsRow.holds Try.pinned (OpenSpec.ofChange patchGetsWrong)

/-- 'dioramalaw24.PatchBack': WHATEVER THE INPUT: true; the input reads as it did. -/
def patchBackSpec : ChangeSpec := { name := "patchBack", fn := fun _ => fun
  | [d] => { results := [.lit (.bool true)], args := [d] }
  | _ => none }
def patchBackRow : OpenClaim := { program := "ytdjpelcdijpihaa", sum := "9d78c23bb8ded0b43932b6c3a1d1249f1c83155c2cf8f52ebeea108316231e1e", func := "diorama/dioramalaw24.PatchBack", spec := "patchBack", inPlace := ["internal/abi.NoEscape"], unfollowed := true, recurses := true, apart := false }
def PatchBackSaid : Prop := patchBackRow.holds Try.pinned (OpenSpec.ofChange patchBackSpec)

/-- ITS FALSE NEIGHBOUR: 'it returns false'. Refute it at one input. -/
def patchBackWrong : ChangeSpec := { name := "patchBack", fn := fun _ => fun
  | [d] => { results := [.lit (.bool false)], args := [d] }
  | _ => none }
def PatchBackWrongFalsely : Prop := patchBackRow.holds Try.pinned (OpenSpec.ofChange patchBackWrong)

/-- 'dioramalaw24.PatchOne': WHATEVER THE INPUT: true; the input reads as it did. -/
def patchOneSpec : ChangeSpec := { name := "patchOne", fn := fun _ => fun
  | [d] => { results := [.lit (.bool true)], args := [d] }
  | _ => none }
def patchOneRow : OpenClaim := { program := "ytdjpelcdijpihaa", sum := "9d78c23bb8ded0b43932b6c3a1d1249f1c83155c2cf8f52ebeea108316231e1e", func := "diorama/dioramalaw24.PatchOne", spec := "patchOne", inPlace := ["internal/abi.NoEscape"], unfollowed := true, recurses := true, apart := false }
def PatchOneSaid : Prop := patchOneRow.holds Try.pinned (OpenSpec.ofChange patchOneSpec)

/-- ITS FALSE NEIGHBOUR: 'it returns false'. Refute it at one input. -/
def patchOneWrong : ChangeSpec := { name := "patchOne", fn := fun _ => fun
  | [d] => { results := [.lit (.bool false)], args := [d] }
  | _ => none }
def PatchOneWrongFalsely : Prop := patchOneRow.holds Try.pinned (OpenSpec.ofChange patchOneWrong)

/-- 'dioramalaw24.PatchSizes': WHATEVER THE INPUT: true; the input reads as it did. -/
def patchSizesSpec : ChangeSpec := { name := "patchSizes", fn := fun _ => fun
  | [d1, d2, d3] => { results := [.lit (.bool true)], args := [d1, d2, d3] }
  | _ => none }
def patchSizesRow : OpenClaim := { program := "ytdjpelcdijpihaa", sum := "9d78c23bb8ded0b43932b6c3a1d1249f1c83155c2cf8f52ebeea108316231e1e", func := "diorama/dioramalaw24.PatchSizes", spec := "patchSizes", inPlace := ["internal/abi.NoEscape"], unfollowed := true, recurses := true, apart := false }
def PatchSizesSaid : Prop := patchSizesRow.holds Try.pinned (OpenSpec.ofChange patchSizesSpec)

/-- ITS FALSE NEIGHBOUR: 'it returns false'. Refute it at one input. -/
def patchSizesWrong : ChangeSpec := { name := "patchSizes", fn := fun _ => fun
  | [d1, d2, d3] => { results := [.lit (.bool false)], args := [d1, d2, d3] }
  | _ => none }
def PatchSizesWrongFalsely : Prop := patchSizesRow.holds Try.pinned (OpenSpec.ofChange patchSizesWrong)

/- THE SECOND FORM. 'bulk': how many values and letters a reading holds, each counted each time it is reached (what is shared counts as often as it is met; a slice's spare places count too). A statement '..UptoSaid' is the law's where the arguments, and the package variables that the reading takes, are together of bulk at most 1048576: NARROWER than '..Said'. Prove '..Said' where nothing that the law and all that it calls make is longer than what came in: it says more and counts as full. Else prove '..UptoSaid'. A law counts once. -/
mutual
def uptoBulk {H : Type} : DataW H → Nat
  | .lit (.string bytes) => bytes.length + 1
  | .lit _ => 1
  | .nil => 1
  | .ptr d => uptoBulk d + 1
  | .slice elems spare => uptoBulkAll elems + uptoBulkAll spare + 1
  | .agg parts => uptoBulkAll parts + 1
  | .iface _ d => uptoBulk d + 1
  | .map entries => uptoBulkEntries entries + 1
  | .held _ => 1
def uptoBulkAll {H : Type} : List (DataW H) → Nat
  | [] => 0
  | d :: r => uptoBulk d + uptoBulkAll r
def uptoBulkEntries {H : Type} : List (Lit × DataW H) → Nat
  | [] => 0
  | x :: r => uptoBulkEntry x + uptoBulkEntries r
def uptoBulkEntry {H : Type} : Lit × DataW H → Nat
  | (.string bytes, d) => bytes.length + uptoBulk d + 1
  | (_, d) => uptoBulk d + 1
 end
def uptoSmall : (H : Type) → List (DataW H) → Bool := fun _ ds => decide (uptoBulkAll ds ≤ 1048576)
def OpenSpec.upto (s : _root_.Go.ChangeSpec) : _root_.Go.OpenSpec := { _root_.Go.OpenSpec.ofChange s with cond := some uptoSmall }

/-- 'dioramalaw03.CrcSums', WHERE WHAT IT READS IS OF BULK AT MOST 1048576: true; the input reads as it did. -/
def crcSumsUptoRow : OpenClaim := { program := "ytdjpelcdijpihaa", sum := "9d78c23bb8ded0b43932b6c3a1d1249f1c83155c2cf8f52ebeea108316231e1e", func := "diorama/dioramalaw03.CrcSums", spec := "crcSums", apart := false, narrowed := true }
def CrcSumsUptoSaid : Prop := crcSumsUptoRow.holds Try.pinned (OpenSpec.upto crcSumsSpec)

/-- 'dioramalaw03.CrcParts', WHERE WHAT IT READS IS OF BULK AT MOST 1048576: true; the input reads as it did. -/
def crcPartsUptoRow : OpenClaim := { program := "ytdjpelcdijpihaa", sum := "9d78c23bb8ded0b43932b6c3a1d1249f1c83155c2cf8f52ebeea108316231e1e", func := "diorama/dioramalaw03.CrcParts", spec := "crcParts", apart := false, narrowed := true }
def CrcPartsUptoSaid : Prop := crcPartsUptoRow.holds Try.pinned (OpenSpec.upto crcPartsSpec)

/-- 'dioramalaw03.CrcPuts', WHERE WHAT IT READS IS OF BULK AT MOST 1048576: true; the input reads as it did. -/
def crcPutsUptoRow : OpenClaim := { program := "ytdjpelcdijpihaa", sum := "9d78c23bb8ded0b43932b6c3a1d1249f1c83155c2cf8f52ebeea108316231e1e", func := "diorama/dioramalaw03.CrcPuts", spec := "crcPuts", apart := false, narrowed := true }
def CrcPutsUptoSaid : Prop := crcPutsUptoRow.holds Try.pinned (OpenSpec.upto crcPutsSpec)

/-- 'dioramalaw03.CrcBurst', WHERE WHAT IT READS IS OF BULK AT MOST 1048576: true; the input reads as it did. -/
def crcBurstUptoRow : OpenClaim := { program := "ytdjpelcdijpihaa", sum := "9d78c23bb8ded0b43932b6c3a1d1249f1c83155c2cf8f52ebeea108316231e1e", func := "diorama/dioramalaw03.CrcBurst", spec := "crcBurst", apart := false, narrowed := true }
def CrcBurstUptoSaid : Prop := crcBurstUptoRow.holds Try.pinned (OpenSpec.upto crcBurstSpec)

/-- 'dioramalaw03.CrcAdds', WHERE WHAT IT READS IS OF BULK AT MOST 1048576: true; the input reads as it did. -/
def crcAddsUptoRow : OpenClaim := { program := "ytdjpelcdijpihaa", sum := "9d78c23bb8ded0b43932b6c3a1d1249f1c83155c2cf8f52ebeea108316231e1e", func := "diorama/dioramalaw03.CrcAdds", spec := "crcAdds", apart := false, narrowed := true }
def CrcAddsUptoSaid : Prop := crcAddsUptoRow.holds Try.pinned (OpenSpec.upto crcAddsSpec)

/-- 'dioramalaw04.FramePuts', WHERE WHAT IT READS IS OF BULK AT MOST 1048576: true; the input reads as it did. -/
def framePutsUptoRow : OpenClaim := { program := "ytdjpelcdijpihaa", sum := "9d78c23bb8ded0b43932b6c3a1d1249f1c83155c2cf8f52ebeea108316231e1e", func := "diorama/dioramalaw04.FramePuts", spec := "framePuts", inPlace := ["internal/abi.NoEscape"], recurses := true, apart := false, narrowed := true }
def FramePutsUptoSaid : Prop := framePutsUptoRow.holds Try.pinned (OpenSpec.upto framePutsSpec)

/-- 'dioramalaw04.FrameGets', WHERE WHAT IT READS IS OF BULK AT MOST 1048576: true; the input reads as it did. -/
def frameGetsUptoRow : OpenClaim := { program := "ytdjpelcdijpihaa", sum := "9d78c23bb8ded0b43932b6c3a1d1249f1c83155c2cf8f52ebeea108316231e1e", func := "diorama/dioramalaw04.FrameGets", spec := "frameGets", inPlace := ["internal/abi.NoEscape"], apart := false, narrowed := true }
def FrameGetsUptoSaid : Prop := frameGetsUptoRow.holds Try.pinned (OpenSpec.upto frameGetsSpec)

/-- 'dioramalaw04.FrameBack', WHERE WHAT IT READS IS OF BULK AT MOST 1048576: true; the input reads as it did. -/
def frameBackUptoRow : OpenClaim := { program := "ytdjpelcdijpihaa", sum := "9d78c23bb8ded0b43932b6c3a1d1249f1c83155c2cf8f52ebeea108316231e1e", func := "diorama/dioramalaw04.FrameBack", spec := "frameBack", inPlace := ["internal/abi.NoEscape"], apart := false, narrowed := true }
def FrameBackUptoSaid : Prop := frameBackUptoRow.holds Try.pinned (OpenSpec.upto frameBackSpec)

/-- 'dioramalaw04.FrameOne', WHERE WHAT IT READS IS OF BULK AT MOST 1048576: true; the input reads as it did. -/
def frameOneUptoRow : OpenClaim := { program := "ytdjpelcdijpihaa", sum := "9d78c23bb8ded0b43932b6c3a1d1249f1c83155c2cf8f52ebeea108316231e1e", func := "diorama/dioramalaw04.FrameOne", spec := "frameOne", inPlace := ["internal/abi.NoEscape"], apart := false, narrowed := true }
def FrameOneUptoSaid : Prop := frameOneUptoRow.holds Try.pinned (OpenSpec.upto frameOneSpec)

/-- 'dioramalaw04.FrameBurst', WHERE WHAT IT READS IS OF BULK AT MOST 1048576: true; the input reads as it did. -/
def frameBurstUptoRow : OpenClaim := { program := "ytdjpelcdijpihaa", sum := "9d78c23bb8ded0b43932b6c3a1d1249f1c83155c2cf8f52ebeea108316231e1e", func := "diorama/dioramalaw04.FrameBurst", spec := "frameBurst", inPlace := ["internal/abi.NoEscape"], recurses := true, apart := false, narrowed := true }
def FrameBurstUptoSaid : Prop := frameBurstUptoRow.holds Try.pinned (OpenSpec.upto frameBurstSpec)

/-- 'dioramalaw04.FrameCut', WHERE WHAT IT READS IS OF BULK AT MOST 1048576: true; the input reads as it did. -/
def frameCutUptoRow : OpenClaim := { program := "ytdjpelcdijpihaa", sum := "9d78c23bb8ded0b43932b6c3a1d1249f1c83155c2cf8f52ebeea108316231e1e", func := "diorama/dioramalaw04.FrameCut", spec := "frameCut", inPlace := ["internal/abi.NoEscape"], apart := false, narrowed := true }
def FrameCutUptoSaid : Prop := frameCutUptoRow.holds Try.pinned (OpenSpec.upto frameCutSpec)

/-- 'dioramalaw24.PatchPuts', WHERE WHAT IT READS IS OF BULK AT MOST 1048576: true; the input reads as it did. -/
def patchPutsUptoRow : OpenClaim := { program := "ytdjpelcdijpihaa", sum := "9d78c23bb8ded0b43932b6c3a1d1249f1c83155c2cf8f52ebeea108316231e1e", func := "diorama/dioramalaw24.PatchPuts", spec := "patchPuts", inPlace := ["internal/abi.NoEscape"], unfollowed := true, recurses := true, apart := false, narrowed := true }
def PatchPutsUptoSaid : Prop := patchPutsUptoRow.holds Try.pinned (OpenSpec.upto patchPutsSpec)

/-- 'dioramalaw24.PatchGets', WHERE WHAT IT READS IS OF BULK AT MOST 1048576: true; the input reads as it did. -/
def patchGetsUptoRow : OpenClaim := { program := "ytdjpelcdijpihaa", sum := "9d78c23bb8ded0b43932b6c3a1d1249f1c83155c2cf8f52ebeea108316231e1e", func := "diorama/dioramalaw24.PatchGets", spec := "patchGets", inPlace := ["internal/abi.NoEscape"], unfollowed := true, recurses := true, apart := false, narrowed := true }
def PatchGetsUptoSaid : Prop := patchGetsUptoRow.holds Try.pinned (OpenSpec.upto patchGetsSpec)

/-- 'dioramalaw24.PatchBack', WHERE WHAT IT READS IS OF BULK AT MOST 1048576: true; the input reads as it did. -/
def patchBackUptoRow : OpenClaim := { program := "ytdjpelcdijpihaa", sum := "9d78c23bb8ded0b43932b6c3a1d1249f1c83155c2cf8f52ebeea108316231e1e", func := "diorama/dioramalaw24.PatchBack", spec := "patchBack", inPlace := ["internal/abi.NoEscape"], unfollowed := true, recurses := true, apart := false, narrowed := true }
def PatchBackUptoSaid : Prop := patchBackUptoRow.holds Try.pinned (OpenSpec.upto patchBackSpec)

/-- 'dioramalaw24.PatchOne', WHERE WHAT IT READS IS OF BULK AT MOST 1048576: true; the input reads as it did. -/
def patchOneUptoRow : OpenClaim := { program := "ytdjpelcdijpihaa", sum := "9d78c23bb8ded0b43932b6c3a1d1249f1c83155c2cf8f52ebeea108316231e1e", func := "diorama/dioramalaw24.PatchOne", spec := "patchOne", inPlace := ["internal/abi.NoEscape"], unfollowed := true, recurses := true, apart := false, narrowed := true }
def PatchOneUptoSaid : Prop := patchOneUptoRow.holds Try.pinned (OpenSpec.upto patchOneSpec)

/-- 'dioramalaw24.PatchSizes', WHERE WHAT IT READS IS OF BULK AT MOST 1048576: true; the input reads as it did. -/
def patchSizesUptoRow : OpenClaim := { program := "ytdjpelcdijpihaa", sum := "9d78c23bb8ded0b43932b6c3a1d1249f1c83155c2cf8f52ebeea108316231e1e", func := "diorama/dioramalaw24.PatchSizes", spec := "patchSizes", inPlace := ["internal/abi.NoEscape"], unfollowed := true, recurses := true, apart := false, narrowed := true }
def PatchSizesUptoSaid : Prop := patchSizesUptoRow.holds Try.pinned (OpenSpec.upto patchSizesSpec)

end Rows
end Go.Proofs.Ytdjpelcdijpihaa
