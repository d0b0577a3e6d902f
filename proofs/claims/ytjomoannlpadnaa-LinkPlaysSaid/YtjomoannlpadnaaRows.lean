/-
  No cell of these rows narrows 'for every input' (looked for: loops, veiled, ifaces, maps, wideKeys, modest, calm, conditions, laid).
  DERIVED. THE GIVEN ROWS OF THIS SEAT. 20 by the template 'for every input the law returns true; each argument reads behind the call as it read before'; 0 by the template 'total and deterministic' (their statements: YtjomoannlpadnaaTotals.lean).
  GIVEN WITH THE SEED: the statements are not yours to turn. If you find one false, say at which input.
  Laid BY PROGRAM, IN A SANDBOX (cutbox-rows.mjs): the forced cells as the released guide's own fill.sh prints them over the translation 1894f83f46388341… (all of the seat's roots in one cut). By AI agents, Wed Nov 11 2026. No macro, syntax, notation, axiom, sorry.
-/
import Derived.Test.YtjomoannlpadnaaChecked
import GoSem.Claim
import GoSem.ClaimJoined
import GoSem.ClaimMapViews
import Derived.JoinedTies
import Derived.KernelRfl
namespace Go.Proofs.Ytjomoannlpadnaa
/- THE CELL 'sum', in the pinned program and in every row, IS THE sha256 OF THE DUMP (.gsa) THAT YtjomoannlpadnaaProg.lean LOADS. Nothing in Lean hashes anything: it is a label: what it is worth is what the hold of that sum in a sandbox is worth. -/
noncomputable def Try.pinned : Pinned := { name := "ytjomoannlpadnaa", sum := "1894f83f46388341fe30da3bc7d8dee34e9555f3ae4579f12c0facfcbfa640b7", checked := Try.checked }
namespace Rows
def none {H : Type} : Left H := { results := [], args := [] }

/-- 'groynelaw07.PickFair': WHATEVER THE INPUT: true; the input reads as it did. -/
def pickFairSpec : ChangeSpec := { name := "pickFair", fn := fun _ => fun
  | [d1, d2, d3] => { results := [.lit (.bool true)], args := [d1, d2, d3] }
  | _ => none }
def pickFairRow : OpenClaim := { program := "ytjomoannlpadnaa", sum := "1894f83f46388341fe30da3bc7d8dee34e9555f3ae4579f12c0facfcbfa640b7", func := "groyne/groynelaw07.PickFair", spec := "pickFair", apart := false }
def PickFairSaid : Prop := pickFairRow.holds Try.pinned (OpenSpec.ofChange pickFairSpec)

/-- ITS FALSE NEIGHBOUR: 'it returns false'. Refute it at one input. -/
def pickFairWrong : ChangeSpec := { name := "pickFair", fn := fun _ => fun
  | [d1, d2, d3] => { results := [.lit (.bool false)], args := [d1, d2, d3] }
  | _ => none }
def PickFairWrongFalsely : Prop := pickFairRow.holds Try.pinned (OpenSpec.ofChange pickFairWrong)

/-- 'groynelaw07.PickHost': WHATEVER THE INPUT: true; the input reads as it did. -/
def pickHostSpec : ChangeSpec := { name := "pickHost", fn := fun _ => fun
  | [d1, d2] => { results := [.lit (.bool true)], args := [d1, d2] }
  | _ => none }
def pickHostRow : OpenClaim := { program := "ytjomoannlpadnaa", sum := "1894f83f46388341fe30da3bc7d8dee34e9555f3ae4579f12c0facfcbfa640b7", func := "groyne/groynelaw07.PickHost", spec := "pickHost", apart := false }
def PickHostSaid : Prop := pickHostRow.holds Try.pinned (OpenSpec.ofChange pickHostSpec)

/-- ITS FALSE NEIGHBOUR: 'it returns false'. Refute it at one input. -/
def pickHostWrong : ChangeSpec := { name := "pickHost", fn := fun _ => fun
  | [d1, d2] => { results := [.lit (.bool false)], args := [d1, d2] }
  | _ => none }
def PickHostWrongFalsely : Prop := pickHostRow.holds Try.pinned (OpenSpec.ofChange pickHostWrong)

/-- 'groynelaw07.PickScale': WHATEVER THE INPUT: true; the input reads as it did. -/
def pickScaleSpec : ChangeSpec := { name := "pickScale", fn := fun _ => fun
  | [d1, d2] => { results := [.lit (.bool true)], args := [d1, d2] }
  | _ => none }
def pickScaleRow : OpenClaim := { program := "ytjomoannlpadnaa", sum := "1894f83f46388341fe30da3bc7d8dee34e9555f3ae4579f12c0facfcbfa640b7", func := "groyne/groynelaw07.PickScale", spec := "pickScale", apart := false }
def PickScaleSaid : Prop := pickScaleRow.holds Try.pinned (OpenSpec.ofChange pickScaleSpec)

/-- ITS FALSE NEIGHBOUR: 'it returns false'. Refute it at one input. -/
def pickScaleWrong : ChangeSpec := { name := "pickScale", fn := fun _ => fun
  | [d1, d2] => { results := [.lit (.bool false)], args := [d1, d2] }
  | _ => none }
def PickScaleWrongFalsely : Prop := pickScaleRow.holds Try.pinned (OpenSpec.ofChange pickScaleWrong)

/-- 'groynelaw12.LinkOrder': WHATEVER THE INPUT: true; the input reads as it did. -/
def linkOrderSpec : ChangeSpec := { name := "linkOrder", fn := fun _ => fun
  | [d1, d2] => { results := [.lit (.bool true)], args := [d1, d2] }
  | _ => none }
def linkOrderRow : OpenClaim := { program := "ytjomoannlpadnaa", sum := "1894f83f46388341fe30da3bc7d8dee34e9555f3ae4579f12c0facfcbfa640b7", func := "groyne/groynelaw12.LinkOrder", spec := "linkOrder", apart := false }
def LinkOrderSaid : Prop := linkOrderRow.holds Try.pinned (OpenSpec.ofChange linkOrderSpec)

/-- ITS FALSE NEIGHBOUR: 'it returns false'. Refute it at one input. -/
def linkOrderWrong : ChangeSpec := { name := "linkOrder", fn := fun _ => fun
  | [d1, d2] => { results := [.lit (.bool false)], args := [d1, d2] }
  | _ => none }
def LinkOrderWrongFalsely : Prop := linkOrderRow.holds Try.pinned (OpenSpec.ofChange linkOrderWrong)

/-- 'groynelaw12.LinkAlike': WHATEVER THE INPUT: true; the input reads as it did. -/
def linkAlikeSpec : ChangeSpec := { name := "linkAlike", fn := fun _ => fun
  | [d1, d2] => { results := [.lit (.bool true)], args := [d1, d2] }
  | _ => none }
def linkAlikeRow : OpenClaim := { program := "ytjomoannlpadnaa", sum := "1894f83f46388341fe30da3bc7d8dee34e9555f3ae4579f12c0facfcbfa640b7", func := "groyne/groynelaw12.LinkAlike", spec := "linkAlike", apart := false }
def LinkAlikeSaid : Prop := linkAlikeRow.holds Try.pinned (OpenSpec.ofChange linkAlikeSpec)

/-- ITS FALSE NEIGHBOUR: 'it returns false'. Refute it at one input. -/
def linkAlikeWrong : ChangeSpec := { name := "linkAlike", fn := fun _ => fun
  | [d1, d2] => { results := [.lit (.bool false)], args := [d1, d2] }
  | _ => none }
def LinkAlikeWrongFalsely : Prop := linkAlikeRow.holds Try.pinned (OpenSpec.ofChange linkAlikeWrong)

/-- 'groynelaw02.CodeIs': WHATEVER THE INPUT: true; the input reads as it did. -/
def codeIsSpec : ChangeSpec := { name := "codeIs", fn := fun _ => fun
  | [d1, d2, d3] => { results := [.lit (.bool true)], args := [d1, d2, d3] }
  | _ => none }
def codeIsRow : OpenClaim := { program := "ytjomoannlpadnaa", sum := "1894f83f46388341fe30da3bc7d8dee34e9555f3ae4579f12c0facfcbfa640b7", func := "groyne/groynelaw02.CodeIs", spec := "codeIs", unfollowed := true, recurses := true, apart := false }
def CodeIsSaid : Prop := codeIsRow.holds Try.pinned (OpenSpec.ofChange codeIsSpec)

/-- ITS FALSE NEIGHBOUR: 'it returns false'. Refute it at one input. -/
def codeIsWrong : ChangeSpec := { name := "codeIs", fn := fun _ => fun
  | [d1, d2, d3] => { results := [.lit (.bool false)], args := [d1, d2, d3] }
  | _ => none }
def CodeIsWrongFalsely : Prop := codeIsRow.holds Try.pinned (OpenSpec.ofChange codeIsWrong)

/-- 'groynelaw02.CodeNone': WHATEVER THE INPUT: true; the input reads as it did. -/
def codeNoneSpec : ChangeSpec := { name := "codeNone", fn := fun _ => fun
  | [d] => { results := [.lit (.bool true)], args := [d] }
  | _ => none }
def codeNoneRow : OpenClaim := { program := "ytjomoannlpadnaa", sum := "1894f83f46388341fe30da3bc7d8dee34e9555f3ae4579f12c0facfcbfa640b7", func := "groyne/groynelaw02.CodeNone", spec := "codeNone", unfollowed := true, recurses := true, apart := false }
def CodeNoneSaid : Prop := codeNoneRow.holds Try.pinned (OpenSpec.ofChange codeNoneSpec)

/-- ITS FALSE NEIGHBOUR: 'it returns false'. Refute it at one input. -/
def codeNoneWrong : ChangeSpec := { name := "codeNone", fn := fun _ => fun
  | [d] => { results := [.lit (.bool false)], args := [d] }
  | _ => none }
def CodeNoneWrongFalsely : Prop := codeNoneRow.holds Try.pinned (OpenSpec.ofChange codeNoneWrong)

/-- 'groynelaw02.CodeBack': WHATEVER THE INPUT: true; the input reads as it did. -/
def codeBackSpec : ChangeSpec := { name := "codeBack", fn := fun _ => fun
  | [d1, d2, d3] => { results := [.lit (.bool true)], args := [d1, d2, d3] }
  | _ => none }
def codeBackRow : OpenClaim := { program := "ytjomoannlpadnaa", sum := "1894f83f46388341fe30da3bc7d8dee34e9555f3ae4579f12c0facfcbfa640b7", func := "groyne/groynelaw02.CodeBack", spec := "codeBack", unfollowed := true, recurses := true, apart := false }
def CodeBackSaid : Prop := codeBackRow.holds Try.pinned (OpenSpec.ofChange codeBackSpec)

/-- ITS FALSE NEIGHBOUR: 'it returns false'. Refute it at one input. -/
def codeBackWrong : ChangeSpec := { name := "codeBack", fn := fun _ => fun
  | [d1, d2, d3] => { results := [.lit (.bool false)], args := [d1, d2, d3] }
  | _ => none }
def CodeBackWrongFalsely : Prop := codeBackRow.holds Try.pinned (OpenSpec.ofChange codeBackWrong)

/-- 'groynelaw02.CodeOnce': WHATEVER THE INPUT: true; the input reads as it did. -/
def codeOnceSpec : ChangeSpec := { name := "codeOnce", fn := fun _ => fun
  | [d] => { results := [.lit (.bool true)], args := [d] }
  | _ => none }
def codeOnceRow : OpenClaim := { program := "ytjomoannlpadnaa", sum := "1894f83f46388341fe30da3bc7d8dee34e9555f3ae4579f12c0facfcbfa640b7", func := "groyne/groynelaw02.CodeOnce", spec := "codeOnce", unfollowed := true, recurses := true, apart := false }
def CodeOnceSaid : Prop := codeOnceRow.holds Try.pinned (OpenSpec.ofChange codeOnceSpec)

/-- ITS FALSE NEIGHBOUR: 'it returns false'. Refute it at one input. -/
def codeOnceWrong : ChangeSpec := { name := "codeOnce", fn := fun _ => fun
  | [d] => { results := [.lit (.bool false)], args := [d] }
  | _ => none }
def CodeOnceWrongFalsely : Prop := codeOnceRow.holds Try.pinned (OpenSpec.ofChange codeOnceWrong)

/-- 'groynelaw02.CodeSizes': WHATEVER THE INPUT: true; the input reads as it did. -/
def codeSizesSpec : ChangeSpec := { name := "codeSizes", fn := fun _ => fun
  | [d1, d2, d3] => { results := [.lit (.bool true)], args := [d1, d2, d3] }
  | _ => none }
def codeSizesRow : OpenClaim := { program := "ytjomoannlpadnaa", sum := "1894f83f46388341fe30da3bc7d8dee34e9555f3ae4579f12c0facfcbfa640b7", func := "groyne/groynelaw02.CodeSizes", spec := "codeSizes", unfollowed := true, recurses := true, apart := false }
def CodeSizesSaid : Prop := codeSizesRow.holds Try.pinned (OpenSpec.ofChange codeSizesSpec)

/-- ITS FALSE NEIGHBOUR: 'it returns false'. Refute it at one input. -/
def codeSizesWrong : ChangeSpec := { name := "codeSizes", fn := fun _ => fun
  | [d1, d2, d3] => { results := [.lit (.bool false)], args := [d1, d2, d3] }
  | _ => none }
def CodeSizesWrongFalsely : Prop := codeSizesRow.holds Try.pinned (OpenSpec.ofChange codeSizesWrong)

/-- 'groynelaw02.CodeSticks': WHATEVER THE INPUT: true; the input reads as it did. -/
def codeSticksSpec : ChangeSpec := { name := "codeSticks", fn := fun _ => fun
  | [d1, d2, d3] => { results := [.lit (.bool true)], args := [d1, d2, d3] }
  | _ => none }
def codeSticksRow : OpenClaim := { program := "ytjomoannlpadnaa", sum := "1894f83f46388341fe30da3bc7d8dee34e9555f3ae4579f12c0facfcbfa640b7", func := "groyne/groynelaw02.CodeSticks", spec := "codeSticks", unfollowed := true, recurses := true, apart := false }
def CodeSticksSaid : Prop := codeSticksRow.holds Try.pinned (OpenSpec.ofChange codeSticksSpec)

/-- ITS FALSE NEIGHBOUR: 'it returns false'. Refute it at one input. -/
def codeSticksWrong : ChangeSpec := { name := "codeSticks", fn := fun _ => fun
  | [d1, d2, d3] => { results := [.lit (.bool false)], args := [d1, d2, d3] }
  | _ => none }
def CodeSticksWrongFalsely : Prop := codeSticksRow.holds Try.pinned (OpenSpec.ofChange codeSticksWrong)

/-- 'groynelaw12.LinkPlays': WHATEVER THE INPUT: true; the input reads as it did. -/
def linkPlaysSpec : ChangeSpec := { name := "linkPlays", fn := fun _ => fun
  | [d1, d2] => { results := [.lit (.bool true)], args := [d1, d2] }
  | _ => none }
def linkPlaysRow : OpenClaim := { program := "ytjomoannlpadnaa", sum := "1894f83f46388341fe30da3bc7d8dee34e9555f3ae4579f12c0facfcbfa640b7", func := "groyne/groynelaw12.LinkPlays", spec := "linkPlays", apart := false }
def LinkPlaysSaid : Prop := linkPlaysRow.holds Try.pinned (OpenSpec.ofChange linkPlaysSpec)

/-- ITS FALSE NEIGHBOUR: 'it returns false'. Refute it at one input. -/
def linkPlaysWrong : ChangeSpec := { name := "linkPlays", fn := fun _ => fun
  | [d1, d2] => { results := [.lit (.bool false)], args := [d1, d2] }
  | _ => none }
def LinkPlaysWrongFalsely : Prop := linkPlaysRow.holds Try.pinned (OpenSpec.ofChange linkPlaysWrong)

/-- 'groynelaw12.LinkKeeps': WHATEVER THE INPUT: true; the input reads as it did. -/
def linkKeepsSpec : ChangeSpec := { name := "linkKeeps", fn := fun _ => fun
  | [d1, d2, d3] => { results := [.lit (.bool true)], args := [d1, d2, d3] }
  | _ => none }
def linkKeepsRow : OpenClaim := { program := "ytjomoannlpadnaa", sum := "1894f83f46388341fe30da3bc7d8dee34e9555f3ae4579f12c0facfcbfa640b7", func := "groyne/groynelaw12.LinkKeeps", spec := "linkKeeps", apart := false }
def LinkKeepsSaid : Prop := linkKeepsRow.holds Try.pinned (OpenSpec.ofChange linkKeepsSpec)

/-- ITS FALSE NEIGHBOUR: 'it returns false'. Refute it at one input. -/
def linkKeepsWrong : ChangeSpec := { name := "linkKeeps", fn := fun _ => fun
  | [d1, d2, d3] => { results := [.lit (.bool false)], args := [d1, d2, d3] }
  | _ => none }
def LinkKeepsWrongFalsely : Prop := linkKeepsRow.holds Try.pinned (OpenSpec.ofChange linkKeepsWrong)

/-- 'groynelaw12.LinkEpoch': WHATEVER THE INPUT: true; the input reads as it did. -/
def linkEpochSpec : ChangeSpec := { name := "linkEpoch", fn := fun _ => fun
  | [d1, d2, d3] => { results := [.lit (.bool true)], args := [d1, d2, d3] }
  | _ => none }
def linkEpochRow : OpenClaim := { program := "ytjomoannlpadnaa", sum := "1894f83f46388341fe30da3bc7d8dee34e9555f3ae4579f12c0facfcbfa640b7", func := "groyne/groynelaw12.LinkEpoch", spec := "linkEpoch", apart := false }
def LinkEpochSaid : Prop := linkEpochRow.holds Try.pinned (OpenSpec.ofChange linkEpochSpec)

/-- ITS FALSE NEIGHBOUR: 'it returns false'. Refute it at one input. -/
def linkEpochWrong : ChangeSpec := { name := "linkEpoch", fn := fun _ => fun
  | [d1, d2, d3] => { results := [.lit (.bool false)], args := [d1, d2, d3] }
  | _ => none }
def LinkEpochWrongFalsely : Prop := linkEpochRow.holds Try.pinned (OpenSpec.ofChange linkEpochWrong)

/-- 'groynelaw11.StreamIs': WHATEVER THE INPUT: true; the input reads as it did. -/
def streamIsSpec : ChangeSpec := { name := "streamIs", fn := fun _ => fun
  | [d1, d2] => { results := [.lit (.bool true)], args := [d1, d2] }
  | _ => none }
def streamIsRow : OpenClaim := { program := "ytjomoannlpadnaa", sum := "1894f83f46388341fe30da3bc7d8dee34e9555f3ae4579f12c0facfcbfa640b7", func := "groyne/groynelaw11.StreamIs", spec := "streamIs", unfollowed := true, recurses := true, apart := false }
def StreamIsSaid : Prop := streamIsRow.holds Try.pinned (OpenSpec.ofChange streamIsSpec)

/-- ITS FALSE NEIGHBOUR: 'it returns false'. Refute it at one input. -/
def streamIsWrong : ChangeSpec := { name := "streamIs", fn := fun _ => fun
  | [d1, d2] => { results := [.lit (.bool false)], args := [d1, d2] }
  | _ => none }
def StreamIsWrongFalsely : Prop := streamIsRow.holds Try.pinned (OpenSpec.ofChange streamIsWrong)

/-- 'groynelaw11.StreamCut': WHATEVER THE INPUT: true; the input reads as it did. -/
def streamCutSpec : ChangeSpec := { name := "streamCut", fn := fun _ => fun
  | [d1, d2, d3] => { results := [.lit (.bool true)], args := [d1, d2, d3] }
  | _ => none }
def streamCutRow : OpenClaim := { program := "ytjomoannlpadnaa", sum := "1894f83f46388341fe30da3bc7d8dee34e9555f3ae4579f12c0facfcbfa640b7", func := "groyne/groynelaw11.StreamCut", spec := "streamCut", unfollowed := true, recurses := true, apart := false }
def StreamCutSaid : Prop := streamCutRow.holds Try.pinned (OpenSpec.ofChange streamCutSpec)

/-- ITS FALSE NEIGHBOUR: 'it returns false'. Refute it at one input. -/
def streamCutWrong : ChangeSpec := { name := "streamCut", fn := fun _ => fun
  | [d1, d2, d3] => { results := [.lit (.bool false)], args := [d1, d2, d3] }
  | _ => none }
def StreamCutWrongFalsely : Prop := streamCutRow.holds Try.pinned (OpenSpec.ofChange streamCutWrong)

/-- 'groynelaw11.StreamRow': WHATEVER THE INPUT: true; the input reads as it did. -/
def streamRowSpec : ChangeSpec := { name := "streamRow", fn := fun _ => fun
  | [d1, d2, d3] => { results := [.lit (.bool true)], args := [d1, d2, d3] }
  | _ => none }
def streamRowRow : OpenClaim := { program := "ytjomoannlpadnaa", sum := "1894f83f46388341fe30da3bc7d8dee34e9555f3ae4579f12c0facfcbfa640b7", func := "groyne/groynelaw11.StreamRow", spec := "streamRow", unfollowed := true, recurses := true, apart := false }
def StreamRowSaid : Prop := streamRowRow.holds Try.pinned (OpenSpec.ofChange streamRowSpec)

/-- ITS FALSE NEIGHBOUR: 'it returns false'. Refute it at one input. -/
def streamRowWrong : ChangeSpec := { name := "streamRow", fn := fun _ => fun
  | [d1, d2, d3] => { results := [.lit (.bool false)], args := [d1, d2, d3] }
  | _ => none }
def StreamRowWrongFalsely : Prop := streamRowRow.holds Try.pinned (OpenSpec.ofChange streamRowWrong)

/-- 'groynelaw11.StreamBad': WHATEVER THE INPUT: true; the input reads as it did. -/
def streamBadSpec : ChangeSpec := { name := "streamBad", fn := fun _ => fun
  | [d1, d2] => { results := [.lit (.bool true)], args := [d1, d2] }
  | _ => none }
def streamBadRow : OpenClaim := { program := "ytjomoannlpadnaa", sum := "1894f83f46388341fe30da3bc7d8dee34e9555f3ae4579f12c0facfcbfa640b7", func := "groyne/groynelaw11.StreamBad", spec := "streamBad", unfollowed := true, recurses := true, apart := false }
def StreamBadSaid : Prop := streamBadRow.holds Try.pinned (OpenSpec.ofChange streamBadSpec)

/-- ITS FALSE NEIGHBOUR: 'it returns false'. Refute it at one input. -/
def streamBadWrong : ChangeSpec := { name := "streamBad", fn := fun _ => fun
  | [d1, d2] => { results := [.lit (.bool false)], args := [d1, d2] }
  | _ => none }
def StreamBadWrongFalsely : Prop := streamBadRow.holds Try.pinned (OpenSpec.ofChange streamBadWrong)

/-- 'groynelaw11.StreamNext': WHATEVER THE INPUT: true; the input reads as it did. -/
def streamNextSpec : ChangeSpec := { name := "streamNext", fn := fun _ => fun
  | [d1, d2] => { results := [.lit (.bool true)], args := [d1, d2] }
  | _ => none }
def streamNextRow : OpenClaim := { program := "ytjomoannlpadnaa", sum := "1894f83f46388341fe30da3bc7d8dee34e9555f3ae4579f12c0facfcbfa640b7", func := "groyne/groynelaw11.StreamNext", spec := "streamNext", unfollowed := true, recurses := true, apart := false }
def StreamNextSaid : Prop := streamNextRow.holds Try.pinned (OpenSpec.ofChange streamNextSpec)

/-- ITS FALSE NEIGHBOUR: 'it returns false'. Refute it at one input. -/
def streamNextWrong : ChangeSpec := { name := "streamNext", fn := fun _ => fun
  | [d1, d2] => { results := [.lit (.bool false)], args := [d1, d2] }
  | _ => none }
def StreamNextWrongFalsely : Prop := streamNextRow.holds Try.pinned (OpenSpec.ofChange streamNextWrong)

/-- 'groynelaw11.StreamBytes': WHATEVER THE INPUT: true; the input reads as it did. -/
def streamBytesSpec : ChangeSpec := { name := "streamBytes", fn := fun _ => fun
  | [d] => { results := [.lit (.bool true)], args := [d] }
  | _ => none }
def streamBytesRow : OpenClaim := { program := "ytjomoannlpadnaa", sum := "1894f83f46388341fe30da3bc7d8dee34e9555f3ae4579f12c0facfcbfa640b7", func := "groyne/groynelaw11.StreamBytes", spec := "streamBytes", unfollowed := true, recurses := true, apart := false }
def StreamBytesSaid : Prop := streamBytesRow.holds Try.pinned (OpenSpec.ofChange streamBytesSpec)

/-- ITS FALSE NEIGHBOUR: 'it returns false'. Refute it at one input. -/
def streamBytesWrong : ChangeSpec := { name := "streamBytes", fn := fun _ => fun
  | [d] => { results := [.lit (.bool false)], args := [d] }
  | _ => none }
def StreamBytesWrongFalsely : Prop := streamBytesRow.holds Try.pinned (OpenSpec.ofChange streamBytesWrong)

/- THE SECOND FORM. 'bulk': how many values and letters a reading holds, each counted each time it is reached (what is shared counts as often as it is met; a slice's spare places count too). A statement '..UptoSaid' is the law's where the arguments, and the package variables that the reading takes, are together of bulk at most 1048576: NARROWER than '..Said'. Prove '..Said' where nothing that the law and all that it calls make is longer than what came in: it says more and counts as full. Else prove '..UptoSaid'. A law counts once. -/
mutual
def uptoBulk {H : Type} : DataW H → Nat
  | .lit (.string bytes) => bytes.length + 1
  | .lit _ => 1
  | .nil => 1
  | .ptr d => uptoBulk d + 1
  | .slice elems spare => uptoBulkAll elems + uptoBulkAll spare + 1
  | .agg parts => uptoBulkAll parts + 1
  | .iface _ d => uptoBulk d + 1
  | .map entries => uptoBulkEntries entries + 1
  | .held _ => 1
def uptoBulkAll {H : Type} : List (DataW H) → Nat
  | [] => 0
  | d :: r => uptoBulk d + uptoBulkAll r
def uptoBulkEntries {H : Type} : List (Lit × DataW H) → Nat
  | [] => 0
  | x :: r => uptoBulkEntry x + uptoBulkEntries r
def uptoBulkEntry {H : Type} : Lit × DataW H → Nat
  | (.string bytes, d) => bytes.length + uptoBulk d + 1
  | (_, d) => uptoBulk d + 1
 end
def uptoSmall : (H : Type) → List (DataW H) → Bool := fun _ ds => decide (uptoBulkAll ds ≤ 1048576)
def OpenSpec.upto (s : _root_.Go.ChangeSpec) : _root_.Go.OpenSpec := { _root_.Go.OpenSpec.ofChange s with cond := some uptoSmall }

/-- 'groynelaw07.PickFair', WHERE WHAT IT READS IS OF BULK AT MOST 1048576: true; the input reads as it did. -/
def pickFairUptoRow : OpenClaim := { program := "ytjomoannlpadnaa", sum := "1894f83f46388341fe30da3bc7d8dee34e9555f3ae4579f12c0facfcbfa640b7", func := "groyne/groynelaw07.PickFair", spec := "pickFair", apart := false, narrowed := true }
def PickFairUptoSaid : Prop := pickFairUptoRow.holds Try.pinned (OpenSpec.upto pickFairSpec)

/-- 'groynelaw07.PickHost', WHERE WHAT IT READS IS OF BULK AT MOST 1048576: true; the input reads as it did. -/
def pickHostUptoRow : OpenClaim := { program := "ytjomoannlpadnaa", sum := "1894f83f46388341fe30da3bc7d8dee34e9555f3ae4579f12c0facfcbfa640b7", func := "groyne/groynelaw07.PickHost", spec := "pickHost", apart := false, narrowed := true }
def PickHostUptoSaid : Prop := pickHostUptoRow.holds Try.pinned (OpenSpec.upto pickHostSpec)

/-- 'groynelaw07.PickScale', WHERE WHAT IT READS IS OF BULK AT MOST 1048576: true; the input reads as it did. -/
def pickScaleUptoRow : OpenClaim := { program := "ytjomoannlpadnaa", sum := "1894f83f46388341fe30da3bc7d8dee34e9555f3ae4579f12c0facfcbfa640b7", func := "groyne/groynelaw07.PickScale", spec := "pickScale", apart := false, narrowed := true }
def PickScaleUptoSaid : Prop := pickScaleUptoRow.holds Try.pinned (OpenSpec.upto pickScaleSpec)

/-- 'groynelaw12.LinkOrder', WHERE WHAT IT READS IS OF BULK AT MOST 1048576: true; the input reads as it did. -/
def linkOrderUptoRow : OpenClaim := { program := "ytjomoannlpadnaa", sum := "1894f83f46388341fe30da3bc7d8dee34e9555f3ae4579f12c0facfcbfa640b7", func := "groyne/groynelaw12.LinkOrder", spec := "linkOrder", apart := false, narrowed := true }
def LinkOrderUptoSaid : Prop := linkOrderUptoRow.holds Try.pinned (OpenSpec.upto linkOrderSpec)

/-- 'groynelaw12.LinkAlike', WHERE WHAT IT READS IS OF BULK AT MOST 1048576: true; the input reads as it did. -/
def linkAlikeUptoRow : OpenClaim := { program := "ytjomoannlpadnaa", sum := "1894f83f46388341fe30da3bc7d8dee34e9555f3ae4579f12c0facfcbfa640b7", func := "groyne/groynelaw12.LinkAlike", spec := "linkAlike", apart := false, narrowed := true }
def LinkAlikeUptoSaid : Prop := linkAlikeUptoRow.holds Try.pinned (OpenSpec.upto linkAlikeSpec)

/-- 'groynelaw02.CodeIs', WHERE WHAT IT READS IS OF BULK AT MOST 1048576: true; the input reads as it did. -/
def codeIsUptoRow : OpenClaim := { program := "ytjomoannlpadnaa", sum := "1894f83f46388341fe30da3bc7d8dee34e9555f3ae4579f12c0facfcbfa640b7", func := "groyne/groynelaw02.CodeIs", spec := "codeIs", unfollowed := true, recurses := true, apart := false, narrowed := true }
def CodeIsUptoSaid : Prop := codeIsUptoRow.holds Try.pinned (OpenSpec.upto codeIsSpec)

/-- 'groynelaw02.CodeNone', WHERE WHAT IT READS IS OF BULK AT MOST 1048576: true; the input reads as it did. -/
def codeNoneUptoRow : OpenClaim := { program := "ytjomoannlpadnaa", sum := "1894f83f46388341fe30da3bc7d8dee34e9555f3ae4579f12c0facfcbfa640b7", func := "groyne/groynelaw02.CodeNone", spec := "codeNone", unfollowed := true, recurses := true, apart := false, narrowed := true }
def CodeNoneUptoSaid : Prop := codeNoneUptoRow.holds Try.pinned (OpenSpec.upto codeNoneSpec)

/-- 'groynelaw02.CodeBack', WHERE WHAT IT READS IS OF BULK AT MOST 1048576: true; the input reads as it did. -/
def codeBackUptoRow : OpenClaim := { program := "ytjomoannlpadnaa", sum := "1894f83f46388341fe30da3bc7d8dee34e9555f3ae4579f12c0facfcbfa640b7", func := "groyne/groynelaw02.CodeBack", spec := "codeBack", unfollowed := true, recurses := true, apart := false, narrowed := true }
def CodeBackUptoSaid : Prop := codeBackUptoRow.holds Try.pinned (OpenSpec.upto codeBackSpec)

/-- 'groynelaw02.CodeOnce', WHERE WHAT IT READS IS OF BULK AT MOST 1048576: true; the input reads as it did. -/
def codeOnceUptoRow : OpenClaim := { program := "ytjomoannlpadnaa", sum := "1894f83f46388341fe30da3bc7d8dee34e9555f3ae4579f12c0facfcbfa640b7", func := "groyne/groynelaw02.CodeOnce", spec := "codeOnce", unfollowed := true, recurses := true, apart := false, narrowed := true }
def CodeOnceUptoSaid : Prop := codeOnceUptoRow.holds Try.pinned (OpenSpec.upto codeOnceSpec)

/-- 'groynelaw02.CodeSizes', WHERE WHAT IT READS IS OF BULK AT MOST 1048576: true; the input reads as it did. -/
def codeSizesUptoRow : OpenClaim := { program := "ytjomoannlpadnaa", sum := "1894f83f46388341fe30da3bc7d8dee34e9555f3ae4579f12c0facfcbfa640b7", func := "groyne/groynelaw02.CodeSizes", spec := "codeSizes", unfollowed := true, recurses := true, apart := false, narrowed := true }
def CodeSizesUptoSaid : Prop := codeSizesUptoRow.holds Try.pinned (OpenSpec.upto codeSizesSpec)

/-- 'groynelaw02.CodeSticks', WHERE WHAT IT READS IS OF BULK AT MOST 1048576: true; the input reads as it did. -/
def codeSticksUptoRow : OpenClaim := { program := "ytjomoannlpadnaa", sum := "1894f83f46388341fe30da3bc7d8dee34e9555f3ae4579f12c0facfcbfa640b7", func := "groyne/groynelaw02.CodeSticks", spec := "codeSticks", unfollowed := true, recurses := true, apart := false, narrowed := true }
def CodeSticksUptoSaid : Prop := codeSticksUptoRow.holds Try.pinned (OpenSpec.upto codeSticksSpec)

/-- 'groynelaw12.LinkPlays', WHERE WHAT IT READS IS OF BULK AT MOST 1048576: true; the input reads as it did. -/
def linkPlaysUptoRow : OpenClaim := { program := "ytjomoannlpadnaa", sum := "1894f83f46388341fe30da3bc7d8dee34e9555f3ae4579f12c0facfcbfa640b7", func := "groyne/groynelaw12.LinkPlays", spec := "linkPlays", apart := false, narrowed := true }
def LinkPlaysUptoSaid : Prop := linkPlaysUptoRow.holds Try.pinned (OpenSpec.upto linkPlaysSpec)

/-- 'groynelaw12.LinkKeeps', WHERE WHAT IT READS IS OF BULK AT MOST 1048576: true; the input reads as it did. -/
def linkKeepsUptoRow : OpenClaim := { program := "ytjomoannlpadnaa", sum := "1894f83f46388341fe30da3bc7d8dee34e9555f3ae4579f12c0facfcbfa640b7", func := "groyne/groynelaw12.LinkKeeps", spec := "linkKeeps", apart := false, narrowed := true }
def LinkKeepsUptoSaid : Prop := linkKeepsUptoRow.holds Try.pinned (OpenSpec.upto linkKeepsSpec)

/-- 'groynelaw12.LinkEpoch', WHERE WHAT IT READS IS OF BULK AT MOST 1048576: true; the input reads as it did. -/
def linkEpochUptoRow : OpenClaim := { program := "ytjomoannlpadnaa", sum := "1894f83f46388341fe30da3bc7d8dee34e9555f3ae4579f12c0facfcbfa640b7", func := "groyne/groynelaw12.LinkEpoch", spec := "linkEpoch", apart := false, narrowed := true }
def LinkEpochUptoSaid : Prop := linkEpochUptoRow.holds Try.pinned (OpenSpec.upto linkEpochSpec)

/-- 'groynelaw11.StreamIs', WHERE WHAT IT READS IS OF BULK AT MOST 1048576: true; the input reads as it did. -/
def streamIsUptoRow : OpenClaim := { program := "ytjomoannlpadnaa", sum := "1894f83f46388341fe30da3bc7d8dee34e9555f3ae4579f12c0facfcbfa640b7", func := "groyne/groynelaw11.StreamIs", spec := "streamIs", unfollowed := true, recurses := true, apart := false, narrowed := true }
def StreamIsUptoSaid : Prop := streamIsUptoRow.holds Try.pinned (OpenSpec.upto streamIsSpec)

/-- 'groynelaw11.StreamCut', WHERE WHAT IT READS IS OF BULK AT MOST 1048576: true; the input reads as it did. -/
def streamCutUptoRow : OpenClaim := { program := "ytjomoannlpadnaa", sum := "1894f83f46388341fe30da3bc7d8dee34e9555f3ae4579f12c0facfcbfa640b7", func := "groyne/groynelaw11.StreamCut", spec := "streamCut", unfollowed := true, recurses := true, apart := false, narrowed := true }
def StreamCutUptoSaid : Prop := streamCutUptoRow.holds Try.pinned (OpenSpec.upto streamCutSpec)

/-- 'groynelaw11.StreamRow', WHERE WHAT IT READS IS OF BULK AT MOST 1048576: true; the input reads as it did. -/
def streamRowUptoRow : OpenClaim := { program := "ytjomoannlpadnaa", sum := "1894f83f46388341fe30da3bc7d8dee34e9555f3ae4579f12c0facfcbfa640b7", func := "groyne/groynelaw11.StreamRow", spec := "streamRow", unfollowed := true, recurses := true, apart := false, narrowed := true }
def StreamRowUptoSaid : Prop := streamRowUptoRow.holds Try.pinned (OpenSpec.upto streamRowSpec)

/-- 'groynelaw11.StreamBad', WHERE WHAT IT READS IS OF BULK AT MOST 1048576: true; the input reads as it did. -/
def streamBadUptoRow : OpenClaim := { program := "ytjomoannlpadnaa", sum := "1894f83f46388341fe30da3bc7d8dee34e9555f3ae4579f12c0facfcbfa640b7", func := "groyne/groynelaw11.StreamBad", spec := "streamBad", unfollowed := true, recurses := true, apart := false, narrowed := true }
def StreamBadUptoSaid : Prop := streamBadUptoRow.holds Try.pinned (OpenSpec.upto streamBadSpec)

/-- 'groynelaw11.StreamNext', WHERE WHAT IT READS IS OF BULK AT MOST 1048576: true; the input reads as it did. -/
def streamNextUptoRow : OpenClaim := { program := "ytjomoannlpadnaa", sum := "1894f83f46388341fe30da3bc7d8dee34e9555f3ae4579f12c0facfcbfa640b7", func := "groyne/groynelaw11.StreamNext", spec := "streamNext", unfollowed := true, recurses := true, apart := false, narrowed := true }
def StreamNextUptoSaid : Prop := streamNextUptoRow.holds Try.pinned (OpenSpec.upto streamNextSpec)

/-- 'groynelaw11.StreamBytes', WHERE WHAT IT READS IS OF BULK AT MOST 1048576: true; the input reads as it did. -/
def streamBytesUptoRow : OpenClaim := { program := "ytjomoannlpadnaa", sum := "1894f83f46388341fe30da3bc7d8dee34e9555f3ae4579f12c0facfcbfa640b7", func := "groyne/groynelaw11.StreamBytes", spec := "streamBytes", unfollowed := true, recurses := true, apart := false, narrowed := true }
def StreamBytesUptoSaid : Prop := streamBytesUptoRow.holds Try.pinned (OpenSpec.upto streamBytesSpec)

end Rows
end Go.Proofs.Ytjomoannlpadnaa
