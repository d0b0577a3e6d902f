/-
  NARROWER THAN 'FOR EVERY INPUT', by the rows' own cells (each row's printed sentence says how): RecordTakes: laid · RecordPuts: laid · TableIs: laid · ScriptBack: laid · ScriptGood: laid · ScriptRows: laid · FrameIs: laid.
  DERIVED. THE GIVEN ROWS OF THIS SEAT. 7 by the template 'for every input the law returns true; each argument reads behind the call as it read before'; 0 by the template 'total and deterministic' (their statements: YtfdjbnofcniodaaGreatDoorTotals.lean).
  GIVEN WITH THE SEED: the statements are not yours to turn. If you find one false, say at which input.
  Laid BY PROGRAM, IN A SANDBOX (cutbox-rows.mjs): the forced cells as the released guide's own fill.sh prints them over the translation 1ad51662363e3d93… (all of the seat's roots in one cut). By AI agents, Wed Nov 11 2026. No macro, syntax, notation, axiom, sorry.
-/
import Derived.Test.YtfdjbnofcniodaaGreatDoorChecked
import GoSem.PinnedTables
import GoSem.Claim
import GoSem.ClaimJoined
import GoSem.ClaimMapViews
import Derived.JoinedTies
import Derived.KernelRfl
namespace Go.Proofs.YtfdjbnofcniodaaGreatDoor
/- THE CELL 'sum', in the pinned program and in every row, IS THE sha256 OF THE DUMP (.gsa) THAT YtfdjbnofcniodaaGreatDoorProg.lean LOADS. Nothing in Lean hashes anything: it is a label: what it is worth is what the hold of that sum in a sandbox is worth. -/
noncomputable def Tryz.pinned : Pinned := { name := "ytfdjbnofcniodaagreatdoor", sum := "1ad51662363e3d93133bab51bb3fc301ba78f02f3ed8f03af7347ee5b5416fde", checked := Tryz.checked }
namespace Rows
def none {H : Type} : Left H := { results := [], args := [] }

/- WHAT THE LISTED PACKAGE-LEVEL VARIABLES READ AS WHEN THE CALL BEGINS. Each datum BY PROGRAM (the guide's laid-datum.mjs) off the statement by which the dump's own 'gosem.cut.vars' lays the variable. In a bare row this is a premise. The card (YtfdjbnofcniodaaGreatDoorCards.lean) ties it to the program's text. -/
def laid_unicode_utf8_acceptRanges {H : Type} : DataW H := .agg [.agg [.lit (.int .u8 128), .lit (.int .u8 191)], .agg [.lit (.int .u8 160), .lit (.int .u8 191)], .agg [.lit (.int .u8 128), .lit (.int .u8 159)], .agg [.lit (.int .u8 144), .lit (.int .u8 191)], .agg [.lit (.int .u8 128), .lit (.int .u8 143)], .agg [.lit (.int .u8 0), .lit (.int .u8 0)], .agg [.lit (.int .u8 0), .lit (.int .u8 0)], .agg [.lit (.int .u8 0), .lit (.int .u8 0)], .agg [.lit (.int .u8 0), .lit (.int .u8 0)], .agg [.lit (.int .u8 0), .lit (.int .u8 0)], .agg [.lit (.int .u8 0), .lit (.int .u8 0)], .agg [.lit (.int .u8 0), .lit (.int .u8 0)], .agg [.lit (.int .u8 0), .lit (.int .u8 0)], .agg [.lit (.int .u8 0), .lit (.int .u8 0)], .agg [.lit (.int .u8 0), .lit (.int .u8 0)], .agg [.lit (.int .u8 0), .lit (.int .u8 0)]]
/-- One of Go's own tables, pinned by name: the form's constant. -/
def laid_unicode_utf8_first : DataW Unit := Go.Pinned.utf8First

/-- 'groynelaw04.RecordTakes': WHATEVER THE INPUT: true; the input reads as it did. -/
def recordTakesSpec : ChangeSpec := { name := "recordTakes", fn := fun _ => fun
  | [d1, d2] => { results := [.lit (.bool true)], args := [d1, d2] }
  | _ => none }
def recordTakesRow : OpenClaim := { program := "ytfdjbnofcniodaagreatdoor", sum := "1ad51662363e3d93133bab51bb3fc301ba78f02f3ed8f03af7347ee5b5416fde", func := "groyne/groynelaw04.RecordTakes", spec := "recordTakes", inPlace := ["internal/bytealg.IndexByteString", "internal/bytealg.IndexString"], unfollowed := true, recurses := true, named := ["unicode/utf8.first", "unicode/utf8.acceptRanges", "internal/bytealg.MaxLen"], plainKeys := false, apart := false, laid := [("unicode/utf8.acceptRanges", laid_unicode_utf8_acceptRanges), ("unicode/utf8.first", laid_unicode_utf8_first)] }
def RecordTakesSaid : Prop := recordTakesRow.holds Tryz.pinned (OpenSpec.ofChange recordTakesSpec)

/-- ITS FALSE NEIGHBOUR: 'it returns false'. Refute it at one input. -/
def recordTakesWrong : ChangeSpec := { name := "recordTakes", fn := fun _ => fun
  | [d1, d2] => { results := [.lit (.bool false)], args := [d1, d2] }
  | _ => none }
def RecordTakesWrongFalsely : Prop := recordTakesRow.holds Tryz.pinned (OpenSpec.ofChange recordTakesWrong)

/-- 'groynelaw04.RecordPuts': WHATEVER THE INPUT: true; the input reads as it did. -/
def recordPutsSpec : ChangeSpec := { name := "recordPuts", fn := fun _ => fun
  | [d1, d2, d3, d4, d5] => { results := [.lit (.bool true)], args := [d1, d2, d3, d4, d5] }
  | _ => none }
def recordPutsRow : OpenClaim := { program := "ytfdjbnofcniodaagreatdoor", sum := "1ad51662363e3d93133bab51bb3fc301ba78f02f3ed8f03af7347ee5b5416fde", func := "groyne/groynelaw04.RecordPuts", spec := "recordPuts", inPlace := ["internal/bytealg.IndexByteString", "internal/bytealg.IndexString"], unfollowed := true, recurses := true, named := ["unicode/utf8.first", "unicode/utf8.acceptRanges", "internal/bytealg.MaxLen"], plainKeys := false, apart := false, laid := [("unicode/utf8.acceptRanges", laid_unicode_utf8_acceptRanges), ("unicode/utf8.first", laid_unicode_utf8_first)] }
def RecordPutsSaid : Prop := recordPutsRow.holds Tryz.pinned (OpenSpec.ofChange recordPutsSpec)

/-- ITS FALSE NEIGHBOUR: 'it returns false'. Refute it at one input. -/
def recordPutsWrong : ChangeSpec := { name := "recordPuts", fn := fun _ => fun
  | [d1, d2, d3, d4, d5] => { results := [.lit (.bool false)], args := [d1, d2, d3, d4, d5] }
  | _ => none }
def RecordPutsWrongFalsely : Prop := recordPutsRow.holds Tryz.pinned (OpenSpec.ofChange recordPutsWrong)

/-- 'groynelaw05.TableIs': WHATEVER THE INPUT: true; the input reads as it did. -/
def tableIsSpec : ChangeSpec := { name := "tableIs", fn := fun _ => fun
  | [d1, d2, d3, d4, d5] => { results := [.lit (.bool true)], args := [d1, d2, d3, d4, d5] }
  | _ => none }
def tableIsRow : OpenClaim := { program := "ytfdjbnofcniodaagreatdoor", sum := "1ad51662363e3d93133bab51bb3fc301ba78f02f3ed8f03af7347ee5b5416fde", func := "groyne/groynelaw05.TableIs", spec := "tableIs", inPlace := ["internal/bytealg.IndexByteString", "internal/bytealg.IndexString", "internal/bytealg.abigen_runtime_cmpstring"], unfollowed := true, recurses := true, named := ["unicode/utf8.first", "unicode/utf8.acceptRanges", "internal/bytealg.MaxLen"], plainKeys := false, apart := false, laid := [("unicode/utf8.acceptRanges", laid_unicode_utf8_acceptRanges), ("unicode/utf8.first", laid_unicode_utf8_first)] }
def TableIsSaid : Prop := tableIsRow.holds Tryz.pinned (OpenSpec.ofChange tableIsSpec)

/-- ITS FALSE NEIGHBOUR: 'it returns false'. Refute it at one input. -/
def tableIsWrong : ChangeSpec := { name := "tableIs", fn := fun _ => fun
  | [d1, d2, d3, d4, d5] => { results := [.lit (.bool false)], args := [d1, d2, d3, d4, d5] }
  | _ => none }
def TableIsWrongFalsely : Prop := tableIsRow.holds Tryz.pinned (OpenSpec.ofChange tableIsWrong)

/-- 'groynelaw23.ScriptBack': WHATEVER THE INPUT: true; the input reads as it did. -/
def scriptBackSpec : ChangeSpec := { name := "scriptBack", fn := fun _ => fun
  | [d] => { results := [.lit (.bool true)], args := [d] }
  | _ => none }
def scriptBackRow : OpenClaim := { program := "ytfdjbnofcniodaagreatdoor", sum := "1ad51662363e3d93133bab51bb3fc301ba78f02f3ed8f03af7347ee5b5416fde", func := "groyne/groynelaw23.ScriptBack", spec := "scriptBack", inPlace := ["internal/bytealg.IndexByteString", "internal/bytealg.IndexString"], unfollowed := true, recurses := true, named := ["unicode/utf8.first", "unicode/utf8.acceptRanges", "internal/bytealg.MaxLen"], plainKeys := false, apart := false, laid := [("unicode/utf8.acceptRanges", laid_unicode_utf8_acceptRanges), ("unicode/utf8.first", laid_unicode_utf8_first)] }
def ScriptBackSaid : Prop := scriptBackRow.holds Tryz.pinned (OpenSpec.ofChange scriptBackSpec)

/-- ITS FALSE NEIGHBOUR: 'it returns false'. Refute it at one input. -/
def scriptBackWrong : ChangeSpec := { name := "scriptBack", fn := fun _ => fun
  | [d] => { results := [.lit (.bool false)], args := [d] }
  | _ => none }
def ScriptBackWrongFalsely : Prop := scriptBackRow.holds Tryz.pinned (OpenSpec.ofChange scriptBackWrong)

/-- 'groynelaw23.ScriptGood': WHATEVER THE INPUT: true; the input reads as it did. -/
def scriptGoodSpec : ChangeSpec := { name := "scriptGood", fn := fun _ => fun
  | [d] => { results := [.lit (.bool true)], args := [d] }
  | _ => none }
def scriptGoodRow : OpenClaim := { program := "ytfdjbnofcniodaagreatdoor", sum := "1ad51662363e3d93133bab51bb3fc301ba78f02f3ed8f03af7347ee5b5416fde", func := "groyne/groynelaw23.ScriptGood", spec := "scriptGood", inPlace := ["internal/bytealg.IndexByteString", "internal/bytealg.IndexString"], unfollowed := true, recurses := true, named := ["unicode/utf8.first", "unicode/utf8.acceptRanges", "internal/bytealg.MaxLen"], plainKeys := false, apart := false, laid := [("unicode/utf8.acceptRanges", laid_unicode_utf8_acceptRanges), ("unicode/utf8.first", laid_unicode_utf8_first)] }
def ScriptGoodSaid : Prop := scriptGoodRow.holds Tryz.pinned (OpenSpec.ofChange scriptGoodSpec)

/-- ITS FALSE NEIGHBOUR: 'it returns false'. Refute it at one input. -/
def scriptGoodWrong : ChangeSpec := { name := "scriptGood", fn := fun _ => fun
  | [d] => { results := [.lit (.bool false)], args := [d] }
  | _ => none }
def ScriptGoodWrongFalsely : Prop := scriptGoodRow.holds Tryz.pinned (OpenSpec.ofChange scriptGoodWrong)

/-- 'groynelaw23.ScriptRows': WHATEVER THE INPUT: true; the input reads as it did. -/
def scriptRowsSpec : ChangeSpec := { name := "scriptRows", fn := fun _ => fun
  | [d1, d2] => { results := [.lit (.bool true)], args := [d1, d2] }
  | _ => none }
def scriptRowsRow : OpenClaim := { program := "ytfdjbnofcniodaagreatdoor", sum := "1ad51662363e3d93133bab51bb3fc301ba78f02f3ed8f03af7347ee5b5416fde", func := "groyne/groynelaw23.ScriptRows", spec := "scriptRows", inPlace := ["internal/bytealg.IndexByteString", "internal/bytealg.IndexString"], unfollowed := true, recurses := true, named := ["unicode/utf8.first", "unicode/utf8.acceptRanges", "internal/bytealg.MaxLen"], plainKeys := false, apart := false, laid := [("unicode/utf8.acceptRanges", laid_unicode_utf8_acceptRanges), ("unicode/utf8.first", laid_unicode_utf8_first)] }
def ScriptRowsSaid : Prop := scriptRowsRow.holds Tryz.pinned (OpenSpec.ofChange scriptRowsSpec)

/-- ITS FALSE NEIGHBOUR: 'it returns false'. Refute it at one input. -/
def scriptRowsWrong : ChangeSpec := { name := "scriptRows", fn := fun _ => fun
  | [d1, d2] => { results := [.lit (.bool false)], args := [d1, d2] }
  | _ => none }
def ScriptRowsWrongFalsely : Prop := scriptRowsRow.holds Tryz.pinned (OpenSpec.ofChange scriptRowsWrong)

/-- 'groynelaw10.FrameIs': WHATEVER THE INPUT: true; the input reads as it did. -/
def frameIsSpec : ChangeSpec := { name := "frameIs", fn := fun _ => fun
  | [d1, d2, d3] => { results := [.lit (.bool true)], args := [d1, d2, d3] }
  | _ => none }
def frameIsRow : OpenClaim := { program := "ytfdjbnofcniodaagreatdoor", sum := "1ad51662363e3d93133bab51bb3fc301ba78f02f3ed8f03af7347ee5b5416fde", func := "groyne/groynelaw10.FrameIs", spec := "frameIs", inPlace := ["internal/bytealg.IndexByteString", "internal/bytealg.IndexString"], unfollowed := true, recurses := true, named := ["unicode/utf8.first", "unicode/utf8.acceptRanges", "internal/bytealg.MaxLen"], plainKeys := false, apart := false, laid := [("unicode/utf8.acceptRanges", laid_unicode_utf8_acceptRanges), ("unicode/utf8.first", laid_unicode_utf8_first)] }
def FrameIsSaid : Prop := frameIsRow.holds Tryz.pinned (OpenSpec.ofChange frameIsSpec)

/-- ITS FALSE NEIGHBOUR: 'it returns false'. Refute it at one input. -/
def frameIsWrong : ChangeSpec := { name := "frameIs", fn := fun _ => fun
  | [d1, d2, d3] => { results := [.lit (.bool false)], args := [d1, d2, d3] }
  | _ => none }
def FrameIsWrongFalsely : Prop := frameIsRow.holds Tryz.pinned (OpenSpec.ofChange frameIsWrong)

/- THE SECOND FORM. 'bulk': how many values and letters a reading holds, each counted each time it is reached (what is shared counts as often as it is met; a slice's spare places count too). A statement '..UptoSaid' is the law's where the arguments, and the package variables that the reading takes, are together of bulk at most 1048576: NARROWER than '..Said'. Prove '..Said' where nothing that the law and all that it calls make is longer than what came in: it says more and counts as full. Else prove '..UptoSaid'. A law counts once. -/
mutual
def uptoBulk {H : Type} : DataW H → Nat
  | .lit (.string bytes) => bytes.length + 1
  | .lit _ => 1
  | .nil => 1
  | .ptr d => uptoBulk d + 1
  | .slice elems spare => uptoBulkAll elems + uptoBulkAll spare + 1
  | .agg parts => uptoBulkAll parts + 1
  | .iface _ d => uptoBulk d + 1
  | .map entries => uptoBulkEntries entries + 1
  | .held _ => 1
def uptoBulkAll {H : Type} : List (DataW H) → Nat
  | [] => 0
  | d :: r => uptoBulk d + uptoBulkAll r
def uptoBulkEntries {H : Type} : List (Lit × DataW H) → Nat
  | [] => 0
  | x :: r => uptoBulkEntry x + uptoBulkEntries r
def uptoBulkEntry {H : Type} : Lit × DataW H → Nat
  | (.string bytes, d) => bytes.length + uptoBulk d + 1
  | (_, d) => uptoBulk d + 1
 end
def uptoSmall : (H : Type) → List (DataW H) → Bool := fun _ ds => decide (uptoBulkAll ds ≤ 1048576)
def OpenSpec.upto (s : _root_.Go.ChangeSpec) : _root_.Go.OpenSpec := { _root_.Go.OpenSpec.ofChange s with cond := some uptoSmall }

/-- 'groynelaw04.RecordTakes', WHERE WHAT IT READS IS OF BULK AT MOST 1048576: true; the input reads as it did. -/
def recordTakesUptoRow : OpenClaim := { program := "ytfdjbnofcniodaagreatdoor", sum := "1ad51662363e3d93133bab51bb3fc301ba78f02f3ed8f03af7347ee5b5416fde", func := "groyne/groynelaw04.RecordTakes", spec := "recordTakes", inPlace := ["internal/bytealg.IndexByteString", "internal/bytealg.IndexString"], unfollowed := true, recurses := true, named := ["unicode/utf8.first", "unicode/utf8.acceptRanges", "internal/bytealg.MaxLen"], plainKeys := false, apart := false, laid := [("unicode/utf8.acceptRanges", laid_unicode_utf8_acceptRanges), ("unicode/utf8.first", laid_unicode_utf8_first)], narrowed := true }
def RecordTakesUptoSaid : Prop := recordTakesUptoRow.holds Tryz.pinned (OpenSpec.upto recordTakesSpec)

/-- 'groynelaw04.RecordPuts', WHERE WHAT IT READS IS OF BULK AT MOST 1048576: true; the input reads as it did. -/
def recordPutsUptoRow : OpenClaim := { program := "ytfdjbnofcniodaagreatdoor", sum := "1ad51662363e3d93133bab51bb3fc301ba78f02f3ed8f03af7347ee5b5416fde", func := "groyne/groynelaw04.RecordPuts", spec := "recordPuts", inPlace := ["internal/bytealg.IndexByteString", "internal/bytealg.IndexString"], unfollowed := true, recurses := true, named := ["unicode/utf8.first", "unicode/utf8.acceptRanges", "internal/bytealg.MaxLen"], plainKeys := false, apart := false, laid := [("unicode/utf8.acceptRanges", laid_unicode_utf8_acceptRanges), ("unicode/utf8.first", laid_unicode_utf8_first)], narrowed := true }
def RecordPutsUptoSaid : Prop := recordPutsUptoRow.holds Tryz.pinned (OpenSpec.upto recordPutsSpec)

/-- 'groynelaw05.TableIs', WHERE WHAT IT READS IS OF BULK AT MOST 1048576: true; the input reads as it did. -/
def tableIsUptoRow : OpenClaim := { program := "ytfdjbnofcniodaagreatdoor", sum := "1ad51662363e3d93133bab51bb3fc301ba78f02f3ed8f03af7347ee5b5416fde", func := "groyne/groynelaw05.TableIs", spec := "tableIs", inPlace := ["internal/bytealg.IndexByteString", "internal/bytealg.IndexString", "internal/bytealg.abigen_runtime_cmpstring"], unfollowed := true, recurses := true, named := ["unicode/utf8.first", "unicode/utf8.acceptRanges", "internal/bytealg.MaxLen"], plainKeys := false, apart := false, laid := [("unicode/utf8.acceptRanges", laid_unicode_utf8_acceptRanges), ("unicode/utf8.first", laid_unicode_utf8_first)], narrowed := true }
def TableIsUptoSaid : Prop := tableIsUptoRow.holds Tryz.pinned (OpenSpec.upto tableIsSpec)

/-- 'groynelaw23.ScriptBack', WHERE WHAT IT READS IS OF BULK AT MOST 1048576: true; the input reads as it did. -/
def scriptBackUptoRow : OpenClaim := { program := "ytfdjbnofcniodaagreatdoor", sum := "1ad51662363e3d93133bab51bb3fc301ba78f02f3ed8f03af7347ee5b5416fde", func := "groyne/groynelaw23.ScriptBack", spec := "scriptBack", inPlace := ["internal/bytealg.IndexByteString", "internal/bytealg.IndexString"], unfollowed := true, recurses := true, named := ["unicode/utf8.first", "unicode/utf8.acceptRanges", "internal/bytealg.MaxLen"], plainKeys := false, apart := false, laid := [("unicode/utf8.acceptRanges", laid_unicode_utf8_acceptRanges), ("unicode/utf8.first", laid_unicode_utf8_first)], narrowed := true }
def ScriptBackUptoSaid : Prop := scriptBackUptoRow.holds Tryz.pinned (OpenSpec.upto scriptBackSpec)

/-- 'groynelaw23.ScriptGood', WHERE WHAT IT READS IS OF BULK AT MOST 1048576: true; the input reads as it did. -/
def scriptGoodUptoRow : OpenClaim := { program := "ytfdjbnofcniodaagreatdoor", sum := "1ad51662363e3d93133bab51bb3fc301ba78f02f3ed8f03af7347ee5b5416fde", func := "groyne/groynelaw23.ScriptGood", spec := "scriptGood", inPlace := ["internal/bytealg.IndexByteString", "internal/bytealg.IndexString"], unfollowed := true, recurses := true, named := ["unicode/utf8.first", "unicode/utf8.acceptRanges", "internal/bytealg.MaxLen"], plainKeys := false, apart := false, laid := [("unicode/utf8.acceptRanges", laid_unicode_utf8_acceptRanges), ("unicode/utf8.first", laid_unicode_utf8_first)], narrowed := true }
def ScriptGoodUptoSaid : Prop := scriptGoodUptoRow.holds Tryz.pinned (OpenSpec.upto scriptGoodSpec)

/-- 'groynelaw23.ScriptRows', WHERE WHAT IT READS IS OF BULK AT MOST 1048576: true; the input reads as it did. -/
def scriptRowsUptoRow : OpenClaim := { program := "ytfdjbnofcniodaagreatdoor", sum := "1ad51662363e3d93133bab51bb3fc301ba78f02f3ed8f03af7347ee5b5416fde", func := "groyne/groynelaw23.ScriptRows", spec := "scriptRows", inPlace := ["internal/bytealg.IndexByteString", "internal/bytealg.IndexString"], unfollowed := true, recurses := true, named := ["unicode/utf8.first", "unicode/utf8.acceptRanges", "internal/bytealg.MaxLen"], plainKeys := false, apart := false, laid := [("unicode/utf8.acceptRanges", laid_unicode_utf8_acceptRanges), ("unicode/utf8.first", laid_unicode_utf8_first)], narrowed := true }
def ScriptRowsUptoSaid : Prop := scriptRowsUptoRow.holds Tryz.pinned (OpenSpec.upto scriptRowsSpec)

/-- 'groynelaw10.FrameIs', WHERE WHAT IT READS IS OF BULK AT MOST 1048576: true; the input reads as it did. -/
def frameIsUptoRow : OpenClaim := { program := "ytfdjbnofcniodaagreatdoor", sum := "1ad51662363e3d93133bab51bb3fc301ba78f02f3ed8f03af7347ee5b5416fde", func := "groyne/groynelaw10.FrameIs", spec := "frameIs", inPlace := ["internal/bytealg.IndexByteString", "internal/bytealg.IndexString"], unfollowed := true, recurses := true, named := ["unicode/utf8.first", "unicode/utf8.acceptRanges", "internal/bytealg.MaxLen"], plainKeys := false, apart := false, laid := [("unicode/utf8.acceptRanges", laid_unicode_utf8_acceptRanges), ("unicode/utf8.first", laid_unicode_utf8_first)], narrowed := true }
def FrameIsUptoSaid : Prop := frameIsUptoRow.holds Tryz.pinned (OpenSpec.upto frameIsSpec)

end Rows
end Go.Proofs.YtfdjbnofcniodaaGreatDoor
