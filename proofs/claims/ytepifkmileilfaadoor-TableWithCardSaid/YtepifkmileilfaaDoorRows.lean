/-
  NARROWER THAN 'FOR EVERY INPUT', by the rows' own cells (each row's printed sentence says how): PickBest: laid · PickOne: laid · RecordShort: laid · TableKinds: laid · TableUnlike: laid · RecordKey: laid · RecordNone: laid · RecordOnce: laid · TableOrder: laid · TableWith: laid · RecordBack: laid · TablePatched: laid.
  DERIVED. THE GIVEN ROWS OF THIS SEAT. 12 by the template 'for every input the law returns true; each argument reads behind the call as it read before'; 0 by the template 'total and deterministic' (their statements: YtepifkmileilfaaDoorTotals.lean).
  GIVEN WITH THE SEED: the statements are not yours to turn. If you find one false, say at which input.
  Laid BY PROGRAM, IN A SANDBOX (cutbox-rows.mjs): the forced cells as the released guide's own fill.sh prints them over the translation 5c374186e9e7cade… (all of the seat's roots in one cut). By AI agents, Wed Nov 11 2026. No macro, syntax, notation, axiom, sorry.
-/
import Derived.Test.YtepifkmileilfaaDoorChecked
import GoSem.PinnedTables
import GoSem.Claim
import GoSem.ClaimJoined
import GoSem.ClaimMapViews
import Derived.JoinedTies
import Derived.KernelRfl
namespace Go.Proofs.YtepifkmileilfaaDoor
/- THE CELL 'sum', in the pinned program and in every row, IS THE sha256 OF THE DUMP (.gsa) THAT YtepifkmileilfaaDoorProg.lean LOADS. Nothing in Lean hashes anything: it is a label: what it is worth is what the hold of that sum in a sandbox is worth. -/
noncomputable def Tryd.pinned : Pinned := { name := "ytepifkmileilfaadoor", sum := "5c374186e9e7cadef8f99077cf71d770458fba28f2a63a36a44e5269b6ae019d", checked := Tryd.checked }
namespace Rows
def none {H : Type} : Left H := { results := [], args := [] }

/- WHAT THE LISTED PACKAGE-LEVEL VARIABLES READ AS WHEN THE CALL BEGINS. Each datum BY PROGRAM (the guide's laid-datum.mjs) off the statement by which the dump's own 'gosem.cut.vars' lays the variable. In a bare row this is a premise. The card (YtepifkmileilfaaDoorCards.lean) ties it to the program's text. -/
def laid_unicode_utf8_acceptRanges {H : Type} : DataW H := .agg [.agg [.lit (.int .u8 128), .lit (.int .u8 191)], .agg [.lit (.int .u8 160), .lit (.int .u8 191)], .agg [.lit (.int .u8 128), .lit (.int .u8 159)], .agg [.lit (.int .u8 144), .lit (.int .u8 191)], .agg [.lit (.int .u8 128), .lit (.int .u8 143)], .agg [.lit (.int .u8 0), .lit (.int .u8 0)], .agg [.lit (.int .u8 0), .lit (.int .u8 0)], .agg [.lit (.int .u8 0), .lit (.int .u8 0)], .agg [.lit (.int .u8 0), .lit (.int .u8 0)], .agg [.lit (.int .u8 0), .lit (.int .u8 0)], .agg [.lit (.int .u8 0), .lit (.int .u8 0)], .agg [.lit (.int .u8 0), .lit (.int .u8 0)], .agg [.lit (.int .u8 0), .lit (.int .u8 0)], .agg [.lit (.int .u8 0), .lit (.int .u8 0)], .agg [.lit (.int .u8 0), .lit (.int .u8 0)], .agg [.lit (.int .u8 0), .lit (.int .u8 0)]]
/-- One of Go's own tables, pinned by name: the form's constant. -/
def laid_unicode_utf8_first : DataW Unit := Go.Pinned.utf8First

/-- 'groynelaw07.PickBest': WHATEVER THE INPUT: true; the input reads as it did. -/
def pickBestSpec : ChangeSpec := { name := "pickBest", fn := fun _ => fun
  | [d1, d2, d3] => { results := [.lit (.bool true)], args := [d1, d2, d3] }
  | _ => none }
def pickBestRow : OpenClaim := { program := "ytepifkmileilfaadoor", sum := "5c374186e9e7cadef8f99077cf71d770458fba28f2a63a36a44e5269b6ae019d", func := "groyne/groynelaw07.PickBest", spec := "pickBest", inPlace := ["internal/bytealg.IndexByteString", "internal/bytealg.IndexString"], unfollowed := true, recurses := true, named := ["unicode/utf8.first", "unicode/utf8.acceptRanges", "internal/bytealg.MaxLen"], plainKeys := false, apart := false, laid := [("unicode/utf8.acceptRanges", laid_unicode_utf8_acceptRanges), ("unicode/utf8.first", laid_unicode_utf8_first)] }
def PickBestSaid : Prop := pickBestRow.holds Tryd.pinned (OpenSpec.ofChange pickBestSpec)

/-- ITS FALSE NEIGHBOUR: 'it returns false'. Refute it at one input. -/
def pickBestWrong : ChangeSpec := { name := "pickBest", fn := fun _ => fun
  | [d1, d2, d3] => { results := [.lit (.bool false)], args := [d1, d2, d3] }
  | _ => none }
def PickBestWrongFalsely : Prop := pickBestRow.holds Tryd.pinned (OpenSpec.ofChange pickBestWrong)

/-- 'groynelaw07.PickOne': WHATEVER THE INPUT: true; the input reads as it did. -/
def pickOneSpec : ChangeSpec := { name := "pickOne", fn := fun _ => fun
  | [d1, d2, d3] => { results := [.lit (.bool true)], args := [d1, d2, d3] }
  | _ => none }
def pickOneRow : OpenClaim := { program := "ytepifkmileilfaadoor", sum := "5c374186e9e7cadef8f99077cf71d770458fba28f2a63a36a44e5269b6ae019d", func := "groyne/groynelaw07.PickOne", spec := "pickOne", inPlace := ["internal/bytealg.IndexByteString", "internal/bytealg.IndexString"], unfollowed := true, recurses := true, named := ["unicode/utf8.first", "unicode/utf8.acceptRanges", "internal/bytealg.MaxLen"], plainKeys := false, apart := false, laid := [("unicode/utf8.acceptRanges", laid_unicode_utf8_acceptRanges), ("unicode/utf8.first", laid_unicode_utf8_first)] }
def PickOneSaid : Prop := pickOneRow.holds Tryd.pinned (OpenSpec.ofChange pickOneSpec)

/-- ITS FALSE NEIGHBOUR: 'it returns false'. Refute it at one input. -/
def pickOneWrong : ChangeSpec := { name := "pickOne", fn := fun _ => fun
  | [d1, d2, d3] => { results := [.lit (.bool false)], args := [d1, d2, d3] }
  | _ => none }
def PickOneWrongFalsely : Prop := pickOneRow.holds Tryd.pinned (OpenSpec.ofChange pickOneWrong)

/-- 'groynelaw04.RecordShort': WHATEVER THE INPUT: true; the input reads as it did. -/
def recordShortSpec : ChangeSpec := { name := "recordShort", fn := fun _ => fun
  | [d1, d2] => { results := [.lit (.bool true)], args := [d1, d2] }
  | _ => none }
def recordShortRow : OpenClaim := { program := "ytepifkmileilfaadoor", sum := "5c374186e9e7cadef8f99077cf71d770458fba28f2a63a36a44e5269b6ae019d", func := "groyne/groynelaw04.RecordShort", spec := "recordShort", inPlace := ["internal/bytealg.IndexByteString", "internal/bytealg.IndexString"], unfollowed := true, recurses := true, named := ["unicode/utf8.first", "unicode/utf8.acceptRanges", "internal/bytealg.MaxLen"], plainKeys := false, apart := false, laid := [("unicode/utf8.acceptRanges", laid_unicode_utf8_acceptRanges), ("unicode/utf8.first", laid_unicode_utf8_first)] }
def RecordShortSaid : Prop := recordShortRow.holds Tryd.pinned (OpenSpec.ofChange recordShortSpec)

/-- ITS FALSE NEIGHBOUR: 'it returns false'. Refute it at one input. -/
def recordShortWrong : ChangeSpec := { name := "recordShort", fn := fun _ => fun
  | [d1, d2] => { results := [.lit (.bool false)], args := [d1, d2] }
  | _ => none }
def RecordShortWrongFalsely : Prop := recordShortRow.holds Tryd.pinned (OpenSpec.ofChange recordShortWrong)

/-- 'groynelaw05.TableKinds': WHATEVER THE INPUT: true; the input reads as it did. -/
def tableKindsSpec : ChangeSpec := { name := "tableKinds", fn := fun _ => fun
  | [d] => { results := [.lit (.bool true)], args := [d] }
  | _ => none }
def tableKindsRow : OpenClaim := { program := "ytepifkmileilfaadoor", sum := "5c374186e9e7cadef8f99077cf71d770458fba28f2a63a36a44e5269b6ae019d", func := "groyne/groynelaw05.TableKinds", spec := "tableKinds", inPlace := ["internal/bytealg.IndexByteString", "internal/bytealg.IndexString", "internal/bytealg.abigen_runtime_cmpstring"], unfollowed := true, recurses := true, named := ["unicode/utf8.first", "unicode/utf8.acceptRanges", "internal/bytealg.MaxLen"], plainKeys := false, apart := false, laid := [("unicode/utf8.acceptRanges", laid_unicode_utf8_acceptRanges), ("unicode/utf8.first", laid_unicode_utf8_first)] }
def TableKindsSaid : Prop := tableKindsRow.holds Tryd.pinned (OpenSpec.ofChange tableKindsSpec)

/-- ITS FALSE NEIGHBOUR: 'it returns false'. Refute it at one input. -/
def tableKindsWrong : ChangeSpec := { name := "tableKinds", fn := fun _ => fun
  | [d] => { results := [.lit (.bool false)], args := [d] }
  | _ => none }
def TableKindsWrongFalsely : Prop := tableKindsRow.holds Tryd.pinned (OpenSpec.ofChange tableKindsWrong)

/-- 'groynelaw05.TableUnlike': WHATEVER THE INPUT: true; the input reads as it did. -/
def tableUnlikeSpec : ChangeSpec := { name := "tableUnlike", fn := fun _ => fun
  | [d1, d2] => { results := [.lit (.bool true)], args := [d1, d2] }
  | _ => none }
def tableUnlikeRow : OpenClaim := { program := "ytepifkmileilfaadoor", sum := "5c374186e9e7cadef8f99077cf71d770458fba28f2a63a36a44e5269b6ae019d", func := "groyne/groynelaw05.TableUnlike", spec := "tableUnlike", inPlace := ["internal/bytealg.IndexByteString", "internal/bytealg.IndexString", "internal/bytealg.abigen_runtime_cmpstring"], unfollowed := true, recurses := true, named := ["unicode/utf8.first", "unicode/utf8.acceptRanges", "internal/bytealg.MaxLen"], plainKeys := false, apart := false, laid := [("unicode/utf8.acceptRanges", laid_unicode_utf8_acceptRanges), ("unicode/utf8.first", laid_unicode_utf8_first)] }
def TableUnlikeSaid : Prop := tableUnlikeRow.holds Tryd.pinned (OpenSpec.ofChange tableUnlikeSpec)

/-- ITS FALSE NEIGHBOUR: 'it returns false'. Refute it at one input. -/
def tableUnlikeWrong : ChangeSpec := { name := "tableUnlike", fn := fun _ => fun
  | [d1, d2] => { results := [.lit (.bool false)], args := [d1, d2] }
  | _ => none }
def TableUnlikeWrongFalsely : Prop := tableUnlikeRow.holds Tryd.pinned (OpenSpec.ofChange tableUnlikeWrong)

/-- 'groynelaw04.RecordKey': WHATEVER THE INPUT: true; the input reads as it did. -/
def recordKeySpec : ChangeSpec := { name := "recordKey", fn := fun _ => fun
  | [d1, d2] => { results := [.lit (.bool true)], args := [d1, d2] }
  | _ => none }
def recordKeyRow : OpenClaim := { program := "ytepifkmileilfaadoor", sum := "5c374186e9e7cadef8f99077cf71d770458fba28f2a63a36a44e5269b6ae019d", func := "groyne/groynelaw04.RecordKey", spec := "recordKey", inPlace := ["internal/bytealg.IndexByteString", "internal/bytealg.IndexString"], unfollowed := true, recurses := true, named := ["unicode/utf8.first", "unicode/utf8.acceptRanges", "internal/bytealg.MaxLen"], plainKeys := false, apart := false, laid := [("unicode/utf8.acceptRanges", laid_unicode_utf8_acceptRanges), ("unicode/utf8.first", laid_unicode_utf8_first)] }
def RecordKeySaid : Prop := recordKeyRow.holds Tryd.pinned (OpenSpec.ofChange recordKeySpec)

/-- ITS FALSE NEIGHBOUR: 'it returns false'. Refute it at one input. -/
def recordKeyWrong : ChangeSpec := { name := "recordKey", fn := fun _ => fun
  | [d1, d2] => { results := [.lit (.bool false)], args := [d1, d2] }
  | _ => none }
def RecordKeyWrongFalsely : Prop := recordKeyRow.holds Tryd.pinned (OpenSpec.ofChange recordKeyWrong)

/-- 'groynelaw04.RecordNone': WHATEVER THE INPUT: true; the input reads as it did. -/
def recordNoneSpec : ChangeSpec := { name := "recordNone", fn := fun _ => fun
  | [d] => { results := [.lit (.bool true)], args := [d] }
  | _ => none }
def recordNoneRow : OpenClaim := { program := "ytepifkmileilfaadoor", sum := "5c374186e9e7cadef8f99077cf71d770458fba28f2a63a36a44e5269b6ae019d", func := "groyne/groynelaw04.RecordNone", spec := "recordNone", inPlace := ["internal/bytealg.IndexByteString", "internal/bytealg.IndexString"], unfollowed := true, recurses := true, named := ["unicode/utf8.first", "unicode/utf8.acceptRanges", "internal/bytealg.MaxLen"], plainKeys := false, apart := false, laid := [("unicode/utf8.acceptRanges", laid_unicode_utf8_acceptRanges), ("unicode/utf8.first", laid_unicode_utf8_first)] }
def RecordNoneSaid : Prop := recordNoneRow.holds Tryd.pinned (OpenSpec.ofChange recordNoneSpec)

/-- ITS FALSE NEIGHBOUR: 'it returns false'. Refute it at one input. -/
def recordNoneWrong : ChangeSpec := { name := "recordNone", fn := fun _ => fun
  | [d] => { results := [.lit (.bool false)], args := [d] }
  | _ => none }
def RecordNoneWrongFalsely : Prop := recordNoneRow.holds Tryd.pinned (OpenSpec.ofChange recordNoneWrong)

/-- 'groynelaw04.RecordOnce': WHATEVER THE INPUT: true; the input reads as it did. -/
def recordOnceSpec : ChangeSpec := { name := "recordOnce", fn := fun _ => fun
  | [d] => { results := [.lit (.bool true)], args := [d] }
  | _ => none }
def recordOnceRow : OpenClaim := { program := "ytepifkmileilfaadoor", sum := "5c374186e9e7cadef8f99077cf71d770458fba28f2a63a36a44e5269b6ae019d", func := "groyne/groynelaw04.RecordOnce", spec := "recordOnce", inPlace := ["internal/bytealg.IndexByteString", "internal/bytealg.IndexString"], unfollowed := true, recurses := true, named := ["unicode/utf8.first", "unicode/utf8.acceptRanges", "internal/bytealg.MaxLen"], plainKeys := false, apart := false, laid := [("unicode/utf8.acceptRanges", laid_unicode_utf8_acceptRanges), ("unicode/utf8.first", laid_unicode_utf8_first)] }
def RecordOnceSaid : Prop := recordOnceRow.holds Tryd.pinned (OpenSpec.ofChange recordOnceSpec)

/-- ITS FALSE NEIGHBOUR: 'it returns false'. Refute it at one input. -/
def recordOnceWrong : ChangeSpec := { name := "recordOnce", fn := fun _ => fun
  | [d] => { results := [.lit (.bool false)], args := [d] }
  | _ => none }
def RecordOnceWrongFalsely : Prop := recordOnceRow.holds Tryd.pinned (OpenSpec.ofChange recordOnceWrong)

/-- 'groynelaw05.TableOrder': WHATEVER THE INPUT: true; the input reads as it did. -/
def tableOrderSpec : ChangeSpec := { name := "tableOrder", fn := fun _ => fun
  | [d] => { results := [.lit (.bool true)], args := [d] }
  | _ => none }
def tableOrderRow : OpenClaim := { program := "ytepifkmileilfaadoor", sum := "5c374186e9e7cadef8f99077cf71d770458fba28f2a63a36a44e5269b6ae019d", func := "groyne/groynelaw05.TableOrder", spec := "tableOrder", inPlace := ["internal/bytealg.IndexByteString", "internal/bytealg.IndexString", "internal/bytealg.abigen_runtime_cmpstring"], unfollowed := true, recurses := true, named := ["unicode/utf8.first", "unicode/utf8.acceptRanges", "internal/bytealg.MaxLen"], plainKeys := false, apart := false, laid := [("unicode/utf8.acceptRanges", laid_unicode_utf8_acceptRanges), ("unicode/utf8.first", laid_unicode_utf8_first)] }
def TableOrderSaid : Prop := tableOrderRow.holds Tryd.pinned (OpenSpec.ofChange tableOrderSpec)

/-- ITS FALSE NEIGHBOUR: 'it returns false'. Refute it at one input. -/
def tableOrderWrong : ChangeSpec := { name := "tableOrder", fn := fun _ => fun
  | [d] => { results := [.lit (.bool false)], args := [d] }
  | _ => none }
def TableOrderWrongFalsely : Prop := tableOrderRow.holds Tryd.pinned (OpenSpec.ofChange tableOrderWrong)

/-- 'groynelaw05.TableWith': WHATEVER THE INPUT: true; the input reads as it did. -/
def tableWithSpec : ChangeSpec := { name := "tableWith", fn := fun _ => fun
  | [d1, d2, d3] => { results := [.lit (.bool true)], args := [d1, d2, d3] }
  | _ => none }
def tableWithRow : OpenClaim := { program := "ytepifkmileilfaadoor", sum := "5c374186e9e7cadef8f99077cf71d770458fba28f2a63a36a44e5269b6ae019d", func := "groyne/groynelaw05.TableWith", spec := "tableWith", inPlace := ["internal/bytealg.IndexByteString", "internal/bytealg.IndexString", "internal/bytealg.abigen_runtime_cmpstring"], unfollowed := true, recurses := true, named := ["unicode/utf8.first", "unicode/utf8.acceptRanges", "internal/bytealg.MaxLen"], plainKeys := false, apart := false, laid := [("unicode/utf8.acceptRanges", laid_unicode_utf8_acceptRanges), ("unicode/utf8.first", laid_unicode_utf8_first)] }
def TableWithSaid : Prop := tableWithRow.holds Tryd.pinned (OpenSpec.ofChange tableWithSpec)

/-- ITS FALSE NEIGHBOUR: 'it returns false'. Refute it at one input. -/
def tableWithWrong : ChangeSpec := { name := "tableWith", fn := fun _ => fun
  | [d1, d2, d3] => { results := [.lit (.bool false)], args := [d1, d2, d3] }
  | _ => none }
def TableWithWrongFalsely : Prop := tableWithRow.holds Tryd.pinned (OpenSpec.ofChange tableWithWrong)

/-- 'groynelaw04.RecordBack': WHATEVER THE INPUT: true; the input reads as it did. -/
def recordBackSpec : ChangeSpec := { name := "recordBack", fn := fun _ => fun
  | [d1, d2, d3] => { results := [.lit (.bool true)], args := [d1, d2, d3] }
  | _ => none }
def recordBackRow : OpenClaim := { program := "ytepifkmileilfaadoor", sum := "5c374186e9e7cadef8f99077cf71d770458fba28f2a63a36a44e5269b6ae019d", func := "groyne/groynelaw04.RecordBack", spec := "recordBack", inPlace := ["internal/bytealg.IndexByteString", "internal/bytealg.IndexString"], unfollowed := true, recurses := true, named := ["unicode/utf8.first", "unicode/utf8.acceptRanges", "internal/bytealg.MaxLen"], plainKeys := false, apart := false, laid := [("unicode/utf8.acceptRanges", laid_unicode_utf8_acceptRanges), ("unicode/utf8.first", laid_unicode_utf8_first)] }
def RecordBackSaid : Prop := recordBackRow.holds Tryd.pinned (OpenSpec.ofChange recordBackSpec)

/-- ITS FALSE NEIGHBOUR: 'it returns false'. Refute it at one input. -/
def recordBackWrong : ChangeSpec := { name := "recordBack", fn := fun _ => fun
  | [d1, d2, d3] => { results := [.lit (.bool false)], args := [d1, d2, d3] }
  | _ => none }
def RecordBackWrongFalsely : Prop := recordBackRow.holds Tryd.pinned (OpenSpec.ofChange recordBackWrong)

/-- 'groynelaw05.TablePatched': WHATEVER THE INPUT: true; the input reads as it did. -/
def tablePatchedSpec : ChangeSpec := { name := "tablePatched", fn := fun _ => fun
  | [d1, d2] => { results := [.lit (.bool true)], args := [d1, d2] }
  | _ => none }
def tablePatchedRow : OpenClaim := { program := "ytepifkmileilfaadoor", sum := "5c374186e9e7cadef8f99077cf71d770458fba28f2a63a36a44e5269b6ae019d", func := "groyne/groynelaw05.TablePatched", spec := "tablePatched", inPlace := ["internal/bytealg.IndexByteString", "internal/bytealg.IndexString", "internal/bytealg.abigen_runtime_cmpstring"], unfollowed := true, recurses := true, named := ["unicode/utf8.first", "unicode/utf8.acceptRanges", "internal/bytealg.MaxLen"], plainKeys := false, apart := false, laid := [("unicode/utf8.acceptRanges", laid_unicode_utf8_acceptRanges), ("unicode/utf8.first", laid_unicode_utf8_first)] }
def TablePatchedSaid : Prop := tablePatchedRow.holds Tryd.pinned (OpenSpec.ofChange tablePatchedSpec)

/-- ITS FALSE NEIGHBOUR: 'it returns false'. Refute it at one input. -/
def tablePatchedWrong : ChangeSpec := { name := "tablePatched", fn := fun _ => fun
  | [d1, d2] => { results := [.lit (.bool false)], args := [d1, d2] }
  | _ => none }
def TablePatchedWrongFalsely : Prop := tablePatchedRow.holds Tryd.pinned (OpenSpec.ofChange tablePatchedWrong)

/- THE SECOND FORM. 'bulk': how many values and letters a reading holds, each counted each time it is reached (what is shared counts as often as it is met; a slice's spare places count too). A statement '..UptoSaid' is the law's where the arguments, and the package variables that the reading takes, are together of bulk at most 1048576: NARROWER than '..Said'. Prove '..Said' where nothing that the law and all that it calls make is longer than what came in: it says more and counts as full. Else prove '..UptoSaid'. A law counts once. -/
mutual
def uptoBulk {H : Type} : DataW H → Nat
  | .lit (.string bytes) => bytes.length + 1
  | .lit _ => 1
  | .nil => 1
  | .ptr d => uptoBulk d + 1
  | .slice elems spare => uptoBulkAll elems + uptoBulkAll spare + 1
  | .agg parts => uptoBulkAll parts + 1
  | .iface _ d => uptoBulk d + 1
  | .map entries => uptoBulkEntries entries + 1
  | .held _ => 1
def uptoBulkAll {H : Type} : List (DataW H) → Nat
  | [] => 0
  | d :: r => uptoBulk d + uptoBulkAll r
def uptoBulkEntries {H : Type} : List (Lit × DataW H) → Nat
  | [] => 0
  | x :: r => uptoBulkEntry x + uptoBulkEntries r
def uptoBulkEntry {H : Type} : Lit × DataW H → Nat
  | (.string bytes, d) => bytes.length + uptoBulk d + 1
  | (_, d) => uptoBulk d + 1
 end
def uptoSmall : (H : Type) → List (DataW H) → Bool := fun _ ds => decide (uptoBulkAll ds ≤ 1048576)
def OpenSpec.upto (s : _root_.Go.ChangeSpec) : _root_.Go.OpenSpec := { _root_.Go.OpenSpec.ofChange s with cond := some uptoSmall }

/-- 'groynelaw07.PickBest', WHERE WHAT IT READS IS OF BULK AT MOST 1048576: true; the input reads as it did. -/
def pickBestUptoRow : OpenClaim := { program := "ytepifkmileilfaadoor", sum := "5c374186e9e7cadef8f99077cf71d770458fba28f2a63a36a44e5269b6ae019d", func := "groyne/groynelaw07.PickBest", spec := "pickBest", inPlace := ["internal/bytealg.IndexByteString", "internal/bytealg.IndexString"], unfollowed := true, recurses := true, named := ["unicode/utf8.first", "unicode/utf8.acceptRanges", "internal/bytealg.MaxLen"], plainKeys := false, apart := false, laid := [("unicode/utf8.acceptRanges", laid_unicode_utf8_acceptRanges), ("unicode/utf8.first", laid_unicode_utf8_first)], narrowed := true }
def PickBestUptoSaid : Prop := pickBestUptoRow.holds Tryd.pinned (OpenSpec.upto pickBestSpec)

/-- 'groynelaw07.PickOne', WHERE WHAT IT READS IS OF BULK AT MOST 1048576: true; the input reads as it did. -/
def pickOneUptoRow : OpenClaim := { program := "ytepifkmileilfaadoor", sum := "5c374186e9e7cadef8f99077cf71d770458fba28f2a63a36a44e5269b6ae019d", func := "groyne/groynelaw07.PickOne", spec := "pickOne", inPlace := ["internal/bytealg.IndexByteString", "internal/bytealg.IndexString"], unfollowed := true, recurses := true, named := ["unicode/utf8.first", "unicode/utf8.acceptRanges", "internal/bytealg.MaxLen"], plainKeys := false, apart := false, laid := [("unicode/utf8.acceptRanges", laid_unicode_utf8_acceptRanges), ("unicode/utf8.first", laid_unicode_utf8_first)], narrowed := true }
def PickOneUptoSaid : Prop := pickOneUptoRow.holds Tryd.pinned (OpenSpec.upto pickOneSpec)

/-- 'groynelaw04.RecordShort', WHERE WHAT IT READS IS OF BULK AT MOST 1048576: true; the input reads as it did. -/
def recordShortUptoRow : OpenClaim := { program := "ytepifkmileilfaadoor", sum := "5c374186e9e7cadef8f99077cf71d770458fba28f2a63a36a44e5269b6ae019d", func := "groyne/groynelaw04.RecordShort", spec := "recordShort", inPlace := ["internal/bytealg.IndexByteString", "internal/bytealg.IndexString"], unfollowed := true, recurses := true, named := ["unicode/utf8.first", "unicode/utf8.acceptRanges", "internal/bytealg.MaxLen"], plainKeys := false, apart := false, laid := [("unicode/utf8.acceptRanges", laid_unicode_utf8_acceptRanges), ("unicode/utf8.first", laid_unicode_utf8_first)], narrowed := true }
def RecordShortUptoSaid : Prop := recordShortUptoRow.holds Tryd.pinned (OpenSpec.upto recordShortSpec)

/-- 'groynelaw05.TableKinds', WHERE WHAT IT READS IS OF BULK AT MOST 1048576: true; the input reads as it did. -/
def tableKindsUptoRow : OpenClaim := { program := "ytepifkmileilfaadoor", sum := "5c374186e9e7cadef8f99077cf71d770458fba28f2a63a36a44e5269b6ae019d", func := "groyne/groynelaw05.TableKinds", spec := "tableKinds", inPlace := ["internal/bytealg.IndexByteString", "internal/bytealg.IndexString", "internal/bytealg.abigen_runtime_cmpstring"], unfollowed := true, recurses := true, named := ["unicode/utf8.first", "unicode/utf8.acceptRanges", "internal/bytealg.MaxLen"], plainKeys := false, apart := false, laid := [("unicode/utf8.acceptRanges", laid_unicode_utf8_acceptRanges), ("unicode/utf8.first", laid_unicode_utf8_first)], narrowed := true }
def TableKindsUptoSaid : Prop := tableKindsUptoRow.holds Tryd.pinned (OpenSpec.upto tableKindsSpec)

/-- 'groynelaw05.TableUnlike', WHERE WHAT IT READS IS OF BULK AT MOST 1048576: true; the input reads as it did. -/
def tableUnlikeUptoRow : OpenClaim := { program := "ytepifkmileilfaadoor", sum := "5c374186e9e7cadef8f99077cf71d770458fba28f2a63a36a44e5269b6ae019d", func := "groyne/groynelaw05.TableUnlike", spec := "tableUnlike", inPlace := ["internal/bytealg.IndexByteString", "internal/bytealg.IndexString", "internal/bytealg.abigen_runtime_cmpstring"], unfollowed := true, recurses := true, named := ["unicode/utf8.first", "unicode/utf8.acceptRanges", "internal/bytealg.MaxLen"], plainKeys := false, apart := false, laid := [("unicode/utf8.acceptRanges", laid_unicode_utf8_acceptRanges), ("unicode/utf8.first", laid_unicode_utf8_first)], narrowed := true }
def TableUnlikeUptoSaid : Prop := tableUnlikeUptoRow.holds Tryd.pinned (OpenSpec.upto tableUnlikeSpec)

/-- 'groynelaw04.RecordKey', WHERE WHAT IT READS IS OF BULK AT MOST 1048576: true; the input reads as it did. -/
def recordKeyUptoRow : OpenClaim := { program := "ytepifkmileilfaadoor", sum := "5c374186e9e7cadef8f99077cf71d770458fba28f2a63a36a44e5269b6ae019d", func := "groyne/groynelaw04.RecordKey", spec := "recordKey", inPlace := ["internal/bytealg.IndexByteString", "internal/bytealg.IndexString"], unfollowed := true, recurses := true, named := ["unicode/utf8.first", "unicode/utf8.acceptRanges", "internal/bytealg.MaxLen"], plainKeys := false, apart := false, laid := [("unicode/utf8.acceptRanges", laid_unicode_utf8_acceptRanges), ("unicode/utf8.first", laid_unicode_utf8_first)], narrowed := true }
def RecordKeyUptoSaid : Prop := recordKeyUptoRow.holds Tryd.pinned (OpenSpec.upto recordKeySpec)

/-- 'groynelaw04.RecordNone', WHERE WHAT IT READS IS OF BULK AT MOST 1048576: true; the input reads as it did. -/
def recordNoneUptoRow : OpenClaim := { program := "ytepifkmileilfaadoor", sum := "5c374186e9e7cadef8f99077cf71d770458fba28f2a63a36a44e5269b6ae019d", func := "groyne/groynelaw04.RecordNone", spec := "recordNone", inPlace := ["internal/bytealg.IndexByteString", "internal/bytealg.IndexString"], unfollowed := true, recurses := true, named := ["unicode/utf8.first", "unicode/utf8.acceptRanges", "internal/bytealg.MaxLen"], plainKeys := false, apart := false, laid := [("unicode/utf8.acceptRanges", laid_unicode_utf8_acceptRanges), ("unicode/utf8.first", laid_unicode_utf8_first)], narrowed := true }
def RecordNoneUptoSaid : Prop := recordNoneUptoRow.holds Tryd.pinned (OpenSpec.upto recordNoneSpec)

/-- 'groynelaw04.RecordOnce', WHERE WHAT IT READS IS OF BULK AT MOST 1048576: true; the input reads as it did. -/
def recordOnceUptoRow : OpenClaim := { program := "ytepifkmileilfaadoor", sum := "5c374186e9e7cadef8f99077cf71d770458fba28f2a63a36a44e5269b6ae019d", func := "groyne/groynelaw04.RecordOnce", spec := "recordOnce", inPlace := ["internal/bytealg.IndexByteString", "internal/bytealg.IndexString"], unfollowed := true, recurses := true, named := ["unicode/utf8.first", "unicode/utf8.acceptRanges", "internal/bytealg.MaxLen"], plainKeys := false, apart := false, laid := [("unicode/utf8.acceptRanges", laid_unicode_utf8_acceptRanges), ("unicode/utf8.first", laid_unicode_utf8_first)], narrowed := true }
def RecordOnceUptoSaid : Prop := recordOnceUptoRow.holds Tryd.pinned (OpenSpec.upto recordOnceSpec)

/-- 'groynelaw05.TableOrder', WHERE WHAT IT READS IS OF BULK AT MOST 1048576: true; the input reads as it did. -/
def tableOrderUptoRow : OpenClaim := { program := "ytepifkmileilfaadoor", sum := "5c374186e9e7cadef8f99077cf71d770458fba28f2a63a36a44e5269b6ae019d", func := "groyne/groynelaw05.TableOrder", spec := "tableOrder", inPlace := ["internal/bytealg.IndexByteString", "internal/bytealg.IndexString", "internal/bytealg.abigen_runtime_cmpstring"], unfollowed := true, recurses := true, named := ["unicode/utf8.first", "unicode/utf8.acceptRanges", "internal/bytealg.MaxLen"], plainKeys := false, apart := false, laid := [("unicode/utf8.acceptRanges", laid_unicode_utf8_acceptRanges), ("unicode/utf8.first", laid_unicode_utf8_first)], narrowed := true }
def TableOrderUptoSaid : Prop := tableOrderUptoRow.holds Tryd.pinned (OpenSpec.upto tableOrderSpec)

/-- 'groynelaw05.TableWith', WHERE WHAT IT READS IS OF BULK AT MOST 1048576: true; the input reads as it did. -/
def tableWithUptoRow : OpenClaim := { program := "ytepifkmileilfaadoor", sum := "5c374186e9e7cadef8f99077cf71d770458fba28f2a63a36a44e5269b6ae019d", func := "groyne/groynelaw05.TableWith", spec := "tableWith", inPlace := ["internal/bytealg.IndexByteString", "internal/bytealg.IndexString", "internal/bytealg.abigen_runtime_cmpstring"], unfollowed := true, recurses := true, named := ["unicode/utf8.first", "unicode/utf8.acceptRanges", "internal/bytealg.MaxLen"], plainKeys := false, apart := false, laid := [("unicode/utf8.acceptRanges", laid_unicode_utf8_acceptRanges), ("unicode/utf8.first", laid_unicode_utf8_first)], narrowed := true }
def TableWithUptoSaid : Prop := tableWithUptoRow.holds Tryd.pinned (OpenSpec.upto tableWithSpec)

/-- 'groynelaw04.RecordBack', WHERE WHAT IT READS IS OF BULK AT MOST 1048576: true; the input reads as it did. -/
def recordBackUptoRow : OpenClaim := { program := "ytepifkmileilfaadoor", sum := "5c374186e9e7cadef8f99077cf71d770458fba28f2a63a36a44e5269b6ae019d", func := "groyne/groynelaw04.RecordBack", spec := "recordBack", inPlace := ["internal/bytealg.IndexByteString", "internal/bytealg.IndexString"], unfollowed := true, recurses := true, named := ["unicode/utf8.first", "unicode/utf8.acceptRanges", "internal/bytealg.MaxLen"], plainKeys := false, apart := false, laid := [("unicode/utf8.acceptRanges", laid_unicode_utf8_acceptRanges), ("unicode/utf8.first", laid_unicode_utf8_first)], narrowed := true }
def RecordBackUptoSaid : Prop := recordBackUptoRow.holds Tryd.pinned (OpenSpec.upto recordBackSpec)

/-- 'groynelaw05.TablePatched', WHERE WHAT IT READS IS OF BULK AT MOST 1048576: true; the input reads as it did. -/
def tablePatchedUptoRow : OpenClaim := { program := "ytepifkmileilfaadoor", sum := "5c374186e9e7cadef8f99077cf71d770458fba28f2a63a36a44e5269b6ae019d", func := "groyne/groynelaw05.TablePatched", spec := "tablePatched", inPlace := ["internal/bytealg.IndexByteString", "internal/bytealg.IndexString", "internal/bytealg.abigen_runtime_cmpstring"], unfollowed := true, recurses := true, named := ["unicode/utf8.first", "unicode/utf8.acceptRanges", "internal/bytealg.MaxLen"], plainKeys := false, apart := false, laid := [("unicode/utf8.acceptRanges", laid_unicode_utf8_acceptRanges), ("unicode/utf8.first", laid_unicode_utf8_first)], narrowed := true }
def TablePatchedUptoSaid : Prop := tablePatchedUptoRow.holds Tryd.pinned (OpenSpec.upto tablePatchedSpec)

end Rows
end Go.Proofs.YtepifkmileilfaaDoor
