/-
  NARROWER THAN 'FOR EVERY INPUT', by the rows' own cells (each row's printed sentence says how): NameMatches: laid · NameUnder: laid · NameStar: laid · NamePaths: laid · NameOrder: laid · NameNarrow: laid · PickBest: laid · PickOne: laid.
  DERIVED. THE GIVEN ROWS OF THIS SEAT. 8 by the template 'for every input the law returns true; each argument reads behind the call as it read before'; 0 by the template 'total and deterministic' (their statements: YtjomoannlpadnaaDoorTotals.lean).
  GIVEN WITH THE SEED: the statements are not yours to turn. If you find one false, say at which input.
  Laid BY PROGRAM, IN A SANDBOX (cutbox-rows.mjs): the forced cells as the released guide's own fill.sh prints them over the translation 947d10b2ea8f46c4… (all of the seat's roots in one cut). By AI agents, Wed Nov 11 2026. No macro, syntax, notation, axiom, sorry.
-/
import Derived.Test.YtjomoannlpadnaaDoorChecked
import GoSem.PinnedTables
import GoSem.Claim
import GoSem.ClaimJoined
import GoSem.ClaimMapViews
import Derived.JoinedTies
import Derived.KernelRfl
namespace Go.Proofs.YtjomoannlpadnaaDoor
/- THE CELL 'sum', in the pinned program and in every row, IS THE sha256 OF THE DUMP (.gsa) THAT YtjomoannlpadnaaDoorProg.lean LOADS. Nothing in Lean hashes anything: it is a label: what it is worth is what the hold of that sum in a sandbox is worth. -/
noncomputable def Tryd.pinned : Pinned := { name := "ytjomoannlpadnaadoor", sum := "947d10b2ea8f46c46e4df2e3b3b670ab2cf258d8ea103cda628c9830b3a4fc9a", checked := Tryd.checked }
namespace Rows
def none {H : Type} : Left H := { results := [], args := [] }

/- WHAT THE LISTED PACKAGE-LEVEL VARIABLES READ AS WHEN THE CALL BEGINS. Each datum BY PROGRAM (the guide's laid-datum.mjs) off the statement by which the dump's own 'gosem.cut.vars' lays the variable. In a bare row this is a premise. The card (YtjomoannlpadnaaDoorCards.lean) ties it to the program's text. -/
def laid_unicode_utf8_acceptRanges {H : Type} : DataW H := .agg [.agg [.lit (.int .u8 128), .lit (.int .u8 191)], .agg [.lit (.int .u8 160), .lit (.int .u8 191)], .agg [.lit (.int .u8 128), .lit (.int .u8 159)], .agg [.lit (.int .u8 144), .lit (.int .u8 191)], .agg [.lit (.int .u8 128), .lit (.int .u8 143)], .agg [.lit (.int .u8 0), .lit (.int .u8 0)], .agg [.lit (.int .u8 0), .lit (.int .u8 0)], .agg [.lit (.int .u8 0), .lit (.int .u8 0)], .agg [.lit (.int .u8 0), .lit (.int .u8 0)], .agg [.lit (.int .u8 0), .lit (.int .u8 0)], .agg [.lit (.int .u8 0), .lit (.int .u8 0)], .agg [.lit (.int .u8 0), .lit (.int .u8 0)], .agg [.lit (.int .u8 0), .lit (.int .u8 0)], .agg [.lit (.int .u8 0), .lit (.int .u8 0)], .agg [.lit (.int .u8 0), .lit (.int .u8 0)], .agg [.lit (.int .u8 0), .lit (.int .u8 0)]]
/-- One of Go's own tables, pinned by name: the form's constant. -/
def laid_unicode_utf8_first : DataW Unit := Go.Pinned.utf8First

/-- 'groynelaw01.NameMatches': WHATEVER THE INPUT: true; the input reads as it did. -/
def nameMatchesSpec : ChangeSpec := { name := "nameMatches", fn := fun _ => fun
  | [d1, d2] => { results := [.lit (.bool true)], args := [d1, d2] }
  | _ => none }
def nameMatchesRow : OpenClaim := { program := "ytjomoannlpadnaadoor", sum := "947d10b2ea8f46c46e4df2e3b3b670ab2cf258d8ea103cda628c9830b3a4fc9a", func := "groyne/groynelaw01.NameMatches", spec := "nameMatches", inPlace := ["internal/bytealg.IndexByteString", "internal/bytealg.IndexString"], unfollowed := true, recurses := true, named := ["unicode/utf8.first", "unicode/utf8.acceptRanges", "internal/bytealg.MaxLen"], apart := false, laid := [("unicode/utf8.acceptRanges", laid_unicode_utf8_acceptRanges), ("unicode/utf8.first", laid_unicode_utf8_first)] }
def NameMatchesSaid : Prop := nameMatchesRow.holds Tryd.pinned (OpenSpec.ofChange nameMatchesSpec)

/-- ITS FALSE NEIGHBOUR: 'it returns false'. Refute it at one input. -/
def nameMatchesWrong : ChangeSpec := { name := "nameMatches", fn := fun _ => fun
  | [d1, d2] => { results := [.lit (.bool false)], args := [d1, d2] }
  | _ => none }
def NameMatchesWrongFalsely : Prop := nameMatchesRow.holds Tryd.pinned (OpenSpec.ofChange nameMatchesWrong)

/-- 'groynelaw01.NameUnder': WHATEVER THE INPUT: true; the input reads as it did. -/
def nameUnderSpec : ChangeSpec := { name := "nameUnder", fn := fun _ => fun
  | [d1, d2, d3] => { results := [.lit (.bool true)], args := [d1, d2, d3] }
  | _ => none }
def nameUnderRow : OpenClaim := { program := "ytjomoannlpadnaadoor", sum := "947d10b2ea8f46c46e4df2e3b3b670ab2cf258d8ea103cda628c9830b3a4fc9a", func := "groyne/groynelaw01.NameUnder", spec := "nameUnder", inPlace := ["internal/bytealg.IndexByteString", "internal/bytealg.IndexString"], unfollowed := true, recurses := true, named := ["unicode/utf8.first", "unicode/utf8.acceptRanges", "internal/bytealg.MaxLen"], apart := false, laid := [("unicode/utf8.acceptRanges", laid_unicode_utf8_acceptRanges), ("unicode/utf8.first", laid_unicode_utf8_first)] }
def NameUnderSaid : Prop := nameUnderRow.holds Tryd.pinned (OpenSpec.ofChange nameUnderSpec)

/-- ITS FALSE NEIGHBOUR: 'it returns false'. Refute it at one input. -/
def nameUnderWrong : ChangeSpec := { name := "nameUnder", fn := fun _ => fun
  | [d1, d2, d3] => { results := [.lit (.bool false)], args := [d1, d2, d3] }
  | _ => none }
def NameUnderWrongFalsely : Prop := nameUnderRow.holds Tryd.pinned (OpenSpec.ofChange nameUnderWrong)

/-- 'groynelaw01.NameStar': WHATEVER THE INPUT: true; the input reads as it did. -/
def nameStarSpec : ChangeSpec := { name := "nameStar", fn := fun _ => fun
  | [d1, d2] => { results := [.lit (.bool true)], args := [d1, d2] }
  | _ => none }
def nameStarRow : OpenClaim := { program := "ytjomoannlpadnaadoor", sum := "947d10b2ea8f46c46e4df2e3b3b670ab2cf258d8ea103cda628c9830b3a4fc9a", func := "groyne/groynelaw01.NameStar", spec := "nameStar", inPlace := ["internal/bytealg.IndexByteString", "internal/bytealg.IndexString"], unfollowed := true, recurses := true, named := ["unicode/utf8.first", "unicode/utf8.acceptRanges", "internal/bytealg.MaxLen"], apart := false, laid := [("unicode/utf8.acceptRanges", laid_unicode_utf8_acceptRanges), ("unicode/utf8.first", laid_unicode_utf8_first)] }
def NameStarSaid : Prop := nameStarRow.holds Tryd.pinned (OpenSpec.ofChange nameStarSpec)

/-- ITS FALSE NEIGHBOUR: 'it returns false'. Refute it at one input. -/
def nameStarWrong : ChangeSpec := { name := "nameStar", fn := fun _ => fun
  | [d1, d2] => { results := [.lit (.bool false)], args := [d1, d2] }
  | _ => none }
def NameStarWrongFalsely : Prop := nameStarRow.holds Tryd.pinned (OpenSpec.ofChange nameStarWrong)

/-- 'groynelaw01.NamePaths': WHATEVER THE INPUT: true; the input reads as it did. -/
def namePathsSpec : ChangeSpec := { name := "namePaths", fn := fun _ => fun
  | [d1, d2] => { results := [.lit (.bool true)], args := [d1, d2] }
  | _ => none }
def namePathsRow : OpenClaim := { program := "ytjomoannlpadnaadoor", sum := "947d10b2ea8f46c46e4df2e3b3b670ab2cf258d8ea103cda628c9830b3a4fc9a", func := "groyne/groynelaw01.NamePaths", spec := "namePaths", inPlace := ["internal/bytealg.IndexByteString", "internal/bytealg.IndexString"], unfollowed := true, recurses := true, named := ["unicode/utf8.first", "unicode/utf8.acceptRanges", "internal/bytealg.MaxLen"], apart := false, laid := [("unicode/utf8.acceptRanges", laid_unicode_utf8_acceptRanges), ("unicode/utf8.first", laid_unicode_utf8_first)] }
def NamePathsSaid : Prop := namePathsRow.holds Tryd.pinned (OpenSpec.ofChange namePathsSpec)

/-- ITS FALSE NEIGHBOUR: 'it returns false'. Refute it at one input. -/
def namePathsWrong : ChangeSpec := { name := "namePaths", fn := fun _ => fun
  | [d1, d2] => { results := [.lit (.bool false)], args := [d1, d2] }
  | _ => none }
def NamePathsWrongFalsely : Prop := namePathsRow.holds Tryd.pinned (OpenSpec.ofChange namePathsWrong)

/-- 'groynelaw01.NameOrder': WHATEVER THE INPUT: true; the input reads as it did. -/
def nameOrderSpec : ChangeSpec := { name := "nameOrder", fn := fun _ => fun
  | [d1, d2, d3] => { results := [.lit (.bool true)], args := [d1, d2, d3] }
  | _ => none }
def nameOrderRow : OpenClaim := { program := "ytjomoannlpadnaadoor", sum := "947d10b2ea8f46c46e4df2e3b3b670ab2cf258d8ea103cda628c9830b3a4fc9a", func := "groyne/groynelaw01.NameOrder", spec := "nameOrder", inPlace := ["internal/bytealg.IndexByteString", "internal/bytealg.IndexString", "internal/bytealg.abigen_runtime_cmpstring"], unfollowed := true, recurses := true, named := ["unicode/utf8.first", "unicode/utf8.acceptRanges", "internal/bytealg.MaxLen"], apart := false, laid := [("unicode/utf8.acceptRanges", laid_unicode_utf8_acceptRanges), ("unicode/utf8.first", laid_unicode_utf8_first)] }
def NameOrderSaid : Prop := nameOrderRow.holds Tryd.pinned (OpenSpec.ofChange nameOrderSpec)

/-- ITS FALSE NEIGHBOUR: 'it returns false'. Refute it at one input. -/
def nameOrderWrong : ChangeSpec := { name := "nameOrder", fn := fun _ => fun
  | [d1, d2, d3] => { results := [.lit (.bool false)], args := [d1, d2, d3] }
  | _ => none }
def NameOrderWrongFalsely : Prop := nameOrderRow.holds Tryd.pinned (OpenSpec.ofChange nameOrderWrong)

/-- 'groynelaw01.NameNarrow': WHATEVER THE INPUT: true; the input reads as it did. -/
def nameNarrowSpec : ChangeSpec := { name := "nameNarrow", fn := fun _ => fun
  | [d1, d2, d3, d4] => { results := [.lit (.bool true)], args := [d1, d2, d3, d4] }
  | _ => none }
def nameNarrowRow : OpenClaim := { program := "ytjomoannlpadnaadoor", sum := "947d10b2ea8f46c46e4df2e3b3b670ab2cf258d8ea103cda628c9830b3a4fc9a", func := "groyne/groynelaw01.NameNarrow", spec := "nameNarrow", inPlace := ["internal/bytealg.IndexByteString", "internal/bytealg.IndexString"], unfollowed := true, recurses := true, named := ["unicode/utf8.first", "unicode/utf8.acceptRanges", "internal/bytealg.MaxLen"], apart := false, laid := [("unicode/utf8.acceptRanges", laid_unicode_utf8_acceptRanges), ("unicode/utf8.first", laid_unicode_utf8_first)] }
def NameNarrowSaid : Prop := nameNarrowRow.holds Tryd.pinned (OpenSpec.ofChange nameNarrowSpec)

/-- ITS FALSE NEIGHBOUR: 'it returns false'. Refute it at one input. -/
def nameNarrowWrong : ChangeSpec := { name := "nameNarrow", fn := fun _ => fun
  | [d1, d2, d3, d4] => { results := [.lit (.bool false)], args := [d1, d2, d3, d4] }
  | _ => none }
def NameNarrowWrongFalsely : Prop := nameNarrowRow.holds Tryd.pinned (OpenSpec.ofChange nameNarrowWrong)

/-- 'groynelaw07.PickBest': WHATEVER THE INPUT: true; the input reads as it did. -/
def pickBestSpec : ChangeSpec := { name := "pickBest", fn := fun _ => fun
  | [d1, d2, d3] => { results := [.lit (.bool true)], args := [d1, d2, d3] }
  | _ => none }
def pickBestRow : OpenClaim := { program := "ytjomoannlpadnaadoor", sum := "947d10b2ea8f46c46e4df2e3b3b670ab2cf258d8ea103cda628c9830b3a4fc9a", func := "groyne/groynelaw07.PickBest", spec := "pickBest", inPlace := ["internal/bytealg.IndexByteString", "internal/bytealg.IndexString"], unfollowed := true, recurses := true, named := ["unicode/utf8.first", "unicode/utf8.acceptRanges", "internal/bytealg.MaxLen"], apart := false, laid := [("unicode/utf8.acceptRanges", laid_unicode_utf8_acceptRanges), ("unicode/utf8.first", laid_unicode_utf8_first)] }
def PickBestSaid : Prop := pickBestRow.holds Tryd.pinned (OpenSpec.ofChange pickBestSpec)

/-- ITS FALSE NEIGHBOUR: 'it returns false'. Refute it at one input. -/
def pickBestWrong : ChangeSpec := { name := "pickBest", fn := fun _ => fun
  | [d1, d2, d3] => { results := [.lit (.bool false)], args := [d1, d2, d3] }
  | _ => none }
def PickBestWrongFalsely : Prop := pickBestRow.holds Tryd.pinned (OpenSpec.ofChange pickBestWrong)

/-- 'groynelaw07.PickOne': WHATEVER THE INPUT: true; the input reads as it did. -/
def pickOneSpec : ChangeSpec := { name := "pickOne", fn := fun _ => fun
  | [d1, d2, d3] => { results := [.lit (.bool true)], args := [d1, d2, d3] }
  | _ => none }
def pickOneRow : OpenClaim := { program := "ytjomoannlpadnaadoor", sum := "947d10b2ea8f46c46e4df2e3b3b670ab2cf258d8ea103cda628c9830b3a4fc9a", func := "groyne/groynelaw07.PickOne", spec := "pickOne", inPlace := ["internal/bytealg.IndexByteString", "internal/bytealg.IndexString"], unfollowed := true, recurses := true, named := ["unicode/utf8.first", "unicode/utf8.acceptRanges", "internal/bytealg.MaxLen"], apart := false, laid := [("unicode/utf8.acceptRanges", laid_unicode_utf8_acceptRanges), ("unicode/utf8.first", laid_unicode_utf8_first)] }
def PickOneSaid : Prop := pickOneRow.holds Tryd.pinned (OpenSpec.ofChange pickOneSpec)

/-- ITS FALSE NEIGHBOUR: 'it returns false'. Refute it at one input. -/
def pickOneWrong : ChangeSpec := { name := "pickOne", fn := fun _ => fun
  | [d1, d2, d3] => { results := [.lit (.bool false)], args := [d1, d2, d3] }
  | _ => none }
def PickOneWrongFalsely : Prop := pickOneRow.holds Tryd.pinned (OpenSpec.ofChange pickOneWrong)

/- THE SECOND FORM. 'bulk': how many values and letters a reading holds, each counted each time it is reached (what is shared counts as often as it is met; a slice's spare places count too). A statement '..UptoSaid' is the law's where the arguments, and the package variables that the reading takes, are together of bulk at most 1048576: NARROWER than '..Said'. Prove '..Said' where nothing that the law and all that it calls make is longer than what came in: it says more and counts as full. Else prove '..UptoSaid'. A law counts once. -/
mutual
def uptoBulk {H : Type} : DataW H → Nat
  | .lit (.string bytes) => bytes.length + 1
  | .lit _ => 1
  | .nil => 1
  | .ptr d => uptoBulk d + 1
  | .slice elems spare => uptoBulkAll elems + uptoBulkAll spare + 1
  | .agg parts => uptoBulkAll parts + 1
  | .iface _ d => uptoBulk d + 1
  | .map entries => uptoBulkEntries entries + 1
  | .held _ => 1
def uptoBulkAll {H : Type} : List (DataW H) → Nat
  | [] => 0
  | d :: r => uptoBulk d + uptoBulkAll r
def uptoBulkEntries {H : Type} : List (Lit × DataW H) → Nat
  | [] => 0
  | x :: r => uptoBulkEntry x + uptoBulkEntries r
def uptoBulkEntry {H : Type} : Lit × DataW H → Nat
  | (.string bytes, d) => bytes.length + uptoBulk d + 1
  | (_, d) => uptoBulk d + 1
 end
def uptoSmall : (H : Type) → List (DataW H) → Bool := fun _ ds => decide (uptoBulkAll ds ≤ 1048576)
def OpenSpec.upto (s : _root_.Go.ChangeSpec) : _root_.Go.OpenSpec := { _root_.Go.OpenSpec.ofChange s with cond := some uptoSmall }

/-- 'groynelaw01.NameMatches', WHERE WHAT IT READS IS OF BULK AT MOST 1048576: true; the input reads as it did. -/
def nameMatchesUptoRow : OpenClaim := { program := "ytjomoannlpadnaadoor", sum := "947d10b2ea8f46c46e4df2e3b3b670ab2cf258d8ea103cda628c9830b3a4fc9a", func := "groyne/groynelaw01.NameMatches", spec := "nameMatches", inPlace := ["internal/bytealg.IndexByteString", "internal/bytealg.IndexString"], unfollowed := true, recurses := true, named := ["unicode/utf8.first", "unicode/utf8.acceptRanges", "internal/bytealg.MaxLen"], apart := false, laid := [("unicode/utf8.acceptRanges", laid_unicode_utf8_acceptRanges), ("unicode/utf8.first", laid_unicode_utf8_first)], narrowed := true }
def NameMatchesUptoSaid : Prop := nameMatchesUptoRow.holds Tryd.pinned (OpenSpec.upto nameMatchesSpec)

/-- 'groynelaw01.NameUnder', WHERE WHAT IT READS IS OF BULK AT MOST 1048576: true; the input reads as it did. -/
def nameUnderUptoRow : OpenClaim := { program := "ytjomoannlpadnaadoor", sum := "947d10b2ea8f46c46e4df2e3b3b670ab2cf258d8ea103cda628c9830b3a4fc9a", func := "groyne/groynelaw01.NameUnder", spec := "nameUnder", inPlace := ["internal/bytealg.IndexByteString", "internal/bytealg.IndexString"], unfollowed := true, recurses := true, named := ["unicode/utf8.first", "unicode/utf8.acceptRanges", "internal/bytealg.MaxLen"], apart := false, laid := [("unicode/utf8.acceptRanges", laid_unicode_utf8_acceptRanges), ("unicode/utf8.first", laid_unicode_utf8_first)], narrowed := true }
def NameUnderUptoSaid : Prop := nameUnderUptoRow.holds Tryd.pinned (OpenSpec.upto nameUnderSpec)

/-- 'groynelaw01.NameStar', WHERE WHAT IT READS IS OF BULK AT MOST 1048576: true; the input reads as it did. -/
def nameStarUptoRow : OpenClaim := { program := "ytjomoannlpadnaadoor", sum := "947d10b2ea8f46c46e4df2e3b3b670ab2cf258d8ea103cda628c9830b3a4fc9a", func := "groyne/groynelaw01.NameStar", spec := "nameStar", inPlace := ["internal/bytealg.IndexByteString", "internal/bytealg.IndexString"], unfollowed := true, recurses := true, named := ["unicode/utf8.first", "unicode/utf8.acceptRanges", "internal/bytealg.MaxLen"], apart := false, laid := [("unicode/utf8.acceptRanges", laid_unicode_utf8_acceptRanges), ("unicode/utf8.first", laid_unicode_utf8_first)], narrowed := true }
def NameStarUptoSaid : Prop := nameStarUptoRow.holds Tryd.pinned (OpenSpec.upto nameStarSpec)

/-- 'groynelaw01.NamePaths', WHERE WHAT IT READS IS OF BULK AT MOST 1048576: true; the input reads as it did. -/
def namePathsUptoRow : OpenClaim := { program := "ytjomoannlpadnaadoor", sum := "947d10b2ea8f46c46e4df2e3b3b670ab2cf258d8ea103cda628c9830b3a4fc9a", func := "groyne/groynelaw01.NamePaths", spec := "namePaths", inPlace := ["internal/bytealg.IndexByteString", "internal/bytealg.IndexString"], unfollowed := true, recurses := true, named := ["unicode/utf8.first", "unicode/utf8.acceptRanges", "internal/bytealg.MaxLen"], apart := false, laid := [("unicode/utf8.acceptRanges", laid_unicode_utf8_acceptRanges), ("unicode/utf8.first", laid_unicode_utf8_first)], narrowed := true }
def NamePathsUptoSaid : Prop := namePathsUptoRow.holds Tryd.pinned (OpenSpec.upto namePathsSpec)

/-- 'groynelaw01.NameOrder', WHERE WHAT IT READS IS OF BULK AT MOST 1048576: true; the input reads as it did. -/
def nameOrderUptoRow : OpenClaim := { program := "ytjomoannlpadnaadoor", sum := "947d10b2ea8f46c46e4df2e3b3b670ab2cf258d8ea103cda628c9830b3a4fc9a", func := "groyne/groynelaw01.NameOrder", spec := "nameOrder", inPlace := ["internal/bytealg.IndexByteString", "internal/bytealg.IndexString", "internal/bytealg.abigen_runtime_cmpstring"], unfollowed := true, recurses := true, named := ["unicode/utf8.first", "unicode/utf8.acceptRanges", "internal/bytealg.MaxLen"], apart := false, laid := [("unicode/utf8.acceptRanges", laid_unicode_utf8_acceptRanges), ("unicode/utf8.first", laid_unicode_utf8_first)], narrowed := true }
def NameOrderUptoSaid : Prop := nameOrderUptoRow.holds Tryd.pinned (OpenSpec.upto nameOrderSpec)

/-- 'groynelaw01.NameNarrow', WHERE WHAT IT READS IS OF BULK AT MOST 1048576: true; the input reads as it did. -/
def nameNarrowUptoRow : OpenClaim := { program := "ytjomoannlpadnaadoor", sum := "947d10b2ea8f46c46e4df2e3b3b670ab2cf258d8ea103cda628c9830b3a4fc9a", func := "groyne/groynelaw01.NameNarrow", spec := "nameNarrow", inPlace := ["internal/bytealg.IndexByteString", "internal/bytealg.IndexString"], unfollowed := true, recurses := true, named := ["unicode/utf8.first", "unicode/utf8.acceptRanges", "internal/bytealg.MaxLen"], apart := false, laid := [("unicode/utf8.acceptRanges", laid_unicode_utf8_acceptRanges), ("unicode/utf8.first", laid_unicode_utf8_first)], narrowed := true }
def NameNarrowUptoSaid : Prop := nameNarrowUptoRow.holds Tryd.pinned (OpenSpec.upto nameNarrowSpec)

/-- 'groynelaw07.PickBest', WHERE WHAT IT READS IS OF BULK AT MOST 1048576: true; the input reads as it did. -/
def pickBestUptoRow : OpenClaim := { program := "ytjomoannlpadnaadoor", sum := "947d10b2ea8f46c46e4df2e3b3b670ab2cf258d8ea103cda628c9830b3a4fc9a", func := "groyne/groynelaw07.PickBest", spec := "pickBest", inPlace := ["internal/bytealg.IndexByteString", "internal/bytealg.IndexString"], unfollowed := true, recurses := true, named := ["unicode/utf8.first", "unicode/utf8.acceptRanges", "internal/bytealg.MaxLen"], apart := false, laid := [("unicode/utf8.acceptRanges", laid_unicode_utf8_acceptRanges), ("unicode/utf8.first", laid_unicode_utf8_first)], narrowed := true }
def PickBestUptoSaid : Prop := pickBestUptoRow.holds Tryd.pinned (OpenSpec.upto pickBestSpec)

/-- 'groynelaw07.PickOne', WHERE WHAT IT READS IS OF BULK AT MOST 1048576: true; the input reads as it did. -/
def pickOneUptoRow : OpenClaim := { program := "ytjomoannlpadnaadoor", sum := "947d10b2ea8f46c46e4df2e3b3b670ab2cf258d8ea103cda628c9830b3a4fc9a", func := "groyne/groynelaw07.PickOne", spec := "pickOne", inPlace := ["internal/bytealg.IndexByteString", "internal/bytealg.IndexString"], unfollowed := true, recurses := true, named := ["unicode/utf8.first", "unicode/utf8.acceptRanges", "internal/bytealg.MaxLen"], apart := false, laid := [("unicode/utf8.acceptRanges", laid_unicode_utf8_acceptRanges), ("unicode/utf8.first", laid_unicode_utf8_first)], narrowed := true }
def PickOneUptoSaid : Prop := pickOneUptoRow.holds Tryd.pinned (OpenSpec.upto pickOneSpec)

end Rows
end Go.Proofs.YtjomoannlpadnaaDoor
