/-
  DERIVED. GIVEN WITH THE SEED: THE CARDS: each row of YtepifkmileilfaaDoorRows.lean that lists a variable, with what it lists TIED to the program's text (the seventh form; the later family's looks); each row that meets fmt, with fmt's text TOLD by the authors' own Lean function (tested against real Go, not proved from fmt's source: count such statements apart). THE CARD IS WHAT COUNTS. Prove the row's statement (the work); the ties are given (YtepifkmileilfaaDoorTie.lean); close each card by the builder's one call (the guide's Derived/Test/ToyasCard.lean, 'card_holds'). Laid BY PROGRAM, IN A SANDBOX (cutbox-door.mjs). By AI agents, Wed Nov 11 2026. No macro, syntax, notation, axiom, sorry.
-/
import Derived.Test.YtepifkmileilfaaDoorRows
import GoSem.ClaimSeven
namespace Go.Proofs.YtepifkmileilfaaDoor
namespace Rows

/-- THE TIED CARD OF 'groynelaw07.PickBest'. -/
def pickBestCard : Claim7 := { stood := { row := pickBestRow, standIns := [], harness := (true, "3a24f8f75f34d698582d14295f887a4efb9a761903b279b8a21d51115f85b303"), looks := false }, kinds := [], alts := [], laidByText := true, laidKinds := [.data, .pinned], laidTests := true, laidLooks := .later }
def PickBestCardSaid : Prop := Claim7.holds Tryd.pinned (.plain (OpenSpec.ofChange pickBestSpec)) pickBestCard

/-- THE TIED CARD OF 'groynelaw07.PickOne'. -/
def pickOneCard : Claim7 := { stood := { row := pickOneRow, standIns := [], harness := (true, "3a24f8f75f34d698582d14295f887a4efb9a761903b279b8a21d51115f85b303"), looks := false }, kinds := [], alts := [], laidByText := true, laidKinds := [.data, .pinned], laidTests := true, laidLooks := .later }
def PickOneCardSaid : Prop := Claim7.holds Tryd.pinned (.plain (OpenSpec.ofChange pickOneSpec)) pickOneCard

/-- THE TIED CARD OF 'groynelaw04.RecordShort'. -/
def recordShortCard : Claim7 := { stood := { row := recordShortRow, standIns := [], harness := (true, "3a24f8f75f34d698582d14295f887a4efb9a761903b279b8a21d51115f85b303"), looks := false }, kinds := [], alts := [], laidByText := true, laidKinds := [.data, .pinned], laidTests := true, laidLooks := .later }
def RecordShortCardSaid : Prop := Claim7.holds Tryd.pinned (.plain (OpenSpec.ofChange recordShortSpec)) recordShortCard

/-- THE TIED CARD OF 'groynelaw05.TableKinds'. -/
def tableKindsCard : Claim7 := { stood := { row := tableKindsRow, standIns := [], harness := (true, "3a24f8f75f34d698582d14295f887a4efb9a761903b279b8a21d51115f85b303"), looks := false }, kinds := [], alts := [], laidByText := true, laidKinds := [.data, .pinned], laidTests := true, laidLooks := .later }
def TableKindsCardSaid : Prop := Claim7.holds Tryd.pinned (.plain (OpenSpec.ofChange tableKindsSpec)) tableKindsCard

/-- THE TIED CARD OF 'groynelaw05.TableUnlike'. -/
def tableUnlikeCard : Claim7 := { stood := { row := tableUnlikeRow, standIns := [], harness := (true, "3a24f8f75f34d698582d14295f887a4efb9a761903b279b8a21d51115f85b303"), looks := false }, kinds := [], alts := [], laidByText := true, laidKinds := [.data, .pinned], laidTests := true, laidLooks := .later }
def TableUnlikeCardSaid : Prop := Claim7.holds Tryd.pinned (.plain (OpenSpec.ofChange tableUnlikeSpec)) tableUnlikeCard

/-- THE TIED CARD OF 'groynelaw04.RecordKey'. -/
def recordKeyCard : Claim7 := { stood := { row := recordKeyRow, standIns := [], harness := (true, "3a24f8f75f34d698582d14295f887a4efb9a761903b279b8a21d51115f85b303"), looks := false }, kinds := [], alts := [], laidByText := true, laidKinds := [.data, .pinned], laidTests := true, laidLooks := .later }
def RecordKeyCardSaid : Prop := Claim7.holds Tryd.pinned (.plain (OpenSpec.ofChange recordKeySpec)) recordKeyCard

/-- THE TIED CARD OF 'groynelaw04.RecordNone'. -/
def recordNoneCard : Claim7 := { stood := { row := recordNoneRow, standIns := [], harness := (true, "3a24f8f75f34d698582d14295f887a4efb9a761903b279b8a21d51115f85b303"), looks := false }, kinds := [], alts := [], laidByText := true, laidKinds := [.data, .pinned], laidTests := true, laidLooks := .later }
def RecordNoneCardSaid : Prop := Claim7.holds Tryd.pinned (.plain (OpenSpec.ofChange recordNoneSpec)) recordNoneCard

/-- THE TIED CARD OF 'groynelaw04.RecordOnce'. -/
def recordOnceCard : Claim7 := { stood := { row := recordOnceRow, standIns := [], harness := (true, "3a24f8f75f34d698582d14295f887a4efb9a761903b279b8a21d51115f85b303"), looks := false }, kinds := [], alts := [], laidByText := true, laidKinds := [.data, .pinned], laidTests := true, laidLooks := .later }
def RecordOnceCardSaid : Prop := Claim7.holds Tryd.pinned (.plain (OpenSpec.ofChange recordOnceSpec)) recordOnceCard

/-- THE TIED CARD OF 'groynelaw05.TableOrder'. -/
def tableOrderCard : Claim7 := { stood := { row := tableOrderRow, standIns := [], harness := (true, "3a24f8f75f34d698582d14295f887a4efb9a761903b279b8a21d51115f85b303"), looks := false }, kinds := [], alts := [], laidByText := true, laidKinds := [.data, .pinned], laidTests := true, laidLooks := .later }
def TableOrderCardSaid : Prop := Claim7.holds Tryd.pinned (.plain (OpenSpec.ofChange tableOrderSpec)) tableOrderCard

/-- THE TIED CARD OF 'groynelaw05.TableWith'. -/
def tableWithCard : Claim7 := { stood := { row := tableWithRow, standIns := [], harness := (true, "3a24f8f75f34d698582d14295f887a4efb9a761903b279b8a21d51115f85b303"), looks := false }, kinds := [], alts := [], laidByText := true, laidKinds := [.data, .pinned], laidTests := true, laidLooks := .later }
def TableWithCardSaid : Prop := Claim7.holds Tryd.pinned (.plain (OpenSpec.ofChange tableWithSpec)) tableWithCard

/-- THE TIED CARD OF 'groynelaw04.RecordBack'. -/
def recordBackCard : Claim7 := { stood := { row := recordBackRow, standIns := [], harness := (true, "3a24f8f75f34d698582d14295f887a4efb9a761903b279b8a21d51115f85b303"), looks := false }, kinds := [], alts := [], laidByText := true, laidKinds := [.data, .pinned], laidTests := true, laidLooks := .later }
def RecordBackCardSaid : Prop := Claim7.holds Tryd.pinned (.plain (OpenSpec.ofChange recordBackSpec)) recordBackCard

/-- THE TIED CARD OF 'groynelaw05.TablePatched'. -/
def tablePatchedCard : Claim7 := { stood := { row := tablePatchedRow, standIns := [], harness := (true, "3a24f8f75f34d698582d14295f887a4efb9a761903b279b8a21d51115f85b303"), looks := false }, kinds := [], alts := [], laidByText := true, laidKinds := [.data, .pinned], laidTests := true, laidLooks := .later }
def TablePatchedCardSaid : Prop := Claim7.holds Tryd.pinned (.plain (OpenSpec.ofChange tablePatchedSpec)) tablePatchedCard

/-- THE SECOND FORM's CARD OF 'groynelaw07.PickBest'. -/
def pickBestUptoCard : Claim7 := { stood := { row := pickBestUptoRow, standIns := [], harness := (true, "3a24f8f75f34d698582d14295f887a4efb9a761903b279b8a21d51115f85b303"), looks := false }, kinds := [], alts := [], laidByText := true, laidKinds := [.data, .pinned], laidTests := true, laidLooks := .later }
def PickBestUptoCardSaid : Prop := Claim7.holds Tryd.pinned (.plain (OpenSpec.upto pickBestSpec)) pickBestUptoCard

/-- THE SECOND FORM's CARD OF 'groynelaw07.PickOne'. -/
def pickOneUptoCard : Claim7 := { stood := { row := pickOneUptoRow, standIns := [], harness := (true, "3a24f8f75f34d698582d14295f887a4efb9a761903b279b8a21d51115f85b303"), looks := false }, kinds := [], alts := [], laidByText := true, laidKinds := [.data, .pinned], laidTests := true, laidLooks := .later }
def PickOneUptoCardSaid : Prop := Claim7.holds Tryd.pinned (.plain (OpenSpec.upto pickOneSpec)) pickOneUptoCard

/-- THE SECOND FORM's CARD OF 'groynelaw04.RecordShort'. -/
def recordShortUptoCard : Claim7 := { stood := { row := recordShortUptoRow, standIns := [], harness := (true, "3a24f8f75f34d698582d14295f887a4efb9a761903b279b8a21d51115f85b303"), looks := false }, kinds := [], alts := [], laidByText := true, laidKinds := [.data, .pinned], laidTests := true, laidLooks := .later }
def RecordShortUptoCardSaid : Prop := Claim7.holds Tryd.pinned (.plain (OpenSpec.upto recordShortSpec)) recordShortUptoCard

/-- THE SECOND FORM's CARD OF 'groynelaw05.TableKinds'. -/
def tableKindsUptoCard : Claim7 := { stood := { row := tableKindsUptoRow, standIns := [], harness := (true, "3a24f8f75f34d698582d14295f887a4efb9a761903b279b8a21d51115f85b303"), looks := false }, kinds := [], alts := [], laidByText := true, laidKinds := [.data, .pinned], laidTests := true, laidLooks := .later }
def TableKindsUptoCardSaid : Prop := Claim7.holds Tryd.pinned (.plain (OpenSpec.upto tableKindsSpec)) tableKindsUptoCard

/-- THE SECOND FORM's CARD OF 'groynelaw05.TableUnlike'. -/
def tableUnlikeUptoCard : Claim7 := { stood := { row := tableUnlikeUptoRow, standIns := [], harness := (true, "3a24f8f75f34d698582d14295f887a4efb9a761903b279b8a21d51115f85b303"), looks := false }, kinds := [], alts := [], laidByText := true, laidKinds := [.data, .pinned], laidTests := true, laidLooks := .later }
def TableUnlikeUptoCardSaid : Prop := Claim7.holds Tryd.pinned (.plain (OpenSpec.upto tableUnlikeSpec)) tableUnlikeUptoCard

/-- THE SECOND FORM's CARD OF 'groynelaw04.RecordKey'. -/
def recordKeyUptoCard : Claim7 := { stood := { row := recordKeyUptoRow, standIns := [], harness := (true, "3a24f8f75f34d698582d14295f887a4efb9a761903b279b8a21d51115f85b303"), looks := false }, kinds := [], alts := [], laidByText := true, laidKinds := [.data, .pinned], laidTests := true, laidLooks := .later }
def RecordKeyUptoCardSaid : Prop := Claim7.holds Tryd.pinned (.plain (OpenSpec.upto recordKeySpec)) recordKeyUptoCard

/-- THE SECOND FORM's CARD OF 'groynelaw04.RecordNone'. -/
def recordNoneUptoCard : Claim7 := { stood := { row := recordNoneUptoRow, standIns := [], harness := (true, "3a24f8f75f34d698582d14295f887a4efb9a761903b279b8a21d51115f85b303"), looks := false }, kinds := [], alts := [], laidByText := true, laidKinds := [.data, .pinned], laidTests := true, laidLooks := .later }
def RecordNoneUptoCardSaid : Prop := Claim7.holds Tryd.pinned (.plain (OpenSpec.upto recordNoneSpec)) recordNoneUptoCard

/-- THE SECOND FORM's CARD OF 'groynelaw04.RecordOnce'. -/
def recordOnceUptoCard : Claim7 := { stood := { row := recordOnceUptoRow, standIns := [], harness := (true, "3a24f8f75f34d698582d14295f887a4efb9a761903b279b8a21d51115f85b303"), looks := false }, kinds := [], alts := [], laidByText := true, laidKinds := [.data, .pinned], laidTests := true, laidLooks := .later }
def RecordOnceUptoCardSaid : Prop := Claim7.holds Tryd.pinned (.plain (OpenSpec.upto recordOnceSpec)) recordOnceUptoCard

/-- THE SECOND FORM's CARD OF 'groynelaw05.TableOrder'. -/
def tableOrderUptoCard : Claim7 := { stood := { row := tableOrderUptoRow, standIns := [], harness := (true, "3a24f8f75f34d698582d14295f887a4efb9a761903b279b8a21d51115f85b303"), looks := false }, kinds := [], alts := [], laidByText := true, laidKinds := [.data, .pinned], laidTests := true, laidLooks := .later }
def TableOrderUptoCardSaid : Prop := Claim7.holds Tryd.pinned (.plain (OpenSpec.upto tableOrderSpec)) tableOrderUptoCard

/-- THE SECOND FORM's CARD OF 'groynelaw05.TableWith'. -/
def tableWithUptoCard : Claim7 := { stood := { row := tableWithUptoRow, standIns := [], harness := (true, "3a24f8f75f34d698582d14295f887a4efb9a761903b279b8a21d51115f85b303"), looks := false }, kinds := [], alts := [], laidByText := true, laidKinds := [.data, .pinned], laidTests := true, laidLooks := .later }
def TableWithUptoCardSaid : Prop := Claim7.holds Tryd.pinned (.plain (OpenSpec.upto tableWithSpec)) tableWithUptoCard

/-- THE SECOND FORM's CARD OF 'groynelaw04.RecordBack'. -/
def recordBackUptoCard : Claim7 := { stood := { row := recordBackUptoRow, standIns := [], harness := (true, "3a24f8f75f34d698582d14295f887a4efb9a761903b279b8a21d51115f85b303"), looks := false }, kinds := [], alts := [], laidByText := true, laidKinds := [.data, .pinned], laidTests := true, laidLooks := .later }
def RecordBackUptoCardSaid : Prop := Claim7.holds Tryd.pinned (.plain (OpenSpec.upto recordBackSpec)) recordBackUptoCard

/-- THE SECOND FORM's CARD OF 'groynelaw05.TablePatched'. -/
def tablePatchedUptoCard : Claim7 := { stood := { row := tablePatchedUptoRow, standIns := [], harness := (true, "3a24f8f75f34d698582d14295f887a4efb9a761903b279b8a21d51115f85b303"), looks := false }, kinds := [], alts := [], laidByText := true, laidKinds := [.data, .pinned], laidTests := true, laidLooks := .later }
def TablePatchedUptoCardSaid : Prop := Claim7.holds Tryd.pinned (.plain (OpenSpec.upto tablePatchedSpec)) tablePatchedUptoCard
end Rows
end Go.Proofs.YtepifkmileilfaaDoor
