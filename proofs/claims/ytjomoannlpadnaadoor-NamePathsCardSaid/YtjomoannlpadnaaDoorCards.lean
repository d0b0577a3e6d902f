/-
  DERIVED. GIVEN WITH THE SEED: THE CARDS: each row of YtjomoannlpadnaaDoorRows.lean that lists a variable, with what it lists TIED to the program's text (the seventh form; the later family's looks); each row that meets fmt, with fmt's text TOLD by the authors' own Lean function (tested against real Go, not proved from fmt's source: count such statements apart). THE CARD IS WHAT COUNTS. Prove the row's statement (the work); the ties are given (YtjomoannlpadnaaDoorTie.lean); close each card by the builder's one call (the guide's Derived/Test/ToyasCard.lean, 'card_holds'). Laid BY PROGRAM, IN A SANDBOX (cutbox-door.mjs). By AI agents, Wed Nov 11 2026. No macro, syntax, notation, axiom, sorry.
-/
import Derived.Test.YtjomoannlpadnaaDoorRows
import GoSem.ClaimSeven
namespace Go.Proofs.YtjomoannlpadnaaDoor
namespace Rows

/-- THE TIED CARD OF 'groynelaw01.NameMatches'. -/
def nameMatchesCard : Claim7 := { stood := { row := nameMatchesRow, standIns := [], harness := (true, "10be6b29a56a9afd99073fd73c7bc99d2408225fb31fada441e4dbf495c4a671"), looks := false }, kinds := [], alts := [], laidByText := true, laidKinds := [.data, .pinned], laidTests := true, laidLooks := .later }
def NameMatchesCardSaid : Prop := Claim7.holds Tryd.pinned (.plain (OpenSpec.ofChange nameMatchesSpec)) nameMatchesCard

/-- THE TIED CARD OF 'groynelaw01.NameUnder'. -/
def nameUnderCard : Claim7 := { stood := { row := nameUnderRow, standIns := [], harness := (true, "10be6b29a56a9afd99073fd73c7bc99d2408225fb31fada441e4dbf495c4a671"), looks := false }, kinds := [], alts := [], laidByText := true, laidKinds := [.data, .pinned], laidTests := true, laidLooks := .later }
def NameUnderCardSaid : Prop := Claim7.holds Tryd.pinned (.plain (OpenSpec.ofChange nameUnderSpec)) nameUnderCard

/-- THE TIED CARD OF 'groynelaw01.NameStar'. -/
def nameStarCard : Claim7 := { stood := { row := nameStarRow, standIns := [], harness := (true, "10be6b29a56a9afd99073fd73c7bc99d2408225fb31fada441e4dbf495c4a671"), looks := false }, kinds := [], alts := [], laidByText := true, laidKinds := [.data, .pinned], laidTests := true, laidLooks := .later }
def NameStarCardSaid : Prop := Claim7.holds Tryd.pinned (.plain (OpenSpec.ofChange nameStarSpec)) nameStarCard

/-- THE TIED CARD OF 'groynelaw01.NamePaths'. -/
def namePathsCard : Claim7 := { stood := { row := namePathsRow, standIns := [], harness := (true, "10be6b29a56a9afd99073fd73c7bc99d2408225fb31fada441e4dbf495c4a671"), looks := false }, kinds := [], alts := [], laidByText := true, laidKinds := [.data, .pinned], laidTests := true, laidLooks := .later }
def NamePathsCardSaid : Prop := Claim7.holds Tryd.pinned (.plain (OpenSpec.ofChange namePathsSpec)) namePathsCard

/-- THE TIED CARD OF 'groynelaw01.NameOrder'. -/
def nameOrderCard : Claim7 := { stood := { row := nameOrderRow, standIns := [], harness := (true, "10be6b29a56a9afd99073fd73c7bc99d2408225fb31fada441e4dbf495c4a671"), looks := false }, kinds := [], alts := [], laidByText := true, laidKinds := [.data, .pinned], laidTests := true, laidLooks := .later }
def NameOrderCardSaid : Prop := Claim7.holds Tryd.pinned (.plain (OpenSpec.ofChange nameOrderSpec)) nameOrderCard

/-- THE TIED CARD OF 'groynelaw01.NameNarrow'. -/
def nameNarrowCard : Claim7 := { stood := { row := nameNarrowRow, standIns := [], harness := (true, "10be6b29a56a9afd99073fd73c7bc99d2408225fb31fada441e4dbf495c4a671"), looks := false }, kinds := [], alts := [], laidByText := true, laidKinds := [.data, .pinned], laidTests := true, laidLooks := .later }
def NameNarrowCardSaid : Prop := Claim7.holds Tryd.pinned (.plain (OpenSpec.ofChange nameNarrowSpec)) nameNarrowCard

/-- THE TIED CARD OF 'groynelaw07.PickBest'. -/
def pickBestCard : Claim7 := { stood := { row := pickBestRow, standIns := [], harness := (true, "10be6b29a56a9afd99073fd73c7bc99d2408225fb31fada441e4dbf495c4a671"), looks := false }, kinds := [], alts := [], laidByText := true, laidKinds := [.data, .pinned], laidTests := true, laidLooks := .later }
def PickBestCardSaid : Prop := Claim7.holds Tryd.pinned (.plain (OpenSpec.ofChange pickBestSpec)) pickBestCard

/-- THE TIED CARD OF 'groynelaw07.PickOne'. -/
def pickOneCard : Claim7 := { stood := { row := pickOneRow, standIns := [], harness := (true, "10be6b29a56a9afd99073fd73c7bc99d2408225fb31fada441e4dbf495c4a671"), looks := false }, kinds := [], alts := [], laidByText := true, laidKinds := [.data, .pinned], laidTests := true, laidLooks := .later }
def PickOneCardSaid : Prop := Claim7.holds Tryd.pinned (.plain (OpenSpec.ofChange pickOneSpec)) pickOneCard

/-- THE SECOND FORM's CARD OF 'groynelaw01.NameMatches'. -/
def nameMatchesUptoCard : Claim7 := { stood := { row := nameMatchesUptoRow, standIns := [], harness := (true, "10be6b29a56a9afd99073fd73c7bc99d2408225fb31fada441e4dbf495c4a671"), looks := false }, kinds := [], alts := [], laidByText := true, laidKinds := [.data, .pinned], laidTests := true, laidLooks := .later }
def NameMatchesUptoCardSaid : Prop := Claim7.holds Tryd.pinned (.plain (OpenSpec.upto nameMatchesSpec)) nameMatchesUptoCard

/-- THE SECOND FORM's CARD OF 'groynelaw01.NameUnder'. -/
def nameUnderUptoCard : Claim7 := { stood := { row := nameUnderUptoRow, standIns := [], harness := (true, "10be6b29a56a9afd99073fd73c7bc99d2408225fb31fada441e4dbf495c4a671"), looks := false }, kinds := [], alts := [], laidByText := true, laidKinds := [.data, .pinned], laidTests := true, laidLooks := .later }
def NameUnderUptoCardSaid : Prop := Claim7.holds Tryd.pinned (.plain (OpenSpec.upto nameUnderSpec)) nameUnderUptoCard

/-- THE SECOND FORM's CARD OF 'groynelaw01.NameStar'. -/
def nameStarUptoCard : Claim7 := { stood := { row := nameStarUptoRow, standIns := [], harness := (true, "10be6b29a56a9afd99073fd73c7bc99d2408225fb31fada441e4dbf495c4a671"), looks := false }, kinds := [], alts := [], laidByText := true, laidKinds := [.data, .pinned], laidTests := true, laidLooks := .later }
def NameStarUptoCardSaid : Prop := Claim7.holds Tryd.pinned (.plain (OpenSpec.upto nameStarSpec)) nameStarUptoCard

/-- THE SECOND FORM's CARD OF 'groynelaw01.NamePaths'. -/
def namePathsUptoCard : Claim7 := { stood := { row := namePathsUptoRow, standIns := [], harness := (true, "10be6b29a56a9afd99073fd73c7bc99d2408225fb31fada441e4dbf495c4a671"), looks := false }, kinds := [], alts := [], laidByText := true, laidKinds := [.data, .pinned], laidTests := true, laidLooks := .later }
def NamePathsUptoCardSaid : Prop := Claim7.holds Tryd.pinned (.plain (OpenSpec.upto namePathsSpec)) namePathsUptoCard

/-- THE SECOND FORM's CARD OF 'groynelaw01.NameOrder'. -/
def nameOrderUptoCard : Claim7 := { stood := { row := nameOrderUptoRow, standIns := [], harness := (true, "10be6b29a56a9afd99073fd73c7bc99d2408225fb31fada441e4dbf495c4a671"), looks := false }, kinds := [], alts := [], laidByText := true, laidKinds := [.data, .pinned], laidTests := true, laidLooks := .later }
def NameOrderUptoCardSaid : Prop := Claim7.holds Tryd.pinned (.plain (OpenSpec.upto nameOrderSpec)) nameOrderUptoCard

/-- THE SECOND FORM's CARD OF 'groynelaw01.NameNarrow'. -/
def nameNarrowUptoCard : Claim7 := { stood := { row := nameNarrowUptoRow, standIns := [], harness := (true, "10be6b29a56a9afd99073fd73c7bc99d2408225fb31fada441e4dbf495c4a671"), looks := false }, kinds := [], alts := [], laidByText := true, laidKinds := [.data, .pinned], laidTests := true, laidLooks := .later }
def NameNarrowUptoCardSaid : Prop := Claim7.holds Tryd.pinned (.plain (OpenSpec.upto nameNarrowSpec)) nameNarrowUptoCard

/-- THE SECOND FORM's CARD OF 'groynelaw07.PickBest'. -/
def pickBestUptoCard : Claim7 := { stood := { row := pickBestUptoRow, standIns := [], harness := (true, "10be6b29a56a9afd99073fd73c7bc99d2408225fb31fada441e4dbf495c4a671"), looks := false }, kinds := [], alts := [], laidByText := true, laidKinds := [.data, .pinned], laidTests := true, laidLooks := .later }
def PickBestUptoCardSaid : Prop := Claim7.holds Tryd.pinned (.plain (OpenSpec.upto pickBestSpec)) pickBestUptoCard

/-- THE SECOND FORM's CARD OF 'groynelaw07.PickOne'. -/
def pickOneUptoCard : Claim7 := { stood := { row := pickOneUptoRow, standIns := [], harness := (true, "10be6b29a56a9afd99073fd73c7bc99d2408225fb31fada441e4dbf495c4a671"), looks := false }, kinds := [], alts := [], laidByText := true, laidKinds := [.data, .pinned], laidTests := true, laidLooks := .later }
def PickOneUptoCardSaid : Prop := Claim7.holds Tryd.pinned (.plain (OpenSpec.upto pickOneSpec)) pickOneUptoCard
end Rows
end Go.Proofs.YtjomoannlpadnaaDoor
