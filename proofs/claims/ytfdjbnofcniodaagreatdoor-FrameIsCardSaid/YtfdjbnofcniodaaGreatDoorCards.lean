/-
  DERIVED. GIVEN WITH THE SEED: THE CARDS: each row of YtfdjbnofcniodaaGreatDoorRows.lean that lists a variable, with what it lists TIED to the program's text (the seventh form; the later family's looks); each row that meets fmt, with fmt's text TOLD by the authors' own Lean function (tested against real Go, not proved from fmt's source: count such statements apart). THE CARD IS WHAT COUNTS. Prove the row's statement (the work); the ties are given (YtfdjbnofcniodaaGreatDoorTie.lean); close each card by the builder's one call (the guide's Derived/Test/ToyasCard.lean, 'card_holds'). Laid BY PROGRAM, IN A SANDBOX (cutbox-door.mjs). By AI agents, Wed Nov 11 2026. No macro, syntax, notation, axiom, sorry.
-/
import Derived.Test.YtfdjbnofcniodaaGreatDoorRows
import GoSem.ClaimSeven
namespace Go.Proofs.YtfdjbnofcniodaaGreatDoor
namespace Rows

/-- THE TIED CARD OF 'groynelaw04.RecordTakes'. -/
def recordTakesCard : Claim7 := { stood := { row := recordTakesRow, standIns := [], harness := (true, "5721e02d372f14a3c8e7af90f58bbc91ab464a9c8734b0dbbebb2f281f22588b"), looks := false }, kinds := [], alts := [], laidByText := true, laidKinds := [.data, .pinned], laidTests := true, laidLooks := .later }
def RecordTakesCardSaid : Prop := Claim7.holds Tryz.pinned (.plain (OpenSpec.ofChange recordTakesSpec)) recordTakesCard

/-- THE TIED CARD OF 'groynelaw04.RecordPuts'. -/
def recordPutsCard : Claim7 := { stood := { row := recordPutsRow, standIns := [], harness := (true, "5721e02d372f14a3c8e7af90f58bbc91ab464a9c8734b0dbbebb2f281f22588b"), looks := false }, kinds := [], alts := [], laidByText := true, laidKinds := [.data, .pinned], laidTests := true, laidLooks := .later }
def RecordPutsCardSaid : Prop := Claim7.holds Tryz.pinned (.plain (OpenSpec.ofChange recordPutsSpec)) recordPutsCard

/-- THE TIED CARD OF 'groynelaw05.TableIs'. -/
def tableIsCard : Claim7 := { stood := { row := tableIsRow, standIns := [], harness := (true, "5721e02d372f14a3c8e7af90f58bbc91ab464a9c8734b0dbbebb2f281f22588b"), looks := false }, kinds := [], alts := [], laidByText := true, laidKinds := [.data, .pinned], laidTests := true, laidLooks := .later }
def TableIsCardSaid : Prop := Claim7.holds Tryz.pinned (.plain (OpenSpec.ofChange tableIsSpec)) tableIsCard

/-- THE TIED CARD OF 'groynelaw23.ScriptBack'. -/
def scriptBackCard : Claim7 := { stood := { row := scriptBackRow, standIns := [], harness := (true, "5721e02d372f14a3c8e7af90f58bbc91ab464a9c8734b0dbbebb2f281f22588b"), looks := false }, kinds := [], alts := [], laidByText := true, laidKinds := [.data, .pinned], laidTests := true, laidLooks := .later }
def ScriptBackCardSaid : Prop := Claim7.holds Tryz.pinned (.plain (OpenSpec.ofChange scriptBackSpec)) scriptBackCard

/-- THE TIED CARD OF 'groynelaw23.ScriptGood'. -/
def scriptGoodCard : Claim7 := { stood := { row := scriptGoodRow, standIns := [], harness := (true, "5721e02d372f14a3c8e7af90f58bbc91ab464a9c8734b0dbbebb2f281f22588b"), looks := false }, kinds := [], alts := [], laidByText := true, laidKinds := [.data, .pinned], laidTests := true, laidLooks := .later }
def ScriptGoodCardSaid : Prop := Claim7.holds Tryz.pinned (.plain (OpenSpec.ofChange scriptGoodSpec)) scriptGoodCard

/-- THE TIED CARD OF 'groynelaw23.ScriptRows'. -/
def scriptRowsCard : Claim7 := { stood := { row := scriptRowsRow, standIns := [], harness := (true, "5721e02d372f14a3c8e7af90f58bbc91ab464a9c8734b0dbbebb2f281f22588b"), looks := false }, kinds := [], alts := [], laidByText := true, laidKinds := [.data, .pinned], laidTests := true, laidLooks := .later }
def ScriptRowsCardSaid : Prop := Claim7.holds Tryz.pinned (.plain (OpenSpec.ofChange scriptRowsSpec)) scriptRowsCard

/-- THE TIED CARD OF 'groynelaw10.FrameIs'. -/
def frameIsCard : Claim7 := { stood := { row := frameIsRow, standIns := [], harness := (true, "5721e02d372f14a3c8e7af90f58bbc91ab464a9c8734b0dbbebb2f281f22588b"), looks := false }, kinds := [], alts := [], laidByText := true, laidKinds := [.data, .pinned], laidTests := true, laidLooks := .later }
def FrameIsCardSaid : Prop := Claim7.holds Tryz.pinned (.plain (OpenSpec.ofChange frameIsSpec)) frameIsCard

/-- THE SECOND FORM's CARD OF 'groynelaw04.RecordTakes'. -/
def recordTakesUptoCard : Claim7 := { stood := { row := recordTakesUptoRow, standIns := [], harness := (true, "5721e02d372f14a3c8e7af90f58bbc91ab464a9c8734b0dbbebb2f281f22588b"), looks := false }, kinds := [], alts := [], laidByText := true, laidKinds := [.data, .pinned], laidTests := true, laidLooks := .later }
def RecordTakesUptoCardSaid : Prop := Claim7.holds Tryz.pinned (.plain (OpenSpec.upto recordTakesSpec)) recordTakesUptoCard

/-- THE SECOND FORM's CARD OF 'groynelaw04.RecordPuts'. -/
def recordPutsUptoCard : Claim7 := { stood := { row := recordPutsUptoRow, standIns := [], harness := (true, "5721e02d372f14a3c8e7af90f58bbc91ab464a9c8734b0dbbebb2f281f22588b"), looks := false }, kinds := [], alts := [], laidByText := true, laidKinds := [.data, .pinned], laidTests := true, laidLooks := .later }
def RecordPutsUptoCardSaid : Prop := Claim7.holds Tryz.pinned (.plain (OpenSpec.upto recordPutsSpec)) recordPutsUptoCard

/-- THE SECOND FORM's CARD OF 'groynelaw05.TableIs'. -/
def tableIsUptoCard : Claim7 := { stood := { row := tableIsUptoRow, standIns := [], harness := (true, "5721e02d372f14a3c8e7af90f58bbc91ab464a9c8734b0dbbebb2f281f22588b"), looks := false }, kinds := [], alts := [], laidByText := true, laidKinds := [.data, .pinned], laidTests := true, laidLooks := .later }
def TableIsUptoCardSaid : Prop := Claim7.holds Tryz.pinned (.plain (OpenSpec.upto tableIsSpec)) tableIsUptoCard

/-- THE SECOND FORM's CARD OF 'groynelaw23.ScriptBack'. -/
def scriptBackUptoCard : Claim7 := { stood := { row := scriptBackUptoRow, standIns := [], harness := (true, "5721e02d372f14a3c8e7af90f58bbc91ab464a9c8734b0dbbebb2f281f22588b"), looks := false }, kinds := [], alts := [], laidByText := true, laidKinds := [.data, .pinned], laidTests := true, laidLooks := .later }
def ScriptBackUptoCardSaid : Prop := Claim7.holds Tryz.pinned (.plain (OpenSpec.upto scriptBackSpec)) scriptBackUptoCard

/-- THE SECOND FORM's CARD OF 'groynelaw23.ScriptGood'. -/
def scriptGoodUptoCard : Claim7 := { stood := { row := scriptGoodUptoRow, standIns := [], harness := (true, "5721e02d372f14a3c8e7af90f58bbc91ab464a9c8734b0dbbebb2f281f22588b"), looks := false }, kinds := [], alts := [], laidByText := true, laidKinds := [.data, .pinned], laidTests := true, laidLooks := .later }
def ScriptGoodUptoCardSaid : Prop := Claim7.holds Tryz.pinned (.plain (OpenSpec.upto scriptGoodSpec)) scriptGoodUptoCard

/-- THE SECOND FORM's CARD OF 'groynelaw23.ScriptRows'. -/
def scriptRowsUptoCard : Claim7 := { stood := { row := scriptRowsUptoRow, standIns := [], harness := (true, "5721e02d372f14a3c8e7af90f58bbc91ab464a9c8734b0dbbebb2f281f22588b"), looks := false }, kinds := [], alts := [], laidByText := true, laidKinds := [.data, .pinned], laidTests := true, laidLooks := .later }
def ScriptRowsUptoCardSaid : Prop := Claim7.holds Tryz.pinned (.plain (OpenSpec.upto scriptRowsSpec)) scriptRowsUptoCard

/-- THE SECOND FORM's CARD OF 'groynelaw10.FrameIs'. -/
def frameIsUptoCard : Claim7 := { stood := { row := frameIsUptoRow, standIns := [], harness := (true, "5721e02d372f14a3c8e7af90f58bbc91ab464a9c8734b0dbbebb2f281f22588b"), looks := false }, kinds := [], alts := [], laidByText := true, laidKinds := [.data, .pinned], laidTests := true, laidLooks := .later }
def FrameIsUptoCardSaid : Prop := Claim7.holds Tryz.pinned (.plain (OpenSpec.upto frameIsSpec)) frameIsUptoCard
end Rows
end Go.Proofs.YtfdjbnofcniodaaGreatDoor
