/-
  DERIVED. GIVEN WITH THE SEED: THE CARDS: each row of YtepifkmileilfaaGreatDoorRows.lean that lists a variable, with what it lists TIED to the program's text (the seventh form; the later family's looks); each row that meets fmt, with fmt's text TOLD by the authors' own Lean function (tested against real Go, not proved from fmt's source: count such statements apart). THE CARD IS WHAT COUNTS. Prove the row's statement (the work); the ties are given (YtepifkmileilfaaGreatDoorTie.lean); close each card by the builder's one call (the guide's Derived/Test/ToyasCard.lean, 'card_holds'). Laid BY PROGRAM, IN A SANDBOX (cutbox-door.mjs). By AI agents, Wed Nov 11 2026. No macro, syntax, notation, axiom, sorry.
-/
import Derived.Test.YtepifkmileilfaaGreatDoorRows
import GoSem.ClaimSeven
namespace Go.Proofs.YtepifkmileilfaaGreatDoor
namespace Rows

/-- THE TIED CARD OF 'groynelaw04.RecordTakes'. -/
def recordTakesCard : Claim7 := { stood := { row := recordTakesRow, standIns := [], harness := (true, "c4167838736f660b4fcd56119de9dfc2d707bcf8b01de13e201e316fce149d5a"), looks := false }, kinds := [], alts := [], laidByText := true, laidKinds := [.data, .pinned], laidTests := true, laidLooks := .later }
def RecordTakesCardSaid : Prop := Claim7.holds Tryz.pinned (.plain (OpenSpec.ofChange recordTakesSpec)) recordTakesCard

/-- THE TIED CARD OF 'groynelaw04.RecordPuts'. -/
def recordPutsCard : Claim7 := { stood := { row := recordPutsRow, standIns := [], harness := (true, "c4167838736f660b4fcd56119de9dfc2d707bcf8b01de13e201e316fce149d5a"), looks := false }, kinds := [], alts := [], laidByText := true, laidKinds := [.data, .pinned], laidTests := true, laidLooks := .later }
def RecordPutsCardSaid : Prop := Claim7.holds Tryz.pinned (.plain (OpenSpec.ofChange recordPutsSpec)) recordPutsCard

/-- THE TIED CARD OF 'groynelaw05.TableIs'. -/
def tableIsCard : Claim7 := { stood := { row := tableIsRow, standIns := [], harness := (true, "c4167838736f660b4fcd56119de9dfc2d707bcf8b01de13e201e316fce149d5a"), looks := false }, kinds := [], alts := [], laidByText := true, laidKinds := [.data, .pinned], laidTests := true, laidLooks := .later }
def TableIsCardSaid : Prop := Claim7.holds Tryz.pinned (.plain (OpenSpec.ofChange tableIsSpec)) tableIsCard

/-- THE TIED CARD OF 'groynelaw23.ScriptBack'. -/
def scriptBackCard : Claim7 := { stood := { row := scriptBackRow, standIns := [], harness := (true, "c4167838736f660b4fcd56119de9dfc2d707bcf8b01de13e201e316fce149d5a"), looks := false }, kinds := [], alts := [], laidByText := true, laidKinds := [.data, .pinned], laidTests := true, laidLooks := .later }
def ScriptBackCardSaid : Prop := Claim7.holds Tryz.pinned (.plain (OpenSpec.ofChange scriptBackSpec)) scriptBackCard

/-- THE TIED CARD OF 'groynelaw23.ScriptGood'. -/
def scriptGoodCard : Claim7 := { stood := { row := scriptGoodRow, standIns := [], harness := (true, "c4167838736f660b4fcd56119de9dfc2d707bcf8b01de13e201e316fce149d5a"), looks := false }, kinds := [], alts := [], laidByText := true, laidKinds := [.data, .pinned], laidTests := true, laidLooks := .later }
def ScriptGoodCardSaid : Prop := Claim7.holds Tryz.pinned (.plain (OpenSpec.ofChange scriptGoodSpec)) scriptGoodCard

/-- THE TIED CARD OF 'groynelaw23.ScriptRows'. -/
def scriptRowsCard : Claim7 := { stood := { row := scriptRowsRow, standIns := [], harness := (true, "c4167838736f660b4fcd56119de9dfc2d707bcf8b01de13e201e316fce149d5a"), looks := false }, kinds := [], alts := [], laidByText := true, laidKinds := [.data, .pinned], laidTests := true, laidLooks := .later }
def ScriptRowsCardSaid : Prop := Claim7.holds Tryz.pinned (.plain (OpenSpec.ofChange scriptRowsSpec)) scriptRowsCard

/-- THE TIED CARD OF 'groynelaw10.FrameIs'. -/
def frameIsCard : Claim7 := { stood := { row := frameIsRow, standIns := [], harness := (true, "c4167838736f660b4fcd56119de9dfc2d707bcf8b01de13e201e316fce149d5a"), looks := false }, kinds := [], alts := [], laidByText := true, laidKinds := [.data, .pinned], laidTests := true, laidLooks := .later }
def FrameIsCardSaid : Prop := Claim7.holds Tryz.pinned (.plain (OpenSpec.ofChange frameIsSpec)) frameIsCard

/-- THE TIED CARD OF 'groynelaw10.FrameBack'. -/
def frameBackCard : Claim7 := { stood := { row := frameBackRow, standIns := [], harness := (true, "c4167838736f660b4fcd56119de9dfc2d707bcf8b01de13e201e316fce149d5a"), looks := false }, kinds := [], alts := [], laidByText := true, laidKinds := [.data, .pinned], laidTests := true, laidLooks := .later }
def FrameBackCardSaid : Prop := Claim7.holds Tryz.pinned (.plain (OpenSpec.ofChange frameBackSpec)) frameBackCard

/-- THE TIED CARD OF 'groynelaw10.FrameOnce'. -/
def frameOnceCard : Claim7 := { stood := { row := frameOnceRow, standIns := [], harness := (true, "c4167838736f660b4fcd56119de9dfc2d707bcf8b01de13e201e316fce149d5a"), looks := false }, kinds := [], alts := [], laidByText := true, laidKinds := [.data, .pinned], laidTests := true, laidLooks := .later }
def FrameOnceCardSaid : Prop := Claim7.holds Tryz.pinned (.plain (OpenSpec.ofChange frameOnceSpec)) frameOnceCard

/-- THE TIED CARD OF 'groynelaw10.FrameKinds'. -/
def frameKindsCard : Claim7 := { stood := { row := frameKindsRow, standIns := [], harness := (true, "c4167838736f660b4fcd56119de9dfc2d707bcf8b01de13e201e316fce149d5a"), looks := false }, kinds := [], alts := [], laidByText := true, laidKinds := [.data, .pinned], laidTests := true, laidLooks := .later }
def FrameKindsCardSaid : Prop := Claim7.holds Tryz.pinned (.plain (OpenSpec.ofChange frameKindsSpec)) frameKindsCard

/-- THE TIED CARD OF 'groynelaw10.FrameHead'. -/
def frameHeadCard : Claim7 := { stood := { row := frameHeadRow, standIns := [], harness := (true, "c4167838736f660b4fcd56119de9dfc2d707bcf8b01de13e201e316fce149d5a"), looks := false }, kinds := [], alts := [], laidByText := true, laidKinds := [.data, .pinned], laidTests := true, laidLooks := .later }
def FrameHeadCardSaid : Prop := Claim7.holds Tryz.pinned (.plain (OpenSpec.ofChange frameHeadSpec)) frameHeadCard

/-- THE TIED CARD OF 'groynelaw10.FramePush'. -/
def framePushCard : Claim7 := { stood := { row := framePushRow, standIns := [], harness := (true, "c4167838736f660b4fcd56119de9dfc2d707bcf8b01de13e201e316fce149d5a"), looks := false }, kinds := [], alts := [], laidByText := true, laidKinds := [.data, .pinned], laidTests := true, laidLooks := .later }
def FramePushCardSaid : Prop := Claim7.holds Tryz.pinned (.plain (OpenSpec.ofChange framePushSpec)) framePushCard

/-- THE SECOND FORM's CARD OF 'groynelaw04.RecordTakes'. -/
def recordTakesUptoCard : Claim7 := { stood := { row := recordTakesUptoRow, standIns := [], harness := (true, "c4167838736f660b4fcd56119de9dfc2d707bcf8b01de13e201e316fce149d5a"), looks := false }, kinds := [], alts := [], laidByText := true, laidKinds := [.data, .pinned], laidTests := true, laidLooks := .later }
def RecordTakesUptoCardSaid : Prop := Claim7.holds Tryz.pinned (.plain (OpenSpec.upto recordTakesSpec)) recordTakesUptoCard

/-- THE SECOND FORM's CARD OF 'groynelaw04.RecordPuts'. -/
def recordPutsUptoCard : Claim7 := { stood := { row := recordPutsUptoRow, standIns := [], harness := (true, "c4167838736f660b4fcd56119de9dfc2d707bcf8b01de13e201e316fce149d5a"), looks := false }, kinds := [], alts := [], laidByText := true, laidKinds := [.data, .pinned], laidTests := true, laidLooks := .later }
def RecordPutsUptoCardSaid : Prop := Claim7.holds Tryz.pinned (.plain (OpenSpec.upto recordPutsSpec)) recordPutsUptoCard

/-- THE SECOND FORM's CARD OF 'groynelaw05.TableIs'. -/
def tableIsUptoCard : Claim7 := { stood := { row := tableIsUptoRow, standIns := [], harness := (true, "c4167838736f660b4fcd56119de9dfc2d707bcf8b01de13e201e316fce149d5a"), looks := false }, kinds := [], alts := [], laidByText := true, laidKinds := [.data, .pinned], laidTests := true, laidLooks := .later }
def TableIsUptoCardSaid : Prop := Claim7.holds Tryz.pinned (.plain (OpenSpec.upto tableIsSpec)) tableIsUptoCard

/-- THE SECOND FORM's CARD OF 'groynelaw23.ScriptBack'. -/
def scriptBackUptoCard : Claim7 := { stood := { row := scriptBackUptoRow, standIns := [], harness := (true, "c4167838736f660b4fcd56119de9dfc2d707bcf8b01de13e201e316fce149d5a"), looks := false }, kinds := [], alts := [], laidByText := true, laidKinds := [.data, .pinned], laidTests := true, laidLooks := .later }
def ScriptBackUptoCardSaid : Prop := Claim7.holds Tryz.pinned (.plain (OpenSpec.upto scriptBackSpec)) scriptBackUptoCard

/-- THE SECOND FORM's CARD OF 'groynelaw23.ScriptGood'. -/
def scriptGoodUptoCard : Claim7 := { stood := { row := scriptGoodUptoRow, standIns := [], harness := (true, "c4167838736f660b4fcd56119de9dfc2d707bcf8b01de13e201e316fce149d5a"), looks := false }, kinds := [], alts := [], laidByText := true, laidKinds := [.data, .pinned], laidTests := true, laidLooks := .later }
def ScriptGoodUptoCardSaid : Prop := Claim7.holds Tryz.pinned (.plain (OpenSpec.upto scriptGoodSpec)) scriptGoodUptoCard

/-- THE SECOND FORM's CARD OF 'groynelaw23.ScriptRows'. -/
def scriptRowsUptoCard : Claim7 := { stood := { row := scriptRowsUptoRow, standIns := [], harness := (true, "c4167838736f660b4fcd56119de9dfc2d707bcf8b01de13e201e316fce149d5a"), looks := false }, kinds := [], alts := [], laidByText := true, laidKinds := [.data, .pinned], laidTests := true, laidLooks := .later }
def ScriptRowsUptoCardSaid : Prop := Claim7.holds Tryz.pinned (.plain (OpenSpec.upto scriptRowsSpec)) scriptRowsUptoCard

/-- THE SECOND FORM's CARD OF 'groynelaw10.FrameIs'. -/
def frameIsUptoCard : Claim7 := { stood := { row := frameIsUptoRow, standIns := [], harness := (true, "c4167838736f660b4fcd56119de9dfc2d707bcf8b01de13e201e316fce149d5a"), looks := false }, kinds := [], alts := [], laidByText := true, laidKinds := [.data, .pinned], laidTests := true, laidLooks := .later }
def FrameIsUptoCardSaid : Prop := Claim7.holds Tryz.pinned (.plain (OpenSpec.upto frameIsSpec)) frameIsUptoCard

/-- THE SECOND FORM's CARD OF 'groynelaw10.FrameBack'. -/
def frameBackUptoCard : Claim7 := { stood := { row := frameBackUptoRow, standIns := [], harness := (true, "c4167838736f660b4fcd56119de9dfc2d707bcf8b01de13e201e316fce149d5a"), looks := false }, kinds := [], alts := [], laidByText := true, laidKinds := [.data, .pinned], laidTests := true, laidLooks := .later }
def FrameBackUptoCardSaid : Prop := Claim7.holds Tryz.pinned (.plain (OpenSpec.upto frameBackSpec)) frameBackUptoCard

/-- THE SECOND FORM's CARD OF 'groynelaw10.FrameOnce'. -/
def frameOnceUptoCard : Claim7 := { stood := { row := frameOnceUptoRow, standIns := [], harness := (true, "c4167838736f660b4fcd56119de9dfc2d707bcf8b01de13e201e316fce149d5a"), looks := false }, kinds := [], alts := [], laidByText := true, laidKinds := [.data, .pinned], laidTests := true, laidLooks := .later }
def FrameOnceUptoCardSaid : Prop := Claim7.holds Tryz.pinned (.plain (OpenSpec.upto frameOnceSpec)) frameOnceUptoCard

/-- THE SECOND FORM's CARD OF 'groynelaw10.FrameKinds'. -/
def frameKindsUptoCard : Claim7 := { stood := { row := frameKindsUptoRow, standIns := [], harness := (true, "c4167838736f660b4fcd56119de9dfc2d707bcf8b01de13e201e316fce149d5a"), looks := false }, kinds := [], alts := [], laidByText := true, laidKinds := [.data, .pinned], laidTests := true, laidLooks := .later }
def FrameKindsUptoCardSaid : Prop := Claim7.holds Tryz.pinned (.plain (OpenSpec.upto frameKindsSpec)) frameKindsUptoCard

/-- THE SECOND FORM's CARD OF 'groynelaw10.FrameHead'. -/
def frameHeadUptoCard : Claim7 := { stood := { row := frameHeadUptoRow, standIns := [], harness := (true, "c4167838736f660b4fcd56119de9dfc2d707bcf8b01de13e201e316fce149d5a"), looks := false }, kinds := [], alts := [], laidByText := true, laidKinds := [.data, .pinned], laidTests := true, laidLooks := .later }
def FrameHeadUptoCardSaid : Prop := Claim7.holds Tryz.pinned (.plain (OpenSpec.upto frameHeadSpec)) frameHeadUptoCard

/-- THE SECOND FORM's CARD OF 'groynelaw10.FramePush'. -/
def framePushUptoCard : Claim7 := { stood := { row := framePushUptoRow, standIns := [], harness := (true, "c4167838736f660b4fcd56119de9dfc2d707bcf8b01de13e201e316fce149d5a"), looks := false }, kinds := [], alts := [], laidByText := true, laidKinds := [.data, .pinned], laidTests := true, laidLooks := .later }
def FramePushUptoCardSaid : Prop := Claim7.holds Tryz.pinned (.plain (OpenSpec.upto framePushSpec)) framePushUptoCard
end Rows
end Go.Proofs.YtepifkmileilfaaGreatDoor
