/-
  DERIVED. GIVEN WITH THE SEED: THE CARDS: each row of YtagpmhlokhoanaaDoorRows.lean that lists a variable, with what it lists TIED to the program's text (the seventh form; the later family's looks); each row that meets fmt, with fmt's text TOLD by the authors' own Lean function (tested against real Go, not proved from fmt's source: count such statements apart). THE CARD IS WHAT COUNTS. Prove the row's statement (the work); the ties are given (YtagpmhlokhoanaaDoorTie.lean); close each card by the builder's one call (the guide's Derived/Test/ToyasCard.lean, 'card_holds'). Laid BY PROGRAM, IN A SANDBOX (cutbox-door.mjs). By AI agents, Wed Nov 11 2026. No macro, syntax, notation, axiom, sorry.
-/
import Derived.Test.YtagpmhlokhoanaaDoorRows
import GoSem.ClaimSeven
namespace Go.Proofs.YtagpmhlokhoanaaDoor
namespace Rows

/-- THE TIED CARD OF 'coraclelaw23.ScriptOnce'. -/
def scriptOnceCard : Claim7 := { stood := { row := scriptOnceRow, standIns := [], harness := (true, "cfd2fe419fbe8c790fd23efb053ec5f44a409b2f2cb47744e0a9afc181a33998"), looks := true }, kinds := [], alts := [], laidByText := true, laidKinds := [.data, .data, .data, .data], laidTests := true, laidLooks := .later }
def ScriptOnceCardSaid : Prop := Claim7.holds Tryd.pinned (.plain (OpenSpec.ofChange scriptOnceSpec)) scriptOnceCard

/-- THE TIED CARD OF 'coraclelaw23.ScriptLines'. -/
def scriptLinesCard : Claim7 := { stood := { row := scriptLinesRow, standIns := [], harness := (true, "cfd2fe419fbe8c790fd23efb053ec5f44a409b2f2cb47744e0a9afc181a33998"), looks := true }, kinds := [], alts := [], laidByText := true, laidKinds := [.data, .data, .data, .data, .sentinel, .sentinel, .data, .pinned], laidTests := true, laidLooks := .later }
def ScriptLinesCardSaid : Prop := Claim7.holds Tryd.pinned (.plain (OpenSpec.ofChange scriptLinesSpec)) scriptLinesCard

/-- THE TIED CARD OF 'coraclelaw23.ScriptTexts'. -/
def scriptTextsCard : Claim7 := { stood := { row := scriptTextsRow, standIns := [], harness := (true, "cfd2fe419fbe8c790fd23efb053ec5f44a409b2f2cb47744e0a9afc181a33998"), looks := true }, kinds := [], alts := [], laidByText := true, laidKinds := [.data, .data, .data, .data, .sentinel, .sentinel, .data, .pinned], laidTests := true, laidLooks := .later }
def ScriptTextsCardSaid : Prop := Claim7.holds Tryd.pinned (.plain (OpenSpec.ofChange scriptTextsSpec)) scriptTextsCard

/-- THE TIED CARD OF 'coraclelaw23.ScriptBack'. -/
def scriptBackCard : Claim7 := { stood := { row := scriptBackRow, standIns := [], harness := (true, "cfd2fe419fbe8c790fd23efb053ec5f44a409b2f2cb47744e0a9afc181a33998"), looks := true }, kinds := [], alts := [], laidByText := true, laidKinds := [.data, .data, .data, .data, .sentinel, .sentinel, .data, .pinned], laidTests := true, laidLooks := .later }
def ScriptBackCardSaid : Prop := Claim7.holds Tryd.pinned (.plain (OpenSpec.ofChange scriptBackSpec)) scriptBackCard

/-- THE TIED CARD OF 'coraclelaw23.ScriptParts'. -/
def scriptPartsCard : Claim7 := { stood := { row := scriptPartsRow, standIns := [], harness := (true, "cfd2fe419fbe8c790fd23efb053ec5f44a409b2f2cb47744e0a9afc181a33998"), looks := true }, kinds := [], alts := [], laidByText := true, laidKinds := [.data, .data, .data, .data, .sentinel, .sentinel, .data, .pinned], laidTests := true, laidLooks := .later }
def ScriptPartsCardSaid : Prop := Claim7.holds Tryd.pinned (.plain (OpenSpec.ofChange scriptPartsSpec)) scriptPartsCard

/-- THE SECOND FORM's CARD OF 'coraclelaw23.ScriptOnce'. -/
def scriptOnceUptoCard : Claim7 := { stood := { row := scriptOnceUptoRow, standIns := [], harness := (true, "cfd2fe419fbe8c790fd23efb053ec5f44a409b2f2cb47744e0a9afc181a33998"), looks := true }, kinds := [], alts := [], laidByText := true, laidKinds := [.data, .data, .data, .data], laidTests := true, laidLooks := .later }
def ScriptOnceUptoCardSaid : Prop := Claim7.holds Tryd.pinned (.plain (OpenSpec.upto scriptOnceSpec)) scriptOnceUptoCard

/-- THE SECOND FORM's CARD OF 'coraclelaw23.ScriptLines'. -/
def scriptLinesUptoCard : Claim7 := { stood := { row := scriptLinesUptoRow, standIns := [], harness := (true, "cfd2fe419fbe8c790fd23efb053ec5f44a409b2f2cb47744e0a9afc181a33998"), looks := true }, kinds := [], alts := [], laidByText := true, laidKinds := [.data, .data, .data, .data, .sentinel, .sentinel, .data, .pinned], laidTests := true, laidLooks := .later }
def ScriptLinesUptoCardSaid : Prop := Claim7.holds Tryd.pinned (.plain (OpenSpec.upto scriptLinesSpec)) scriptLinesUptoCard

/-- THE SECOND FORM's CARD OF 'coraclelaw23.ScriptTexts'. -/
def scriptTextsUptoCard : Claim7 := { stood := { row := scriptTextsUptoRow, standIns := [], harness := (true, "cfd2fe419fbe8c790fd23efb053ec5f44a409b2f2cb47744e0a9afc181a33998"), looks := true }, kinds := [], alts := [], laidByText := true, laidKinds := [.data, .data, .data, .data, .sentinel, .sentinel, .data, .pinned], laidTests := true, laidLooks := .later }
def ScriptTextsUptoCardSaid : Prop := Claim7.holds Tryd.pinned (.plain (OpenSpec.upto scriptTextsSpec)) scriptTextsUptoCard

/-- THE SECOND FORM's CARD OF 'coraclelaw23.ScriptBack'. -/
def scriptBackUptoCard : Claim7 := { stood := { row := scriptBackUptoRow, standIns := [], harness := (true, "cfd2fe419fbe8c790fd23efb053ec5f44a409b2f2cb47744e0a9afc181a33998"), looks := true }, kinds := [], alts := [], laidByText := true, laidKinds := [.data, .data, .data, .data, .sentinel, .sentinel, .data, .pinned], laidTests := true, laidLooks := .later }
def ScriptBackUptoCardSaid : Prop := Claim7.holds Tryd.pinned (.plain (OpenSpec.upto scriptBackSpec)) scriptBackUptoCard

/-- THE SECOND FORM's CARD OF 'coraclelaw23.ScriptParts'. -/
def scriptPartsUptoCard : Claim7 := { stood := { row := scriptPartsUptoRow, standIns := [], harness := (true, "cfd2fe419fbe8c790fd23efb053ec5f44a409b2f2cb47744e0a9afc181a33998"), looks := true }, kinds := [], alts := [], laidByText := true, laidKinds := [.data, .data, .data, .data, .sentinel, .sentinel, .data, .pinned], laidTests := true, laidLooks := .later }
def ScriptPartsUptoCardSaid : Prop := Claim7.holds Tryd.pinned (.plain (OpenSpec.upto scriptPartsSpec)) scriptPartsUptoCard
end Rows
end Go.Proofs.YtagpmhlokhoanaaDoor
