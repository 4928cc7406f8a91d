/-
  DERIVED. GIVEN WITH THE SEED: THE CARDS: each row of YtakfpmogpnoibaaDoorRows.lean that lists a variable, with what it lists TIED to the program's text (the seventh form; the later family's looks); each row that meets fmt, with fmt's text TOLD by the authors' own Lean function (tested against real Go, not proved from fmt's source: count such statements apart). THE CARD IS WHAT COUNTS. Prove the row's statement (the work); the ties are given (YtakfpmogpnoibaaDoorTie.lean); close each card by the builder's one call (the guide's Derived/Test/ToyasCard.lean, 'card_holds'). Laid BY PROGRAM, IN A SANDBOX (cutbox-door.mjs). By AI agents, Wed Nov 11 2026. No macro, syntax, notation, axiom, sorry.
-/
import Derived.Test.YtakfpmogpnoibaaDoorRows
import GoSem.ClaimSeven
namespace Go.Proofs.YtakfpmogpnoibaaDoor
namespace Rows

/-- THE TIED CARD OF 'cocoonlaw09.MirMore'. -/
def mirMoreCard : Claim7 := { stood := { row := mirMoreRow, standIns := [], harness := (true, "72fb29bbc89c1b556461d9e75bc770fd806c7bd127c4eb9758c0bfee7dd84cc1"), looks := false }, kinds := [], alts := [], laidByText := true, laidKinds := [.data, .data, .data], laidTests := true, laidLooks := .later }
def MirMoreCardSaid : Prop := Claim7.holds Tryd.pinned (.plain (OpenSpec.ofChange mirMoreSpec)) mirMoreCard

/-- THE TIED CARD OF 'cocoonlaw09.MirSteps'. -/
def mirStepsCard : Claim7 := { stood := { row := mirStepsRow, standIns := [], harness := (true, "72fb29bbc89c1b556461d9e75bc770fd806c7bd127c4eb9758c0bfee7dd84cc1"), looks := false }, kinds := [], alts := [], laidByText := true, laidKinds := [.data, .data, .data], laidTests := true, laidLooks := .later }
def MirStepsCardSaid : Prop := Claim7.holds Tryd.pinned (.plain (OpenSpec.ofChange mirStepsSpec)) mirStepsCard

/-- THE TIED CARD OF 'cocoonlaw09.MirUses'. -/
def mirUsesCard : Claim7 := { stood := { row := mirUsesRow, standIns := [], harness := (true, "72fb29bbc89c1b556461d9e75bc770fd806c7bd127c4eb9758c0bfee7dd84cc1"), looks := false }, kinds := [], alts := [], laidByText := true, laidKinds := [.data, .data, .data], laidTests := true, laidLooks := .later }
def MirUsesCardSaid : Prop := Claim7.holds Tryd.pinned (.plain (OpenSpec.ofChange mirUsesSpec)) mirUsesCard

/-- THE TIED CARD OF 'cocoonlaw09.MirTexts'. -/
def mirTextsCard : Claim7 := { stood := { row := mirTextsRow, standIns := [], harness := (true, "72fb29bbc89c1b556461d9e75bc770fd806c7bd127c4eb9758c0bfee7dd84cc1"), looks := false }, kinds := [], alts := [], laidByText := true, laidKinds := [.data, .data, .data], laidTests := true, laidLooks := .later }
def MirTextsCardSaid : Prop := Claim7.holds Tryd.pinned (.plain (OpenSpec.ofChange mirTextsSpec)) mirTextsCard

/-- THE SECOND FORM's CARD OF 'cocoonlaw09.MirMore'. -/
def mirMoreUptoCard : Claim7 := { stood := { row := mirMoreUptoRow, standIns := [], harness := (true, "72fb29bbc89c1b556461d9e75bc770fd806c7bd127c4eb9758c0bfee7dd84cc1"), looks := false }, kinds := [], alts := [], laidByText := true, laidKinds := [.data, .data, .data], laidTests := true, laidLooks := .later }
def MirMoreUptoCardSaid : Prop := Claim7.holds Tryd.pinned (.plain (OpenSpec.upto mirMoreSpec)) mirMoreUptoCard

/-- THE SECOND FORM's CARD OF 'cocoonlaw09.MirSteps'. -/
def mirStepsUptoCard : Claim7 := { stood := { row := mirStepsUptoRow, standIns := [], harness := (true, "72fb29bbc89c1b556461d9e75bc770fd806c7bd127c4eb9758c0bfee7dd84cc1"), looks := false }, kinds := [], alts := [], laidByText := true, laidKinds := [.data, .data, .data], laidTests := true, laidLooks := .later }
def MirStepsUptoCardSaid : Prop := Claim7.holds Tryd.pinned (.plain (OpenSpec.upto mirStepsSpec)) mirStepsUptoCard

/-- THE SECOND FORM's CARD OF 'cocoonlaw09.MirUses'. -/
def mirUsesUptoCard : Claim7 := { stood := { row := mirUsesUptoRow, standIns := [], harness := (true, "72fb29bbc89c1b556461d9e75bc770fd806c7bd127c4eb9758c0bfee7dd84cc1"), looks := false }, kinds := [], alts := [], laidByText := true, laidKinds := [.data, .data, .data], laidTests := true, laidLooks := .later }
def MirUsesUptoCardSaid : Prop := Claim7.holds Tryd.pinned (.plain (OpenSpec.upto mirUsesSpec)) mirUsesUptoCard

/-- THE SECOND FORM's CARD OF 'cocoonlaw09.MirTexts'. -/
def mirTextsUptoCard : Claim7 := { stood := { row := mirTextsUptoRow, standIns := [], harness := (true, "72fb29bbc89c1b556461d9e75bc770fd806c7bd127c4eb9758c0bfee7dd84cc1"), looks := false }, kinds := [], alts := [], laidByText := true, laidKinds := [.data, .data, .data], laidTests := true, laidLooks := .later }
def MirTextsUptoCardSaid : Prop := Claim7.holds Tryd.pinned (.plain (OpenSpec.upto mirTextsSpec)) mirTextsUptoCard
end Rows
end Go.Proofs.YtakfpmogpnoibaaDoor
