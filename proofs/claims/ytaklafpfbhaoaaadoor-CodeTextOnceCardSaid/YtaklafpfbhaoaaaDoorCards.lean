/-
  DERIVED. GIVEN WITH THE SEED: THE CARDS: each row of YtaklafpfbhaoaaaDoorRows.lean that lists a variable, with what it lists TIED to the program's text (the seventh form; the later family's looks); each row that meets fmt, with fmt's text TOLD by the authors' own Lean function (tested against real Go, not proved from fmt's source: count such statements apart). THE CARD IS WHAT COUNTS. Prove the row's statement (the work); the ties are given (YtaklafpfbhaoaaaDoorTie.lean); close each card by the builder's one call (the guide's Derived/Test/ToyasCard.lean, 'card_holds'). Laid BY PROGRAM, IN A SANDBOX (cutbox-door.mjs). By AI agents, Wed Nov 11 2026. No macro, syntax, notation, axiom, sorry.
-/
import Derived.Test.YtaklafpfbhaoaaaDoorRows
import GoSem.ClaimSeven
namespace Go.Proofs.YtaklafpfbhaoaaaDoor
namespace Rows

/-- THE TIED CARD OF 'cocoonlaw02.CodeReads'. -/
def codeReadsCard : Claim7 := { stood := { row := codeReadsRow, standIns := [], harness := (true, "e0d625a2e69adf01b107668993ea5ba20a030b330d5d389efb3f1299f4f792e2"), looks := false }, kinds := [], alts := [], laidByText := true, laidKinds := [.data, .data, .data], laidTests := true, laidLooks := .later }
def CodeReadsCardSaid : Prop := Claim7.holds Tryd.pinned (.plain (OpenSpec.ofChange codeReadsSpec)) codeReadsCard

/-- THE TIED CARD OF 'cocoonlaw02.CodeValid'. -/
def codeValidCard : Claim7 := { stood := { row := codeValidRow, standIns := [], harness := (true, "e0d625a2e69adf01b107668993ea5ba20a030b330d5d389efb3f1299f4f792e2"), looks := false }, kinds := [], alts := [], laidByText := true, laidKinds := [.data, .data, .data], laidTests := true, laidLooks := .later }
def CodeValidCardSaid : Prop := Claim7.holds Tryd.pinned (.plain (OpenSpec.ofChange codeValidSpec)) codeValidCard

/-- THE TIED CARD OF 'cocoonlaw02.CodeTexts'. -/
def codeTextsCard : Claim7 := { stood := { row := codeTextsRow, standIns := [], harness := (true, "e0d625a2e69adf01b107668993ea5ba20a030b330d5d389efb3f1299f4f792e2"), looks := false }, kinds := [], alts := [], laidByText := true, laidKinds := [.data, .data, .data], laidTests := true, laidLooks := .later }
def CodeTextsCardSaid : Prop := Claim7.holds Tryd.pinned (.plain (OpenSpec.ofChange codeTextsSpec)) codeTextsCard

/-- THE TIED CARD OF 'cocoonlaw02.CodeMore'. -/
def codeMoreCard : Claim7 := { stood := { row := codeMoreRow, standIns := [], harness := (true, "e0d625a2e69adf01b107668993ea5ba20a030b330d5d389efb3f1299f4f792e2"), looks := false }, kinds := [], alts := [], laidByText := true, laidKinds := [.data, .data, .data], laidTests := true, laidLooks := .later }
def CodeMoreCardSaid : Prop := Claim7.holds Tryd.pinned (.plain (OpenSpec.ofChange codeMoreSpec)) codeMoreCard

/-- THE TIED CARD OF 'cocoonlaw02.CodeRename'. -/
def codeRenameCard : Claim7 := { stood := { row := codeRenameRow, standIns := [], harness := (true, "e0d625a2e69adf01b107668993ea5ba20a030b330d5d389efb3f1299f4f792e2"), looks := false }, kinds := [], alts := [], laidByText := true, laidKinds := [.data, .data, .data], laidTests := true, laidLooks := .later }
def CodeRenameCardSaid : Prop := Claim7.holds Tryd.pinned (.plain (OpenSpec.ofChange codeRenameSpec)) codeRenameCard

/-- THE TIED CARD OF 'cocoonlaw02.CodeOne'. -/
def codeOneCard : Claim7 := { stood := { row := codeOneRow, standIns := [], harness := (true, "e0d625a2e69adf01b107668993ea5ba20a030b330d5d389efb3f1299f4f792e2"), looks := false }, kinds := [], alts := [], laidByText := true, laidKinds := [.data, .data, .data], laidTests := true, laidLooks := .later }
def CodeOneCardSaid : Prop := Claim7.holds Tryd.pinned (.plain (OpenSpec.ofChange codeOneSpec)) codeOneCard

/-- THE TIED CARD OF 'cocoonlaw02.CodeTextOnce'. -/
def codeTextOnceCard : Claim7 := { stood := { row := codeTextOnceRow, standIns := [], harness := (true, "e0d625a2e69adf01b107668993ea5ba20a030b330d5d389efb3f1299f4f792e2"), looks := false }, kinds := [], alts := [], laidByText := true, laidKinds := [.data, .data, .data], laidTests := true, laidLooks := .later }
def CodeTextOnceCardSaid : Prop := Claim7.holds Tryd.pinned (.plain (OpenSpec.ofChange codeTextOnceSpec)) codeTextOnceCard

/-- THE SECOND FORM's CARD OF 'cocoonlaw02.CodeReads'. -/
def codeReadsUptoCard : Claim7 := { stood := { row := codeReadsUptoRow, standIns := [], harness := (true, "e0d625a2e69adf01b107668993ea5ba20a030b330d5d389efb3f1299f4f792e2"), looks := false }, kinds := [], alts := [], laidByText := true, laidKinds := [.data, .data, .data], laidTests := true, laidLooks := .later }
def CodeReadsUptoCardSaid : Prop := Claim7.holds Tryd.pinned (.plain (OpenSpec.upto codeReadsSpec)) codeReadsUptoCard

/-- THE SECOND FORM's CARD OF 'cocoonlaw02.CodeValid'. -/
def codeValidUptoCard : Claim7 := { stood := { row := codeValidUptoRow, standIns := [], harness := (true, "e0d625a2e69adf01b107668993ea5ba20a030b330d5d389efb3f1299f4f792e2"), looks := false }, kinds := [], alts := [], laidByText := true, laidKinds := [.data, .data, .data], laidTests := true, laidLooks := .later }
def CodeValidUptoCardSaid : Prop := Claim7.holds Tryd.pinned (.plain (OpenSpec.upto codeValidSpec)) codeValidUptoCard

/-- THE SECOND FORM's CARD OF 'cocoonlaw02.CodeTexts'. -/
def codeTextsUptoCard : Claim7 := { stood := { row := codeTextsUptoRow, standIns := [], harness := (true, "e0d625a2e69adf01b107668993ea5ba20a030b330d5d389efb3f1299f4f792e2"), looks := false }, kinds := [], alts := [], laidByText := true, laidKinds := [.data, .data, .data], laidTests := true, laidLooks := .later }
def CodeTextsUptoCardSaid : Prop := Claim7.holds Tryd.pinned (.plain (OpenSpec.upto codeTextsSpec)) codeTextsUptoCard

/-- THE SECOND FORM's CARD OF 'cocoonlaw02.CodeMore'. -/
def codeMoreUptoCard : Claim7 := { stood := { row := codeMoreUptoRow, standIns := [], harness := (true, "e0d625a2e69adf01b107668993ea5ba20a030b330d5d389efb3f1299f4f792e2"), looks := false }, kinds := [], alts := [], laidByText := true, laidKinds := [.data, .data, .data], laidTests := true, laidLooks := .later }
def CodeMoreUptoCardSaid : Prop := Claim7.holds Tryd.pinned (.plain (OpenSpec.upto codeMoreSpec)) codeMoreUptoCard

/-- THE SECOND FORM's CARD OF 'cocoonlaw02.CodeRename'. -/
def codeRenameUptoCard : Claim7 := { stood := { row := codeRenameUptoRow, standIns := [], harness := (true, "e0d625a2e69adf01b107668993ea5ba20a030b330d5d389efb3f1299f4f792e2"), looks := false }, kinds := [], alts := [], laidByText := true, laidKinds := [.data, .data, .data], laidTests := true, laidLooks := .later }
def CodeRenameUptoCardSaid : Prop := Claim7.holds Tryd.pinned (.plain (OpenSpec.upto codeRenameSpec)) codeRenameUptoCard

/-- THE SECOND FORM's CARD OF 'cocoonlaw02.CodeOne'. -/
def codeOneUptoCard : Claim7 := { stood := { row := codeOneUptoRow, standIns := [], harness := (true, "e0d625a2e69adf01b107668993ea5ba20a030b330d5d389efb3f1299f4f792e2"), looks := false }, kinds := [], alts := [], laidByText := true, laidKinds := [.data, .data, .data], laidTests := true, laidLooks := .later }
def CodeOneUptoCardSaid : Prop := Claim7.holds Tryd.pinned (.plain (OpenSpec.upto codeOneSpec)) codeOneUptoCard

/-- THE SECOND FORM's CARD OF 'cocoonlaw02.CodeTextOnce'. -/
def codeTextOnceUptoCard : Claim7 := { stood := { row := codeTextOnceUptoRow, standIns := [], harness := (true, "e0d625a2e69adf01b107668993ea5ba20a030b330d5d389efb3f1299f4f792e2"), looks := false }, kinds := [], alts := [], laidByText := true, laidKinds := [.data, .data, .data], laidTests := true, laidLooks := .later }
def CodeTextOnceUptoCardSaid : Prop := Claim7.holds Tryd.pinned (.plain (OpenSpec.upto codeTextOnceSpec)) codeTextOnceUptoCard
end Rows
end Go.Proofs.YtaklafpfbhaoaaaDoor
