/-
  DERIVED. GIVEN WITH THE SEED: THE CARDS: each row of YtakfpmogpnoibaaGreatDoorRows.lean that lists a variable, with what it lists TIED to the program's text (the seventh form; the later family's looks); each row that meets fmt, with fmt's text TOLD by the authors' own Lean function (tested against real Go, not proved from fmt's source: count such statements apart). THE CARD IS WHAT COUNTS. Prove the row's statement (the work); the ties are given (YtakfpmogpnoibaaGreatDoorTie.lean); close each card by the builder's one call (the guide's Derived/Test/ToyasCard.lean, 'card_holds'). Laid BY PROGRAM, IN A SANDBOX (cutbox-door.mjs). By AI agents, Wed Nov 11 2026. No macro, syntax, notation, axiom, sorry.
-/
import Derived.Test.YtakfpmogpnoibaaGreatDoorRows
import GoSem.ClaimSeven
namespace Go.Proofs.YtakfpmogpnoibaaGreatDoor
namespace Rows

/-- THE TIED CARD OF 'cocoonlaw05.TreeSame'. -/
def treeSameCard : Claim7 := { stood := { row := treeSameRow, standIns := [], harness := (true, "5fb048d045625182b10262516d9c4193a6b1e98e8e618b184d271e5fcbaa7853"), looks := false }, kinds := [], alts := [], laidByText := true, laidKinds := [.data, .data, .data], laidTests := true, laidLooks := .later }
def TreeSameCardSaid : Prop := Claim7.holds Tryz.pinned (.plain (OpenSpec.ofChange treeSameSpec)) treeSameCard

/-- THE TIED CARD OF 'cocoonlaw05.TreeOnce'. -/
def treeOnceCard : Claim7 := { stood := { row := treeOnceRow, standIns := [], harness := (true, "5fb048d045625182b10262516d9c4193a6b1e98e8e618b184d271e5fcbaa7853"), looks := false }, kinds := [], alts := [], laidByText := true, laidKinds := [.data, .data, .data], laidTests := true, laidLooks := .later }
def TreeOnceCardSaid : Prop := Claim7.holds Tryz.pinned (.plain (OpenSpec.ofChange treeOnceSpec)) treeOnceCard

/-- THE TIED CARD OF 'cocoonlaw05.TreeParts'. -/
def treePartsCard : Claim7 := { stood := { row := treePartsRow, standIns := [], harness := (true, "5fb048d045625182b10262516d9c4193a6b1e98e8e618b184d271e5fcbaa7853"), looks := false }, kinds := [], alts := [], laidByText := true, laidKinds := [.data, .data, .data], laidTests := true, laidLooks := .later }
def TreePartsCardSaid : Prop := Claim7.holds Tryz.pinned (.plain (OpenSpec.ofChange treePartsSpec)) treePartsCard

/-- THE TIED CARD OF 'cocoonlaw05.TreeNest'. -/
def treeNestCard : Claim7 := { stood := { row := treeNestRow, standIns := [], harness := (true, "5fb048d045625182b10262516d9c4193a6b1e98e8e618b184d271e5fcbaa7853"), looks := false }, kinds := [], alts := [], laidByText := true, laidKinds := [.data, .data, .data], laidTests := true, laidLooks := .later }
def TreeNestCardSaid : Prop := Claim7.holds Tryz.pinned (.plain (OpenSpec.ofChange treeNestSpec)) treeNestCard

/-- THE TIED CARD OF 'cocoonlaw05.TreeDeep'. -/
def treeDeepCard : Claim7 := { stood := { row := treeDeepRow, standIns := [], harness := (true, "5fb048d045625182b10262516d9c4193a6b1e98e8e618b184d271e5fcbaa7853"), looks := false }, kinds := [], alts := [], laidByText := true, laidKinds := [.data, .data, .data], laidTests := true, laidLooks := .later }
def TreeDeepCardSaid : Prop := Claim7.holds Tryz.pinned (.plain (OpenSpec.ofChange treeDeepSpec)) treeDeepCard

/-- THE TIED CARD OF 'cocoonlaw09.MirValid'. -/
def mirValidCard : Claim7 := { stood := { row := mirValidRow, standIns := [], harness := (true, "5fb048d045625182b10262516d9c4193a6b1e98e8e618b184d271e5fcbaa7853"), looks := false }, kinds := [], alts := [], laidByText := true, laidKinds := [.data, .data, .data], laidTests := true, laidLooks := .later }
def MirValidCardSaid : Prop := Claim7.holds Tryz.pinned (.plain (OpenSpec.ofChange mirValidSpec)) mirValidCard

/-- THE TIED CARD OF 'cocoonlaw09.MirTypes'. -/
def mirTypesCard : Claim7 := { stood := { row := mirTypesRow, standIns := [], harness := (true, "5fb048d045625182b10262516d9c4193a6b1e98e8e618b184d271e5fcbaa7853"), looks := false }, kinds := [], alts := [], laidByText := true, laidKinds := [.data, .data, .data], laidTests := true, laidLooks := .later }
def MirTypesCardSaid : Prop := Claim7.holds Tryz.pinned (.plain (OpenSpec.ofChange mirTypesSpec)) mirTypesCard

/-- THE SECOND FORM's CARD OF 'cocoonlaw05.TreeSame'. -/
def treeSameUptoCard : Claim7 := { stood := { row := treeSameUptoRow, standIns := [], harness := (true, "5fb048d045625182b10262516d9c4193a6b1e98e8e618b184d271e5fcbaa7853"), looks := false }, kinds := [], alts := [], laidByText := true, laidKinds := [.data, .data, .data], laidTests := true, laidLooks := .later }
def TreeSameUptoCardSaid : Prop := Claim7.holds Tryz.pinned (.plain (OpenSpec.upto treeSameSpec)) treeSameUptoCard

/-- THE SECOND FORM's CARD OF 'cocoonlaw05.TreeOnce'. -/
def treeOnceUptoCard : Claim7 := { stood := { row := treeOnceUptoRow, standIns := [], harness := (true, "5fb048d045625182b10262516d9c4193a6b1e98e8e618b184d271e5fcbaa7853"), looks := false }, kinds := [], alts := [], laidByText := true, laidKinds := [.data, .data, .data], laidTests := true, laidLooks := .later }
def TreeOnceUptoCardSaid : Prop := Claim7.holds Tryz.pinned (.plain (OpenSpec.upto treeOnceSpec)) treeOnceUptoCard

/-- THE SECOND FORM's CARD OF 'cocoonlaw05.TreeParts'. -/
def treePartsUptoCard : Claim7 := { stood := { row := treePartsUptoRow, standIns := [], harness := (true, "5fb048d045625182b10262516d9c4193a6b1e98e8e618b184d271e5fcbaa7853"), looks := false }, kinds := [], alts := [], laidByText := true, laidKinds := [.data, .data, .data], laidTests := true, laidLooks := .later }
def TreePartsUptoCardSaid : Prop := Claim7.holds Tryz.pinned (.plain (OpenSpec.upto treePartsSpec)) treePartsUptoCard

/-- THE SECOND FORM's CARD OF 'cocoonlaw05.TreeNest'. -/
def treeNestUptoCard : Claim7 := { stood := { row := treeNestUptoRow, standIns := [], harness := (true, "5fb048d045625182b10262516d9c4193a6b1e98e8e618b184d271e5fcbaa7853"), looks := false }, kinds := [], alts := [], laidByText := true, laidKinds := [.data, .data, .data], laidTests := true, laidLooks := .later }
def TreeNestUptoCardSaid : Prop := Claim7.holds Tryz.pinned (.plain (OpenSpec.upto treeNestSpec)) treeNestUptoCard

/-- THE SECOND FORM's CARD OF 'cocoonlaw05.TreeDeep'. -/
def treeDeepUptoCard : Claim7 := { stood := { row := treeDeepUptoRow, standIns := [], harness := (true, "5fb048d045625182b10262516d9c4193a6b1e98e8e618b184d271e5fcbaa7853"), looks := false }, kinds := [], alts := [], laidByText := true, laidKinds := [.data, .data, .data], laidTests := true, laidLooks := .later }
def TreeDeepUptoCardSaid : Prop := Claim7.holds Tryz.pinned (.plain (OpenSpec.upto treeDeepSpec)) treeDeepUptoCard

/-- THE SECOND FORM's CARD OF 'cocoonlaw09.MirValid'. -/
def mirValidUptoCard : Claim7 := { stood := { row := mirValidUptoRow, standIns := [], harness := (true, "5fb048d045625182b10262516d9c4193a6b1e98e8e618b184d271e5fcbaa7853"), looks := false }, kinds := [], alts := [], laidByText := true, laidKinds := [.data, .data, .data], laidTests := true, laidLooks := .later }
def MirValidUptoCardSaid : Prop := Claim7.holds Tryz.pinned (.plain (OpenSpec.upto mirValidSpec)) mirValidUptoCard

/-- THE SECOND FORM's CARD OF 'cocoonlaw09.MirTypes'. -/
def mirTypesUptoCard : Claim7 := { stood := { row := mirTypesUptoRow, standIns := [], harness := (true, "5fb048d045625182b10262516d9c4193a6b1e98e8e618b184d271e5fcbaa7853"), looks := false }, kinds := [], alts := [], laidByText := true, laidKinds := [.data, .data, .data], laidTests := true, laidLooks := .later }
def MirTypesUptoCardSaid : Prop := Claim7.holds Tryz.pinned (.plain (OpenSpec.upto mirTypesSpec)) mirTypesUptoCard
end Rows
end Go.Proofs.YtakfpmogpnoibaaGreatDoor
