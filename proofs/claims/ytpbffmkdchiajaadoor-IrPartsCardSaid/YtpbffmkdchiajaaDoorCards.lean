/-
  DERIVED. GIVEN WITH THE SEED: THE CARDS: each row of YtpbffmkdchiajaaDoorRows.lean that lists a variable, with what it lists TIED to the program's text (the seventh form; the later family's looks); each row that meets fmt, with fmt's text TOLD by the authors' own Lean function (tested against real Go, not proved from fmt's source: count such statements apart). THE CARD IS WHAT COUNTS. Prove the row's statement (the work); the ties are given (YtpbffmkdchiajaaDoorTie.lean); close each card by the builder's one call (the guide's Derived/Test/ToyasCard.lean, 'card_holds'). Laid BY PROGRAM, IN A SANDBOX (cutbox-door.mjs). By AI agents, Wed Nov 11 2026. No macro, syntax, notation, axiom, sorry.
-/
import Derived.Test.YtpbffmkdchiajaaDoorRows
import GoSem.ClaimSeven
namespace Go.Proofs.YtpbffmkdchiajaaDoor
namespace Rows

/-- THE TIED CARD OF 'tourbillonlaw02.IsaWrites'. -/
def isaWritesCard : Claim7 := { stood := { row := isaWritesRow, standIns := [], harness := (true, "8405c9a8d58946574d8e60fd243c37abd746041cd7a59d4d230acb9bf3b17558"), looks := false }, kinds := [], alts := [], laidByText := true, laidKinds := [.data, .data, .data, .data, .listed, .data, .data, .pinned], laidTests := true, laidLooks := .later }
def IsaWritesCardSaid : Prop := Claim7.holds Tryd.pinned (.plain (OpenSpec.ofChange isaWritesSpec)) isaWritesCard

/-- THE TIED CARD OF 'tourbillonlaw02.IsaTexts'. -/
def isaTextsCard : Claim7 := { stood := { row := isaTextsRow, standIns := [], harness := (true, "8405c9a8d58946574d8e60fd243c37abd746041cd7a59d4d230acb9bf3b17558"), looks := false }, kinds := [], alts := [], laidByText := true, laidKinds := [.data, .data, .data, .data, .listed, .data, .data, .pinned], laidTests := true, laidLooks := .later }
def IsaTextsCardSaid : Prop := Claim7.holds Tryd.pinned (.plain (OpenSpec.ofChange isaTextsSpec)) isaTextsCard

/-- THE TIED CARD OF 'tourbillonlaw02.IsaNear'. -/
def isaNearCard : Claim7 := { stood := { row := isaNearRow, standIns := [], harness := (true, "8405c9a8d58946574d8e60fd243c37abd746041cd7a59d4d230acb9bf3b17558"), looks := false }, kinds := [], alts := [], laidByText := true, laidKinds := [.data, .data, .data, .data, .listed, .data, .data, .pinned], laidTests := true, laidLooks := .later }
def IsaNearCardSaid : Prop := Claim7.holds Tryd.pinned (.plain (OpenSpec.ofChange isaNearSpec)) isaNearCard

/-- THE TIED CARD OF 'tourbillonlaw17.WindowRefuses'. -/
def windowRefusesCard : Claim7 := { stood := { row := windowRefusesRow, standIns := [], harness := (true, "8405c9a8d58946574d8e60fd243c37abd746041cd7a59d4d230acb9bf3b17558"), looks := false }, kinds := [], alts := [], laidByText := true, laidKinds := [.data], laidTests := true, laidLooks := .later }
def WindowRefusesCardSaid : Prop := Claim7.holds Tryd.pinned (.plain (OpenSpec.ofChange windowRefusesSpec)) windowRefusesCard

/-- THE TIED CARD OF 'tourbillonlaw08.IrParts'. -/
def irPartsCard : Claim7 := { stood := { row := irPartsRow, standIns := [], harness := (true, "8405c9a8d58946574d8e60fd243c37abd746041cd7a59d4d230acb9bf3b17558"), looks := false }, kinds := [], alts := [], laidByText := true, laidKinds := [.data, .data, .data, .data], laidTests := true, laidLooks := .later }
def IrPartsCardSaid : Prop := Claim7.holds Tryd.pinned (.plain (OpenSpec.ofChange irPartsSpec)) irPartsCard

/-- THE TIED CARD OF 'tourbillonlaw15.ImageWrites'. -/
def imageWritesCard : Claim7 := { stood := { row := imageWritesRow, standIns := [], harness := (true, "8405c9a8d58946574d8e60fd243c37abd746041cd7a59d4d230acb9bf3b17558"), looks := false }, kinds := [], alts := [], laidByText := true, laidKinds := [.data, .data, .data, .data, .listed, .data, .data, .data, .pinned], laidTests := true, laidLooks := .later }
def ImageWritesCardSaid : Prop := Claim7.holds Tryd.pinned (.plain (OpenSpec.ofChange imageWritesSpec)) imageWritesCard

/-- THE SECOND FORM's CARD OF 'tourbillonlaw02.IsaWrites'. -/
def isaWritesUptoCard : Claim7 := { stood := { row := isaWritesUptoRow, standIns := [], harness := (true, "8405c9a8d58946574d8e60fd243c37abd746041cd7a59d4d230acb9bf3b17558"), looks := false }, kinds := [], alts := [], laidByText := true, laidKinds := [.data, .data, .data, .data, .listed, .data, .data, .pinned], laidTests := true, laidLooks := .later }
def IsaWritesUptoCardSaid : Prop := Claim7.holds Tryd.pinned (.plain (OpenSpec.upto isaWritesSpec)) isaWritesUptoCard

/-- THE SECOND FORM's CARD OF 'tourbillonlaw02.IsaTexts'. -/
def isaTextsUptoCard : Claim7 := { stood := { row := isaTextsUptoRow, standIns := [], harness := (true, "8405c9a8d58946574d8e60fd243c37abd746041cd7a59d4d230acb9bf3b17558"), looks := false }, kinds := [], alts := [], laidByText := true, laidKinds := [.data, .data, .data, .data, .listed, .data, .data, .pinned], laidTests := true, laidLooks := .later }
def IsaTextsUptoCardSaid : Prop := Claim7.holds Tryd.pinned (.plain (OpenSpec.upto isaTextsSpec)) isaTextsUptoCard

/-- THE SECOND FORM's CARD OF 'tourbillonlaw02.IsaNear'. -/
def isaNearUptoCard : Claim7 := { stood := { row := isaNearUptoRow, standIns := [], harness := (true, "8405c9a8d58946574d8e60fd243c37abd746041cd7a59d4d230acb9bf3b17558"), looks := false }, kinds := [], alts := [], laidByText := true, laidKinds := [.data, .data, .data, .data, .listed, .data, .data, .pinned], laidTests := true, laidLooks := .later }
def IsaNearUptoCardSaid : Prop := Claim7.holds Tryd.pinned (.plain (OpenSpec.upto isaNearSpec)) isaNearUptoCard

/-- THE SECOND FORM's CARD OF 'tourbillonlaw17.WindowRefuses'. -/
def windowRefusesUptoCard : Claim7 := { stood := { row := windowRefusesUptoRow, standIns := [], harness := (true, "8405c9a8d58946574d8e60fd243c37abd746041cd7a59d4d230acb9bf3b17558"), looks := false }, kinds := [], alts := [], laidByText := true, laidKinds := [.data], laidTests := true, laidLooks := .later }
def WindowRefusesUptoCardSaid : Prop := Claim7.holds Tryd.pinned (.plain (OpenSpec.upto windowRefusesSpec)) windowRefusesUptoCard

/-- THE SECOND FORM's CARD OF 'tourbillonlaw08.IrParts'. -/
def irPartsUptoCard : Claim7 := { stood := { row := irPartsUptoRow, standIns := [], harness := (true, "8405c9a8d58946574d8e60fd243c37abd746041cd7a59d4d230acb9bf3b17558"), looks := false }, kinds := [], alts := [], laidByText := true, laidKinds := [.data, .data, .data, .data], laidTests := true, laidLooks := .later }
def IrPartsUptoCardSaid : Prop := Claim7.holds Tryd.pinned (.plain (OpenSpec.upto irPartsSpec)) irPartsUptoCard

/-- THE SECOND FORM's CARD OF 'tourbillonlaw15.ImageWrites'. -/
def imageWritesUptoCard : Claim7 := { stood := { row := imageWritesUptoRow, standIns := [], harness := (true, "8405c9a8d58946574d8e60fd243c37abd746041cd7a59d4d230acb9bf3b17558"), looks := false }, kinds := [], alts := [], laidByText := true, laidKinds := [.data, .data, .data, .data, .listed, .data, .data, .data, .pinned], laidTests := true, laidLooks := .later }
def ImageWritesUptoCardSaid : Prop := Claim7.holds Tryd.pinned (.plain (OpenSpec.upto imageWritesSpec)) imageWritesUptoCard
end Rows
end Go.Proofs.YtpbffmkdchiajaaDoor
