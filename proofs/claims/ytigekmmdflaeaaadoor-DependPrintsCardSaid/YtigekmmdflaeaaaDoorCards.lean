/-
  DERIVED. GIVEN WITH THE SEED: THE CARDS: each row of YtigekmmdflaeaaaDoorRows.lean that lists a variable, with what it lists TIED to the program's text (the seventh form; the later family's looks); each row that meets fmt, with fmt's text TOLD by the authors' own Lean function (tested against real Go, not proved from fmt's source: count such statements apart). THE CARD IS WHAT COUNTS. Prove the row's statement (the work); the ties are given (YtigekmmdflaeaaaDoorTie.lean); close each card by the builder's one call (the guide's Derived/Test/ToyasCard.lean, 'card_holds'). Laid BY PROGRAM, IN A SANDBOX (cutbox-door.mjs). By AI agents, Wed Nov 11 2026. No macro, syntax, notation, axiom, sorry.
-/
import Derived.Test.YtigekmmdflaeaaaDoorRows
import GoSem.ClaimSeven
namespace Go.Proofs.YtigekmmdflaeaaaDoor
namespace Rows

/-- THE TIED CARD OF 'gangerlaw08.DependPrints'. -/
def dependPrintsCard : Claim7 := { stood := { row := dependPrintsRow, standIns := [], harness := (true, "533e3c574ad4018d359ad1454f19344faf9c5393b5a2110a996db1f043857ef9"), looks := false }, kinds := [], alts := [], laidByText := true, laidKinds := [.data, .data, .data, .data, .pinned], laidTests := true, laidLooks := .later }
def DependPrintsCardSaid : Prop := Claim7.holds Tryd.pinned (.plain (OpenSpec.ofChange dependPrintsSpec)) dependPrintsCard

/-- THE TIED CARD OF 'gangerlaw08.DependParses'. -/
def dependParsesCard : Claim7 := { stood := { row := dependParsesRow, standIns := [], harness := (true, "533e3c574ad4018d359ad1454f19344faf9c5393b5a2110a996db1f043857ef9"), looks := false }, kinds := [], alts := [], laidByText := true, laidKinds := [.data, .data, .data, .data, .pinned], laidTests := true, laidLooks := .later }
def DependParsesCardSaid : Prop := Claim7.holds Tryd.pinned (.plain (OpenSpec.ofChange dependParsesSpec)) dependParsesCard

/-- THE TIED CARD OF 'gangerlaw08.DependSays'. -/
def dependSaysCard : Claim7 := { stood := { row := dependSaysRow, standIns := [], harness := (true, "533e3c574ad4018d359ad1454f19344faf9c5393b5a2110a996db1f043857ef9"), looks := false }, kinds := [], alts := [], laidByText := true, laidKinds := [.data, .data, .data, .data, .pinned], laidTests := true, laidLooks := .later }
def DependSaysCardSaid : Prop := Claim7.holds Tryd.pinned (.plain (OpenSpec.ofChange dependSaysSpec)) dependSaysCard

/-- THE TIED CARD OF 'gangerlaw08.DependBack'. -/
def dependBackCard : Claim7 := { stood := { row := dependBackRow, standIns := [], harness := (true, "533e3c574ad4018d359ad1454f19344faf9c5393b5a2110a996db1f043857ef9"), looks := false }, kinds := [], alts := [], laidByText := true, laidKinds := [.data, .data, .data, .data, .pinned], laidTests := true, laidLooks := .later }
def DependBackCardSaid : Prop := Claim7.holds Tryd.pinned (.plain (OpenSpec.ofChange dependBackSpec)) dependBackCard

/-- THE TIED CARD OF 'gangerlaw08.DependStays'. -/
def dependStaysCard : Claim7 := { stood := { row := dependStaysRow, standIns := [], harness := (true, "533e3c574ad4018d359ad1454f19344faf9c5393b5a2110a996db1f043857ef9"), looks := false }, kinds := [], alts := [], laidByText := true, laidKinds := [.data, .data, .data, .data, .pinned], laidTests := true, laidLooks := .later }
def DependStaysCardSaid : Prop := Claim7.holds Tryd.pinned (.plain (OpenSpec.ofChange dependStaysSpec)) dependStaysCard

/-- THE TIED CARD OF 'gangerlaw08.DependJoins'. -/
def dependJoinsCard : Claim7 := { stood := { row := dependJoinsRow, standIns := [], harness := (true, "533e3c574ad4018d359ad1454f19344faf9c5393b5a2110a996db1f043857ef9"), looks := false }, kinds := [], alts := [], laidByText := true, laidKinds := [.data, .data, .data, .data, .pinned], laidTests := true, laidLooks := .later }
def DependJoinsCardSaid : Prop := Claim7.holds Tryd.pinned (.plain (OpenSpec.ofChange dependJoinsSpec)) dependJoinsCard

/-- THE TIED CARD OF 'gangerlaw08.DependEmpty'. -/
def dependEmptyCard : Claim7 := { stood := { row := dependEmptyRow, standIns := [], harness := (true, "533e3c574ad4018d359ad1454f19344faf9c5393b5a2110a996db1f043857ef9"), looks := false }, kinds := [], alts := [], laidByText := true, laidKinds := [.data, .data, .data, .data, .pinned], laidTests := true, laidLooks := .later }
def DependEmptyCardSaid : Prop := Claim7.holds Tryd.pinned (.plain (OpenSpec.ofChange dependEmptySpec)) dependEmptyCard

/-- THE SECOND FORM's CARD OF 'gangerlaw08.DependPrints'. -/
def dependPrintsUptoCard : Claim7 := { stood := { row := dependPrintsUptoRow, standIns := [], harness := (true, "533e3c574ad4018d359ad1454f19344faf9c5393b5a2110a996db1f043857ef9"), looks := false }, kinds := [], alts := [], laidByText := true, laidKinds := [.data, .data, .data, .data, .pinned], laidTests := true, laidLooks := .later }
def DependPrintsUptoCardSaid : Prop := Claim7.holds Tryd.pinned (.plain (OpenSpec.upto dependPrintsSpec)) dependPrintsUptoCard

/-- THE SECOND FORM's CARD OF 'gangerlaw08.DependParses'. -/
def dependParsesUptoCard : Claim7 := { stood := { row := dependParsesUptoRow, standIns := [], harness := (true, "533e3c574ad4018d359ad1454f19344faf9c5393b5a2110a996db1f043857ef9"), looks := false }, kinds := [], alts := [], laidByText := true, laidKinds := [.data, .data, .data, .data, .pinned], laidTests := true, laidLooks := .later }
def DependParsesUptoCardSaid : Prop := Claim7.holds Tryd.pinned (.plain (OpenSpec.upto dependParsesSpec)) dependParsesUptoCard

/-- THE SECOND FORM's CARD OF 'gangerlaw08.DependSays'. -/
def dependSaysUptoCard : Claim7 := { stood := { row := dependSaysUptoRow, standIns := [], harness := (true, "533e3c574ad4018d359ad1454f19344faf9c5393b5a2110a996db1f043857ef9"), looks := false }, kinds := [], alts := [], laidByText := true, laidKinds := [.data, .data, .data, .data, .pinned], laidTests := true, laidLooks := .later }
def DependSaysUptoCardSaid : Prop := Claim7.holds Tryd.pinned (.plain (OpenSpec.upto dependSaysSpec)) dependSaysUptoCard

/-- THE SECOND FORM's CARD OF 'gangerlaw08.DependBack'. -/
def dependBackUptoCard : Claim7 := { stood := { row := dependBackUptoRow, standIns := [], harness := (true, "533e3c574ad4018d359ad1454f19344faf9c5393b5a2110a996db1f043857ef9"), looks := false }, kinds := [], alts := [], laidByText := true, laidKinds := [.data, .data, .data, .data, .pinned], laidTests := true, laidLooks := .later }
def DependBackUptoCardSaid : Prop := Claim7.holds Tryd.pinned (.plain (OpenSpec.upto dependBackSpec)) dependBackUptoCard

/-- THE SECOND FORM's CARD OF 'gangerlaw08.DependStays'. -/
def dependStaysUptoCard : Claim7 := { stood := { row := dependStaysUptoRow, standIns := [], harness := (true, "533e3c574ad4018d359ad1454f19344faf9c5393b5a2110a996db1f043857ef9"), looks := false }, kinds := [], alts := [], laidByText := true, laidKinds := [.data, .data, .data, .data, .pinned], laidTests := true, laidLooks := .later }
def DependStaysUptoCardSaid : Prop := Claim7.holds Tryd.pinned (.plain (OpenSpec.upto dependStaysSpec)) dependStaysUptoCard

/-- THE SECOND FORM's CARD OF 'gangerlaw08.DependJoins'. -/
def dependJoinsUptoCard : Claim7 := { stood := { row := dependJoinsUptoRow, standIns := [], harness := (true, "533e3c574ad4018d359ad1454f19344faf9c5393b5a2110a996db1f043857ef9"), looks := false }, kinds := [], alts := [], laidByText := true, laidKinds := [.data, .data, .data, .data, .pinned], laidTests := true, laidLooks := .later }
def DependJoinsUptoCardSaid : Prop := Claim7.holds Tryd.pinned (.plain (OpenSpec.upto dependJoinsSpec)) dependJoinsUptoCard

/-- THE SECOND FORM's CARD OF 'gangerlaw08.DependEmpty'. -/
def dependEmptyUptoCard : Claim7 := { stood := { row := dependEmptyUptoRow, standIns := [], harness := (true, "533e3c574ad4018d359ad1454f19344faf9c5393b5a2110a996db1f043857ef9"), looks := false }, kinds := [], alts := [], laidByText := true, laidKinds := [.data, .data, .data, .data, .pinned], laidTests := true, laidLooks := .later }
def DependEmptyUptoCardSaid : Prop := Claim7.holds Tryd.pinned (.plain (OpenSpec.upto dependEmptySpec)) dependEmptyUptoCard
end Rows
end Go.Proofs.YtigekmmdflaeaaaDoor
