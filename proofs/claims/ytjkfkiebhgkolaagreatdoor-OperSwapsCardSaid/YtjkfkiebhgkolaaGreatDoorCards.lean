/-
  DERIVED. GIVEN WITH THE SEED: THE CARDS: each row of YtjkfkiebhgkolaaGreatDoorRows.lean that lists a variable, with what it lists TIED to the program's text (the seventh form; the later family's looks); each row that meets fmt, with fmt's text TOLD by the authors' own Lean function (tested against real Go, not proved from fmt's source: count such statements apart). THE CARD IS WHAT COUNTS. Prove the row's statement (the work); the ties are given (YtjkfkiebhgkolaaGreatDoorTie.lean); close each card by the builder's one call (the guide's Derived/Test/ToyasCard.lean, 'card_holds'). Laid BY PROGRAM, IN A SANDBOX (cutbox-door.mjs). By AI agents, Wed Nov 11 2026. No macro, syntax, notation, axiom, sorry.
-/
import Derived.Test.YtjkfkiebhgkolaaGreatDoorRows
import GoSem.ClaimSeven
namespace Go.Proofs.YtjkfkiebhgkolaaGreatDoor
namespace Rows

/-- THE TIED CARD OF 'bureaulaw14.OperDoes'. -/
def operDoesCard : Claim7 := { stood := { row := operDoesRow, standIns := [], harness := (true, "fc28f03b351ed66e5b260319e848951b5005ae947ade25d578fa813f4accacf5"), looks := false }, kinds := [], alts := [], laidByText := true, laidKinds := [.data, .pinned], laidTests := true, laidLooks := .later }
def OperDoesCardSaid : Prop := Claim7.holds Tryz.pinned (.plain (OpenSpec.ofChange operDoesSpec)) operDoesCard

/-- THE TIED CARD OF 'bureaulaw14.OperSwaps'. -/
def operSwapsCard : Claim7 := { stood := { row := operSwapsRow, standIns := [], harness := (true, "fc28f03b351ed66e5b260319e848951b5005ae947ade25d578fa813f4accacf5"), looks := false }, kinds := [], alts := [], laidByText := true, laidKinds := [.data, .pinned], laidTests := true, laidLooks := .later }
def OperSwapsCardSaid : Prop := Claim7.holds Tryz.pinned (.plain (OpenSpec.ofChange operSwapsSpec)) operSwapsCard

/-- THE TIED CARD OF 'bureaulaw14.OperSpans'. -/
def operSpansCard : Claim7 := { stood := { row := operSpansRow, standIns := [], harness := (true, "fc28f03b351ed66e5b260319e848951b5005ae947ade25d578fa813f4accacf5"), looks := false }, kinds := [], alts := [], laidByText := true, laidKinds := [.data, .pinned], laidTests := true, laidLooks := .later }
def OperSpansCardSaid : Prop := Claim7.holds Tryz.pinned (.plain (OpenSpec.ofChange operSpansSpec)) operSpansCard

/-- THE TIED CARD OF 'bureaulaw14.OperPuts'. -/
def operPutsCard : Claim7 := { stood := { row := operPutsRow, standIns := [], harness := (true, "fc28f03b351ed66e5b260319e848951b5005ae947ade25d578fa813f4accacf5"), looks := false }, kinds := [], alts := [], laidByText := true, laidKinds := [.data, .pinned], laidTests := true, laidLooks := .later }
def OperPutsCardSaid : Prop := Claim7.holds Tryz.pinned (.plain (OpenSpec.ofChange operPutsSpec)) operPutsCard

/-- THE TIED CARD OF 'bureaulaw14.OperEdits'. -/
def operEditsCard : Claim7 := { stood := { row := operEditsRow, standIns := [], harness := (true, "fc28f03b351ed66e5b260319e848951b5005ae947ade25d578fa813f4accacf5"), looks := false }, kinds := [], alts := [], laidByText := true, laidKinds := [.data, .pinned], laidTests := true, laidLooks := .later }
def OperEditsCardSaid : Prop := Claim7.holds Tryz.pinned (.plain (OpenSpec.ofChange operEditsSpec)) operEditsCard

/-- THE TIED CARD OF 'bureaulaw14.OperHides'. -/
def operHidesCard : Claim7 := { stood := { row := operHidesRow, standIns := [], harness := (true, "fc28f03b351ed66e5b260319e848951b5005ae947ade25d578fa813f4accacf5"), looks := false }, kinds := [], alts := [], laidByText := true, laidKinds := [.data, .pinned], laidTests := true, laidLooks := .later }
def OperHidesCardSaid : Prop := Claim7.holds Tryz.pinned (.plain (OpenSpec.ofChange operHidesSpec)) operHidesCard

/-- THE SECOND FORM's CARD OF 'bureaulaw14.OperDoes'. -/
def operDoesUptoCard : Claim7 := { stood := { row := operDoesUptoRow, standIns := [], harness := (true, "fc28f03b351ed66e5b260319e848951b5005ae947ade25d578fa813f4accacf5"), looks := false }, kinds := [], alts := [], laidByText := true, laidKinds := [.data, .pinned], laidTests := true, laidLooks := .later }
def OperDoesUptoCardSaid : Prop := Claim7.holds Tryz.pinned (.plain (OpenSpec.upto operDoesSpec)) operDoesUptoCard

/-- THE SECOND FORM's CARD OF 'bureaulaw14.OperSwaps'. -/
def operSwapsUptoCard : Claim7 := { stood := { row := operSwapsUptoRow, standIns := [], harness := (true, "fc28f03b351ed66e5b260319e848951b5005ae947ade25d578fa813f4accacf5"), looks := false }, kinds := [], alts := [], laidByText := true, laidKinds := [.data, .pinned], laidTests := true, laidLooks := .later }
def OperSwapsUptoCardSaid : Prop := Claim7.holds Tryz.pinned (.plain (OpenSpec.upto operSwapsSpec)) operSwapsUptoCard

/-- THE SECOND FORM's CARD OF 'bureaulaw14.OperSpans'. -/
def operSpansUptoCard : Claim7 := { stood := { row := operSpansUptoRow, standIns := [], harness := (true, "fc28f03b351ed66e5b260319e848951b5005ae947ade25d578fa813f4accacf5"), looks := false }, kinds := [], alts := [], laidByText := true, laidKinds := [.data, .pinned], laidTests := true, laidLooks := .later }
def OperSpansUptoCardSaid : Prop := Claim7.holds Tryz.pinned (.plain (OpenSpec.upto operSpansSpec)) operSpansUptoCard

/-- THE SECOND FORM's CARD OF 'bureaulaw14.OperPuts'. -/
def operPutsUptoCard : Claim7 := { stood := { row := operPutsUptoRow, standIns := [], harness := (true, "fc28f03b351ed66e5b260319e848951b5005ae947ade25d578fa813f4accacf5"), looks := false }, kinds := [], alts := [], laidByText := true, laidKinds := [.data, .pinned], laidTests := true, laidLooks := .later }
def OperPutsUptoCardSaid : Prop := Claim7.holds Tryz.pinned (.plain (OpenSpec.upto operPutsSpec)) operPutsUptoCard

/-- THE SECOND FORM's CARD OF 'bureaulaw14.OperEdits'. -/
def operEditsUptoCard : Claim7 := { stood := { row := operEditsUptoRow, standIns := [], harness := (true, "fc28f03b351ed66e5b260319e848951b5005ae947ade25d578fa813f4accacf5"), looks := false }, kinds := [], alts := [], laidByText := true, laidKinds := [.data, .pinned], laidTests := true, laidLooks := .later }
def OperEditsUptoCardSaid : Prop := Claim7.holds Tryz.pinned (.plain (OpenSpec.upto operEditsSpec)) operEditsUptoCard

/-- THE SECOND FORM's CARD OF 'bureaulaw14.OperHides'. -/
def operHidesUptoCard : Claim7 := { stood := { row := operHidesUptoRow, standIns := [], harness := (true, "fc28f03b351ed66e5b260319e848951b5005ae947ade25d578fa813f4accacf5"), looks := false }, kinds := [], alts := [], laidByText := true, laidKinds := [.data, .pinned], laidTests := true, laidLooks := .later }
def OperHidesUptoCardSaid : Prop := Claim7.holds Tryz.pinned (.plain (OpenSpec.upto operHidesSpec)) operHidesUptoCard
end Rows
end Go.Proofs.YtjkfkiebhgkolaaGreatDoor
