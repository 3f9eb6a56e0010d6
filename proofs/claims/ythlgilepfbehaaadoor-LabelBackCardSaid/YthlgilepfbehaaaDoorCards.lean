/-
  DERIVED. GIVEN WITH THE SEED: THE CARDS: each row of YthlgilepfbehaaaDoorRows.lean that lists a variable, with what it lists TIED to the program's text (the seventh form; the later family's looks); each row that meets fmt, with fmt's text TOLD by the authors' own Lean function (tested against real Go, not proved from fmt's source: count such statements apart). THE CARD IS WHAT COUNTS. Prove the row's statement (the work); the ties are given (YthlgilepfbehaaaDoorTie.lean); close each card by the builder's one call (the guide's Derived/Test/ToyasCard.lean, 'card_holds'). Laid BY PROGRAM, IN A SANDBOX (cutbox-door.mjs). By AI agents, Wed Nov 11 2026. No macro, syntax, notation, axiom, sorry.
-/
import Derived.Test.YthlgilepfbehaaaDoorRows
import GoSem.ClaimSeven
namespace Go.Proofs.YthlgilepfbehaaaDoor
namespace Rows

/-- THE TIED CARD OF 'bureaulaw01.LabelCats'. -/
def labelCatsCard : Claim7 := { stood := { row := labelCatsRow, standIns := [], harness := (true, "119a35d42e2822f6dc9c10cf91d21c45e1fe9602046be8fcb0894747f482489b"), looks := false }, kinds := [], alts := [], laidByText := true, laidKinds := [.data, .data, .data], laidTests := true, laidLooks := .later }
def LabelCatsCardSaid : Prop := Claim7.holds Tryd.pinned (.plain (OpenSpec.ofChange labelCatsSpec)) labelCatsCard

/-- THE TIED CARD OF 'bureaulaw01.LabelJoins'. -/
def labelJoinsCard : Claim7 := { stood := { row := labelJoinsRow, standIns := [], harness := (true, "119a35d42e2822f6dc9c10cf91d21c45e1fe9602046be8fcb0894747f482489b"), looks := false }, kinds := [], alts := [], laidByText := true, laidKinds := [.data, .data, .data], laidTests := true, laidLooks := .later }
def LabelJoinsCardSaid : Prop := Claim7.holds Tryd.pinned (.plain (OpenSpec.ofChange labelJoinsSpec)) labelJoinsCard

/-- THE TIED CARD OF 'bureaulaw01.LabelLattice'. -/
def labelLatticeCard : Claim7 := { stood := { row := labelLatticeRow, standIns := [], harness := (true, "119a35d42e2822f6dc9c10cf91d21c45e1fe9602046be8fcb0894747f482489b"), looks := false }, kinds := [], alts := [], laidByText := true, laidKinds := [.data, .data, .data], laidTests := true, laidLooks := .later }
def LabelLatticeCardSaid : Prop := Claim7.holds Tryd.pinned (.plain (OpenSpec.ofChange labelLatticeSpec)) labelLatticeCard

/-- THE TIED CARD OF 'bureaulaw01.LabelLeast'. -/
def labelLeastCard : Claim7 := { stood := { row := labelLeastRow, standIns := [], harness := (true, "119a35d42e2822f6dc9c10cf91d21c45e1fe9602046be8fcb0894747f482489b"), looks := false }, kinds := [], alts := [], laidByText := true, laidKinds := [.data, .data, .data], laidTests := true, laidLooks := .later }
def LabelLeastCardSaid : Prop := Claim7.holds Tryd.pinned (.plain (OpenSpec.ofChange labelLeastSpec)) labelLeastCard

/-- THE TIED CARD OF 'bureaulaw01.LabelLists'. -/
def labelListsCard : Claim7 := { stood := { row := labelListsRow, standIns := [], harness := (true, "119a35d42e2822f6dc9c10cf91d21c45e1fe9602046be8fcb0894747f482489b"), looks := false }, kinds := [], alts := [], laidByText := true, laidKinds := [.data, .data, .data], laidTests := true, laidLooks := .later }
def LabelListsCardSaid : Prop := Claim7.holds Tryd.pinned (.plain (OpenSpec.ofChange labelListsSpec)) labelListsCard

/-- THE TIED CARD OF 'bureaulaw01.LabelTexts'. -/
def labelTextsCard : Claim7 := { stood := { row := labelTextsRow, standIns := [], harness := (true, "119a35d42e2822f6dc9c10cf91d21c45e1fe9602046be8fcb0894747f482489b"), looks := false }, kinds := [], alts := [], laidByText := true, laidKinds := [.data, .data, .data, .data, .pinned], laidTests := true, laidLooks := .later }
def LabelTextsCardSaid : Prop := Claim7.holds Tryd.pinned (.plain (OpenSpec.ofChange labelTextsSpec)) labelTextsCard

/-- THE TIED CARD OF 'bureaulaw01.LabelBack'. -/
def labelBackCard : Claim7 := { stood := { row := labelBackRow, standIns := [], harness := (true, "119a35d42e2822f6dc9c10cf91d21c45e1fe9602046be8fcb0894747f482489b"), looks := false }, kinds := [], alts := [], laidByText := true, laidKinds := [.data, .data, .data, .data, .pinned], laidTests := true, laidLooks := .later }
def LabelBackCardSaid : Prop := Claim7.holds Tryd.pinned (.plain (OpenSpec.ofChange labelBackSpec)) labelBackCard

/-- THE SECOND FORM's CARD OF 'bureaulaw01.LabelCats'. -/
def labelCatsUptoCard : Claim7 := { stood := { row := labelCatsUptoRow, standIns := [], harness := (true, "119a35d42e2822f6dc9c10cf91d21c45e1fe9602046be8fcb0894747f482489b"), looks := false }, kinds := [], alts := [], laidByText := true, laidKinds := [.data, .data, .data], laidTests := true, laidLooks := .later }
def LabelCatsUptoCardSaid : Prop := Claim7.holds Tryd.pinned (.plain (OpenSpec.upto labelCatsSpec)) labelCatsUptoCard

/-- THE SECOND FORM's CARD OF 'bureaulaw01.LabelJoins'. -/
def labelJoinsUptoCard : Claim7 := { stood := { row := labelJoinsUptoRow, standIns := [], harness := (true, "119a35d42e2822f6dc9c10cf91d21c45e1fe9602046be8fcb0894747f482489b"), looks := false }, kinds := [], alts := [], laidByText := true, laidKinds := [.data, .data, .data], laidTests := true, laidLooks := .later }
def LabelJoinsUptoCardSaid : Prop := Claim7.holds Tryd.pinned (.plain (OpenSpec.upto labelJoinsSpec)) labelJoinsUptoCard

/-- THE SECOND FORM's CARD OF 'bureaulaw01.LabelLattice'. -/
def labelLatticeUptoCard : Claim7 := { stood := { row := labelLatticeUptoRow, standIns := [], harness := (true, "119a35d42e2822f6dc9c10cf91d21c45e1fe9602046be8fcb0894747f482489b"), looks := false }, kinds := [], alts := [], laidByText := true, laidKinds := [.data, .data, .data], laidTests := true, laidLooks := .later }
def LabelLatticeUptoCardSaid : Prop := Claim7.holds Tryd.pinned (.plain (OpenSpec.upto labelLatticeSpec)) labelLatticeUptoCard

/-- THE SECOND FORM's CARD OF 'bureaulaw01.LabelLeast'. -/
def labelLeastUptoCard : Claim7 := { stood := { row := labelLeastUptoRow, standIns := [], harness := (true, "119a35d42e2822f6dc9c10cf91d21c45e1fe9602046be8fcb0894747f482489b"), looks := false }, kinds := [], alts := [], laidByText := true, laidKinds := [.data, .data, .data], laidTests := true, laidLooks := .later }
def LabelLeastUptoCardSaid : Prop := Claim7.holds Tryd.pinned (.plain (OpenSpec.upto labelLeastSpec)) labelLeastUptoCard

/-- THE SECOND FORM's CARD OF 'bureaulaw01.LabelLists'. -/
def labelListsUptoCard : Claim7 := { stood := { row := labelListsUptoRow, standIns := [], harness := (true, "119a35d42e2822f6dc9c10cf91d21c45e1fe9602046be8fcb0894747f482489b"), looks := false }, kinds := [], alts := [], laidByText := true, laidKinds := [.data, .data, .data], laidTests := true, laidLooks := .later }
def LabelListsUptoCardSaid : Prop := Claim7.holds Tryd.pinned (.plain (OpenSpec.upto labelListsSpec)) labelListsUptoCard

/-- THE SECOND FORM's CARD OF 'bureaulaw01.LabelTexts'. -/
def labelTextsUptoCard : Claim7 := { stood := { row := labelTextsUptoRow, standIns := [], harness := (true, "119a35d42e2822f6dc9c10cf91d21c45e1fe9602046be8fcb0894747f482489b"), looks := false }, kinds := [], alts := [], laidByText := true, laidKinds := [.data, .data, .data, .data, .pinned], laidTests := true, laidLooks := .later }
def LabelTextsUptoCardSaid : Prop := Claim7.holds Tryd.pinned (.plain (OpenSpec.upto labelTextsSpec)) labelTextsUptoCard

/-- THE SECOND FORM's CARD OF 'bureaulaw01.LabelBack'. -/
def labelBackUptoCard : Claim7 := { stood := { row := labelBackUptoRow, standIns := [], harness := (true, "119a35d42e2822f6dc9c10cf91d21c45e1fe9602046be8fcb0894747f482489b"), looks := false }, kinds := [], alts := [], laidByText := true, laidKinds := [.data, .data, .data, .data, .pinned], laidTests := true, laidLooks := .later }
def LabelBackUptoCardSaid : Prop := Claim7.holds Tryd.pinned (.plain (OpenSpec.upto labelBackSpec)) labelBackUptoCard
end Rows
end Go.Proofs.YthlgilepfbehaaaDoor
