/-
  DERIVED. GIVEN WITH THE SEED: THE CARDS: each row of YtcbiilbmldinhaaDoorRows.lean that lists a variable, with what it lists TIED to the program's text (the seventh form; the later family's looks); each row that meets fmt, with fmt's text TOLD by the authors' own Lean function (tested against real Go, not proved from fmt's source: count such statements apart). THE CARD IS WHAT COUNTS. Prove the row's statement (the work); the ties are given (YtcbiilbmldinhaaDoorTie.lean); close each card by the builder's one call (the guide's Derived/Test/ToyasCard.lean, 'card_holds'). Laid BY PROGRAM, IN A SANDBOX (cutbox-door.mjs). By AI agents, Wed Nov 11 2026. No macro, syntax, notation, axiom, sorry.
-/
import Derived.Test.YtcbiilbmldinhaaDoorRows
import GoSem.ClaimSeven
namespace Go.Proofs.YtcbiilbmldinhaaDoor
namespace Rows

/-- THE TIED CARD OF 'bureaulaw18.AuditActs'. -/
def auditActsCard : Claim7 := { stood := { row := auditActsRow, standIns := [], harness := (true, "8468b460f20b78c7c63af62b12d0e325294c5ee833165461167e575c1ad1b535"), looks := true }, kinds := [], alts := [], laidByText := true, laidKinds := [.data, .data, .data], laidTests := true, laidLooks := .later }
def AuditActsCardSaid : Prop := Claim7.holds Tryd.pinned (.plain (OpenSpec.ofChange auditActsSpec)) auditActsCard

/-- THE TIED CARD OF 'bureaulaw18.AuditExtends'. -/
def auditExtendsCard : Claim7 := { stood := { row := auditExtendsRow, standIns := [], harness := (true, "8468b460f20b78c7c63af62b12d0e325294c5ee833165461167e575c1ad1b535"), looks := true }, kinds := [], alts := [], laidByText := true, laidKinds := [.data, .data, .data], laidTests := true, laidLooks := .later }
def AuditExtendsCardSaid : Prop := Claim7.holds Tryd.pinned (.plain (OpenSpec.ofChange auditExtendsSpec)) auditExtendsCard

/-- THE TIED CARD OF 'bureaulaw18.AuditGrows'. -/
def auditGrowsCard : Claim7 := { stood := { row := auditGrowsRow, standIns := [], harness := (true, "8468b460f20b78c7c63af62b12d0e325294c5ee833165461167e575c1ad1b535"), looks := true }, kinds := [], alts := [], laidByText := true, laidKinds := [.data, .data, .data], laidTests := true, laidLooks := .later }
def AuditGrowsCardSaid : Prop := Claim7.holds Tryd.pinned (.plain (OpenSpec.ofChange auditGrowsSpec)) auditGrowsCard

/-- THE TIED CARD OF 'bureaulaw18.AuditApart'. -/
def auditApartCard : Claim7 := { stood := { row := auditApartRow, standIns := [], harness := (true, "8468b460f20b78c7c63af62b12d0e325294c5ee833165461167e575c1ad1b535"), looks := true }, kinds := [], alts := [], laidByText := true, laidKinds := [.data, .data, .data], laidTests := true, laidLooks := .later }
def AuditApartCardSaid : Prop := Claim7.holds Tryd.pinned (.plain (OpenSpec.ofChange auditApartSpec)) auditApartCard

/-- THE TIED CARD OF 'bureaulaw18.AuditNobody'. -/
def auditNobodyCard : Claim7 := { stood := { row := auditNobodyRow, standIns := [], harness := (true, "8468b460f20b78c7c63af62b12d0e325294c5ee833165461167e575c1ad1b535"), looks := true }, kinds := [], alts := [], laidByText := true, laidKinds := [.data, .data, .data], laidTests := true, laidLooks := .later }
def AuditNobodyCardSaid : Prop := Claim7.holds Tryd.pinned (.plain (OpenSpec.ofChange auditNobodySpec)) auditNobodyCard

/-- THE TIED CARD OF 'bureaulaw18.AuditTexts'. -/
def auditTextsCard : Claim7 := { stood := { row := auditTextsRow, standIns := [], harness := (true, "8468b460f20b78c7c63af62b12d0e325294c5ee833165461167e575c1ad1b535"), looks := true }, kinds := [], alts := [], laidByText := true, laidKinds := [.data, .data, .data, .data, .sentinel, .sentinel, .pinned], laidTests := true, laidLooks := .later }
def AuditTextsCardSaid : Prop := Claim7.holds Tryd.pinned (.plain (OpenSpec.ofChange auditTextsSpec)) auditTextsCard

/-- THE TIED CARD OF 'bureaulaw18.AuditBack'. -/
def auditBackCard : Claim7 := { stood := { row := auditBackRow, standIns := [], harness := (true, "8468b460f20b78c7c63af62b12d0e325294c5ee833165461167e575c1ad1b535"), looks := true }, kinds := [], alts := [], laidByText := true, laidKinds := [.data, .data, .data, .data, .sentinel, .sentinel, .pinned], laidTests := true, laidLooks := .later }
def AuditBackCardSaid : Prop := Claim7.holds Tryd.pinned (.plain (OpenSpec.ofChange auditBackSpec)) auditBackCard

/-- THE SECOND FORM's CARD OF 'bureaulaw18.AuditActs'. -/
def auditActsUptoCard : Claim7 := { stood := { row := auditActsUptoRow, standIns := [], harness := (true, "8468b460f20b78c7c63af62b12d0e325294c5ee833165461167e575c1ad1b535"), looks := true }, kinds := [], alts := [], laidByText := true, laidKinds := [.data, .data, .data], laidTests := true, laidLooks := .later }
def AuditActsUptoCardSaid : Prop := Claim7.holds Tryd.pinned (.plain (OpenSpec.upto auditActsSpec)) auditActsUptoCard

/-- THE SECOND FORM's CARD OF 'bureaulaw18.AuditExtends'. -/
def auditExtendsUptoCard : Claim7 := { stood := { row := auditExtendsUptoRow, standIns := [], harness := (true, "8468b460f20b78c7c63af62b12d0e325294c5ee833165461167e575c1ad1b535"), looks := true }, kinds := [], alts := [], laidByText := true, laidKinds := [.data, .data, .data], laidTests := true, laidLooks := .later }
def AuditExtendsUptoCardSaid : Prop := Claim7.holds Tryd.pinned (.plain (OpenSpec.upto auditExtendsSpec)) auditExtendsUptoCard

/-- THE SECOND FORM's CARD OF 'bureaulaw18.AuditGrows'. -/
def auditGrowsUptoCard : Claim7 := { stood := { row := auditGrowsUptoRow, standIns := [], harness := (true, "8468b460f20b78c7c63af62b12d0e325294c5ee833165461167e575c1ad1b535"), looks := true }, kinds := [], alts := [], laidByText := true, laidKinds := [.data, .data, .data], laidTests := true, laidLooks := .later }
def AuditGrowsUptoCardSaid : Prop := Claim7.holds Tryd.pinned (.plain (OpenSpec.upto auditGrowsSpec)) auditGrowsUptoCard

/-- THE SECOND FORM's CARD OF 'bureaulaw18.AuditApart'. -/
def auditApartUptoCard : Claim7 := { stood := { row := auditApartUptoRow, standIns := [], harness := (true, "8468b460f20b78c7c63af62b12d0e325294c5ee833165461167e575c1ad1b535"), looks := true }, kinds := [], alts := [], laidByText := true, laidKinds := [.data, .data, .data], laidTests := true, laidLooks := .later }
def AuditApartUptoCardSaid : Prop := Claim7.holds Tryd.pinned (.plain (OpenSpec.upto auditApartSpec)) auditApartUptoCard

/-- THE SECOND FORM's CARD OF 'bureaulaw18.AuditNobody'. -/
def auditNobodyUptoCard : Claim7 := { stood := { row := auditNobodyUptoRow, standIns := [], harness := (true, "8468b460f20b78c7c63af62b12d0e325294c5ee833165461167e575c1ad1b535"), looks := true }, kinds := [], alts := [], laidByText := true, laidKinds := [.data, .data, .data], laidTests := true, laidLooks := .later }
def AuditNobodyUptoCardSaid : Prop := Claim7.holds Tryd.pinned (.plain (OpenSpec.upto auditNobodySpec)) auditNobodyUptoCard

/-- THE SECOND FORM's CARD OF 'bureaulaw18.AuditTexts'. -/
def auditTextsUptoCard : Claim7 := { stood := { row := auditTextsUptoRow, standIns := [], harness := (true, "8468b460f20b78c7c63af62b12d0e325294c5ee833165461167e575c1ad1b535"), looks := true }, kinds := [], alts := [], laidByText := true, laidKinds := [.data, .data, .data, .data, .sentinel, .sentinel, .pinned], laidTests := true, laidLooks := .later }
def AuditTextsUptoCardSaid : Prop := Claim7.holds Tryd.pinned (.plain (OpenSpec.upto auditTextsSpec)) auditTextsUptoCard

/-- THE SECOND FORM's CARD OF 'bureaulaw18.AuditBack'. -/
def auditBackUptoCard : Claim7 := { stood := { row := auditBackUptoRow, standIns := [], harness := (true, "8468b460f20b78c7c63af62b12d0e325294c5ee833165461167e575c1ad1b535"), looks := true }, kinds := [], alts := [], laidByText := true, laidKinds := [.data, .data, .data, .data, .sentinel, .sentinel, .pinned], laidTests := true, laidLooks := .later }
def AuditBackUptoCardSaid : Prop := Claim7.holds Tryd.pinned (.plain (OpenSpec.upto auditBackSpec)) auditBackUptoCard
end Rows
end Go.Proofs.YtcbiilbmldinhaaDoor
