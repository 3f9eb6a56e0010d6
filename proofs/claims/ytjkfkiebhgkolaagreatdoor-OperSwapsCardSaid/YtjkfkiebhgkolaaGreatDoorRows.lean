/-
  NARROWER THAN 'FOR EVERY INPUT', by the rows' own cells (each row's printed sentence says how): OperDoes: laid · OperSwaps: laid · OperSpans: laid · OperPuts: laid · OperEdits: laid · OperHides: laid.
  DERIVED. THE GIVEN ROWS OF THIS SEAT. 6 by the template 'for every input the law returns true; each argument reads behind the call as it read before'; 0 by the template 'total and deterministic' (their statements: YtjkfkiebhgkolaaGreatDoorTotals.lean).
  GIVEN WITH THE SEED: the statements are not yours to turn. If you find one false, say at which input.
  Laid BY PROGRAM, IN A SANDBOX (cutbox-rows.mjs): the forced cells as the released guide's own fill.sh prints them over the translation 882cd41286c096cd… (all of the seat's roots in one cut). By AI agents, Wed Nov 11 2026. No macro, syntax, notation, axiom, sorry.
-/
import Derived.Test.YtjkfkiebhgkolaaGreatDoorChecked
import GoSem.PinnedTables
import GoSem.Claim
import GoSem.ClaimJoined
import GoSem.ClaimMapViews
import Derived.JoinedTies
import Derived.KernelRfl
namespace Go.Proofs.YtjkfkiebhgkolaaGreatDoor
/- THE CELL 'sum', in the pinned program and in every row, IS THE sha256 OF THE DUMP (.gsa) THAT YtjkfkiebhgkolaaGreatDoorProg.lean LOADS. Nothing in Lean hashes anything: it is a label: what it is worth is what the hold of that sum in a sandbox is worth. -/
noncomputable def Tryz.pinned : Pinned := { name := "ytjkfkiebhgkolaagreatdoor", sum := "882cd41286c096cdd2c7585ed82106b7d9655a679b0b49ac8dee3ee82236cae5", checked := Tryz.checked }
namespace Rows
def none {H : Type} : Left H := { results := [], args := [] }

/- WHAT THE LISTED PACKAGE-LEVEL VARIABLES READ AS WHEN THE CALL BEGINS. Each datum BY PROGRAM (the guide's laid-datum.mjs) off the statement by which the dump's own 'gosem.cut.vars' lays the variable. In a bare row this is a premise. The card (YtjkfkiebhgkolaaGreatDoorCards.lean) ties it to the program's text. -/
def laid_unicode_utf8_acceptRanges {H : Type} : DataW H := .agg [.agg [.lit (.int .u8 128), .lit (.int .u8 191)], .agg [.lit (.int .u8 160), .lit (.int .u8 191)], .agg [.lit (.int .u8 128), .lit (.int .u8 159)], .agg [.lit (.int .u8 144), .lit (.int .u8 191)], .agg [.lit (.int .u8 128), .lit (.int .u8 143)], .agg [.lit (.int .u8 0), .lit (.int .u8 0)], .agg [.lit (.int .u8 0), .lit (.int .u8 0)], .agg [.lit (.int .u8 0), .lit (.int .u8 0)], .agg [.lit (.int .u8 0), .lit (.int .u8 0)], .agg [.lit (.int .u8 0), .lit (.int .u8 0)], .agg [.lit (.int .u8 0), .lit (.int .u8 0)], .agg [.lit (.int .u8 0), .lit (.int .u8 0)], .agg [.lit (.int .u8 0), .lit (.int .u8 0)], .agg [.lit (.int .u8 0), .lit (.int .u8 0)], .agg [.lit (.int .u8 0), .lit (.int .u8 0)], .agg [.lit (.int .u8 0), .lit (.int .u8 0)]]
/-- One of Go's own tables, pinned by name: the form's constant. -/
def laid_unicode_utf8_first : DataW Unit := Go.Pinned.utf8First

/-- 'bureaulaw14.OperDoes': WHATEVER THE INPUT: true; the input reads as it did. -/
def operDoesSpec : ChangeSpec := { name := "operDoes", fn := fun _ => fun
  | [d] => { results := [.lit (.bool true)], args := [d] }
  | _ => none }
def operDoesRow : OpenClaim := { program := "ytjkfkiebhgkolaagreatdoor", sum := "882cd41286c096cdd2c7585ed82106b7d9655a679b0b49ac8dee3ee82236cae5", func := "bureau/bureaulaw14.OperDoes", spec := "operDoes", inPlace := ["internal/bytealg.CountString", "internal/bytealg.IndexByteString", "internal/bytealg.IndexString", "internal/abi.NoEscape", "internal/bytealg.MakeNoZero"], unfollowed := true, recurses := true, named := ["internal/bytealg.MaxLen", "unicode/utf8.first", "unicode/utf8.acceptRanges"], apart := false, laid := [("unicode/utf8.acceptRanges", laid_unicode_utf8_acceptRanges), ("unicode/utf8.first", laid_unicode_utf8_first)] }
def OperDoesSaid : Prop := operDoesRow.holds Tryz.pinned (OpenSpec.ofChange operDoesSpec)

/-- ITS FALSE NEIGHBOUR: 'it returns false'. Refute it at one input. -/
def operDoesWrong : ChangeSpec := { name := "operDoes", fn := fun _ => fun
  | [d] => { results := [.lit (.bool false)], args := [d] }
  | _ => none }
def OperDoesWrongFalsely : Prop := operDoesRow.holds Tryz.pinned (OpenSpec.ofChange operDoesWrong)

/-- 'bureaulaw14.OperSwaps': WHATEVER THE INPUT: true; the input reads as it did. -/
def operSwapsSpec : ChangeSpec := { name := "operSwaps", fn := fun _ => fun
  | [d] => { results := [.lit (.bool true)], args := [d] }
  | _ => none }
def operSwapsRow : OpenClaim := { program := "ytjkfkiebhgkolaagreatdoor", sum := "882cd41286c096cdd2c7585ed82106b7d9655a679b0b49ac8dee3ee82236cae5", func := "bureau/bureaulaw14.OperSwaps", spec := "operSwaps", inPlace := ["internal/bytealg.CountString", "internal/bytealg.IndexByteString", "internal/bytealg.IndexString", "internal/abi.NoEscape", "internal/bytealg.MakeNoZero"], unfollowed := true, recurses := true, named := ["internal/bytealg.MaxLen", "unicode/utf8.first", "unicode/utf8.acceptRanges"], apart := false, laid := [("unicode/utf8.acceptRanges", laid_unicode_utf8_acceptRanges), ("unicode/utf8.first", laid_unicode_utf8_first)] }
def OperSwapsSaid : Prop := operSwapsRow.holds Tryz.pinned (OpenSpec.ofChange operSwapsSpec)

/-- ITS FALSE NEIGHBOUR: 'it returns false'. Refute it at one input. -/
def operSwapsWrong : ChangeSpec := { name := "operSwaps", fn := fun _ => fun
  | [d] => { results := [.lit (.bool false)], args := [d] }
  | _ => none }
def OperSwapsWrongFalsely : Prop := operSwapsRow.holds Tryz.pinned (OpenSpec.ofChange operSwapsWrong)

/-- 'bureaulaw14.OperSpans': WHATEVER THE INPUT: true; the input reads as it did. -/
def operSpansSpec : ChangeSpec := { name := "operSpans", fn := fun _ => fun
  | [d1, d2, d3] => { results := [.lit (.bool true)], args := [d1, d2, d3] }
  | _ => none }
def operSpansRow : OpenClaim := { program := "ytjkfkiebhgkolaagreatdoor", sum := "882cd41286c096cdd2c7585ed82106b7d9655a679b0b49ac8dee3ee82236cae5", func := "bureau/bureaulaw14.OperSpans", spec := "operSpans", inPlace := ["internal/bytealg.CountString", "internal/bytealg.IndexByteString", "internal/bytealg.IndexString", "internal/abi.NoEscape", "internal/bytealg.MakeNoZero"], unfollowed := true, recurses := true, named := ["internal/bytealg.MaxLen", "unicode/utf8.first", "unicode/utf8.acceptRanges"], apart := false, laid := [("unicode/utf8.acceptRanges", laid_unicode_utf8_acceptRanges), ("unicode/utf8.first", laid_unicode_utf8_first)] }
def OperSpansSaid : Prop := operSpansRow.holds Tryz.pinned (OpenSpec.ofChange operSpansSpec)

/-- ITS FALSE NEIGHBOUR: 'it returns false'. Refute it at one input. -/
def operSpansWrong : ChangeSpec := { name := "operSpans", fn := fun _ => fun
  | [d1, d2, d3] => { results := [.lit (.bool false)], args := [d1, d2, d3] }
  | _ => none }
def OperSpansWrongFalsely : Prop := operSpansRow.holds Tryz.pinned (OpenSpec.ofChange operSpansWrong)

/-- 'bureaulaw14.OperPuts': WHATEVER THE INPUT: true; the input reads as it did. -/
def operPutsSpec : ChangeSpec := { name := "operPuts", fn := fun _ => fun
  | [d] => { results := [.lit (.bool true)], args := [d] }
  | _ => none }
def operPutsRow : OpenClaim := { program := "ytjkfkiebhgkolaagreatdoor", sum := "882cd41286c096cdd2c7585ed82106b7d9655a679b0b49ac8dee3ee82236cae5", func := "bureau/bureaulaw14.OperPuts", spec := "operPuts", inPlace := ["internal/bytealg.CountString", "internal/bytealg.IndexByteString", "internal/bytealg.IndexString", "internal/abi.NoEscape", "internal/bytealg.MakeNoZero"], unfollowed := true, recurses := true, named := ["internal/bytealg.MaxLen", "unicode/utf8.first", "unicode/utf8.acceptRanges"], apart := false, laid := [("unicode/utf8.acceptRanges", laid_unicode_utf8_acceptRanges), ("unicode/utf8.first", laid_unicode_utf8_first)] }
def OperPutsSaid : Prop := operPutsRow.holds Tryz.pinned (OpenSpec.ofChange operPutsSpec)

/-- ITS FALSE NEIGHBOUR: 'it returns false'. Refute it at one input. -/
def operPutsWrong : ChangeSpec := { name := "operPuts", fn := fun _ => fun
  | [d] => { results := [.lit (.bool false)], args := [d] }
  | _ => none }
def OperPutsWrongFalsely : Prop := operPutsRow.holds Tryz.pinned (OpenSpec.ofChange operPutsWrong)

/-- 'bureaulaw14.OperEdits': WHATEVER THE INPUT: true; the input reads as it did. -/
def operEditsSpec : ChangeSpec := { name := "operEdits", fn := fun _ => fun
  | [d] => { results := [.lit (.bool true)], args := [d] }
  | _ => none }
def operEditsRow : OpenClaim := { program := "ytjkfkiebhgkolaagreatdoor", sum := "882cd41286c096cdd2c7585ed82106b7d9655a679b0b49ac8dee3ee82236cae5", func := "bureau/bureaulaw14.OperEdits", spec := "operEdits", inPlace := ["internal/bytealg.CountString", "internal/bytealg.IndexByteString", "internal/bytealg.IndexString", "internal/abi.NoEscape", "internal/bytealg.MakeNoZero"], unfollowed := true, recurses := true, named := ["internal/bytealg.MaxLen", "unicode/utf8.first", "unicode/utf8.acceptRanges"], apart := false, laid := [("unicode/utf8.acceptRanges", laid_unicode_utf8_acceptRanges), ("unicode/utf8.first", laid_unicode_utf8_first)] }
def OperEditsSaid : Prop := operEditsRow.holds Tryz.pinned (OpenSpec.ofChange operEditsSpec)

/-- ITS FALSE NEIGHBOUR: 'it returns false'. Refute it at one input. -/
def operEditsWrong : ChangeSpec := { name := "operEdits", fn := fun _ => fun
  | [d] => { results := [.lit (.bool false)], args := [d] }
  | _ => none }
def OperEditsWrongFalsely : Prop := operEditsRow.holds Tryz.pinned (OpenSpec.ofChange operEditsWrong)

/-- 'bureaulaw14.OperHides': WHATEVER THE INPUT: true; the input reads as it did. -/
def operHidesSpec : ChangeSpec := { name := "operHides", fn := fun _ => fun
  | [d1, d2] => { results := [.lit (.bool true)], args := [d1, d2] }
  | _ => none }
def operHidesRow : OpenClaim := { program := "ytjkfkiebhgkolaagreatdoor", sum := "882cd41286c096cdd2c7585ed82106b7d9655a679b0b49ac8dee3ee82236cae5", func := "bureau/bureaulaw14.OperHides", spec := "operHides", inPlace := ["internal/bytealg.CountString", "internal/bytealg.IndexByteString", "internal/bytealg.IndexString", "internal/abi.NoEscape", "internal/bytealg.MakeNoZero"], unfollowed := true, recurses := true, named := ["internal/bytealg.MaxLen", "unicode/utf8.first", "unicode/utf8.acceptRanges"], apart := false, laid := [("unicode/utf8.acceptRanges", laid_unicode_utf8_acceptRanges), ("unicode/utf8.first", laid_unicode_utf8_first)] }
def OperHidesSaid : Prop := operHidesRow.holds Tryz.pinned (OpenSpec.ofChange operHidesSpec)

/-- ITS FALSE NEIGHBOUR: 'it returns false'. Refute it at one input. -/
def operHidesWrong : ChangeSpec := { name := "operHides", fn := fun _ => fun
  | [d1, d2] => { results := [.lit (.bool false)], args := [d1, d2] }
  | _ => none }
def OperHidesWrongFalsely : Prop := operHidesRow.holds Tryz.pinned (OpenSpec.ofChange operHidesWrong)

/- THE SECOND FORM. 'bulk': how many values and letters a reading holds, each counted each time it is reached (what is shared counts as often as it is met; a slice's spare places count too). A statement '..UptoSaid' is the law's where the arguments, and the package variables that the reading takes, are together of bulk at most 1048576: NARROWER than '..Said'. Prove '..Said' where nothing that the law and all that it calls make is longer than what came in: it says more and counts as full. Else prove '..UptoSaid'. A law counts once. -/
mutual
def uptoBulk {H : Type} : DataW H → Nat
  | .lit (.string bytes) => bytes.length + 1
  | .lit _ => 1
  | .nil => 1
  | .ptr d => uptoBulk d + 1
  | .slice elems spare => uptoBulkAll elems + uptoBulkAll spare + 1
  | .agg parts => uptoBulkAll parts + 1
  | .iface _ d => uptoBulk d + 1
  | .map entries => uptoBulkEntries entries + 1
  | .held _ => 1
def uptoBulkAll {H : Type} : List (DataW H) → Nat
  | [] => 0
  | d :: r => uptoBulk d + uptoBulkAll r
def uptoBulkEntries {H : Type} : List (Lit × DataW H) → Nat
  | [] => 0
  | x :: r => uptoBulkEntry x + uptoBulkEntries r
def uptoBulkEntry {H : Type} : Lit × DataW H → Nat
  | (.string bytes, d) => bytes.length + uptoBulk d + 1
  | (_, d) => uptoBulk d + 1
 end
def uptoSmall : (H : Type) → List (DataW H) → Bool := fun _ ds => decide (uptoBulkAll ds ≤ 1048576)
def OpenSpec.upto (s : _root_.Go.ChangeSpec) : _root_.Go.OpenSpec := { _root_.Go.OpenSpec.ofChange s with cond := some uptoSmall }

/-- 'bureaulaw14.OperDoes', WHERE WHAT IT READS IS OF BULK AT MOST 1048576: true; the input reads as it did. -/
def operDoesUptoRow : OpenClaim := { program := "ytjkfkiebhgkolaagreatdoor", sum := "882cd41286c096cdd2c7585ed82106b7d9655a679b0b49ac8dee3ee82236cae5", func := "bureau/bureaulaw14.OperDoes", spec := "operDoes", inPlace := ["internal/bytealg.CountString", "internal/bytealg.IndexByteString", "internal/bytealg.IndexString", "internal/abi.NoEscape", "internal/bytealg.MakeNoZero"], unfollowed := true, recurses := true, named := ["internal/bytealg.MaxLen", "unicode/utf8.first", "unicode/utf8.acceptRanges"], apart := false, laid := [("unicode/utf8.acceptRanges", laid_unicode_utf8_acceptRanges), ("unicode/utf8.first", laid_unicode_utf8_first)], narrowed := true }
def OperDoesUptoSaid : Prop := operDoesUptoRow.holds Tryz.pinned (OpenSpec.upto operDoesSpec)

/-- 'bureaulaw14.OperSwaps', WHERE WHAT IT READS IS OF BULK AT MOST 1048576: true; the input reads as it did. -/
def operSwapsUptoRow : OpenClaim := { program := "ytjkfkiebhgkolaagreatdoor", sum := "882cd41286c096cdd2c7585ed82106b7d9655a679b0b49ac8dee3ee82236cae5", func := "bureau/bureaulaw14.OperSwaps", spec := "operSwaps", inPlace := ["internal/bytealg.CountString", "internal/bytealg.IndexByteString", "internal/bytealg.IndexString", "internal/abi.NoEscape", "internal/bytealg.MakeNoZero"], unfollowed := true, recurses := true, named := ["internal/bytealg.MaxLen", "unicode/utf8.first", "unicode/utf8.acceptRanges"], apart := false, laid := [("unicode/utf8.acceptRanges", laid_unicode_utf8_acceptRanges), ("unicode/utf8.first", laid_unicode_utf8_first)], narrowed := true }
def OperSwapsUptoSaid : Prop := operSwapsUptoRow.holds Tryz.pinned (OpenSpec.upto operSwapsSpec)

/-- 'bureaulaw14.OperSpans', WHERE WHAT IT READS IS OF BULK AT MOST 1048576: true; the input reads as it did. -/
def operSpansUptoRow : OpenClaim := { program := "ytjkfkiebhgkolaagreatdoor", sum := "882cd41286c096cdd2c7585ed82106b7d9655a679b0b49ac8dee3ee82236cae5", func := "bureau/bureaulaw14.OperSpans", spec := "operSpans", inPlace := ["internal/bytealg.CountString", "internal/bytealg.IndexByteString", "internal/bytealg.IndexString", "internal/abi.NoEscape", "internal/bytealg.MakeNoZero"], unfollowed := true, recurses := true, named := ["internal/bytealg.MaxLen", "unicode/utf8.first", "unicode/utf8.acceptRanges"], apart := false, laid := [("unicode/utf8.acceptRanges", laid_unicode_utf8_acceptRanges), ("unicode/utf8.first", laid_unicode_utf8_first)], narrowed := true }
def OperSpansUptoSaid : Prop := operSpansUptoRow.holds Tryz.pinned (OpenSpec.upto operSpansSpec)

/-- 'bureaulaw14.OperPuts', WHERE WHAT IT READS IS OF BULK AT MOST 1048576: true; the input reads as it did. -/
def operPutsUptoRow : OpenClaim := { program := "ytjkfkiebhgkolaagreatdoor", sum := "882cd41286c096cdd2c7585ed82106b7d9655a679b0b49ac8dee3ee82236cae5", func := "bureau/bureaulaw14.OperPuts", spec := "operPuts", inPlace := ["internal/bytealg.CountString", "internal/bytealg.IndexByteString", "internal/bytealg.IndexString", "internal/abi.NoEscape", "internal/bytealg.MakeNoZero"], unfollowed := true, recurses := true, named := ["internal/bytealg.MaxLen", "unicode/utf8.first", "unicode/utf8.acceptRanges"], apart := false, laid := [("unicode/utf8.acceptRanges", laid_unicode_utf8_acceptRanges), ("unicode/utf8.first", laid_unicode_utf8_first)], narrowed := true }
def OperPutsUptoSaid : Prop := operPutsUptoRow.holds Tryz.pinned (OpenSpec.upto operPutsSpec)

/-- 'bureaulaw14.OperEdits', WHERE WHAT IT READS IS OF BULK AT MOST 1048576: true; the input reads as it did. -/
def operEditsUptoRow : OpenClaim := { program := "ytjkfkiebhgkolaagreatdoor", sum := "882cd41286c096cdd2c7585ed82106b7d9655a679b0b49ac8dee3ee82236cae5", func := "bureau/bureaulaw14.OperEdits", spec := "operEdits", inPlace := ["internal/bytealg.CountString", "internal/bytealg.IndexByteString", "internal/bytealg.IndexString", "internal/abi.NoEscape", "internal/bytealg.MakeNoZero"], unfollowed := true, recurses := true, named := ["internal/bytealg.MaxLen", "unicode/utf8.first", "unicode/utf8.acceptRanges"], apart := false, laid := [("unicode/utf8.acceptRanges", laid_unicode_utf8_acceptRanges), ("unicode/utf8.first", laid_unicode_utf8_first)], narrowed := true }
def OperEditsUptoSaid : Prop := operEditsUptoRow.holds Tryz.pinned (OpenSpec.upto operEditsSpec)

/-- 'bureaulaw14.OperHides', WHERE WHAT IT READS IS OF BULK AT MOST 1048576: true; the input reads as it did. -/
def operHidesUptoRow : OpenClaim := { program := "ytjkfkiebhgkolaagreatdoor", sum := "882cd41286c096cdd2c7585ed82106b7d9655a679b0b49ac8dee3ee82236cae5", func := "bureau/bureaulaw14.OperHides", spec := "operHides", inPlace := ["internal/bytealg.CountString", "internal/bytealg.IndexByteString", "internal/bytealg.IndexString", "internal/abi.NoEscape", "internal/bytealg.MakeNoZero"], unfollowed := true, recurses := true, named := ["internal/bytealg.MaxLen", "unicode/utf8.first", "unicode/utf8.acceptRanges"], apart := false, laid := [("unicode/utf8.acceptRanges", laid_unicode_utf8_acceptRanges), ("unicode/utf8.first", laid_unicode_utf8_first)], narrowed := true }
def OperHidesUptoSaid : Prop := operHidesUptoRow.holds Tryz.pinned (OpenSpec.upto operHidesSpec)

end Rows
end Go.Proofs.YtjkfkiebhgkolaaGreatDoor
