/-
  No cell of these rows narrows 'for every input' (looked for: loops, veiled, ifaces, maps, wideKeys, modest, calm, conditions, laid).
  DERIVED. THE GIVEN ROWS OF THIS SEAT. 5 by the template 'for every input the law returns true; each argument reads behind the call as it read before'; 0 by the template 'total and deterministic' (their statements: YtbbgpfjeobdogaaTotals.lean).
  GIVEN WITH THE SEED: the statements are not yours to turn. If you find one false, say at which input.
  Laid BY PROGRAM, IN A SANDBOX (cutbox-rows.mjs): the forced cells as the released guide's own fill.sh prints them over the translation d8de8a4dc7734376… (all of the seat's roots in one cut). By AI agents, Wed Nov 11 2026. No macro, syntax, notation, axiom, sorry.
-/
import Derived.Test.YtbbgpfjeobdogaaChecked
import GoSem.Claim
import GoSem.ClaimJoined
import GoSem.ClaimMapViews
import Derived.JoinedTies
import Derived.KernelRfl
namespace Go.Proofs.Ytbbgpfjeobdogaa
/- THE CELL 'sum', in the pinned program and in every row, IS THE sha256 OF THE DUMP (.gsa) THAT YtbbgpfjeobdogaaProg.lean LOADS. Nothing in Lean hashes anything: it is a label: what it is worth is what the hold of that sum in a sandbox is worth. -/
noncomputable def Try.pinned : Pinned := { name := "ytbbgpfjeobdogaa", sum := "d8de8a4dc77343768d1f15110d41ad4c9eb4dbc8330cf84ace227ad4bc5ae5c3", checked := Try.checked }
namespace Rows
def none {H : Type} : Left H := { results := [], args := [] }

/-- 'bureaulaw08.HistActs': WHATEVER THE INPUT: true; the input reads as it did. -/
def histActsSpec : ChangeSpec := { name := "histActs", fn := fun _ => fun
  | [d1, d2] => { results := [.lit (.bool true)], args := [d1, d2] }
  | _ => none }
def histActsRow : OpenClaim := { program := "ytbbgpfjeobdogaa", sum := "d8de8a4dc77343768d1f15110d41ad4c9eb4dbc8330cf84ace227ad4bc5ae5c3", func := "bureau/bureaulaw08.HistActs", spec := "histActs", unfollowed := true, recurses := true, apart := false }
def HistActsSaid : Prop := histActsRow.holds Try.pinned (OpenSpec.ofChange histActsSpec)

/-- ITS FALSE NEIGHBOUR: 'it returns false'. Refute it at one input. -/
def histActsWrong : ChangeSpec := { name := "histActs", fn := fun _ => fun
  | [d1, d2] => { results := [.lit (.bool false)], args := [d1, d2] }
  | _ => none }
def HistActsWrongFalsely : Prop := histActsRow.holds Try.pinned (OpenSpec.ofChange histActsWrong)

/-- 'bureaulaw08.HistBounds': WHATEVER THE INPUT: true; the input reads as it did. -/
def histBoundsSpec : ChangeSpec := { name := "histBounds", fn := fun _ => fun
  | [d1, d2] => { results := [.lit (.bool true)], args := [d1, d2] }
  | _ => none }
def histBoundsRow : OpenClaim := { program := "ytbbgpfjeobdogaa", sum := "d8de8a4dc77343768d1f15110d41ad4c9eb4dbc8330cf84ace227ad4bc5ae5c3", func := "bureau/bureaulaw08.HistBounds", spec := "histBounds", unfollowed := true, recurses := true, apart := false }
def HistBoundsSaid : Prop := histBoundsRow.holds Try.pinned (OpenSpec.ofChange histBoundsSpec)

/-- ITS FALSE NEIGHBOUR: 'it returns false'. Refute it at one input. -/
def histBoundsWrong : ChangeSpec := { name := "histBounds", fn := fun _ => fun
  | [d1, d2] => { results := [.lit (.bool false)], args := [d1, d2] }
  | _ => none }
def HistBoundsWrongFalsely : Prop := histBoundsRow.holds Try.pinned (OpenSpec.ofChange histBoundsWrong)

/-- 'bureaulaw08.HistTexts': WHATEVER THE INPUT: true; the input reads as it did. -/
def histTextsSpec : ChangeSpec := { name := "histTexts", fn := fun _ => fun
  | [d1, d2, d3] => { results := [.lit (.bool true)], args := [d1, d2, d3] }
  | _ => none }
def histTextsRow : OpenClaim := { program := "ytbbgpfjeobdogaa", sum := "d8de8a4dc77343768d1f15110d41ad4c9eb4dbc8330cf84ace227ad4bc5ae5c3", func := "bureau/bureaulaw08.HistTexts", spec := "histTexts", unfollowed := true, recurses := true, apart := false }
def HistTextsSaid : Prop := histTextsRow.holds Try.pinned (OpenSpec.ofChange histTextsSpec)

/-- ITS FALSE NEIGHBOUR: 'it returns false'. Refute it at one input. -/
def histTextsWrong : ChangeSpec := { name := "histTexts", fn := fun _ => fun
  | [d1, d2, d3] => { results := [.lit (.bool false)], args := [d1, d2, d3] }
  | _ => none }
def HistTextsWrongFalsely : Prop := histTextsRow.holds Try.pinned (OpenSpec.ofChange histTextsWrong)

/-- 'bureaulaw08.HistCopies': WHATEVER THE INPUT: true; the input reads as it did. -/
def histCopiesSpec : ChangeSpec := { name := "histCopies", fn := fun _ => fun
  | [d] => { results := [.lit (.bool true)], args := [d] }
  | _ => none }
def histCopiesRow : OpenClaim := { program := "ytbbgpfjeobdogaa", sum := "d8de8a4dc77343768d1f15110d41ad4c9eb4dbc8330cf84ace227ad4bc5ae5c3", func := "bureau/bureaulaw08.HistCopies", spec := "histCopies", unfollowed := true, recurses := true, apart := false }
def HistCopiesSaid : Prop := histCopiesRow.holds Try.pinned (OpenSpec.ofChange histCopiesSpec)

/-- ITS FALSE NEIGHBOUR: 'it returns false'. Refute it at one input. -/
def histCopiesWrong : ChangeSpec := { name := "histCopies", fn := fun _ => fun
  | [d] => { results := [.lit (.bool false)], args := [d] }
  | _ => none }
def HistCopiesWrongFalsely : Prop := histCopiesRow.holds Try.pinned (OpenSpec.ofChange histCopiesWrong)

/-- 'bureaulaw08.HistNobody': WHATEVER THE INPUT: true; the input reads as it did. -/
def histNobodySpec : ChangeSpec := { name := "histNobody", fn := fun _ => fun
  | [d] => { results := [.lit (.bool true)], args := [d] }
  | _ => none }
def histNobodyRow : OpenClaim := { program := "ytbbgpfjeobdogaa", sum := "d8de8a4dc77343768d1f15110d41ad4c9eb4dbc8330cf84ace227ad4bc5ae5c3", func := "bureau/bureaulaw08.HistNobody", spec := "histNobody", unfollowed := true, recurses := true, apart := false }
def HistNobodySaid : Prop := histNobodyRow.holds Try.pinned (OpenSpec.ofChange histNobodySpec)

/-- ITS FALSE NEIGHBOUR: 'it returns false'. Refute it at one input. -/
def histNobodyWrong : ChangeSpec := { name := "histNobody", fn := fun _ => fun
  | [d] => { results := [.lit (.bool false)], args := [d] }
  | _ => none }
def HistNobodyWrongFalsely : Prop := histNobodyRow.holds Try.pinned (OpenSpec.ofChange histNobodyWrong)

/- THE SECOND FORM. 'bulk': how many values and letters a reading holds, each counted each time it is reached (what is shared counts as often as it is met; a slice's spare places count too). A statement '..UptoSaid' is the law's where the arguments, and the package variables that the reading takes, are together of bulk at most 1048576: NARROWER than '..Said'. Prove '..Said' where nothing that the law and all that it calls make is longer than what came in: it says more and counts as full. Else prove '..UptoSaid'. A law counts once. -/
mutual
def uptoBulk {H : Type} : DataW H → Nat
  | .lit (.string bytes) => bytes.length + 1
  | .lit _ => 1
  | .nil => 1
  | .ptr d => uptoBulk d + 1
  | .slice elems spare => uptoBulkAll elems + uptoBulkAll spare + 1
  | .agg parts => uptoBulkAll parts + 1
  | .iface _ d => uptoBulk d + 1
  | .map entries => uptoBulkEntries entries + 1
  | .held _ => 1
def uptoBulkAll {H : Type} : List (DataW H) → Nat
  | [] => 0
  | d :: r => uptoBulk d + uptoBulkAll r
def uptoBulkEntries {H : Type} : List (Lit × DataW H) → Nat
  | [] => 0
  | x :: r => uptoBulkEntry x + uptoBulkEntries r
def uptoBulkEntry {H : Type} : Lit × DataW H → Nat
  | (.string bytes, d) => bytes.length + uptoBulk d + 1
  | (_, d) => uptoBulk d + 1
 end
def uptoSmall : (H : Type) → List (DataW H) → Bool := fun _ ds => decide (uptoBulkAll ds ≤ 1048576)
def OpenSpec.upto (s : _root_.Go.ChangeSpec) : _root_.Go.OpenSpec := { _root_.Go.OpenSpec.ofChange s with cond := some uptoSmall }

/-- 'bureaulaw08.HistActs', WHERE WHAT IT READS IS OF BULK AT MOST 1048576: true; the input reads as it did. -/
def histActsUptoRow : OpenClaim := { program := "ytbbgpfjeobdogaa", sum := "d8de8a4dc77343768d1f15110d41ad4c9eb4dbc8330cf84ace227ad4bc5ae5c3", func := "bureau/bureaulaw08.HistActs", spec := "histActs", unfollowed := true, recurses := true, apart := false, narrowed := true }
def HistActsUptoSaid : Prop := histActsUptoRow.holds Try.pinned (OpenSpec.upto histActsSpec)

/-- 'bureaulaw08.HistBounds', WHERE WHAT IT READS IS OF BULK AT MOST 1048576: true; the input reads as it did. -/
def histBoundsUptoRow : OpenClaim := { program := "ytbbgpfjeobdogaa", sum := "d8de8a4dc77343768d1f15110d41ad4c9eb4dbc8330cf84ace227ad4bc5ae5c3", func := "bureau/bureaulaw08.HistBounds", spec := "histBounds", unfollowed := true, recurses := true, apart := false, narrowed := true }
def HistBoundsUptoSaid : Prop := histBoundsUptoRow.holds Try.pinned (OpenSpec.upto histBoundsSpec)

/-- 'bureaulaw08.HistTexts', WHERE WHAT IT READS IS OF BULK AT MOST 1048576: true; the input reads as it did. -/
def histTextsUptoRow : OpenClaim := { program := "ytbbgpfjeobdogaa", sum := "d8de8a4dc77343768d1f15110d41ad4c9eb4dbc8330cf84ace227ad4bc5ae5c3", func := "bureau/bureaulaw08.HistTexts", spec := "histTexts", unfollowed := true, recurses := true, apart := false, narrowed := true }
def HistTextsUptoSaid : Prop := histTextsUptoRow.holds Try.pinned (OpenSpec.upto histTextsSpec)

/-- 'bureaulaw08.HistCopies', WHERE WHAT IT READS IS OF BULK AT MOST 1048576: true; the input reads as it did. -/
def histCopiesUptoRow : OpenClaim := { program := "ytbbgpfjeobdogaa", sum := "d8de8a4dc77343768d1f15110d41ad4c9eb4dbc8330cf84ace227ad4bc5ae5c3", func := "bureau/bureaulaw08.HistCopies", spec := "histCopies", unfollowed := true, recurses := true, apart := false, narrowed := true }
def HistCopiesUptoSaid : Prop := histCopiesUptoRow.holds Try.pinned (OpenSpec.upto histCopiesSpec)

/-- 'bureaulaw08.HistNobody', WHERE WHAT IT READS IS OF BULK AT MOST 1048576: true; the input reads as it did. -/
def histNobodyUptoRow : OpenClaim := { program := "ytbbgpfjeobdogaa", sum := "d8de8a4dc77343768d1f15110d41ad4c9eb4dbc8330cf84ace227ad4bc5ae5c3", func := "bureau/bureaulaw08.HistNobody", spec := "histNobody", unfollowed := true, recurses := true, apart := false, narrowed := true }
def HistNobodyUptoSaid : Prop := histNobodyUptoRow.holds Try.pinned (OpenSpec.upto histNobodySpec)

end Rows
end Go.Proofs.Ytbbgpfjeobdogaa
