/-
  No cell of these rows narrows 'for every input' (looked for: loops, veiled, ifaces, maps, wideKeys, modest, calm, conditions, laid).
  DERIVED. THE GIVEN ROWS OF THIS SEAT. 5 by the template 'for every input the law returns true; each argument reads behind the call as it read before'; 0 by the template 'total and deterministic' (their statements: YtnbdldpjiofafaaTotals.lean).
  GIVEN WITH THE SEED: the statements are not yours to turn. If you find one false, say at which input.
  Laid BY PROGRAM, IN A SANDBOX (cutbox-rows.mjs): the forced cells as the released guide's own fill.sh prints them over the translation 99c14f4e48e7eeb2… (all of the seat's roots in one cut). By AI agents, Wed Nov 11 2026. No macro, syntax, notation, axiom, sorry.
-/
import Derived.Test.YtnbdldpjiofafaaChecked
import GoSem.Claim
import GoSem.ClaimJoined
import GoSem.ClaimMapViews
import Derived.JoinedTies
import Derived.KernelRfl
namespace Go.Proofs.Ytnbdldpjiofafaa
/- THE CELL 'sum', in the pinned program and in every row, IS THE sha256 OF THE DUMP (.gsa) THAT YtnbdldpjiofafaaProg.lean LOADS. Nothing in Lean hashes anything: it is a label: what it is worth is what the hold of that sum in a sandbox is worth. -/
noncomputable def Try.pinned : Pinned := { name := "ytnbdldpjiofafaa", sum := "99c14f4e48e7eeb2fd5d785df47b114ef723be5f0bbb96e02295c5e8d39c5ba7", checked := Try.checked }
namespace Rows
def none {H : Type} : Left H := { results := [], args := [] }

/-- 'bureaulaw15.SubstDoes': WHATEVER THE INPUT: true; the input reads as it did. -/
def substDoesSpec : ChangeSpec := { name := "substDoes", fn := fun _ => fun
  | [d1, d2, d3] => { results := [.lit (.bool true)], args := [d1, d2, d3] }
  | _ => none }
def substDoesRow : OpenClaim := { program := "ytnbdldpjiofafaa", sum := "99c14f4e48e7eeb2fd5d785df47b114ef723be5f0bbb96e02295c5e8d39c5ba7", func := "bureau/bureaulaw15.SubstDoes", spec := "substDoes", inPlace := ["internal/bytealg.CountString", "internal/bytealg.IndexByteString", "internal/bytealg.IndexString"], unfollowed := true, recurses := true, named := ["internal/bytealg.MaxLen"], apart := false }
def SubstDoesSaid : Prop := substDoesRow.holds Try.pinned (OpenSpec.ofChange substDoesSpec)

/-- ITS FALSE NEIGHBOUR: 'it returns false'. Refute it at one input. -/
def substDoesWrong : ChangeSpec := { name := "substDoes", fn := fun _ => fun
  | [d1, d2, d3] => { results := [.lit (.bool false)], args := [d1, d2, d3] }
  | _ => none }
def SubstDoesWrongFalsely : Prop := substDoesRow.holds Try.pinned (OpenSpec.ofChange substDoesWrong)

/-- 'bureaulaw15.SubstCounts': WHATEVER THE INPUT: true; the input reads as it did. -/
def substCountsSpec : ChangeSpec := { name := "substCounts", fn := fun _ => fun
  | [d1, d2, d3] => { results := [.lit (.bool true)], args := [d1, d2, d3] }
  | _ => none }
def substCountsRow : OpenClaim := { program := "ytnbdldpjiofafaa", sum := "99c14f4e48e7eeb2fd5d785df47b114ef723be5f0bbb96e02295c5e8d39c5ba7", func := "bureau/bureaulaw15.SubstCounts", spec := "substCounts", inPlace := ["internal/bytealg.CountString", "internal/bytealg.IndexByteString", "internal/bytealg.IndexString"], unfollowed := true, recurses := true, named := ["internal/bytealg.MaxLen"], apart := false }
def SubstCountsSaid : Prop := substCountsRow.holds Try.pinned (OpenSpec.ofChange substCountsSpec)

/-- ITS FALSE NEIGHBOUR: 'it returns false'. Refute it at one input. -/
def substCountsWrong : ChangeSpec := { name := "substCounts", fn := fun _ => fun
  | [d1, d2, d3] => { results := [.lit (.bool false)], args := [d1, d2, d3] }
  | _ => none }
def SubstCountsWrongFalsely : Prop := substCountsRow.holds Try.pinned (OpenSpec.ofChange substCountsWrong)

/-- 'bureaulaw15.SubstNone': WHATEVER THE INPUT: true; the input reads as it did. -/
def substNoneSpec : ChangeSpec := { name := "substNone", fn := fun _ => fun
  | [d1, d2, d3] => { results := [.lit (.bool true)], args := [d1, d2, d3] }
  | _ => none }
def substNoneRow : OpenClaim := { program := "ytnbdldpjiofafaa", sum := "99c14f4e48e7eeb2fd5d785df47b114ef723be5f0bbb96e02295c5e8d39c5ba7", func := "bureau/bureaulaw15.SubstNone", spec := "substNone", inPlace := ["internal/bytealg.CountString", "internal/bytealg.IndexByteString", "internal/bytealg.IndexString"], unfollowed := true, recurses := true, named := ["internal/bytealg.MaxLen"], apart := false }
def SubstNoneSaid : Prop := substNoneRow.holds Try.pinned (OpenSpec.ofChange substNoneSpec)

/-- ITS FALSE NEIGHBOUR: 'it returns false'. Refute it at one input. -/
def substNoneWrong : ChangeSpec := { name := "substNone", fn := fun _ => fun
  | [d1, d2, d3] => { results := [.lit (.bool false)], args := [d1, d2, d3] }
  | _ => none }
def SubstNoneWrongFalsely : Prop := substNoneRow.holds Try.pinned (OpenSpec.ofChange substNoneWrong)

/-- 'bureaulaw15.SubstItself': WHATEVER THE INPUT: true; the input reads as it did. -/
def substItselfSpec : ChangeSpec := { name := "substItself", fn := fun _ => fun
  | [d1, d2, d3] => { results := [.lit (.bool true)], args := [d1, d2, d3] }
  | _ => none }
def substItselfRow : OpenClaim := { program := "ytnbdldpjiofafaa", sum := "99c14f4e48e7eeb2fd5d785df47b114ef723be5f0bbb96e02295c5e8d39c5ba7", func := "bureau/bureaulaw15.SubstItself", spec := "substItself", inPlace := ["internal/bytealg.CountString", "internal/bytealg.IndexByteString", "internal/bytealg.IndexString"], unfollowed := true, recurses := true, named := ["internal/bytealg.MaxLen"], apart := false }
def SubstItselfSaid : Prop := substItselfRow.holds Try.pinned (OpenSpec.ofChange substItselfSpec)

/-- ITS FALSE NEIGHBOUR: 'it returns false'. Refute it at one input. -/
def substItselfWrong : ChangeSpec := { name := "substItself", fn := fun _ => fun
  | [d1, d2, d3] => { results := [.lit (.bool false)], args := [d1, d2, d3] }
  | _ => none }
def SubstItselfWrongFalsely : Prop := substItselfRow.holds Try.pinned (OpenSpec.ofChange substItselfWrong)

/-- 'bureaulaw15.SubstHides': WHATEVER THE INPUT: true; the input reads as it did. -/
def substHidesSpec : ChangeSpec := { name := "substHides", fn := fun _ => fun
  | [d1, d2, d3] => { results := [.lit (.bool true)], args := [d1, d2, d3] }
  | _ => none }
def substHidesRow : OpenClaim := { program := "ytnbdldpjiofafaa", sum := "99c14f4e48e7eeb2fd5d785df47b114ef723be5f0bbb96e02295c5e8d39c5ba7", func := "bureau/bureaulaw15.SubstHides", spec := "substHides", inPlace := ["internal/bytealg.CountString", "internal/bytealg.IndexByteString", "internal/bytealg.IndexString"], unfollowed := true, recurses := true, named := ["internal/bytealg.MaxLen"], apart := false }
def SubstHidesSaid : Prop := substHidesRow.holds Try.pinned (OpenSpec.ofChange substHidesSpec)

/-- ITS FALSE NEIGHBOUR: 'it returns false'. Refute it at one input. -/
def substHidesWrong : ChangeSpec := { name := "substHides", fn := fun _ => fun
  | [d1, d2, d3] => { results := [.lit (.bool false)], args := [d1, d2, d3] }
  | _ => none }
def SubstHidesWrongFalsely : Prop := substHidesRow.holds Try.pinned (OpenSpec.ofChange substHidesWrong)

/- THE SECOND FORM. 'bulk': how many values and letters a reading holds, each counted each time it is reached (what is shared counts as often as it is met; a slice's spare places count too). A statement '..UptoSaid' is the law's where the arguments, and the package variables that the reading takes, are together of bulk at most 1048576: NARROWER than '..Said'. Prove '..Said' where nothing that the law and all that it calls make is longer than what came in: it says more and counts as full. Else prove '..UptoSaid'. A law counts once. -/
mutual
def uptoBulk {H : Type} : DataW H → Nat
  | .lit (.string bytes) => bytes.length + 1
  | .lit _ => 1
  | .nil => 1
  | .ptr d => uptoBulk d + 1
  | .slice elems spare => uptoBulkAll elems + uptoBulkAll spare + 1
  | .agg parts => uptoBulkAll parts + 1
  | .iface _ d => uptoBulk d + 1
  | .map entries => uptoBulkEntries entries + 1
  | .held _ => 1
def uptoBulkAll {H : Type} : List (DataW H) → Nat
  | [] => 0
  | d :: r => uptoBulk d + uptoBulkAll r
def uptoBulkEntries {H : Type} : List (Lit × DataW H) → Nat
  | [] => 0
  | x :: r => uptoBulkEntry x + uptoBulkEntries r
def uptoBulkEntry {H : Type} : Lit × DataW H → Nat
  | (.string bytes, d) => bytes.length + uptoBulk d + 1
  | (_, d) => uptoBulk d + 1
 end
def uptoSmall : (H : Type) → List (DataW H) → Bool := fun _ ds => decide (uptoBulkAll ds ≤ 1048576)
def OpenSpec.upto (s : _root_.Go.ChangeSpec) : _root_.Go.OpenSpec := { _root_.Go.OpenSpec.ofChange s with cond := some uptoSmall }

/-- 'bureaulaw15.SubstDoes', WHERE WHAT IT READS IS OF BULK AT MOST 1048576: true; the input reads as it did. -/
def substDoesUptoRow : OpenClaim := { program := "ytnbdldpjiofafaa", sum := "99c14f4e48e7eeb2fd5d785df47b114ef723be5f0bbb96e02295c5e8d39c5ba7", func := "bureau/bureaulaw15.SubstDoes", spec := "substDoes", inPlace := ["internal/bytealg.CountString", "internal/bytealg.IndexByteString", "internal/bytealg.IndexString"], unfollowed := true, recurses := true, named := ["internal/bytealg.MaxLen"], apart := false, narrowed := true }
def SubstDoesUptoSaid : Prop := substDoesUptoRow.holds Try.pinned (OpenSpec.upto substDoesSpec)

/-- 'bureaulaw15.SubstCounts', WHERE WHAT IT READS IS OF BULK AT MOST 1048576: true; the input reads as it did. -/
def substCountsUptoRow : OpenClaim := { program := "ytnbdldpjiofafaa", sum := "99c14f4e48e7eeb2fd5d785df47b114ef723be5f0bbb96e02295c5e8d39c5ba7", func := "bureau/bureaulaw15.SubstCounts", spec := "substCounts", inPlace := ["internal/bytealg.CountString", "internal/bytealg.IndexByteString", "internal/bytealg.IndexString"], unfollowed := true, recurses := true, named := ["internal/bytealg.MaxLen"], apart := false, narrowed := true }
def SubstCountsUptoSaid : Prop := substCountsUptoRow.holds Try.pinned (OpenSpec.upto substCountsSpec)

/-- 'bureaulaw15.SubstNone', WHERE WHAT IT READS IS OF BULK AT MOST 1048576: true; the input reads as it did. -/
def substNoneUptoRow : OpenClaim := { program := "ytnbdldpjiofafaa", sum := "99c14f4e48e7eeb2fd5d785df47b114ef723be5f0bbb96e02295c5e8d39c5ba7", func := "bureau/bureaulaw15.SubstNone", spec := "substNone", inPlace := ["internal/bytealg.CountString", "internal/bytealg.IndexByteString", "internal/bytealg.IndexString"], unfollowed := true, recurses := true, named := ["internal/bytealg.MaxLen"], apart := false, narrowed := true }
def SubstNoneUptoSaid : Prop := substNoneUptoRow.holds Try.pinned (OpenSpec.upto substNoneSpec)

/-- 'bureaulaw15.SubstItself', WHERE WHAT IT READS IS OF BULK AT MOST 1048576: true; the input reads as it did. -/
def substItselfUptoRow : OpenClaim := { program := "ytnbdldpjiofafaa", sum := "99c14f4e48e7eeb2fd5d785df47b114ef723be5f0bbb96e02295c5e8d39c5ba7", func := "bureau/bureaulaw15.SubstItself", spec := "substItself", inPlace := ["internal/bytealg.CountString", "internal/bytealg.IndexByteString", "internal/bytealg.IndexString"], unfollowed := true, recurses := true, named := ["internal/bytealg.MaxLen"], apart := false, narrowed := true }
def SubstItselfUptoSaid : Prop := substItselfUptoRow.holds Try.pinned (OpenSpec.upto substItselfSpec)

/-- 'bureaulaw15.SubstHides', WHERE WHAT IT READS IS OF BULK AT MOST 1048576: true; the input reads as it did. -/
def substHidesUptoRow : OpenClaim := { program := "ytnbdldpjiofafaa", sum := "99c14f4e48e7eeb2fd5d785df47b114ef723be5f0bbb96e02295c5e8d39c5ba7", func := "bureau/bureaulaw15.SubstHides", spec := "substHides", inPlace := ["internal/bytealg.CountString", "internal/bytealg.IndexByteString", "internal/bytealg.IndexString"], unfollowed := true, recurses := true, named := ["internal/bytealg.MaxLen"], apart := false, narrowed := true }
def SubstHidesUptoSaid : Prop := substHidesUptoRow.holds Try.pinned (OpenSpec.upto substHidesSpec)

end Rows
end Go.Proofs.Ytnbdldpjiofafaa
