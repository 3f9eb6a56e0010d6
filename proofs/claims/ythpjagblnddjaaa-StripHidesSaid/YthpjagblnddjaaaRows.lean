/-
  No cell of these rows narrows 'for every input' (looked for: loops, veiled, ifaces, maps, wideKeys, modest, calm, conditions, laid).
  DERIVED. THE GIVEN ROWS OF THIS SEAT. 21 by the template 'for every input the law returns true; each argument reads behind the call as it read before'; 0 by the template 'total and deterministic' (their statements: YthpjagblnddjaaaTotals.lean).
  GIVEN WITH THE SEED: the statements are not yours to turn. If you find one false, say at which input.
  Laid BY PROGRAM, IN A SANDBOX (cutbox-rows.mjs): the forced cells as the released guide's own fill.sh prints them over the translation 62be87c84cf0cf01… (all of the seat's roots in one cut). By AI agents, Wed Nov 11 2026. No macro, syntax, notation, axiom, sorry.
-/
import Derived.Test.YthpjagblnddjaaaChecked
import GoSem.Claim
import GoSem.ClaimJoined
import GoSem.ClaimMapViews
import Derived.JoinedTies
import Derived.KernelRfl
namespace Go.Proofs.Ythpjagblnddjaaa
/- THE CELL 'sum', in the pinned program and in every row, IS THE sha256 OF THE DUMP (.gsa) THAT YthpjagblnddjaaaProg.lean LOADS. Nothing in Lean hashes anything: it is a label: what it is worth is what the hold of that sum in a sandbox is worth. -/
noncomputable def Try.pinned : Pinned := { name := "ythpjagblnddjaaa", sum := "62be87c84cf0cf0139b86e80664740c8e53dc4ec18d26107e6d7bcd1070117c2", checked := Try.checked }
namespace Rows
def none {H : Type} : Left H := { results := [], args := [] }

/-- 'bureaulaw03.RunsNormals': WHATEVER THE INPUT: true; the input reads as it did. -/
def runsNormalsSpec : ChangeSpec := { name := "runsNormals", fn := fun _ => fun
  | [d] => { results := [.lit (.bool true)], args := [d] }
  | _ => none }
def runsNormalsRow : OpenClaim := { program := "ythpjagblnddjaaa", sum := "62be87c84cf0cf0139b86e80664740c8e53dc4ec18d26107e6d7bcd1070117c2", func := "bureau/bureaulaw03.RunsNormals", spec := "runsNormals", unfollowed := true, recurses := true, apart := false }
def RunsNormalsSaid : Prop := runsNormalsRow.holds Try.pinned (OpenSpec.ofChange runsNormalsSpec)

/-- ITS FALSE NEIGHBOUR: 'it returns false'. Refute it at one input. -/
def runsNormalsWrong : ChangeSpec := { name := "runsNormals", fn := fun _ => fun
  | [d] => { results := [.lit (.bool false)], args := [d] }
  | _ => none }
def RunsNormalsWrongFalsely : Prop := runsNormalsRow.holds Try.pinned (OpenSpec.ofChange runsNormalsWrong)

/-- 'bureaulaw03.RunsSlices': WHATEVER THE INPUT: true; the input reads as it did. -/
def runsSlicesSpec : ChangeSpec := { name := "runsSlices", fn := fun _ => fun
  | [d1, d2, d3] => { results := [.lit (.bool true)], args := [d1, d2, d3] }
  | _ => none }
def runsSlicesRow : OpenClaim := { program := "ythpjagblnddjaaa", sum := "62be87c84cf0cf0139b86e80664740c8e53dc4ec18d26107e6d7bcd1070117c2", func := "bureau/bureaulaw03.RunsSlices", spec := "runsSlices", unfollowed := true, recurses := true, apart := false }
def RunsSlicesSaid : Prop := runsSlicesRow.holds Try.pinned (OpenSpec.ofChange runsSlicesSpec)

/-- ITS FALSE NEIGHBOUR: 'it returns false'. Refute it at one input. -/
def runsSlicesWrong : ChangeSpec := { name := "runsSlices", fn := fun _ => fun
  | [d1, d2, d3] => { results := [.lit (.bool false)], args := [d1, d2, d3] }
  | _ => none }
def RunsSlicesWrongFalsely : Prop := runsSlicesRow.holds Try.pinned (OpenSpec.ofChange runsSlicesWrong)

/-- 'bureaulaw03.RunsAsks': WHATEVER THE INPUT: true; the input reads as it did. -/
def runsAsksSpec : ChangeSpec := { name := "runsAsks", fn := fun _ => fun
  | [d1, d2] => { results := [.lit (.bool true)], args := [d1, d2] }
  | _ => none }
def runsAsksRow : OpenClaim := { program := "ythpjagblnddjaaa", sum := "62be87c84cf0cf0139b86e80664740c8e53dc4ec18d26107e6d7bcd1070117c2", func := "bureau/bureaulaw03.RunsAsks", spec := "runsAsks", unfollowed := true, recurses := true, apart := false }
def RunsAsksSaid : Prop := runsAsksRow.holds Try.pinned (OpenSpec.ofChange runsAsksSpec)

/-- ITS FALSE NEIGHBOUR: 'it returns false'. Refute it at one input. -/
def runsAsksWrong : ChangeSpec := { name := "runsAsks", fn := fun _ => fun
  | [d1, d2] => { results := [.lit (.bool false)], args := [d1, d2] }
  | _ => none }
def RunsAsksWrongFalsely : Prop := runsAsksRow.holds Try.pinned (OpenSpec.ofChange runsAsksWrong)

/-- 'bureaulaw03.RunsRaises': WHATEVER THE INPUT: true; the input reads as it did. -/
def runsRaisesSpec : ChangeSpec := { name := "runsRaises", fn := fun _ => fun
  | [d1, d2, d3] => { results := [.lit (.bool true)], args := [d1, d2, d3] }
  | _ => none }
def runsRaisesRow : OpenClaim := { program := "ythpjagblnddjaaa", sum := "62be87c84cf0cf0139b86e80664740c8e53dc4ec18d26107e6d7bcd1070117c2", func := "bureau/bureaulaw03.RunsRaises", spec := "runsRaises", unfollowed := true, recurses := true, apart := false }
def RunsRaisesSaid : Prop := runsRaisesRow.holds Try.pinned (OpenSpec.ofChange runsRaisesSpec)

/-- ITS FALSE NEIGHBOUR: 'it returns false'. Refute it at one input. -/
def runsRaisesWrong : ChangeSpec := { name := "runsRaises", fn := fun _ => fun
  | [d1, d2, d3] => { results := [.lit (.bool false)], args := [d1, d2, d3] }
  | _ => none }
def RunsRaisesWrongFalsely : Prop := runsRaisesRow.holds Try.pinned (OpenSpec.ofChange runsRaisesWrong)

/-- 'bureaulaw03.RunsSplices': WHATEVER THE INPUT: true; the input reads as it did. -/
def runsSplicesSpec : ChangeSpec := { name := "runsSplices", fn := fun _ => fun
  | [d1, d2, d3] => { results := [.lit (.bool true)], args := [d1, d2, d3] }
  | _ => none }
def runsSplicesRow : OpenClaim := { program := "ythpjagblnddjaaa", sum := "62be87c84cf0cf0139b86e80664740c8e53dc4ec18d26107e6d7bcd1070117c2", func := "bureau/bureaulaw03.RunsSplices", spec := "runsSplices", unfollowed := true, recurses := true, apart := false }
def RunsSplicesSaid : Prop := runsSplicesRow.holds Try.pinned (OpenSpec.ofChange runsSplicesSpec)

/-- ITS FALSE NEIGHBOUR: 'it returns false'. Refute it at one input. -/
def runsSplicesWrong : ChangeSpec := { name := "runsSplices", fn := fun _ => fun
  | [d1, d2, d3] => { results := [.lit (.bool false)], args := [d1, d2, d3] }
  | _ => none }
def RunsSplicesWrongFalsely : Prop := runsSplicesRow.holds Try.pinned (OpenSpec.ofChange runsSplicesWrong)

/-- 'bureaulaw03.RunsCats': WHATEVER THE INPUT: true; the input reads as it did. -/
def runsCatsSpec : ChangeSpec := { name := "runsCats", fn := fun _ => fun
  | [d1, d2] => { results := [.lit (.bool true)], args := [d1, d2] }
  | _ => none }
def runsCatsRow : OpenClaim := { program := "ythpjagblnddjaaa", sum := "62be87c84cf0cf0139b86e80664740c8e53dc4ec18d26107e6d7bcd1070117c2", func := "bureau/bureaulaw03.RunsCats", spec := "runsCats", unfollowed := true, recurses := true, apart := false }
def RunsCatsSaid : Prop := runsCatsRow.holds Try.pinned (OpenSpec.ofChange runsCatsSpec)

/-- ITS FALSE NEIGHBOUR: 'it returns false'. Refute it at one input. -/
def runsCatsWrong : ChangeSpec := { name := "runsCats", fn := fun _ => fun
  | [d1, d2] => { results := [.lit (.bool false)], args := [d1, d2] }
  | _ => none }
def RunsCatsWrongFalsely : Prop := runsCatsRow.holds Try.pinned (OpenSpec.ofChange runsCatsWrong)

/-- 'bureaulaw03.RunsUndone': WHATEVER THE INPUT: true; the input reads as it did. -/
def runsUndoneSpec : ChangeSpec := { name := "runsUndone", fn := fun _ => fun
  | [d1, d2, d3] => { results := [.lit (.bool true)], args := [d1, d2, d3] }
  | _ => none }
def runsUndoneRow : OpenClaim := { program := "ythpjagblnddjaaa", sum := "62be87c84cf0cf0139b86e80664740c8e53dc4ec18d26107e6d7bcd1070117c2", func := "bureau/bureaulaw03.RunsUndone", spec := "runsUndone", unfollowed := true, recurses := true, apart := false }
def RunsUndoneSaid : Prop := runsUndoneRow.holds Try.pinned (OpenSpec.ofChange runsUndoneSpec)

/-- ITS FALSE NEIGHBOUR: 'it returns false'. Refute it at one input. -/
def runsUndoneWrong : ChangeSpec := { name := "runsUndone", fn := fun _ => fun
  | [d1, d2, d3] => { results := [.lit (.bool false)], args := [d1, d2, d3] }
  | _ => none }
def RunsUndoneWrongFalsely : Prop := runsUndoneRow.holds Try.pinned (OpenSpec.ofChange runsUndoneWrong)

/-- 'bureaulaw03.RunsParts': WHATEVER THE INPUT: true; the input reads as it did. -/
def runsPartsSpec : ChangeSpec := { name := "runsParts", fn := fun _ => fun
  | [d1, d2] => { results := [.lit (.bool true)], args := [d1, d2] }
  | _ => none }
def runsPartsRow : OpenClaim := { program := "ythpjagblnddjaaa", sum := "62be87c84cf0cf0139b86e80664740c8e53dc4ec18d26107e6d7bcd1070117c2", func := "bureau/bureaulaw03.RunsParts", spec := "runsParts", unfollowed := true, recurses := true, apart := false }
def RunsPartsSaid : Prop := runsPartsRow.holds Try.pinned (OpenSpec.ofChange runsPartsSpec)

/-- ITS FALSE NEIGHBOUR: 'it returns false'. Refute it at one input. -/
def runsPartsWrong : ChangeSpec := { name := "runsParts", fn := fun _ => fun
  | [d1, d2] => { results := [.lit (.bool false)], args := [d1, d2] }
  | _ => none }
def RunsPartsWrongFalsely : Prop := runsPartsRow.holds Try.pinned (OpenSpec.ofChange runsPartsWrong)

/-- 'bureaulaw04.StripMakes': WHATEVER THE INPUT: true; the input reads as it did. -/
def stripMakesSpec : ChangeSpec := { name := "stripMakes", fn := fun _ => fun
  | [d1, d2, d3] => { results := [.lit (.bool true)], args := [d1, d2, d3] }
  | _ => none }
def stripMakesRow : OpenClaim := { program := "ythpjagblnddjaaa", sum := "62be87c84cf0cf0139b86e80664740c8e53dc4ec18d26107e6d7bcd1070117c2", func := "bureau/bureaulaw04.StripMakes", spec := "stripMakes", unfollowed := true, recurses := true, apart := false }
def StripMakesSaid : Prop := stripMakesRow.holds Try.pinned (OpenSpec.ofChange stripMakesSpec)

/-- ITS FALSE NEIGHBOUR: 'it returns false'. Refute it at one input. -/
def stripMakesWrong : ChangeSpec := { name := "stripMakes", fn := fun _ => fun
  | [d1, d2, d3] => { results := [.lit (.bool false)], args := [d1, d2, d3] }
  | _ => none }
def StripMakesWrongFalsely : Prop := stripMakesRow.holds Try.pinned (OpenSpec.ofChange stripMakesWrong)

/-- 'bureaulaw04.StripSplices': WHATEVER THE INPUT: true; the input reads as it did. -/
def stripSplicesSpec : ChangeSpec := { name := "stripSplices", fn := fun _ => fun
  | [d1, d2, d3] => { results := [.lit (.bool true)], args := [d1, d2, d3] }
  | _ => none }
def stripSplicesRow : OpenClaim := { program := "ythpjagblnddjaaa", sum := "62be87c84cf0cf0139b86e80664740c8e53dc4ec18d26107e6d7bcd1070117c2", func := "bureau/bureaulaw04.StripSplices", spec := "stripSplices", unfollowed := true, recurses := true, apart := false }
def StripSplicesSaid : Prop := stripSplicesRow.holds Try.pinned (OpenSpec.ofChange stripSplicesSpec)

/-- ITS FALSE NEIGHBOUR: 'it returns false'. Refute it at one input. -/
def stripSplicesWrong : ChangeSpec := { name := "stripSplices", fn := fun _ => fun
  | [d1, d2, d3] => { results := [.lit (.bool false)], args := [d1, d2, d3] }
  | _ => none }
def StripSplicesWrongFalsely : Prop := stripSplicesRow.holds Try.pinned (OpenSpec.ofChange stripSplicesWrong)

/-- 'bureaulaw07.EditMakes': WHATEVER THE INPUT: true; the input reads as it did. -/
def editMakesSpec : ChangeSpec := { name := "editMakes", fn := fun _ => fun
  | [d1, d2, d3] => { results := [.lit (.bool true)], args := [d1, d2, d3] }
  | _ => none }
def editMakesRow : OpenClaim := { program := "ythpjagblnddjaaa", sum := "62be87c84cf0cf0139b86e80664740c8e53dc4ec18d26107e6d7bcd1070117c2", func := "bureau/bureaulaw07.EditMakes", spec := "editMakes", unfollowed := true, recurses := true, apart := false }
def EditMakesSaid : Prop := editMakesRow.holds Try.pinned (OpenSpec.ofChange editMakesSpec)

/-- ITS FALSE NEIGHBOUR: 'it returns false'. Refute it at one input. -/
def editMakesWrong : ChangeSpec := { name := "editMakes", fn := fun _ => fun
  | [d1, d2, d3] => { results := [.lit (.bool false)], args := [d1, d2, d3] }
  | _ => none }
def EditMakesWrongFalsely : Prop := editMakesRow.holds Try.pinned (OpenSpec.ofChange editMakesWrong)

/-- 'bureaulaw07.EditFollows': WHATEVER THE INPUT: true; the input reads as it did. -/
def editFollowsSpec : ChangeSpec := { name := "editFollows", fn := fun _ => fun
  | [d1, d2] => { results := [.lit (.bool true)], args := [d1, d2] }
  | _ => none }
def editFollowsRow : OpenClaim := { program := "ythpjagblnddjaaa", sum := "62be87c84cf0cf0139b86e80664740c8e53dc4ec18d26107e6d7bcd1070117c2", func := "bureau/bureaulaw07.EditFollows", spec := "editFollows", unfollowed := true, recurses := true, apart := false }
def EditFollowsSaid : Prop := editFollowsRow.holds Try.pinned (OpenSpec.ofChange editFollowsSpec)

/-- ITS FALSE NEIGHBOUR: 'it returns false'. Refute it at one input. -/
def editFollowsWrong : ChangeSpec := { name := "editFollows", fn := fun _ => fun
  | [d1, d2] => { results := [.lit (.bool false)], args := [d1, d2] }
  | _ => none }
def EditFollowsWrongFalsely : Prop := editFollowsRow.holds Try.pinned (OpenSpec.ofChange editFollowsWrong)

/-- 'bureaulaw07.EditBack': WHATEVER THE INPUT: true; the input reads as it did. -/
def editBackSpec : ChangeSpec := { name := "editBack", fn := fun _ => fun
  | [d1, d2] => { results := [.lit (.bool true)], args := [d1, d2] }
  | _ => none }
def editBackRow : OpenClaim := { program := "ythpjagblnddjaaa", sum := "62be87c84cf0cf0139b86e80664740c8e53dc4ec18d26107e6d7bcd1070117c2", func := "bureau/bureaulaw07.EditBack", spec := "editBack", unfollowed := true, recurses := true, apart := false }
def EditBackSaid : Prop := editBackRow.holds Try.pinned (OpenSpec.ofChange editBackSpec)

/-- ITS FALSE NEIGHBOUR: 'it returns false'. Refute it at one input. -/
def editBackWrong : ChangeSpec := { name := "editBack", fn := fun _ => fun
  | [d1, d2] => { results := [.lit (.bool false)], args := [d1, d2] }
  | _ => none }
def EditBackWrongFalsely : Prop := editBackRow.holds Try.pinned (OpenSpec.ofChange editBackWrong)

/-- 'bureaulaw07.EditHides': WHATEVER THE INPUT: true; the input reads as it did. -/
def editHidesSpec : ChangeSpec := { name := "editHides", fn := fun _ => fun
  | [d1, d2] => { results := [.lit (.bool true)], args := [d1, d2] }
  | _ => none }
def editHidesRow : OpenClaim := { program := "ythpjagblnddjaaa", sum := "62be87c84cf0cf0139b86e80664740c8e53dc4ec18d26107e6d7bcd1070117c2", func := "bureau/bureaulaw07.EditHides", spec := "editHides", unfollowed := true, recurses := true, apart := false }
def EditHidesSaid : Prop := editHidesRow.holds Try.pinned (OpenSpec.ofChange editHidesSpec)

/-- ITS FALSE NEIGHBOUR: 'it returns false'. Refute it at one input. -/
def editHidesWrong : ChangeSpec := { name := "editHides", fn := fun _ => fun
  | [d1, d2] => { results := [.lit (.bool false)], args := [d1, d2] }
  | _ => none }
def EditHidesWrongFalsely : Prop := editHidesRow.holds Try.pinned (OpenSpec.ofChange editHidesWrong)

/-- 'bureaulaw04.StripViews': WHATEVER THE INPUT: true; the input reads as it did. -/
def stripViewsSpec : ChangeSpec := { name := "stripViews", fn := fun _ => fun
  | [d1, d2, d3] => { results := [.lit (.bool true)], args := [d1, d2, d3] }
  | _ => none }
def stripViewsRow : OpenClaim := { program := "ythpjagblnddjaaa", sum := "62be87c84cf0cf0139b86e80664740c8e53dc4ec18d26107e6d7bcd1070117c2", func := "bureau/bureaulaw04.StripViews", spec := "stripViews", unfollowed := true, recurses := true, apart := false }
def StripViewsSaid : Prop := stripViewsRow.holds Try.pinned (OpenSpec.ofChange stripViewsSpec)

/-- ITS FALSE NEIGHBOUR: 'it returns false'. Refute it at one input. -/
def stripViewsWrong : ChangeSpec := { name := "stripViews", fn := fun _ => fun
  | [d1, d2, d3] => { results := [.lit (.bool false)], args := [d1, d2, d3] }
  | _ => none }
def StripViewsWrongFalsely : Prop := stripViewsRow.holds Try.pinned (OpenSpec.ofChange stripViewsWrong)

/-- 'bureaulaw04.StripHigher': WHATEVER THE INPUT: true; the input reads as it did. -/
def stripHigherSpec : ChangeSpec := { name := "stripHigher", fn := fun _ => fun
  | [d1, d2, d3] => { results := [.lit (.bool true)], args := [d1, d2, d3] }
  | _ => none }
def stripHigherRow : OpenClaim := { program := "ythpjagblnddjaaa", sum := "62be87c84cf0cf0139b86e80664740c8e53dc4ec18d26107e6d7bcd1070117c2", func := "bureau/bureaulaw04.StripHigher", spec := "stripHigher", unfollowed := true, recurses := true, apart := false }
def StripHigherSaid : Prop := stripHigherRow.holds Try.pinned (OpenSpec.ofChange stripHigherSpec)

/-- ITS FALSE NEIGHBOUR: 'it returns false'. Refute it at one input. -/
def stripHigherWrong : ChangeSpec := { name := "stripHigher", fn := fun _ => fun
  | [d1, d2, d3] => { results := [.lit (.bool false)], args := [d1, d2, d3] }
  | _ => none }
def StripHigherWrongFalsely : Prop := stripHigherRow.holds Try.pinned (OpenSpec.ofChange stripHigherWrong)

/-- 'bureaulaw07.EditOnce': WHATEVER THE INPUT: true; the input reads as it did. -/
def editOnceSpec : ChangeSpec := { name := "editOnce", fn := fun _ => fun
  | [d1, d2, d3] => { results := [.lit (.bool true)], args := [d1, d2, d3] }
  | _ => none }
def editOnceRow : OpenClaim := { program := "ythpjagblnddjaaa", sum := "62be87c84cf0cf0139b86e80664740c8e53dc4ec18d26107e6d7bcd1070117c2", func := "bureau/bureaulaw07.EditOnce", spec := "editOnce", unfollowed := true, recurses := true, apart := false }
def EditOnceSaid : Prop := editOnceRow.holds Try.pinned (OpenSpec.ofChange editOnceSpec)

/-- ITS FALSE NEIGHBOUR: 'it returns false'. Refute it at one input. -/
def editOnceWrong : ChangeSpec := { name := "editOnce", fn := fun _ => fun
  | [d1, d2, d3] => { results := [.lit (.bool false)], args := [d1, d2, d3] }
  | _ => none }
def EditOnceWrongFalsely : Prop := editOnceRow.holds Try.pinned (OpenSpec.ofChange editOnceWrong)

/-- 'bureaulaw04.StripCuts': WHATEVER THE INPUT: true; the input reads as it did. -/
def stripCutsSpec : ChangeSpec := { name := "stripCuts", fn := fun _ => fun
  | [d1, d2, d3] => { results := [.lit (.bool true)], args := [d1, d2, d3] }
  | _ => none }
def stripCutsRow : OpenClaim := { program := "ythpjagblnddjaaa", sum := "62be87c84cf0cf0139b86e80664740c8e53dc4ec18d26107e6d7bcd1070117c2", func := "bureau/bureaulaw04.StripCuts", spec := "stripCuts", unfollowed := true, recurses := true, apart := false }
def StripCutsSaid : Prop := stripCutsRow.holds Try.pinned (OpenSpec.ofChange stripCutsSpec)

/-- ITS FALSE NEIGHBOUR: 'it returns false'. Refute it at one input. -/
def stripCutsWrong : ChangeSpec := { name := "stripCuts", fn := fun _ => fun
  | [d1, d2, d3] => { results := [.lit (.bool false)], args := [d1, d2, d3] }
  | _ => none }
def StripCutsWrongFalsely : Prop := stripCutsRow.holds Try.pinned (OpenSpec.ofChange stripCutsWrong)

/-- 'bureaulaw04.StripParts': WHATEVER THE INPUT: true; the input reads as it did. -/
def stripPartsSpec : ChangeSpec := { name := "stripParts", fn := fun _ => fun
  | [d1, d2] => { results := [.lit (.bool true)], args := [d1, d2] }
  | _ => none }
def stripPartsRow : OpenClaim := { program := "ythpjagblnddjaaa", sum := "62be87c84cf0cf0139b86e80664740c8e53dc4ec18d26107e6d7bcd1070117c2", func := "bureau/bureaulaw04.StripParts", spec := "stripParts", unfollowed := true, recurses := true, apart := false }
def StripPartsSaid : Prop := stripPartsRow.holds Try.pinned (OpenSpec.ofChange stripPartsSpec)

/-- ITS FALSE NEIGHBOUR: 'it returns false'. Refute it at one input. -/
def stripPartsWrong : ChangeSpec := { name := "stripParts", fn := fun _ => fun
  | [d1, d2] => { results := [.lit (.bool false)], args := [d1, d2] }
  | _ => none }
def StripPartsWrongFalsely : Prop := stripPartsRow.holds Try.pinned (OpenSpec.ofChange stripPartsWrong)

/-- 'bureaulaw04.StripCats': WHATEVER THE INPUT: true; the input reads as it did. -/
def stripCatsSpec : ChangeSpec := { name := "stripCats", fn := fun _ => fun
  | [d1, d2, d3] => { results := [.lit (.bool true)], args := [d1, d2, d3] }
  | _ => none }
def stripCatsRow : OpenClaim := { program := "ythpjagblnddjaaa", sum := "62be87c84cf0cf0139b86e80664740c8e53dc4ec18d26107e6d7bcd1070117c2", func := "bureau/bureaulaw04.StripCats", spec := "stripCats", unfollowed := true, recurses := true, apart := false }
def StripCatsSaid : Prop := stripCatsRow.holds Try.pinned (OpenSpec.ofChange stripCatsSpec)

/-- ITS FALSE NEIGHBOUR: 'it returns false'. Refute it at one input. -/
def stripCatsWrong : ChangeSpec := { name := "stripCats", fn := fun _ => fun
  | [d1, d2, d3] => { results := [.lit (.bool false)], args := [d1, d2, d3] }
  | _ => none }
def StripCatsWrongFalsely : Prop := stripCatsRow.holds Try.pinned (OpenSpec.ofChange stripCatsWrong)

/-- 'bureaulaw04.StripHides': WHATEVER THE INPUT: true; the input reads as it did. -/
def stripHidesSpec : ChangeSpec := { name := "stripHides", fn := fun _ => fun
  | [d1, d2] => { results := [.lit (.bool true)], args := [d1, d2] }
  | _ => none }
def stripHidesRow : OpenClaim := { program := "ythpjagblnddjaaa", sum := "62be87c84cf0cf0139b86e80664740c8e53dc4ec18d26107e6d7bcd1070117c2", func := "bureau/bureaulaw04.StripHides", spec := "stripHides", unfollowed := true, recurses := true, apart := false }
def StripHidesSaid : Prop := stripHidesRow.holds Try.pinned (OpenSpec.ofChange stripHidesSpec)

/-- ITS FALSE NEIGHBOUR: 'it returns false'. Refute it at one input. -/
def stripHidesWrong : ChangeSpec := { name := "stripHides", fn := fun _ => fun
  | [d1, d2] => { results := [.lit (.bool false)], args := [d1, d2] }
  | _ => none }
def StripHidesWrongFalsely : Prop := stripHidesRow.holds Try.pinned (OpenSpec.ofChange stripHidesWrong)

/- THE SECOND FORM. 'bulk': how many values and letters a reading holds, each counted each time it is reached (what is shared counts as often as it is met; a slice's spare places count too). A statement '..UptoSaid' is the law's where the arguments, and the package variables that the reading takes, are together of bulk at most 1048576: NARROWER than '..Said'. Prove '..Said' where nothing that the law and all that it calls make is longer than what came in: it says more and counts as full. Else prove '..UptoSaid'. A law counts once. -/
mutual
def uptoBulk {H : Type} : DataW H → Nat
  | .lit (.string bytes) => bytes.length + 1
  | .lit _ => 1
  | .nil => 1
  | .ptr d => uptoBulk d + 1
  | .slice elems spare => uptoBulkAll elems + uptoBulkAll spare + 1
  | .agg parts => uptoBulkAll parts + 1
  | .iface _ d => uptoBulk d + 1
  | .map entries => uptoBulkEntries entries + 1
  | .held _ => 1
def uptoBulkAll {H : Type} : List (DataW H) → Nat
  | [] => 0
  | d :: r => uptoBulk d + uptoBulkAll r
def uptoBulkEntries {H : Type} : List (Lit × DataW H) → Nat
  | [] => 0
  | x :: r => uptoBulkEntry x + uptoBulkEntries r
def uptoBulkEntry {H : Type} : Lit × DataW H → Nat
  | (.string bytes, d) => bytes.length + uptoBulk d + 1
  | (_, d) => uptoBulk d + 1
 end
def uptoSmall : (H : Type) → List (DataW H) → Bool := fun _ ds => decide (uptoBulkAll ds ≤ 1048576)
def OpenSpec.upto (s : _root_.Go.ChangeSpec) : _root_.Go.OpenSpec := { _root_.Go.OpenSpec.ofChange s with cond := some uptoSmall }

/-- 'bureaulaw03.RunsNormals', WHERE WHAT IT READS IS OF BULK AT MOST 1048576: true; the input reads as it did. -/
def runsNormalsUptoRow : OpenClaim := { program := "ythpjagblnddjaaa", sum := "62be87c84cf0cf0139b86e80664740c8e53dc4ec18d26107e6d7bcd1070117c2", func := "bureau/bureaulaw03.RunsNormals", spec := "runsNormals", unfollowed := true, recurses := true, apart := false, narrowed := true }
def RunsNormalsUptoSaid : Prop := runsNormalsUptoRow.holds Try.pinned (OpenSpec.upto runsNormalsSpec)

/-- 'bureaulaw03.RunsSlices', WHERE WHAT IT READS IS OF BULK AT MOST 1048576: true; the input reads as it did. -/
def runsSlicesUptoRow : OpenClaim := { program := "ythpjagblnddjaaa", sum := "62be87c84cf0cf0139b86e80664740c8e53dc4ec18d26107e6d7bcd1070117c2", func := "bureau/bureaulaw03.RunsSlices", spec := "runsSlices", unfollowed := true, recurses := true, apart := false, narrowed := true }
def RunsSlicesUptoSaid : Prop := runsSlicesUptoRow.holds Try.pinned (OpenSpec.upto runsSlicesSpec)

/-- 'bureaulaw03.RunsAsks', WHERE WHAT IT READS IS OF BULK AT MOST 1048576: true; the input reads as it did. -/
def runsAsksUptoRow : OpenClaim := { program := "ythpjagblnddjaaa", sum := "62be87c84cf0cf0139b86e80664740c8e53dc4ec18d26107e6d7bcd1070117c2", func := "bureau/bureaulaw03.RunsAsks", spec := "runsAsks", unfollowed := true, recurses := true, apart := false, narrowed := true }
def RunsAsksUptoSaid : Prop := runsAsksUptoRow.holds Try.pinned (OpenSpec.upto runsAsksSpec)

/-- 'bureaulaw03.RunsRaises', WHERE WHAT IT READS IS OF BULK AT MOST 1048576: true; the input reads as it did. -/
def runsRaisesUptoRow : OpenClaim := { program := "ythpjagblnddjaaa", sum := "62be87c84cf0cf0139b86e80664740c8e53dc4ec18d26107e6d7bcd1070117c2", func := "bureau/bureaulaw03.RunsRaises", spec := "runsRaises", unfollowed := true, recurses := true, apart := false, narrowed := true }
def RunsRaisesUptoSaid : Prop := runsRaisesUptoRow.holds Try.pinned (OpenSpec.upto runsRaisesSpec)

/-- 'bureaulaw03.RunsSplices', WHERE WHAT IT READS IS OF BULK AT MOST 1048576: true; the input reads as it did. -/
def runsSplicesUptoRow : OpenClaim := { program := "ythpjagblnddjaaa", sum := "62be87c84cf0cf0139b86e80664740c8e53dc4ec18d26107e6d7bcd1070117c2", func := "bureau/bureaulaw03.RunsSplices", spec := "runsSplices", unfollowed := true, recurses := true, apart := false, narrowed := true }
def RunsSplicesUptoSaid : Prop := runsSplicesUptoRow.holds Try.pinned (OpenSpec.upto runsSplicesSpec)

/-- 'bureaulaw03.RunsCats', WHERE WHAT IT READS IS OF BULK AT MOST 1048576: true; the input reads as it did. -/
def runsCatsUptoRow : OpenClaim := { program := "ythpjagblnddjaaa", sum := "62be87c84cf0cf0139b86e80664740c8e53dc4ec18d26107e6d7bcd1070117c2", func := "bureau/bureaulaw03.RunsCats", spec := "runsCats", unfollowed := true, recurses := true, apart := false, narrowed := true }
def RunsCatsUptoSaid : Prop := runsCatsUptoRow.holds Try.pinned (OpenSpec.upto runsCatsSpec)

/-- 'bureaulaw03.RunsUndone', WHERE WHAT IT READS IS OF BULK AT MOST 1048576: true; the input reads as it did. -/
def runsUndoneUptoRow : OpenClaim := { program := "ythpjagblnddjaaa", sum := "62be87c84cf0cf0139b86e80664740c8e53dc4ec18d26107e6d7bcd1070117c2", func := "bureau/bureaulaw03.RunsUndone", spec := "runsUndone", unfollowed := true, recurses := true, apart := false, narrowed := true }
def RunsUndoneUptoSaid : Prop := runsUndoneUptoRow.holds Try.pinned (OpenSpec.upto runsUndoneSpec)

/-- 'bureaulaw03.RunsParts', WHERE WHAT IT READS IS OF BULK AT MOST 1048576: true; the input reads as it did. -/
def runsPartsUptoRow : OpenClaim := { program := "ythpjagblnddjaaa", sum := "62be87c84cf0cf0139b86e80664740c8e53dc4ec18d26107e6d7bcd1070117c2", func := "bureau/bureaulaw03.RunsParts", spec := "runsParts", unfollowed := true, recurses := true, apart := false, narrowed := true }
def RunsPartsUptoSaid : Prop := runsPartsUptoRow.holds Try.pinned (OpenSpec.upto runsPartsSpec)

/-- 'bureaulaw04.StripMakes', WHERE WHAT IT READS IS OF BULK AT MOST 1048576: true; the input reads as it did. -/
def stripMakesUptoRow : OpenClaim := { program := "ythpjagblnddjaaa", sum := "62be87c84cf0cf0139b86e80664740c8e53dc4ec18d26107e6d7bcd1070117c2", func := "bureau/bureaulaw04.StripMakes", spec := "stripMakes", unfollowed := true, recurses := true, apart := false, narrowed := true }
def StripMakesUptoSaid : Prop := stripMakesUptoRow.holds Try.pinned (OpenSpec.upto stripMakesSpec)

/-- 'bureaulaw04.StripSplices', WHERE WHAT IT READS IS OF BULK AT MOST 1048576: true; the input reads as it did. -/
def stripSplicesUptoRow : OpenClaim := { program := "ythpjagblnddjaaa", sum := "62be87c84cf0cf0139b86e80664740c8e53dc4ec18d26107e6d7bcd1070117c2", func := "bureau/bureaulaw04.StripSplices", spec := "stripSplices", unfollowed := true, recurses := true, apart := false, narrowed := true }
def StripSplicesUptoSaid : Prop := stripSplicesUptoRow.holds Try.pinned (OpenSpec.upto stripSplicesSpec)

/-- 'bureaulaw07.EditMakes', WHERE WHAT IT READS IS OF BULK AT MOST 1048576: true; the input reads as it did. -/
def editMakesUptoRow : OpenClaim := { program := "ythpjagblnddjaaa", sum := "62be87c84cf0cf0139b86e80664740c8e53dc4ec18d26107e6d7bcd1070117c2", func := "bureau/bureaulaw07.EditMakes", spec := "editMakes", unfollowed := true, recurses := true, apart := false, narrowed := true }
def EditMakesUptoSaid : Prop := editMakesUptoRow.holds Try.pinned (OpenSpec.upto editMakesSpec)

/-- 'bureaulaw07.EditFollows', WHERE WHAT IT READS IS OF BULK AT MOST 1048576: true; the input reads as it did. -/
def editFollowsUptoRow : OpenClaim := { program := "ythpjagblnddjaaa", sum := "62be87c84cf0cf0139b86e80664740c8e53dc4ec18d26107e6d7bcd1070117c2", func := "bureau/bureaulaw07.EditFollows", spec := "editFollows", unfollowed := true, recurses := true, apart := false, narrowed := true }
def EditFollowsUptoSaid : Prop := editFollowsUptoRow.holds Try.pinned (OpenSpec.upto editFollowsSpec)

/-- 'bureaulaw07.EditBack', WHERE WHAT IT READS IS OF BULK AT MOST 1048576: true; the input reads as it did. -/
def editBackUptoRow : OpenClaim := { program := "ythpjagblnddjaaa", sum := "62be87c84cf0cf0139b86e80664740c8e53dc4ec18d26107e6d7bcd1070117c2", func := "bureau/bureaulaw07.EditBack", spec := "editBack", unfollowed := true, recurses := true, apart := false, narrowed := true }
def EditBackUptoSaid : Prop := editBackUptoRow.holds Try.pinned (OpenSpec.upto editBackSpec)

/-- 'bureaulaw07.EditHides', WHERE WHAT IT READS IS OF BULK AT MOST 1048576: true; the input reads as it did. -/
def editHidesUptoRow : OpenClaim := { program := "ythpjagblnddjaaa", sum := "62be87c84cf0cf0139b86e80664740c8e53dc4ec18d26107e6d7bcd1070117c2", func := "bureau/bureaulaw07.EditHides", spec := "editHides", unfollowed := true, recurses := true, apart := false, narrowed := true }
def EditHidesUptoSaid : Prop := editHidesUptoRow.holds Try.pinned (OpenSpec.upto editHidesSpec)

/-- 'bureaulaw04.StripViews', WHERE WHAT IT READS IS OF BULK AT MOST 1048576: true; the input reads as it did. -/
def stripViewsUptoRow : OpenClaim := { program := "ythpjagblnddjaaa", sum := "62be87c84cf0cf0139b86e80664740c8e53dc4ec18d26107e6d7bcd1070117c2", func := "bureau/bureaulaw04.StripViews", spec := "stripViews", unfollowed := true, recurses := true, apart := false, narrowed := true }
def StripViewsUptoSaid : Prop := stripViewsUptoRow.holds Try.pinned (OpenSpec.upto stripViewsSpec)

/-- 'bureaulaw04.StripHigher', WHERE WHAT IT READS IS OF BULK AT MOST 1048576: true; the input reads as it did. -/
def stripHigherUptoRow : OpenClaim := { program := "ythpjagblnddjaaa", sum := "62be87c84cf0cf0139b86e80664740c8e53dc4ec18d26107e6d7bcd1070117c2", func := "bureau/bureaulaw04.StripHigher", spec := "stripHigher", unfollowed := true, recurses := true, apart := false, narrowed := true }
def StripHigherUptoSaid : Prop := stripHigherUptoRow.holds Try.pinned (OpenSpec.upto stripHigherSpec)

/-- 'bureaulaw07.EditOnce', WHERE WHAT IT READS IS OF BULK AT MOST 1048576: true; the input reads as it did. -/
def editOnceUptoRow : OpenClaim := { program := "ythpjagblnddjaaa", sum := "62be87c84cf0cf0139b86e80664740c8e53dc4ec18d26107e6d7bcd1070117c2", func := "bureau/bureaulaw07.EditOnce", spec := "editOnce", unfollowed := true, recurses := true, apart := false, narrowed := true }
def EditOnceUptoSaid : Prop := editOnceUptoRow.holds Try.pinned (OpenSpec.upto editOnceSpec)

/-- 'bureaulaw04.StripCuts', WHERE WHAT IT READS IS OF BULK AT MOST 1048576: true; the input reads as it did. -/
def stripCutsUptoRow : OpenClaim := { program := "ythpjagblnddjaaa", sum := "62be87c84cf0cf0139b86e80664740c8e53dc4ec18d26107e6d7bcd1070117c2", func := "bureau/bureaulaw04.StripCuts", spec := "stripCuts", unfollowed := true, recurses := true, apart := false, narrowed := true }
def StripCutsUptoSaid : Prop := stripCutsUptoRow.holds Try.pinned (OpenSpec.upto stripCutsSpec)

/-- 'bureaulaw04.StripParts', WHERE WHAT IT READS IS OF BULK AT MOST 1048576: true; the input reads as it did. -/
def stripPartsUptoRow : OpenClaim := { program := "ythpjagblnddjaaa", sum := "62be87c84cf0cf0139b86e80664740c8e53dc4ec18d26107e6d7bcd1070117c2", func := "bureau/bureaulaw04.StripParts", spec := "stripParts", unfollowed := true, recurses := true, apart := false, narrowed := true }
def StripPartsUptoSaid : Prop := stripPartsUptoRow.holds Try.pinned (OpenSpec.upto stripPartsSpec)

/-- 'bureaulaw04.StripCats', WHERE WHAT IT READS IS OF BULK AT MOST 1048576: true; the input reads as it did. -/
def stripCatsUptoRow : OpenClaim := { program := "ythpjagblnddjaaa", sum := "62be87c84cf0cf0139b86e80664740c8e53dc4ec18d26107e6d7bcd1070117c2", func := "bureau/bureaulaw04.StripCats", spec := "stripCats", unfollowed := true, recurses := true, apart := false, narrowed := true }
def StripCatsUptoSaid : Prop := stripCatsUptoRow.holds Try.pinned (OpenSpec.upto stripCatsSpec)

/-- 'bureaulaw04.StripHides', WHERE WHAT IT READS IS OF BULK AT MOST 1048576: true; the input reads as it did. -/
def stripHidesUptoRow : OpenClaim := { program := "ythpjagblnddjaaa", sum := "62be87c84cf0cf0139b86e80664740c8e53dc4ec18d26107e6d7bcd1070117c2", func := "bureau/bureaulaw04.StripHides", spec := "stripHides", unfollowed := true, recurses := true, apart := false, narrowed := true }
def StripHidesUptoSaid : Prop := stripHidesUptoRow.holds Try.pinned (OpenSpec.upto stripHidesSpec)

end Rows
end Go.Proofs.Ythpjagblnddjaaa
