/- What the row hangs on, part 5. -/
import Derived.Test.YtnbdldpjiofafaaQSubstNone4
section
namespace Go.Proofs.Ytnbdldpjiofafaa.PB
open Go.RowKit Go.Proofs.YtnbdldpjiofafaaW.PrintWords Go.Proofs.YtnbdldpjiofafaaW.PrintLast Go.Proofs.YtnbdldpjiofafaaW.PrintMore
attribute [local go_sem] max2_int min2_int max_two min_two max_three min_three max_four min_four   
set_option linter.unusedVariables false
set_option linter.unusedSimpArgs false
mutual
def subst_Do.j0 : Nat → Int → ByteArray → Bool → ByteArray → List (S51) → Int → Int → ByteArray → ByteArray → Bool → Option (Int × ByteArray × (List (S51)) × ByteArray × (List (S51)) × Int × Int)
 | 0, _, _, _, _, _, _, _, _, _, _ => none
 | k + 1, x1, x9, x74, x187000, x187001, x188000, x188001, x188002, x188003, x188004 => if x74 = true then (some (0, (⟨#[]⟩ : ByteArray), ([] : List (S51)), (⟨#[]⟩ : ByteArray), ([] : List (S51)), 0, 2)) else (subst_Do.l0 k x1 x9 ([] : List Int) x188000 x187000 x187001 x188000 x188001 x188002 x188003 x188004)
def subst_Do.l0 : Nat → Int → ByteArray → List Int → Int → ByteArray → List (S51) → Int → Int → ByteArray → ByteArray → Bool → Option (Int × ByteArray × (List (S51)) × ByteArray × (List (S51)) × Int × Int)
 | 0, _, _, _, _, _, _, _, _, _, _, _ => none
 | k + 1, x1, x9, x11, x12, x187000, x187001, x188000, x188001, x188002, x188003, x188004 => if x12 ≤ x188001 then ((line_Bounds.f k x9 x12).bind fun bt193 => ((subst_places.f k x187000 x187001 x1 x188000 x188001 x188002 x188003 x188004 bt193.1 bt193.2.1).bind fun t196 => (if x11.length + t196.length < 17592186044416 then (subst_Do.l0 k x1 x9 (x11 ++ t196) (wrap64 (x12 + 1)) x187000 x187001 x188000 x188001 x188002 x188003 x188004) else (none)))) else (if (x11.length : Int) = 0 then (some (0, (⟨#[]⟩ : ByteArray), ([] : List (S51)), (⟨#[]⟩ : ByteArray), ([] : List (S51)), 0, 6)) else (if (wrap64 ((x187000.size : Int) + (wrap64 ((x11.length : Int) * (wrap64 ((x188003.size : Int) - (x188002.size : Int))))))) > 4096 then (some (0, (⟨#[]⟩ : ByteArray), ([] : List (S51)), (⟨#[]⟩ : ByteArray), ([] : List (S51)), 0, 3)) else ((strip_Make.f k x188003 x1).bind fun bt202 => ((line_Bounds.f k x9 x188000).bind fun bt208 => ((line_Bounds.f k x9 x188001).bind fun bt211 => (if x11.length < 17592186044416 then ((some (x11 ++ [bt211.2.1] : List Int)).bind fun y215 => (subst_Do.l1 k x11 bt208.1 bt211.2.1 bt208.1 y215 (y215.length : Int) 0 x187000 x187001 x188000 x188001 x188002 x188003 x188004 bt202.1 bt202.2.1 (⟨#[]⟩ : ByteArray) ([] : List (S51)))) else (none)))))))
def subst_Do.l1 : Nat → List Int → Int → Int → Int → List Int → Int → Int → ByteArray → List (S51) → Int → Int → ByteArray → ByteArray → Bool → ByteArray → List (S51) → ByteArray → List (S51) → Option (Int × ByteArray × (List (S51)) × ByteArray × (List (S51)) × Int × Int)
 | 0, _, _, _, _, _, _, _, _, _, _, _, _, _, _, _, _, _, _ => none
 | k + 1, x11, x18, x22, x25, x148, x149, x150, x187000, x187001, x188000, x188001, x188002, x188003, x188004, x208000, x208001, x215000, x215001 => if x150 < x149 then (if 0 ≤ x150 then (if x150 < (x148.length : Int) then ((strip_Cut.f k x187000 x187001 x25 (rd x148 x150)).bind fun bt230 => ((strip_Cat.f k x215000 x215001 bt230.1 bt230.2.1).bind fun bt236 => (if (rd x148 x150) < x22 then ((strip_Cat.f k bt236.1 bt236.2.1 x208000 x208001).bind fun bt241 => (subst_Do.l1 k x11 x18 x22 (wrap64 ((rd x148 x150) + (x188002.size : Int))) x148 x149 (wrap64 (x150 + 1)) x187000 x187001 x188000 x188001 x188002 x188003 x188004 x208000 x208001 bt241.1 bt241.2.1)) else (subst_Do.l1 k x11 x18 x22 (wrap64 ((rd x148 x150) + (x188002.size : Int))) x148 x149 (wrap64 (x150 + 1)) x187000 x187001 x188000 x188001 x188002 x188003 x188004 x208000 x208001 bt236.1 bt236.2.1)))) else (none)) else (none)) else ((edit_Of.f k x187000 x187001 x18 x22 x215000 x215001).bind fun bt218 => (some (bt218.1, bt218.2.1, bt218.2.2.1, bt218.2.2.2.1, bt218.2.2.2.2.1, (x11.length : Int), bt218.2.2.2.2.2)))
end
def subst_Do.f (k : Nat) (a0_0 : ByteArray) (l0_1 : List (S51)) (a1 : Int) (a2_0 : Int) (a2_1 : Int) (a2_2 : ByteArray) (a2_3 : ByteArray) (a2_4 : Bool) : Option (Int × ByteArray × (List (S51)) × ByteArray × (List (S51)) × Int × Int) := (strip_View.f k a0_0 l0_1 a1).bind fun bt189 => (if bt189.2 = 0 then (if a2_0 < 0 then (subst_Do.j0 k a1 bt189.1 true a0_0 l0_1 a2_0 a2_1 a2_2 a2_3 a2_4) else (if a2_1 < a2_0 then (subst_Do.j0 k a1 bt189.1 true a0_0 l0_1 a2_0 a2_1 a2_2 a2_3 a2_4) else ((line_Count.f bt189.1).bind fun t191 => (if a2_1 ≥ t191 then (subst_Do.j0 k a1 bt189.1 true a0_0 l0_1 a2_0 a2_1 a2_2 a2_3 a2_4) else (if a2_2.toList = ([] : List UInt8) then (subst_Do.j0 k a1 bt189.1 true a0_0 l0_1 a2_0 a2_1 a2_2 a2_3 a2_4) else ((strings_Contains.f a2_2 (⟨#[10]⟩ : ByteArray)).bind fun t192 => (if t192 = true then (subst_Do.j0 k a1 bt189.1 true a0_0 l0_1 a2_0 a2_1 a2_2 a2_3 a2_4) else (subst_Do.j0 k a1 bt189.1 (decide ((a2_3.size : Int) > 4096)) a0_0 l0_1 a2_0 a2_1 a2_2 a2_3 a2_4)))))))) else (subst_Do.j0 k a1 bt189.1 true a0_0 l0_1 a2_0 a2_1 a2_2 a2_3 a2_4))
theorem subst_Do.mono_l : ∀ k, (∀ y0 y1 y2 y3 y4 y5 y6 y7 y8 y9, LeO (subst_Do.j0 k y0 y1 y2 y3 y4 y5 y6 y7 y8 y9) (subst_Do.j0 (k + 1) y0 y1 y2 y3 y4 y5 y6 y7 y8 y9)) ∧ (∀ y0 y1 y2 y3 y4 y5 y6 y7 y8 y9 y10, LeO (subst_Do.l0 k y0 y1 y2 y3 y4 y5 y6 y7 y8 y9 y10) (subst_Do.l0 (k + 1) y0 y1 y2 y3 y4 y5 y6 y7 y8 y9 y10)) ∧ (∀ y0 y1 y2 y3 y4 y5 y6 y7 y8 y9 y10 y11 y12 y13 y14 y15 y16 y17, LeO (subst_Do.l1 k y0 y1 y2 y3 y4 y5 y6 y7 y8 y9 y10 y11 y12 y13 y14 y15 y16 y17) (subst_Do.l1 (k + 1) y0 y1 y2 y3 y4 y5 y6 y7 y8 y9 y10 y11 y12 y13 y14 y15 y16 y17))
 | 0 => ⟨fun _ _ _ _ _ _ _ _ _ _ r h => by simp [subst_Do.j0] at h, fun _ _ _ _ _ _ _ _ _ _ _ r h => by simp [subst_Do.l0] at h, fun _ _ _ _ _ _ _ _ _ _ _ _ _ _ _ _ _ _ r h => by simp [subst_Do.l1] at h⟩
 | k + 1 => by
  obtain ⟨ih0, ih1, ih2⟩ := subst_Do.mono_l k
  refine ⟨?_, ?_, ?_⟩
  ·intro y0 y1 y2 y3 y4 y5 y6 y7 y8 y9
   unfold subst_Do.j0
   repeat' first
   | (with_reducible exact ih0 _ _ _ _ _ _ _ _ _ _)
   | (with_reducible exact ih1 _ _ _ _ _ _ _ _ _ _ _)
   | (with_reducible exact ih2 _ _ _ _ _ _ _ _ _ _ _ _ _ _ _ _ _ _)
   | (with_reducible exact edit_Of.mono _ _ _ _ _ _ _)
   | (with_reducible exact line_Bounds.mono _ _ _)
   | (with_reducible exact strip_Cat.mono _ _ _ _ _)
   | (with_reducible exact strip_Cut.mono _ _ _ _ _)
   | (with_reducible exact strip_Make.mono _ _ _)
   | (with_reducible exact strip_View.mono _ _ _ _)
   | (with_reducible exact subst_places.mono _ _ _ _ _ _ _ _ _ _ _)
   | (with_reducible exact LeO.refl _)
   | (with_reducible exact LeO.none _)
   | (with_reducible refine LeO.ite ?_ ?_)
   | (with_reducible refine LeO.bind ?_ (fun _ => ?_))
   | exact ih0 _ _ _ _ _ _ _ _ _ _
   | exact ih1 _ _ _ _ _ _ _ _ _ _ _
   | exact ih2 _ _ _ _ _ _ _ _ _ _ _ _ _ _ _ _ _ _
   | exact edit_Of.mono _ _ _ _ _ _ _
   | exact line_Bounds.mono _ _ _
   | exact strip_Cat.mono _ _ _ _ _
   | exact strip_Cut.mono _ _ _ _ _
   | exact strip_Make.mono _ _ _
   | exact strip_View.mono _ _ _ _
   | exact subst_places.mono _ _ _ _ _ _ _ _ _ _ _
   | exact LeO.none _
   | refine LeO.ite ?_ ?_
   | refine LeO.bind ?_ (fun _ => ?_)
  ·intro y0 y1 y2 y3 y4 y5 y6 y7 y8 y9 y10
   unfold subst_Do.l0
   repeat' first
   | (with_reducible exact ih0 _ _ _ _ _ _ _ _ _ _)
   | (with_reducible exact ih1 _ _ _ _ _ _ _ _ _ _ _)
   | (with_reducible exact ih2 _ _ _ _ _ _ _ _ _ _ _ _ _ _ _ _ _ _)
   | (with_reducible exact edit_Of.mono _ _ _ _ _ _ _)
   | (with_reducible exact line_Bounds.mono _ _ _)
   | (with_reducible exact strip_Cat.mono _ _ _ _ _)
   | (with_reducible exact strip_Cut.mono _ _ _ _ _)
   | (with_reducible exact strip_Make.mono _ _ _)
   | (with_reducible exact strip_View.mono _ _ _ _)
   | (with_reducible exact subst_places.mono _ _ _ _ _ _ _ _ _ _ _)
   | (with_reducible exact LeO.refl _)
   | (with_reducible exact LeO.none _)
   | (with_reducible refine LeO.ite ?_ ?_)
   | (with_reducible refine LeO.bind ?_ (fun _ => ?_))
   | exact ih0 _ _ _ _ _ _ _ _ _ _
   | exact ih1 _ _ _ _ _ _ _ _ _ _ _
   | exact ih2 _ _ _ _ _ _ _ _ _ _ _ _ _ _ _ _ _ _
   | exact edit_Of.mono _ _ _ _ _ _ _
   | exact line_Bounds.mono _ _ _
   | exact strip_Cat.mono _ _ _ _ _
   | exact strip_Cut.mono _ _ _ _ _
   | exact strip_Make.mono _ _ _
   | exact strip_View.mono _ _ _ _
   | exact subst_places.mono _ _ _ _ _ _ _ _ _ _ _
   | exact LeO.none _
   | refine LeO.ite ?_ ?_
   | refine LeO.bind ?_ (fun _ => ?_)
  ·intro y0 y1 y2 y3 y4 y5 y6 y7 y8 y9 y10 y11 y12 y13 y14 y15 y16 y17
   unfold subst_Do.l1
   repeat' first
   | (with_reducible exact ih0 _ _ _ _ _ _ _ _ _ _)
   | (with_reducible exact ih1 _ _ _ _ _ _ _ _ _ _ _)
   | (with_reducible exact ih2 _ _ _ _ _ _ _ _ _ _ _ _ _ _ _ _ _ _)
   | (with_reducible exact edit_Of.mono _ _ _ _ _ _ _)
   | (with_reducible exact line_Bounds.mono _ _ _)
   | (with_reducible exact strip_Cat.mono _ _ _ _ _)
   | (with_reducible exact strip_Cut.mono _ _ _ _ _)
   | (with_reducible exact strip_Make.mono _ _ _)
   | (with_reducible exact strip_View.mono _ _ _ _)
   | (with_reducible exact subst_places.mono _ _ _ _ _ _ _ _ _ _ _)
   | (with_reducible exact LeO.refl _)
   | (with_reducible exact LeO.none _)
   | (with_reducible refine LeO.ite ?_ ?_)
   | (with_reducible refine LeO.bind ?_ (fun _ => ?_))
   | exact ih0 _ _ _ _ _ _ _ _ _ _
   | exact ih1 _ _ _ _ _ _ _ _ _ _ _
   | exact ih2 _ _ _ _ _ _ _ _ _ _ _ _ _ _ _ _ _ _
   | exact edit_Of.mono _ _ _ _ _ _ _
   | exact line_Bounds.mono _ _ _
   | exact strip_Cat.mono _ _ _ _ _
   | exact strip_Cut.mono _ _ _ _ _
   | exact strip_Make.mono _ _ _
   | exact strip_View.mono _ _ _ _
   | exact subst_places.mono _ _ _ _ _ _ _ _ _ _ _
   | exact LeO.none _
   | refine LeO.ite ?_ ?_
   | refine LeO.bind ?_ (fun _ => ?_)
theorem subst_Do.mono : ∀ a0 a1 a2 a3 a4 a5 a6 a7 k, LeO (subst_Do.f k a0 a1 a2 a3 a4 a5 a6 a7) (subst_Do.f (k + 1) a0 a1 a2 a3 a4 a5 a6 a7) := by
 intro a0 a1 a2 a3 a4 a5 a6 a7 k
 obtain ⟨ih0, ih1, ih2⟩ := subst_Do.mono_l k
 unfold subst_Do.f
 repeat' first
   | (with_reducible exact ih0 _ _ _ _ _ _ _ _ _ _)
   | (with_reducible exact ih1 _ _ _ _ _ _ _ _ _ _ _)
   | (with_reducible exact ih2 _ _ _ _ _ _ _ _ _ _ _ _ _ _ _ _ _ _)
   | (with_reducible exact edit_Of.mono _ _ _ _ _ _ _)
   | (with_reducible exact line_Bounds.mono _ _ _)
   | (with_reducible exact strip_Cat.mono _ _ _ _ _)
   | (with_reducible exact strip_Cut.mono _ _ _ _ _)
   | (with_reducible exact strip_Make.mono _ _ _)
   | (with_reducible exact strip_View.mono _ _ _ _)
   | (with_reducible exact subst_places.mono _ _ _ _ _ _ _ _ _ _ _)
   | (with_reducible exact LeO.refl _)
   | (with_reducible exact LeO.none _)
   | (with_reducible refine LeO.ite ?_ ?_)
   | (with_reducible refine LeO.bind ?_ (fun _ => ?_))
   | exact ih0 _ _ _ _ _ _ _ _ _ _
   | exact ih1 _ _ _ _ _ _ _ _ _ _ _
   | exact ih2 _ _ _ _ _ _ _ _ _ _ _ _ _ _ _ _ _ _
   | exact edit_Of.mono _ _ _ _ _ _ _
   | exact line_Bounds.mono _ _ _
   | exact strip_Cat.mono _ _ _ _ _
   | exact strip_Cut.mono _ _ _ _ _
   | exact strip_Make.mono _ _ _
   | exact strip_View.mono _ _ _ _
   | exact subst_places.mono _ _ _ _ _ _ _ _ _ _ _
   | exact LeO.none _
   | refine LeO.ite ?_ ?_
   | refine LeO.bind ?_ (fun _ => ?_)
def subst_Do.T2 : Bool × List (List Nat × List Nat) := (true, [([], []), ([0], [0]), ([1], [1]), ([2], [2]), ([3, 2], [2, 3]), ([4, 2], [2, 4]), ([2, 5], [2, 5]), ([6, 2], [6]), ([7], [7]), ([8, 7], [7, 8]), ([7], [7]), ([10, 7], [7, 10]), ([9, 11, 7], [7, 9, 11]), ([7, 12], [7, 12]), ([13, 7], [13]), ([14], [14]), ([15, 14], [14, 15]), ([14], [14]), ([17, 14, 14], [14, 17]), ([16, 18, 14], [14, 16, 18]), ([14, 19], [14, 19]), ([20, 18], [20]), ([21], [21]), ([22, 21], [21, 22]), ([23, 21], [21, 23]), ([21, 24], [21, 24]), ([25, 21], [25]), ([26], [26]), ([27, 26], [26, 27]), ([28, 26, 26], [26, 28]), ([26, 29], [26, 29]), ([30, 29], [30]), ([31], [31]), ([32, 31], [31, 32]), ([33, 31], [31, 33]), ([34, 31], [31, 34]), ([31, 35], [31, 35])])
def subst_Do.B2 : List Nat := [0, 1, 3, 7, 15, 31, 63, 127, 255, 511, 255, 1279, 4095, 8191, 16383, 32767, 65535, 32767, 163839, 524287, 1048575, 2097151, 4194303, 8388607, 16777215, 33554431, 67108863, 134217727, 268435455, 536870911, 1073741823, 2147483647, 4294967295, 8589934591, 17179869183, 34359738367, 68719476735]
theorem subst_Do.tab2 : rtab .any (opsOf Try.f10 2) = subst_Do.T2 := by kernel_rfl
theorem subst_Do.bits2 : waitsOk subst_Do.T2.2 subst_Do.B2 = true := by kernel_rfl
set_option maxHeartbeats 8000000 in
set_option maxRecDepth 100000 in
theorem subst_Do.calls (k : Nat) (a0_0 : ByteArray) (A0_1 : Option Addr) (c0_1 : Nat) (l0_1 : List (S51)) (a1 : Int) (a2_0 : Int) (a2_1 : Int) (a2_2 : ByteArray) (a2_3 : ByteArray) (a2_4 : Bool) (r1 : Int) (r2 : ByteArray) (r3 : List (S51)) (r4 : ByteArray) (r5 : List (S51)) (r6 : Int) (r7 : Int) (w : World) (hMX : MaxOk w) (hr0_1 : Kd.C k51 w A0_1 l0_1.length l0_1) (hc0_1 : l0_1.length ≤ c0_1) (h : subst_Do.f k a0_0 l0_1 a1 a2_0 a2_1 a2_2 a2_3 a2_4 = some (r1, r2, r3, r4, r5, r6, r7)) :
  Calls Try.prog 10 #[.agg #[.string a0_0, .slice A0_1 l0_1.length c0_1], .int .u64 a1, .agg #[.int .i64 a2_0, .int .i64 a2_1, .string a2_2, .string a2_3, .bool a2_4]] w fun e w' => ∃ v2_ v4_ : Value, e = .returned (.tuple #[.agg #[.int .i64 r1, .string r2, v2_, .string r4, v4_], .int .i64 r6, .int .i64 r7]) ∧ Kd.R k51 51 w' w.heap.size (fun k_ => some k_ ≠ (v4_ : Value).ownBlock) v2_ r3 ∧ Kd.R k51 51 w' w.heap.size (fun k_ => some k_ ≠ (v2_ : Value).ownBlock) v4_ r5 ∧ Below w.heap.size w w' := by
 have HMX := aM hMX
 clear hMX
 have hu24 := Try.underlying24
 have hu28 := Try.underlying28
 have hu32 := Try.underlying32
 have HR0_1 := aM hr0_1
 have HC0_1 := aM hc0_1
 clear hr0_1 hc0_1
 have HB := aM (Below.refl w.heap.size w)
 have H : ((strip_View.f k a0_0 l0_1 a1).bind fun bt189 => (if bt189.2 = 0 then (if a2_0 < 0 then (subst_Do.j0 k a1 bt189.1 true a0_0 l0_1 a2_0 a2_1 a2_2 a2_3 a2_4) else (if a2_1 < a2_0 then (subst_Do.j0 k a1 bt189.1 true a0_0 l0_1 a2_0 a2_1 a2_2 a2_3 a2_4) else ((line_Count.f bt189.1).bind fun t191 => (if a2_1 ≥ t191 then (subst_Do.j0 k a1 bt189.1 true a0_0 l0_1 a2_0 a2_1 a2_2 a2_3 a2_4) else (if a2_2.toList = ([] : List UInt8) then (subst_Do.j0 k a1 bt189.1 true a0_0 l0_1 a2_0 a2_1 a2_2 a2_3 a2_4) else ((strings_Contains.f a2_2 (⟨#[10]⟩ : ByteArray)).bind fun t192 => (if t192 = true then (subst_Do.j0 k a1 bt189.1 true a0_0 l0_1 a2_0 a2_1 a2_2 a2_3 a2_4) else (subst_Do.j0 k a1 bt189.1 (decide ((a2_3.size : Int) > 4096)) a0_0 l0_1 a2_0 a2_1 a2_2 a2_3 a2_4)))))))) else (subst_Do.j0 k a1 bt189.1 true a0_0 l0_1 a2_0 a2_1 a2_2 a2_3 a2_4))) = some (r1, r2, r3, r4, r5, r6, r7) := h
 clear h
 replace H := Option.bind_eq_some_iff.mp H
 obtain ⟨⟨t189, t190⟩, A40, H⟩ := H
 replace H : (if t190 = 0 then (if a2_0 < 0 then (subst_Do.j0 k a1 t189 true a0_0 l0_1 a2_0 a2_1 a2_2 a2_3 a2_4) else (if a2_1 < a2_0 then (subst_Do.j0 k a1 t189 true a0_0 l0_1 a2_0 a2_1 a2_2 a2_3 a2_4) else ((line_Count.f t189).bind fun t191 => (if a2_1 ≥ t191 then (subst_Do.j0 k a1 t189 true a0_0 l0_1 a2_0 a2_1 a2_2 a2_3 a2_4) else (if a2_2.toList = ([] : List UInt8) then (subst_Do.j0 k a1 t189 true a0_0 l0_1 a2_0 a2_1 a2_2 a2_3 a2_4) else ((strings_Contains.f a2_2 (⟨#[10]⟩ : ByteArray)).bind fun t192 => (if t192 = true then (subst_Do.j0 k a1 t189 true a0_0 l0_1 a2_0 a2_1 a2_2 a2_3 a2_4) else (subst_Do.j0 k a1 t189 (decide ((a2_3.size : Int) > 4096)) a0_0 l0_1 a2_0 a2_1 a2_2 a2_3 a2_4)))))))) else (subst_Do.j0 k a1 t189 true a0_0 l0_1 a2_0 a2_1 a2_2 a2_3 a2_4)) = some (r1, r2, r3, r4, r5, r6, r7) := H
 have A4 := aM A40
 clear A40
 have HC5 := aM H
 clear H
 go_enter Try.func10, Try.ntmps10
 go_upto_region 2 with (first | ((with_reducible refine gate_dst (N := 3) rfl ?_); (try (refine gate_guard (by rfl) ?_; dsimp only)); refine box_event ?hg (N := 3) ?hd (cs := #[.string a0_0, .slice A0_1 l0_1.length c0_1]) (t := 24) ?hr ?_; (case hd | hg => rfl); (case hr => first | (go_simp; done) | (go_simp; rfl)); intro gb186 hg w6 hbox hb; have n0_ := aM (bP (ey HB.out) hb); have n1_ := aM (hbox); have n2_ := aM ((by rw [hg]; exact (bZ (ey HB.out)) : w.heap.size ≤ gb186)); have n3_ := n2_; clear HB; have HB := n0_; have BK186 := n1_; have GW186 := n2_; have GE186 := n3_; clear n0_ n1_ n2_ n3_; clear hb hbox hg) | ((with_reducible refine gate_dst (N := 5) rfl ?_); (try (refine gate_guard (by rfl) ?_; dsimp only)); refine box_event ?hg (N := 5) ?hd (cs := #[.int .i64 a2_0, .int .i64 a2_1, .string a2_2, .string a2_3, .bool a2_4]) (t := 28) ?hr ?_; (case hd | hg => rfl); (case hr => first | (go_simp; done) | (go_simp; rfl)); intro gb187 hg w7 hbox hb; have n0_ := aM (bB (g := gb186) (qy BK186.out) hb); have n1_ := aM (bP (by repeat (first | (with_reducible first | exact HB.out | apply ea | apply en | apply ed | refine es ?_ GE186.out) | exact HB.out)) hb); have n2_ := aM (hbox); have n3_ := aM ((by rw [hg]; exact (bZ (by repeat (first | (with_reducible first | exact HB.out | apply ea | apply en | apply ed | refine es ?_ GE186.out) | exact HB.out))) : w.heap.size ≤ gb187)); have n4_ := n3_; have n5_ := aM ((by rw [hg]; exact Nat.ne_of_lt (blk_lt (g := gb186) (qy BK186.out)) : gb186 ≠ gb187)); have n6_ := aM ((by rw [hg]; exact Nat.ne_of_gt (blk_lt (g := gb186) (qy BK186.out)) : gb187 ≠ gb186)); clear BK186 HB; have BK186 := n0_; have HB := n1_; have BK187 := n2_; have GW187 := n3_; have GE187 := n4_; have NB186_187 := n5_; have NB187_186 := n6_; clear n0_ n1_ n2_ n3_ n4_ n5_ n6_; clear hb hbox hg) | ((with_reducible refine gate_dst (N := 6) rfl ?_); (try (refine gate_guard (by rfl) ?_; dsimp only)); refine box_event ?hg (N := 6) ?hd (cs := #[.int .i64 0, .string (⟨#[]⟩ : ByteArray), .slice none 0 0, .string (⟨#[]⟩ : ByteArray), .slice none 0 0]) (t := 32) ?hr ?_; (case hd | hg => rfl); (case hr => first | (go_simp; done) | (go_simp; rfl)); intro gb188 hg w8 hbox hb; have n0_ := aM (bB (g := gb186) (qy BK186.out) hb); have n1_ := aM (bB (g := gb187) (qy BK187.out) hb); have n2_ := aM (bP (by repeat (first | (with_reducible first | exact HB.out | apply ea | apply en | apply ed | refine es ?_ GE186.out | refine es ?_ GE187.out) | exact HB.out)) hb); have n3_ := aM (hbox); have n4_ := aM ((by rw [hg]; exact (bZ (by repeat (first | (with_reducible first | exact HB.out | apply ea | apply en | apply ed | refine es ?_ GE186.out | refine es ?_ GE187.out) | exact HB.out))) : w.heap.size ≤ gb188)); have n5_ := n4_; have n6_ := aM ((by rw [hg]; exact Nat.ne_of_lt (blk_lt (g := gb186) (qy BK186.out)) : gb186 ≠ gb188)); have n7_ := aM ((by rw [hg]; exact Nat.ne_of_gt (blk_lt (g := gb186) (qy BK186.out)) : gb188 ≠ gb186)); have n8_ := aM ((by rw [hg]; exact Nat.ne_of_lt (blk_lt (g := gb187) (qy BK187.out)) : gb187 ≠ gb188)); have n9_ := aM ((by rw [hg]; exact Nat.ne_of_gt (blk_lt (g := gb187) (qy BK187.out)) : gb188 ≠ gb187)); clear BK186 BK187 HB; have BK186 := n0_; have BK187 := n1_; have HB := n2_; have BK188 := n3_; have GW188 := n4_; have GE188 := n5_; have NB186_188 := n6_; have NB188_186 := n7_; have NB187_188 := n8_; have NB188_187 := n9_; clear n0_ n1_ n2_ n3_ n4_ n5_ n6_ n7_ n8_ n9_; clear hb hbox hg; have hnb9 := NB186_187.out; have hnc9 := NB187_186.out; have hnb10 := NB186_188.out; have hnc10 := NB188_186.out; have hcz11_0 : w8.cell? ⟨gb186, 0, none⟩ = some (.string a0_0) := (bC BK186.out 0).trans rfl; have hcz11_1 : w8.cell? ⟨gb186, 1, none⟩ = some (.slice A0_1 l0_1.length c0_1) := (bC BK186.out 1).trans rfl; have hfz11_0 := bF BK186.out 0; have hfz11_1 := bF BK186.out 1) | ((with_reducible refine gate_callee (f := 19) rfl ?_); refine goesL_ (some 35) rfl rfl Try.func19 (by kernel_rfl) rfl #[.agg #[.string a0_0, .slice A0_1 l0_1.length c0_1], .int .u64 a1] rfl (by (try simp only [mT, mC, mN]); first | done | rfl | (simp only [lD, lT]; rfl)) ?_; (with_reducible refine (strip_View.calls k a0_0 _ _ l0_1 a1 t189 t190 _ ?side1 ?side2 A4.out).mono ?_); (case side1 => repeat (first | exact (cB_ HR0_1.out HB.out) | (with_reducible refine Kd.C_alloc ?_ _) | (with_reducible refine Kd.C_drewN ?_ _) | (with_reducible refine Kd.C_drew ?_))); (case side2 => exact HC0_1.out); rintro e w12 ⟨rfl, hb⟩; refine ⟨_, rfl, ?_⟩; have n0_ := aM (bB (g := gb186) (qy BK186.out) hb); have n1_ := aM (bB (g := gb187) (qy BK187.out) hb); have n2_ := aM (bB (g := gb188) (qy BK188.out) hb); have n3_ := aM (bP (by repeat (first | (with_reducible first | exact HB.out | apply ea | apply en | apply ed | refine es ?_ GE186.out | refine es ?_ GE187.out | refine es ?_ GE188.out) | exact HB.out)) hb); clear BK186 BK187 BK188 HB; have BK186 := n0_; have BK187 := n1_; have BK188 := n2_; have HB := n3_; clear n0_ n1_ n2_ n3_; (try clear hb); (try clear hb2); (try clear hk); (try clear hi)))
 (try simp only [Act.put, sA, sZ, sS])
 go_cut [74] (fun v74 wc => ∃ (kq : Nat) (x74_4 : Bool), v74 = .bool x74_4 ∧ Aside0 (subst_Do.j0 kq a1 t189 x74_4 a0_0 l0_1 a2_0 a2_1 a2_2 a2_3 a2_4 = some (r1, r2, r3, r4, r5, r6, r7)) ∧ Aside0 (kq ≤ k) ∧ Aside0 (wc.heap[gb186]? = some (.cells #[.string a0_0, (.slice A0_1 l0_1.length c0_1)] 24 (0, 0))) ∧ Aside0 (wc.heap[gb187]? = some (.cells #[.int .i64 a2_0, .int .i64 a2_1, .string a2_2, .string a2_3, .bool a2_4] 28 (0, 0))) ∧ Aside0 (wc.heap[gb188]? = some (.cells #[.int .i64 0, .string (⟨#[]⟩ : ByteArray), (.slice none 0 0), .string (⟨#[]⟩ : ByteArray), (.slice none 0 0)] 32 (0, 0))) ∧ Aside0 (Below w.heap.size w wc))
 case first =>
  have H := HC5.out
  clear HC5
  by_cases c13 : t190 = 0
  ·rw [if_pos c13] at H
   have c13b0 : (t190 == 0) = true := beq_iff_eq.mpr c13
   have c13b1 : (t190 != 0) = false := bne_eq_false_iff_eq.mpr c13
   clear c13
   (first | rw [c13b0] | (simp only [i64_w, i32_w]; rw [c13b0]) | skip)
   by_cases c14 : a2_0 < 0
   ·rw [if_pos c14] at H
    have c14b0 : decide (a2_0 < 0) = true := decide_eq_true c14
    clear c14
    have H' := aM H
    clear H
    try go_wp2
    have n0_ := aM (blk_drew BK186.out)
    have n1_ := aM (blk_drew BK187.out)
    have n2_ := aM (blk_drew BK188.out)
    have n3_ := aM (below_drew1 HB.out)
    clear BK186
    clear BK187
    clear BK188
    clear HB
    have BK186 := n0_
    have BK187 := n1_
    have BK188 := n2_
    have HB := n3_
    clear n0_ n1_ n2_ n3_
    refine start_ (n := 37) (S := fun w' => w'.cell? ⟨gb187, 0, none⟩ = some (.int .i64 a2_0) ∧ w'.cell? ⟨gb187, 1, none⟩ = some (.int .i64 a2_1) ∧ w'.cell? ⟨gb187, 2, none⟩ = some (.string a2_2) ∧ w'.cell? ⟨gb187, 3, none⟩ = some (.string a2_3) ∧ w'.cell? ⟨gb187, 4, none⟩ = some (.bool a2_4)) (ds := []) b79_ (by kernel_rfl) rfl rfl ⟨(bC BK187.out 0).trans rfl, (bC BK187.out 1).trans rfl, (bC BK187.out 2).trans rfl, (bC BK187.out 3).trans rfl, (bC BK187.out 4).trans rfl⟩ (fun hHeld => ?_); refine with_tabW subst_Do.tab2 subst_Do.bits2 (fun HT_ HW_ => ?_)
    generalize w12.drew = w15 at BK186 BK187 BK188 HB hHeld ⊢
    refine pure_ (i := 0) (N := some 38) (v := ?_) (a' := ?_) b80_ rfl rfl (any_of HT_.out (by kernel_rfl)) (fun _ _ _ h => h) (Or.inl ⟨by rfl, ?_⟩) ?_ ?_
    rotate_left
    ·intro w'
     go_simp
     with_reducible rfl
    rotate_left
    ·simp only [Act.put, sA, sZ, sS, i64_w, i32_w]
     rfl
    refine pure_ (i := 1) (N := some 39) (v := ?_) (a' := ?_) b81_ rfl rfl (any_of HT_.out (by kernel_rfl)) (fun _ _ _ h => h) (Or.inl ⟨by rfl, ?_⟩) ?_ ?_
    rotate_left
    ·intro w'
     go_simp
     with_reducible rfl
    rotate_left
    ·simp only [Act.put, sA, sZ, sS, i64_w, i32_w]
     rfl
    refine pure_ (i := 2) (N := some 40) (v := ?_) (a' := ?_) b82_ rfl rfl (any_of HT_.out (by kernel_rfl)) (fun _ _ _ h => h) (Or.inl ⟨by rfl, ?_⟩) ?_ ?_
    rotate_left
    ·intro w'
     go_simp
     with_reducible rfl
    rotate_left
    ·simp only [Act.put, sA, sZ, sS, i64_w, i32_w]
     rfl
    refine pure_ (i := 3) (N := some 41) (v := ?_) (a' := ?_) b83_ rfl rfl (any_of HT_.out (by kernel_rfl)) (fun _ _ _ h => h) (Or.inl ⟨by rfl, ?_⟩) ?_ ?_
    rotate_left
    ·intro w'
     go_simp
     with_reducible rfl
    rotate_left
    ·simp only [Act.put, sA, sZ, sS, i64_w, i32_w]
     rfl
    refine take_ (i := 4) (N := some 42) (v := ?_) (a' := ?_) b84_ rfl rfl (take_ofW HT_.out HW_.out (by kernel_rfl)) (fun _ _ _ h => h) (Or.inl ⟨by rfl, ?_⟩) hHeld ?_ ?_
    rotate_left
    ·rintro w' ⟨s0, s1, s2, s3, s4⟩
     go_simp
     with_reducible rfl
    rotate_left
    ·simp only [Act.put, sA, sZ, sS, i64_w, i32_w]
     rfl
    refine pure_ (i := 5) (N := some 43) (v := ?_) (a' := ?_) b85_ rfl rfl (any_of HT_.out (by kernel_rfl)) (fun _ _ _ h => h) (Or.inl ⟨by rfl, ?_⟩) ?_ ?_
    rotate_left
    ·intro w'
     go_simp
     with_reducible rfl
    rotate_left
    ·simp only [Act.put, sA, sZ, sS, i64_w, i32_w]
     rfl
    refine pure_ (i := 6) (N := some 44) (v := ?_) (a' := ?_) b86_ rfl rfl (any_of HT_.out (by kernel_rfl)) (fun _ _ _ h => h) (Or.inl ⟨by rfl, ?_⟩) ?_ ?_
    rotate_left
    ·intro w'
     go_simp
     with_reducible rfl
    rotate_left
    ·simp only [Act.put, sA, sZ, sS, i64_w, i32_w]
     rfl
    refine pure_ (i := 7) (N := some 45) (v := ?_) (a' := ?_) b87_ rfl rfl (any_of HT_.out (by kernel_rfl)) (fun _ _ _ h => h) (Or.inl ⟨by rfl, ?_⟩) ?_ ?_
    rotate_left
    ·intro w'
     go_simp
     with_reducible rfl
    rotate_left
    ·simp only [Act.put, sA, sZ, sS, i64_w, i32_w]
     rfl
    refine pure_ (i := 8) (N := some 46) (v := undef) (a' := ?_) b88_ rfl rfl (any_of HT_.out (by kernel_rfl)) (fun _ _ _ h => h) (Or.inr ⟨by rfl, rfl⟩) ?_ ?_
    rotate_left
    ·simp only [Act.put, sA, sZ, sS, i64_w, i32_w]
     rfl
    refine pure_ (i := 9) (N := some 47) (v := undef) (a' := ?_) b89_ rfl rfl (any_of HT_.out (by kernel_rfl)) (fun _ _ _ h => h) (Or.inr ⟨by rfl, rfl⟩) ?_ ?_
    rotate_left
    ·simp only [Act.put, sA, sZ, sS, i64_w, i32_w]
     rfl
    refine pure_ (i := 10) (N := some 48) (v := undef) (a' := ?_) b90_ rfl rfl (any_of HT_.out (by kernel_rfl)) (fun _ _ _ h => h) (Or.inr ⟨by rfl, rfl⟩) ?_ ?_
    rotate_left
    ·simp only [Act.put, sA, sZ, sS, i64_w, i32_w]
     rfl
    refine pure_ (i := 11) (N := some 49) (v := undef) (a' := ?_) b91_ rfl rfl (any_of HT_.out (by kernel_rfl)) (fun _ _ _ h => h) (Or.inr ⟨by rfl, rfl⟩) ?_ ?_
    rotate_left
    ·simp only [Act.put, sA, sZ, sS, i64_w, i32_w]
     rfl
    refine pure_ (i := 12) (N := some 50) (v := undef) (a' := ?_) b92_ rfl rfl (any_of HT_.out (by kernel_rfl)) (fun _ _ _ h => h) (Or.inr ⟨by rfl, rfl⟩) ?_ ?_
    rotate_left
    ·simp only [Act.put, sA, sZ, sS, i64_w, i32_w]
     rfl
    refine pure_ (i := 13) (N := some 51) (v := ?_) (a' := ?_) b93_ rfl rfl (any_of HT_.out (by kernel_rfl)) (fun _ _ _ h => h) (Or.inl ⟨by rfl, ?_⟩) ?_ ?_
    rotate_left
    ·intro w'
     go_simp
     with_reducible rfl
    rotate_left
    ·simp only [Act.put, sA, sZ, sS, i64_w, i32_w]
     rfl
    refine pure_ (i := 14) (N := some 52) (v := ?_) (a' := ?_) b94_ rfl rfl (any_of HT_.out (by kernel_rfl)) (fun _ _ _ h => h) (Or.inl ⟨by rfl, ?_⟩) ?_ ?_
    rotate_left
    ·intro w'
     go_simp
     with_reducible rfl
    rotate_left
    ·simp only [Act.put, sA, sZ, sS, i64_w, i32_w]
     rfl
    refine pure_ (i := 15) (N := some 53) (v := undef) (a' := ?_) b95_ rfl rfl (any_of HT_.out (by kernel_rfl)) (fun _ _ _ h => h) (Or.inr ⟨by rfl, rfl⟩) ?_ ?_
    rotate_left
    ·simp only [Act.put, sA, sZ, sS, i64_w, i32_w]
     rfl
    refine pure_ (i := 16) (N := some 54) (v := undef) (a' := ?_) b96_ rfl rfl (any_of HT_.out (by kernel_rfl)) (fun _ _ _ h => h) (Or.inr ⟨by rfl, rfl⟩) ?_ ?_
    rotate_left
    ·simp only [Act.put, sA, sZ, sS, i64_w, i32_w]
     rfl
    refine pure_ (i := 17) (N := some 55) (v := undef) (a' := ?_) b97_ rfl rfl (any_of HT_.out (by kernel_rfl)) (fun _ _ _ h => h) (Or.inr ⟨by rfl, rfl⟩) ?_ ?_
    rotate_left
    ·simp only [Act.put, sA, sZ, sS, i64_w, i32_w]
     rfl
    refine pure_ (i := 18) (N := some 56) (v := undef) (a' := ?_) b98_ rfl rfl (any_of HT_.out (by kernel_rfl)) (fun _ _ _ h => h) (Or.inr ⟨by rfl, rfl⟩) ?_ ?_
    rotate_left
    ·simp only [Act.put, sA, sZ, sS, i64_w, i32_w]
     rfl
    refine pure_ (i := 19) (N := some 57) (v := undef) (a' := ?_) b99_ rfl rfl (any_of HT_.out (by kernel_rfl)) (fun _ _ _ h => h) (Or.inr ⟨by rfl, rfl⟩) ?_ ?_
    rotate_left
    ·simp only [Act.put, sA, sZ, sS, i64_w, i32_w]
     rfl
    refine pure_ (i := 20) (N := some 58) (v := ?_) (a' := ?_) b100_ rfl rfl (any_of HT_.out (by kernel_rfl)) (fun _ _ _ h => h) (Or.inl ⟨by rfl, ?_⟩) ?_ ?_
    rotate_left
    ·intro w'
     go_simp
     with_reducible rfl
    rotate_left
    ·simp only [Act.put, sA, sZ, sS, i64_w, i32_w]
     rfl
    refine pure_ (i := 21) (N := some 59) (v := ?_) (a' := ?_) b101_ rfl rfl (any_of HT_.out (by kernel_rfl)) (fun _ _ _ h => h) (Or.inl ⟨by rfl, ?_⟩) ?_ ?_
    rotate_left
    ·intro w'
     go_simp
     with_reducible rfl
    rotate_left
    ·simp only [Act.put, sA, sZ, sS, i64_w, i32_w]
     rfl
    refine pure_ (i := 22) (N := some 60) (v := undef) (a' := ?_) b102_ rfl rfl (any_of HT_.out (by kernel_rfl)) (fun _ _ _ h => h) (Or.inr ⟨by rfl, rfl⟩) ?_ ?_
    rotate_left
    ·simp only [Act.put, sA, sZ, sS, i64_w, i32_w]
     rfl
    refine pure_ (i := 23) (N := some 61) (v := undef) (a' := ?_) b103_ rfl rfl (any_of HT_.out (by kernel_rfl)) (fun _ _ _ h => h) (Or.inr ⟨by rfl, rfl⟩) ?_ ?_
    rotate_left
    ·simp only [Act.put, sA, sZ, sS, i64_w, i32_w]
     rfl
    refine pure_ (i := 24) (N := some 62) (v := undef) (a' := ?_) b104_ rfl rfl (any_of HT_.out (by kernel_rfl)) (fun _ _ _ h => h) (Or.inr ⟨by rfl, rfl⟩) ?_ ?_
    rotate_left
    ·simp only [Act.put, sA, sZ, sS, i64_w, i32_w]
     rfl
    refine pure_ (i := 25) (N := some 63) (v := ?_) (a' := ?_) b105_ rfl rfl (any_of HT_.out (by kernel_rfl)) (fun _ _ _ h => h) (Or.inl ⟨by rfl, ?_⟩) ?_ ?_
    rotate_left
    ·intro w'
     go_simp
     with_reducible rfl
    rotate_left
    ·simp only [Act.put, sA, sZ, sS, i64_w, i32_w]
     rfl
    refine pure_ (i := 26) (N := some 64) (v := ?_) (a' := ?_) b106_ rfl rfl (any_of HT_.out (by kernel_rfl)) (fun _ _ _ h => h) (Or.inl ⟨by rfl, ?_⟩) ?_ ?_
    rotate_left
    ·intro w'
     go_simp
     with_reducible rfl
    rotate_left
    ·simp only [Act.put, sA, sZ, sS, i64_w, i32_w]
     rfl
    refine pure_ (i := 27) (N := some 65) (v := undef) (a' := ?_) b107_ rfl rfl (any_of HT_.out (by kernel_rfl)) (fun _ _ _ h => h) (Or.inr ⟨by rfl, rfl⟩) ?_ ?_
    rotate_left
    ·simp only [Act.put, sA, sZ, sS, i64_w, i32_w]
     rfl
    refine pure_ (i := 28) (N := some 66) (v := undef) (a' := ?_) b108_ rfl rfl (any_of HT_.out (by kernel_rfl)) (fun _ _ _ h => h) (Or.inr ⟨by rfl, rfl⟩) ?_ ?_
    rotate_left
    ·simp only [Act.put, sA, sZ, sS, i64_w, i32_w]
     rfl
    refine pure_ (i := 29) (N := some 67) (v := undef) (a' := ?_) b109_ rfl rfl (any_of HT_.out (by kernel_rfl)) (fun _ _ _ h => h) (Or.inr ⟨by rfl, rfl⟩) ?_ ?_
    rotate_left
    ·simp only [Act.put, sA, sZ, sS, i64_w, i32_w]
     rfl
    refine pure_ (i := 30) (N := some 68) (v := ?_) (a' := ?_) b110_ rfl rfl (any_of HT_.out (by kernel_rfl)) (fun _ _ _ h => h) (Or.inl ⟨by rfl, ?_⟩) ?_ ?_
    rotate_left
    ·intro w'
     go_simp
     with_reducible rfl
    rotate_left
    ·simp only [Act.put, sA, sZ, sS, i64_w, i32_w]
     rfl
    refine pure_ (i := 31) (N := some 69) (v := ?_) (a' := ?_) b111_ rfl rfl (any_of HT_.out (by kernel_rfl)) (fun _ _ _ h => h) (Or.inl ⟨by rfl, ?_⟩) ?_ ?_
    rotate_left
    ·intro w'
     go_simp
     with_reducible rfl
    rotate_left
    ·simp only [Act.put, sA, sZ, sS, i64_w, i32_w]
     rfl
    refine pure_ (i := 32) (N := some 70) (v := undef) (a' := ?_) b112_ rfl rfl (any_of HT_.out (by kernel_rfl)) (fun _ _ _ h => h) (Or.inr ⟨by rfl, rfl⟩) ?_ ?_
    rotate_left
    ·simp only [Act.put, sA, sZ, sS, i64_w, i32_w]
     rfl
    refine pure_ (i := 33) (N := some 71) (v := undef) (a' := ?_) b113_ rfl rfl (any_of HT_.out (by kernel_rfl)) (fun _ _ _ h => h) (Or.inr ⟨by rfl, rfl⟩) ?_ ?_
    rotate_left
    ·simp only [Act.put, sA, sZ, sS, i64_w, i32_w]
     rfl
    refine pure_ (i := 34) (N := some 72) (v := undef) (a' := ?_) b114_ rfl rfl (any_of HT_.out (by kernel_rfl)) (fun _ _ _ h => h) (Or.inr ⟨by rfl, rfl⟩) ?_ ?_
    rotate_left
    ·simp only [Act.put, sA, sZ, sS, i64_w, i32_w]
     rfl
    refine pure_ (i := 35) (N := some 73) (v := undef) (a' := ?_) b115_ rfl rfl (any_of HT_.out (by kernel_rfl)) (fun _ _ _ h => h) (Or.inr ⟨by rfl, rfl⟩) ?_ ?_
    rotate_left
    ·simp only [Act.put, sA, sZ, sS, i64_w, i32_w]
     rfl
    refine pure_ (i := 36) (N := some 74) (v := ?_) (a' := ?_) b116_ rfl rfl (any_of HT_.out (by kernel_rfl)) (fun _ _ _ h => h) (Or.inl ⟨by rfl, ?_⟩) ?_ ?_
    rotate_left
    ·intro w'
     go_simp
     with_reducible rfl
    rotate_left
    ·simp only [Act.put, sA, sZ, sS, i64_w, i32_w]
     rfl
    refine done_ (done_of HT_.out (by kernel_rfl)) ?_
    try go_wp2
    go_meet
    case rel => exact ⟨_, (true), (by first | rfl | (simp; done) | (simp [*]; done)), H', ⟨by first | omega | exact Nat.le_refl _⟩, ⟨by exact qy BK186.out⟩, ⟨by exact qy BK187.out⟩, ⟨by exact qy BK188.out⟩, ⟨by repeat (first | (with_reducible first | exact HB.out | apply ea | apply en | apply ed | refine es ?_ GE186.out | refine es ?_ GE187.out | refine es ?_ GE188.out) | exact HB.out)⟩⟩
   ·rw [if_neg c14] at H
    have c14b0 : decide (a2_0 < 0) = false := decide_eq_false c14
    clear c14
    by_cases c16 : a2_1 < a2_0
    ·rw [if_pos c16] at H
     have c16b0 : decide (a2_1 < a2_0) = true := decide_eq_true c16
     clear c16
     have H' := aM H
     clear H
     try go_wp2
     have n0_ := aM (blk_drew BK186.out)
     have n1_ := aM (blk_drew BK187.out)
     have n2_ := aM (blk_drew BK188.out)
     have n3_ := aM (below_drew1 HB.out)
     clear BK186
     clear BK187
     clear BK188
     clear HB
     have BK186 := n0_
     have BK187 := n1_
     have BK188 := n2_
     have HB := n3_
     clear n0_ n1_ n2_ n3_
     refine start_ (n := 37) (S := fun w' => w'.cell? ⟨gb187, 0, none⟩ = some (.int .i64 a2_0) ∧ w'.cell? ⟨gb187, 1, none⟩ = some (.int .i64 a2_1) ∧ w'.cell? ⟨gb187, 2, none⟩ = some (.string a2_2) ∧ w'.cell? ⟨gb187, 3, none⟩ = some (.string a2_3) ∧ w'.cell? ⟨gb187, 4, none⟩ = some (.bool a2_4)) (ds := []) b79_ (by kernel_rfl) rfl rfl ⟨(bC BK187.out 0).trans rfl, (bC BK187.out 1).trans rfl, (bC BK187.out 2).trans rfl, (bC BK187.out 3).trans rfl, (bC BK187.out 4).trans rfl⟩ (fun hHeld => ?_); refine with_tabW subst_Do.tab2 subst_Do.bits2 (fun HT_ HW_ => ?_)
     generalize w12.drew = w17 at BK186 BK187 BK188 HB hHeld ⊢
     refine pure_ (i := 0) (N := some 38) (v := ?_) (a' := ?_) b80_ rfl rfl (any_of HT_.out (by kernel_rfl)) (fun _ _ _ h => h) (Or.inl ⟨by rfl, ?_⟩) ?_ ?_
     rotate_left
     ·intro w'
      go_simp
      with_reducible rfl
     rotate_left
     ·simp only [Act.put, sA, sZ, sS, i64_w, i32_w]
      rfl
     refine pure_ (i := 1) (N := some 39) (v := ?_) (a' := ?_) b81_ rfl rfl (any_of HT_.out (by kernel_rfl)) (fun _ _ _ h => h) (Or.inl ⟨by rfl, ?_⟩) ?_ ?_
     rotate_left
     ·intro w'
      go_simp
      with_reducible rfl
     rotate_left
     ·simp only [Act.put, sA, sZ, sS, i64_w, i32_w]
      rfl
     refine pure_ (i := 2) (N := some 40) (v := ?_) (a' := ?_) b82_ rfl rfl (any_of HT_.out (by kernel_rfl)) (fun _ _ _ h => h) (Or.inl ⟨by rfl, ?_⟩) ?_ ?_
     rotate_left
     ·intro w'
      go_simp
      with_reducible rfl
     rotate_left
     ·simp only [Act.put, sA, sZ, sS, i64_w, i32_w]
      rfl
     refine pure_ (i := 3) (N := some 41) (v := ?_) (a' := ?_) b83_ rfl rfl (any_of HT_.out (by kernel_rfl)) (fun _ _ _ h => h) (Or.inl ⟨by rfl, ?_⟩) ?_ ?_
     rotate_left
     ·intro w'
      go_simp
      with_reducible rfl
     rotate_left
     ·simp only [Act.put, sA, sZ, sS, i64_w, i32_w]
      rfl
     refine take_ (i := 4) (N := some 42) (v := ?_) (a' := ?_) b84_ rfl rfl (take_ofW HT_.out HW_.out (by kernel_rfl)) (fun _ _ _ h => h) (Or.inl ⟨by rfl, ?_⟩) hHeld ?_ ?_
     rotate_left
     ·rintro w' ⟨s0, s1, s2, s3, s4⟩
      go_simp
      with_reducible rfl
     rotate_left
     ·simp only [Act.put, sA, sZ, sS, i64_w, i32_w]
      rfl
     refine pure_ (i := 5) (N := some 43) (v := ?_) (a' := ?_) b85_ rfl rfl (any_of HT_.out (by kernel_rfl)) (fun _ _ _ h => h) (Or.inl ⟨by rfl, ?_⟩) ?_ ?_
     rotate_left
     ·intro w'
      go_simp
      with_reducible rfl
     rotate_left
     ·simp only [Act.put, sA, sZ, sS, i64_w, i32_w]
      rfl
     refine pure_ (i := 6) (N := some 44) (v := ?_) (a' := ?_) b86_ rfl rfl (any_of HT_.out (by kernel_rfl)) (fun _ _ _ h => h) (Or.inl ⟨by rfl, ?_⟩) ?_ ?_
     rotate_left
     ·intro w'
      go_simp
      with_reducible rfl
     rotate_left
     ·simp only [Act.put, sA, sZ, sS, i64_w, i32_w]
      rfl
     refine pure_ (i := 7) (N := some 45) (v := ?_) (a' := ?_) b87_ rfl rfl (any_of HT_.out (by kernel_rfl)) (fun _ _ _ h => h) (Or.inl ⟨by rfl, ?_⟩) ?_ ?_
     rotate_left
     ·intro w'
      go_simp
      with_reducible rfl
     rotate_left
     ·simp only [Act.put, sA, sZ, sS, i64_w, i32_w]
      rfl
     refine pure_ (i := 8) (N := some 46) (v := ?_) (a' := ?_) b88_ rfl rfl (any_of HT_.out (by kernel_rfl)) (fun _ _ _ h => h) (Or.inl ⟨by rfl, ?_⟩) ?_ ?_
     rotate_left
     ·intro w'
      go_simp
      with_reducible rfl
     rotate_left
     ·simp only [Act.put, sA, sZ, sS, i64_w, i32_w]
      rfl
     refine pure_ (i := 10) (N := some 48) (v := ?_) (a' := ?_) b117_ rfl rfl (any_of HT_.out (by kernel_rfl)) (fun _ _ _ h => h) (Or.inl ⟨by rfl, ?_⟩) ?_ ?_
     rotate_left
     ·intro w'
      go_simp
      with_reducible rfl
     rotate_left
     ·simp only [Act.put, sA, sZ, sS, i64_w, i32_w]
      rfl
     refine take_ (i := 9) (N := some 47) (v := ?_) (a' := ?_) b90_ rfl rfl (take_ofW HT_.out HW_.out (by kernel_rfl)) (fun _ _ _ h => h) (Or.inl ⟨by rfl, ?_⟩) hHeld ?_ ?_
     rotate_left
     ·rintro w' ⟨s0, s1, s2, s3, s4⟩
      go_simp
      with_reducible rfl
     rotate_left
     ·simp only [Act.put, sA, sZ, sS, i64_w, i32_w]
      rfl
     refine take_ (i := 11) (N := some 49) (v := ?_) (a' := ?_) b91_ rfl rfl (take_ofW HT_.out HW_.out (by kernel_rfl)) (fun _ _ _ h => h) (Or.inl ⟨by rfl, ?_⟩) hHeld ?_ ?_
     rotate_left
     ·rintro w' ⟨s0, s1, s2, s3, s4⟩
      go_simp
      with_reducible rfl
     rotate_left
     ·simp only [Act.put, sA, sZ, sS, i64_w, i32_w]
      rfl
     refine pure_ (i := 12) (N := some 50) (v := ?_) (a' := ?_) b92_ rfl rfl (any_of HT_.out (by kernel_rfl)) (fun _ _ _ h => h) (Or.inl ⟨by rfl, ?_⟩) ?_ ?_
     rotate_left
     ·intro w'
      go_simp
      with_reducible rfl
     rotate_left
     ·simp only [Act.put, sA, sZ, sS, i64_w, i32_w]
      rfl
     refine pure_ (i := 13) (N := some 51) (v := ?_) (a' := ?_) b93_ rfl rfl (any_of HT_.out (by kernel_rfl)) (fun _ _ _ h => h) (Or.inl ⟨by rfl, ?_⟩) ?_ ?_
     rotate_left
     ·intro w'
      go_simp
      with_reducible rfl
     rotate_left
     ·simp only [Act.put, sA, sZ, sS, i64_w, i32_w]
      rfl
     refine pure_ (i := 14) (N := some 52) (v := ?_) (a' := ?_) b94_ rfl rfl (any_of HT_.out (by kernel_rfl)) (fun _ _ _ h => h) (Or.inl ⟨by rfl, ?_⟩) ?_ ?_
     rotate_left
     ·intro w'
      go_simp
      with_reducible rfl
     rotate_left
     ·simp only [Act.put, sA, sZ, sS, i64_w, i32_w]
      rfl
     refine pure_ (i := 15) (N := some 53) (v := undef) (a' := ?_) b95_ rfl rfl (any_of HT_.out (by kernel_rfl)) (fun _ _ _ h => h) (Or.inr ⟨by rfl, rfl⟩) ?_ ?_
     rotate_left
     ·simp only [Act.put, sA, sZ, sS, i64_w, i32_w]
      rfl
     refine pure_ (i := 16) (N := some 54) (v := undef) (a' := ?_) b96_ rfl rfl (any_of HT_.out (by kernel_rfl)) (fun _ _ _ h => h) (Or.inr ⟨by rfl, rfl⟩) ?_ ?_
     rotate_left
     ·simp only [Act.put, sA, sZ, sS, i64_w, i32_w]
      rfl
     refine pure_ (i := 17) (N := some 55) (v := undef) (a' := ?_) b97_ rfl rfl (any_of HT_.out (by kernel_rfl)) (fun _ _ _ h => h) (Or.inr ⟨by rfl, rfl⟩) ?_ ?_
     rotate_left
     ·simp only [Act.put, sA, sZ, sS, i64_w, i32_w]
      rfl
     refine pure_ (i := 18) (N := some 56) (v := undef) (a' := ?_) b98_ rfl rfl (any_of HT_.out (by kernel_rfl)) (fun _ _ _ h => h) (Or.inr ⟨by rfl, rfl⟩) ?_ ?_
     rotate_left
     ·simp only [Act.put, sA, sZ, sS, i64_w, i32_w]
      rfl
     refine pure_ (i := 19) (N := some 57) (v := undef) (a' := ?_) b99_ rfl rfl (any_of HT_.out (by kernel_rfl)) (fun _ _ _ h => h) (Or.inr ⟨by rfl, rfl⟩) ?_ ?_
     rotate_left
     ·simp only [Act.put, sA, sZ, sS, i64_w, i32_w]
      rfl
     refine pure_ (i := 20) (N := some 58) (v := ?_) (a' := ?_) b100_ rfl rfl (any_of HT_.out (by kernel_rfl)) (fun _ _ _ h => h) (Or.inl ⟨by rfl, ?_⟩) ?_ ?_
     rotate_left
     ·intro w'
      go_simp
      with_reducible rfl
     rotate_left
     ·simp only [Act.put, sA, sZ, sS, i64_w, i32_w]
      rfl
     refine pure_ (i := 21) (N := some 59) (v := ?_) (a' := ?_) b101_ rfl rfl (any_of HT_.out (by kernel_rfl)) (fun _ _ _ h => h) (Or.inl ⟨by rfl, ?_⟩) ?_ ?_
     rotate_left
     ·intro w'
      go_simp
      with_reducible rfl
     rotate_left
     ·simp only [Act.put, sA, sZ, sS, i64_w, i32_w]
      rfl
     refine pure_ (i := 22) (N := some 60) (v := undef) (a' := ?_) b102_ rfl rfl (any_of HT_.out (by kernel_rfl)) (fun _ _ _ h => h) (Or.inr ⟨by rfl, rfl⟩) ?_ ?_
     rotate_left
     ·simp only [Act.put, sA, sZ, sS, i64_w, i32_w]
      rfl
     refine pure_ (i := 23) (N := some 61) (v := undef) (a' := ?_) b103_ rfl rfl (any_of HT_.out (by kernel_rfl)) (fun _ _ _ h => h) (Or.inr ⟨by rfl, rfl⟩) ?_ ?_
     rotate_left
     ·simp only [Act.put, sA, sZ, sS, i64_w, i32_w]
      rfl
     refine pure_ (i := 24) (N := some 62) (v := undef) (a' := ?_) b104_ rfl rfl (any_of HT_.out (by kernel_rfl)) (fun _ _ _ h => h) (Or.inr ⟨by rfl, rfl⟩) ?_ ?_
     rotate_left
     ·simp only [Act.put, sA, sZ, sS, i64_w, i32_w]
      rfl
     refine pure_ (i := 25) (N := some 63) (v := ?_) (a' := ?_) b105_ rfl rfl (any_of HT_.out (by kernel_rfl)) (fun _ _ _ h => h) (Or.inl ⟨by rfl, ?_⟩) ?_ ?_
     rotate_left
     ·intro w'
      go_simp
      with_reducible rfl
     rotate_left
     ·simp only [Act.put, sA, sZ, sS, i64_w, i32_w]
      rfl
     refine pure_ (i := 26) (N := some 64) (v := ?_) (a' := ?_) b106_ rfl rfl (any_of HT_.out (by kernel_rfl)) (fun _ _ _ h => h) (Or.inl ⟨by rfl, ?_⟩) ?_ ?_
     rotate_left
     ·intro w'
      go_simp
      with_reducible rfl
     rotate_left
     ·simp only [Act.put, sA, sZ, sS, i64_w, i32_w]
      rfl
     refine pure_ (i := 27) (N := some 65) (v := undef) (a' := ?_) b107_ rfl rfl (any_of HT_.out (by kernel_rfl)) (fun _ _ _ h => h) (Or.inr ⟨by rfl, rfl⟩) ?_ ?_
     rotate_left
     ·simp only [Act.put, sA, sZ, sS, i64_w, i32_w]
      rfl
     refine pure_ (i := 28) (N := some 66) (v := undef) (a' := ?_) b108_ rfl rfl (any_of HT_.out (by kernel_rfl)) (fun _ _ _ h => h) (Or.inr ⟨by rfl, rfl⟩) ?_ ?_
     rotate_left
     ·simp only [Act.put, sA, sZ, sS, i64_w, i32_w]
      rfl
     refine pure_ (i := 29) (N := some 67) (v := undef) (a' := ?_) b109_ rfl rfl (any_of HT_.out (by kernel_rfl)) (fun _ _ _ h => h) (Or.inr ⟨by rfl, rfl⟩) ?_ ?_
     rotate_left
     ·simp only [Act.put, sA, sZ, sS, i64_w, i32_w]
      rfl
     refine pure_ (i := 30) (N := some 68) (v := ?_) (a' := ?_) b110_ rfl rfl (any_of HT_.out (by kernel_rfl)) (fun _ _ _ h => h) (Or.inl ⟨by rfl, ?_⟩) ?_ ?_
     rotate_left
     ·intro w'
      go_simp
      with_reducible rfl
     rotate_left
     ·simp only [Act.put, sA, sZ, sS, i64_w, i32_w]
      rfl
     refine pure_ (i := 31) (N := some 69) (v := ?_) (a' := ?_) b111_ rfl rfl (any_of HT_.out (by kernel_rfl)) (fun _ _ _ h => h) (Or.inl ⟨by rfl, ?_⟩) ?_ ?_
     rotate_left
     ·intro w'
      go_simp
      with_reducible rfl
     rotate_left
     ·simp only [Act.put, sA, sZ, sS, i64_w, i32_w]
      rfl
     refine pure_ (i := 32) (N := some 70) (v := undef) (a' := ?_) b112_ rfl rfl (any_of HT_.out (by kernel_rfl)) (fun _ _ _ h => h) (Or.inr ⟨by rfl, rfl⟩) ?_ ?_
     rotate_left
     ·simp only [Act.put, sA, sZ, sS, i64_w, i32_w]
      rfl
     refine pure_ (i := 33) (N := some 71) (v := undef) (a' := ?_) b113_ rfl rfl (any_of HT_.out (by kernel_rfl)) (fun _ _ _ h => h) (Or.inr ⟨by rfl, rfl⟩) ?_ ?_
     rotate_left
     ·simp only [Act.put, sA, sZ, sS, i64_w, i32_w]
      rfl
     refine pure_ (i := 34) (N := some 72) (v := undef) (a' := ?_) b114_ rfl rfl (any_of HT_.out (by kernel_rfl)) (fun _ _ _ h => h) (Or.inr ⟨by rfl, rfl⟩) ?_ ?_
     rotate_left
     ·simp only [Act.put, sA, sZ, sS, i64_w, i32_w]
      rfl
     refine pure_ (i := 35) (N := some 73) (v := undef) (a' := ?_) b115_ rfl rfl (any_of HT_.out (by kernel_rfl)) (fun _ _ _ h => h) (Or.inr ⟨by rfl, rfl⟩) ?_ ?_
     rotate_left
     ·simp only [Act.put, sA, sZ, sS, i64_w, i32_w]
      rfl
     refine pure_ (i := 36) (N := some 74) (v := ?_) (a' := ?_) b116_ rfl rfl (any_of HT_.out (by kernel_rfl)) (fun _ _ _ h => h) (Or.inl ⟨by rfl, ?_⟩) ?_ ?_
     rotate_left
     ·intro w'
      go_simp
      with_reducible rfl
     rotate_left
     ·simp only [Act.put, sA, sZ, sS, i64_w, i32_w]
      rfl
     refine done_ (done_of HT_.out (by kernel_rfl)) ?_
     try go_wp2
     go_meet
     case rel => exact ⟨_, (true), (by first | rfl | (simp; done) | (simp [*]; done)), H', ⟨by first | omega | exact Nat.le_refl _⟩, ⟨by exact qy BK186.out⟩, ⟨by exact qy BK187.out⟩, ⟨by exact qy BK188.out⟩, ⟨by repeat (first | (with_reducible first | exact HB.out | apply ea | apply en | apply ed | refine es ?_ GE186.out | refine es ?_ GE187.out | refine es ?_ GE188.out) | exact HB.out)⟩⟩
    ·rw [if_neg c16] at H
     have c16b0 : decide (a2_1 < a2_0) = false := decide_eq_false c16
     clear c16
     replace H := Option.bind_eq_some_iff.mp H
     obtain ⟨t191, A180, H⟩ := H
     replace H : (if a2_1 ≥ t191 then (subst_Do.j0 k a1 t189 true a0_0 l0_1 a2_0 a2_1 a2_2 a2_3 a2_4) else (if a2_2.toList = ([] : List UInt8) then (subst_Do.j0 k a1 t189 true a0_0 l0_1 a2_0 a2_1 a2_2 a2_3 a2_4) else ((strings_Contains.f a2_2 (⟨#[10]⟩ : ByteArray)).bind fun t192 => (if t192 = true then (subst_Do.j0 k a1 t189 true a0_0 l0_1 a2_0 a2_1 a2_2 a2_3 a2_4) else (subst_Do.j0 k a1 t189 (decide ((a2_3.size : Int) > 4096)) a0_0 l0_1 a2_0 a2_1 a2_2 a2_3 a2_4))))) = some (r1, r2, r3, r4, r5, r6, r7) := H
     have A18 := aM A180
     clear A180
     by_cases c19 : a2_1 ≥ t191
     ·rw [if_pos c19] at H
      have c19b0 : decide (t191 ≤ a2_1) = true := decide_eq_true c19
      clear c19
      have H' := aM H
      clear H
      try go_wp2
      have n0_ := aM (blk_drew BK186.out)
      have n1_ := aM (blk_drew BK187.out)
      have n2_ := aM (blk_drew BK188.out)
      have n3_ := aM (below_drew1 HB.out)
      clear BK186
      clear BK187
      clear BK188
      clear HB
      have BK186 := n0_
      have BK187 := n1_
      have BK188 := n2_
      have HB := n3_
      clear n0_ n1_ n2_ n3_
      refine start_ (n := 37) (S := fun w' => w'.cell? ⟨gb187, 0, none⟩ = some (.int .i64 a2_0) ∧ w'.cell? ⟨gb187, 1, none⟩ = some (.int .i64 a2_1) ∧ w'.cell? ⟨gb187, 2, none⟩ = some (.string a2_2) ∧ w'.cell? ⟨gb187, 3, none⟩ = some (.string a2_3) ∧ w'.cell? ⟨gb187, 4, none⟩ = some (.bool a2_4)) (ds := []) b79_ (by kernel_rfl) rfl rfl ⟨(bC BK187.out 0).trans rfl, (bC BK187.out 1).trans rfl, (bC BK187.out 2).trans rfl, (bC BK187.out 3).trans rfl, (bC BK187.out 4).trans rfl⟩ (fun hHeld => ?_); refine with_tabW subst_Do.tab2 subst_Do.bits2 (fun HT_ HW_ => ?_)
      generalize w12.drew = w20 at BK186 BK187 BK188 HB hHeld ⊢
      refine pure_ (i := 0) (N := some 38) (v := ?_) (a' := ?_) b80_ rfl rfl (any_of HT_.out (by kernel_rfl)) (fun _ _ _ h => h) (Or.inl ⟨by rfl, ?_⟩) ?_ ?_
      rotate_left
      ·intro w'
       go_simp
       with_reducible rfl
      rotate_left
      ·simp only [Act.put, sA, sZ, sS, i64_w, i32_w]
       rfl
      refine pure_ (i := 1) (N := some 39) (v := ?_) (a' := ?_) b81_ rfl rfl (any_of HT_.out (by kernel_rfl)) (fun _ _ _ h => h) (Or.inl ⟨by rfl, ?_⟩) ?_ ?_
      rotate_left
      ·intro w'
       go_simp
       with_reducible rfl
      rotate_left
      ·simp only [Act.put, sA, sZ, sS, i64_w, i32_w]
       rfl
      refine pure_ (i := 2) (N := some 40) (v := ?_) (a' := ?_) b82_ rfl rfl (any_of HT_.out (by kernel_rfl)) (fun _ _ _ h => h) (Or.inl ⟨by rfl, ?_⟩) ?_ ?_
      rotate_left
      ·intro w'
       go_simp
       with_reducible rfl
      rotate_left
      ·simp only [Act.put, sA, sZ, sS, i64_w, i32_w]
       rfl
      refine pure_ (i := 3) (N := some 41) (v := ?_) (a' := ?_) b83_ rfl rfl (any_of HT_.out (by kernel_rfl)) (fun _ _ _ h => h) (Or.inl ⟨by rfl, ?_⟩) ?_ ?_
      rotate_left
      ·intro w'
       go_simp
       with_reducible rfl
      rotate_left
      ·simp only [Act.put, sA, sZ, sS, i64_w, i32_w]
       rfl
      refine take_ (i := 4) (N := some 42) (v := ?_) (a' := ?_) b84_ rfl rfl (take_ofW HT_.out HW_.out (by kernel_rfl)) (fun _ _ _ h => h) (Or.inl ⟨by rfl, ?_⟩) hHeld ?_ ?_
      rotate_left
      ·rintro w' ⟨s0, s1, s2, s3, s4⟩
       go_simp
       with_reducible rfl
      rotate_left
      ·simp only [Act.put, sA, sZ, sS, i64_w, i32_w]
       rfl
      refine pure_ (i := 5) (N := some 43) (v := ?_) (a' := ?_) b85_ rfl rfl (any_of HT_.out (by kernel_rfl)) (fun _ _ _ h => h) (Or.inl ⟨by rfl, ?_⟩) ?_ ?_
      rotate_left
      ·intro w'
       go_simp
       with_reducible rfl
      rotate_left
      ·simp only [Act.put, sA, sZ, sS, i64_w, i32_w]
       rfl
      refine pure_ (i := 6) (N := some 44) (v := ?_) (a' := ?_) b86_ rfl rfl (any_of HT_.out (by kernel_rfl)) (fun _ _ _ h => h) (Or.inl ⟨by rfl, ?_⟩) ?_ ?_
      rotate_left
      ·intro w'
       go_simp
       with_reducible rfl
      rotate_left
      ·simp only [Act.put, sA, sZ, sS, i64_w, i32_w]
       rfl
      refine pure_ (i := 7) (N := some 45) (v := ?_) (a' := ?_) b87_ rfl rfl (any_of HT_.out (by kernel_rfl)) (fun _ _ _ h => h) (Or.inl ⟨by rfl, ?_⟩) ?_ ?_
      rotate_left
      ·intro w'
       go_simp
       with_reducible rfl
      rotate_left
      ·simp only [Act.put, sA, sZ, sS, i64_w, i32_w]
       rfl
      refine pure_ (i := 8) (N := some 46) (v := ?_) (a' := ?_) b88_ rfl rfl (any_of HT_.out (by kernel_rfl)) (fun _ _ _ h => h) (Or.inl ⟨by rfl, ?_⟩) ?_ ?_
      rotate_left
      ·intro w'
       go_simp
       with_reducible rfl
      rotate_left
      ·simp only [Act.put, sA, sZ, sS, i64_w, i32_w]
       rfl
      refine pure_ (i := 10) (N := some 48) (v := ?_) (a' := ?_) b117_ rfl rfl (any_of HT_.out (by kernel_rfl)) (fun _ _ _ h => h) (Or.inl ⟨by rfl, ?_⟩) ?_ ?_
      rotate_left
      ·intro w'
       go_simp
       with_reducible rfl
      rotate_left
      ·simp only [Act.put, sA, sZ, sS, i64_w, i32_w]
       rfl
      refine take_ (i := 9) (N := some 47) (v := ?_) (a' := ?_) b90_ rfl rfl (take_ofW HT_.out HW_.out (by kernel_rfl)) (fun _ _ _ h => h) (Or.inl ⟨by rfl, ?_⟩) hHeld ?_ ?_
      rotate_left
      ·rintro w' ⟨s0, s1, s2, s3, s4⟩
       go_simp
       with_reducible rfl
      rotate_left
      ·simp only [Act.put, sA, sZ, sS, i64_w, i32_w]
       rfl
      refine take_ (i := 11) (N := some 49) (v := ?_) (a' := ?_) b91_ rfl rfl (take_ofW HT_.out HW_.out (by kernel_rfl)) (fun _ _ _ h => h) (Or.inl ⟨by rfl, ?_⟩) hHeld ?_ ?_
      rotate_left
      ·rintro w' ⟨s0, s1, s2, s3, s4⟩
       go_simp
       with_reducible rfl
      rotate_left
      ·simp only [Act.put, sA, sZ, sS, i64_w, i32_w]
       rfl
      refine pure_ (i := 12) (N := some 50) (v := ?_) (a' := ?_) b92_ rfl rfl (any_of HT_.out (by kernel_rfl)) (fun _ _ _ h => h) (Or.inl ⟨by rfl, ?_⟩) ?_ ?_
      rotate_left
      ·intro w'
       go_simp
       with_reducible rfl
      rotate_left
      ·simp only [Act.put, sA, sZ, sS, i64_w, i32_w]
       rfl
      refine pure_ (i := 13) (N := some 51) (v := ?_) (a' := ?_) b93_ rfl rfl (any_of HT_.out (by kernel_rfl)) (fun _ _ _ h => h) (Or.inl ⟨by rfl, ?_⟩) ?_ ?_
      rotate_left
      ·intro w'
       go_simp
       with_reducible rfl
      rotate_left
      ·simp only [Act.put, sA, sZ, sS, i64_w, i32_w]
       rfl
      refine pure_ (i := 14) (N := some 52) (v := ?_) (a' := ?_) b94_ rfl rfl (any_of HT_.out (by kernel_rfl)) (fun _ _ _ h => h) (Or.inl ⟨by rfl, ?_⟩) ?_ ?_
      rotate_left
      ·intro w'
       go_simp
       with_reducible rfl
      rotate_left
      ·simp only [Act.put, sA, sZ, sS, i64_w, i32_w]
       rfl
      refine pure_ (i := 15) (N := some 53) (v := ?_) (a' := ?_) b95_ rfl rfl (any_of HT_.out (by kernel_rfl)) (fun _ _ _ h => h) (Or.inl ⟨by rfl, ?_⟩) ?_ ?_
      rotate_left
      ·intro w'
       go_simp
       with_reducible rfl
      rotate_left
      ·simp only [Act.put, sA, sZ, sS, i64_w, i32_w]
       rfl
      refine pure_ (i := 17) (N := some 55) (v := ?_) (a' := ?_) b118_ rfl rfl (any_of HT_.out (by kernel_rfl)) (fun _ _ _ h => h) (Or.inl ⟨by rfl, ?_⟩) ?_ ?_
      rotate_left
      ·intro w'
       go_simp
       with_reducible rfl
      rotate_left
      ·simp only [Act.put, sA, sZ, sS, i64_w, i32_w]
       rfl
      refine take_ (i := 16) (N := some 54) (v := ?_) (a' := ?_) b97_ rfl rfl (take_ofW HT_.out HW_.out (by kernel_rfl)) (fun _ _ _ h => h) (Or.inl ⟨by rfl, ?_⟩) hHeld ?_ ?_
      rotate_left
      ·rintro w' ⟨s0, s1, s2, s3, s4⟩
       go_simp
       with_reducible rfl
      rotate_left
      ·simp only [Act.put, sA, sZ, sS, i64_w, i32_w]
       rfl
      refine one_ (i := 18) (N := some 56) b98_ rfl rfl (one_of HT_.out (by kernel_rfl)) (by decide) (fun K hK => ?_)
      refine goes_ Try.func20 (by kernel_rfl) rfl #[.string t189] (by rfl) rfl rfl (by (try simp only [mT, mC, mN]); first | done | rfl | (simp only [lD, lT]; rfl)) ?_
      with_reducible refine (line_Count.calls t189 t191 _ A18.out).mono ?_
      rintro e w21 ⟨rfl, hb⟩
      refine ⟨_, rfl, ?_⟩
      have n0_ := aM (bB (g := gb186) (qy BK186.out) hb)
      have n1_ := aM (bB (g := gb187) (qy BK187.out) hb)
      have n2_ := aM (bB (g := gb188) (qy BK188.out) hb)
      have n3_ := aM (bP (by repeat (first | (with_reducible first | exact HB.out | apply ea | apply en | apply ed | refine es ?_ GE186.out | refine es ?_ GE187.out | refine es ?_ GE188.out) | exact HB.out)) hb)
      clear BK186
      clear BK187
      clear BK188
      clear HB
      have BK186 := n0_
      have BK187 := n1_
      have BK188 := n2_
      have HB := n3_
      clear n0_ n1_ n2_ n3_
      (try clear hb)
      (try clear hb2)
      (try clear hk)
      (try clear hi)
      refine hK.out _ _ ⟨(bC BK187.out 0).trans rfl, (bC BK187.out 1).trans rfl, (bC BK187.out 2).trans rfl, (bC BK187.out 3).trans rfl, (bC BK187.out 4).trans rfl⟩ (fun hHeld => ?_)
      clear hK K
      refine norm_ (a' := ?_) ?_ ?_
      rotate_left
      ·show Act.put _ (some 56) _ = _
       simp only [Act.put, sA, sZ, sS, i64_w, i32_w]
       rfl
      refine pure_ (i := 19) (N := some 57) (v := ?_) (a' := ?_) b99_ rfl rfl (any_of HT_.out (by kernel_rfl)) (fun _ _ _ h => h) (Or.inl ⟨by rfl, ?_⟩) ?_ ?_
      rotate_left
      ·intro w'
       go_simp
       with_reducible rfl
      rotate_left
      ·simp only [Act.put, sA, sZ, sS, i64_w, i32_w]
       rfl
      refine pure_ (i := 20) (N := some 58) (v := ?_) (a' := ?_) b100_ rfl rfl (any_of HT_.out (by kernel_rfl)) (fun _ _ _ h => h) (Or.inl ⟨by rfl, ?_⟩) ?_ ?_
      rotate_left
      ·intro w'
       go_simp
       with_reducible rfl
      rotate_left
      ·simp only [Act.put, sA, sZ, sS, i64_w, i32_w]
       rfl
      refine pure_ (i := 21) (N := some 59) (v := ?_) (a' := ?_) b101_ rfl rfl (any_of HT_.out (by kernel_rfl)) (fun _ _ _ h => h) (Or.inl ⟨by rfl, ?_⟩) ?_ ?_
      rotate_left
      ·intro w'
       go_simp
       with_reducible rfl
      rotate_left
      ·simp only [Act.put, sA, sZ, sS, i64_w, i32_w]
       rfl
      refine pure_ (i := 22) (N := some 60) (v := undef) (a' := ?_) b102_ rfl rfl (any_of HT_.out (by kernel_rfl)) (fun _ _ _ h => h) (Or.inr ⟨by rfl, rfl⟩) ?_ ?_
      rotate_left
      ·simp only [Act.put, sA, sZ, sS, i64_w, i32_w]
       rfl
      refine pure_ (i := 23) (N := some 61) (v := undef) (a' := ?_) b103_ rfl rfl (any_of HT_.out (by kernel_rfl)) (fun _ _ _ h => h) (Or.inr ⟨by rfl, rfl⟩) ?_ ?_
      rotate_left
      ·simp only [Act.put, sA, sZ, sS, i64_w, i32_w]
       rfl
      refine pure_ (i := 24) (N := some 62) (v := undef) (a' := ?_) b104_ rfl rfl (any_of HT_.out (by kernel_rfl)) (fun _ _ _ h => h) (Or.inr ⟨by rfl, rfl⟩) ?_ ?_
      rotate_left
      ·simp only [Act.put, sA, sZ, sS, i64_w, i32_w]
       rfl
      refine pure_ (i := 25) (N := some 63) (v := ?_) (a' := ?_) b105_ rfl rfl (any_of HT_.out (by kernel_rfl)) (fun _ _ _ h => h) (Or.inl ⟨by rfl, ?_⟩) ?_ ?_
      rotate_left
      ·intro w'
       go_simp
       with_reducible rfl
      rotate_left
      ·simp only [Act.put, sA, sZ, sS, i64_w, i32_w]
       rfl
      refine pure_ (i := 26) (N := some 64) (v := ?_) (a' := ?_) b106_ rfl rfl (any_of HT_.out (by kernel_rfl)) (fun _ _ _ h => h) (Or.inl ⟨by rfl, ?_⟩) ?_ ?_
      rotate_left
      ·intro w'
       go_simp
       with_reducible rfl
      rotate_left
      ·simp only [Act.put, sA, sZ, sS, i64_w, i32_w]
       rfl
      refine pure_ (i := 27) (N := some 65) (v := undef) (a' := ?_) b107_ rfl rfl (any_of HT_.out (by kernel_rfl)) (fun _ _ _ h => h) (Or.inr ⟨by rfl, rfl⟩) ?_ ?_
      rotate_left
      ·simp only [Act.put, sA, sZ, sS, i64_w, i32_w]
       rfl
      refine pure_ (i := 28) (N := some 66) (v := undef) (a' := ?_) b108_ rfl rfl (any_of HT_.out (by kernel_rfl)) (fun _ _ _ h => h) (Or.inr ⟨by rfl, rfl⟩) ?_ ?_
      rotate_left
      ·simp only [Act.put, sA, sZ, sS, i64_w, i32_w]
       rfl
      refine pure_ (i := 29) (N := some 67) (v := undef) (a' := ?_) b109_ rfl rfl (any_of HT_.out (by kernel_rfl)) (fun _ _ _ h => h) (Or.inr ⟨by rfl, rfl⟩) ?_ ?_
      rotate_left
      ·simp only [Act.put, sA, sZ, sS, i64_w, i32_w]
       rfl
      refine pure_ (i := 30) (N := some 68) (v := ?_) (a' := ?_) b110_ rfl rfl (any_of HT_.out (by kernel_rfl)) (fun _ _ _ h => h) (Or.inl ⟨by rfl, ?_⟩) ?_ ?_
      rotate_left
      ·intro w'
       go_simp
       with_reducible rfl
      rotate_left
      ·simp only [Act.put, sA, sZ, sS, i64_w, i32_w]
       rfl
      refine pure_ (i := 31) (N := some 69) (v := ?_) (a' := ?_) b111_ rfl rfl (any_of HT_.out (by kernel_rfl)) (fun _ _ _ h => h) (Or.inl ⟨by rfl, ?_⟩) ?_ ?_
      rotate_left
      ·intro w'
       go_simp
       with_reducible rfl
      rotate_left
      ·simp only [Act.put, sA, sZ, sS, i64_w, i32_w]
       rfl
      refine pure_ (i := 32) (N := some 70) (v := undef) (a' := ?_) b112_ rfl rfl (any_of HT_.out (by kernel_rfl)) (fun _ _ _ h => h) (Or.inr ⟨by rfl, rfl⟩) ?_ ?_
      rotate_left
      ·simp only [Act.put, sA, sZ, sS, i64_w, i32_w]
       rfl
      refine pure_ (i := 33) (N := some 71) (v := undef) (a' := ?_) b113_ rfl rfl (any_of HT_.out (by kernel_rfl)) (fun _ _ _ h => h) (Or.inr ⟨by rfl, rfl⟩) ?_ ?_
      rotate_left
      ·simp only [Act.put, sA, sZ, sS, i64_w, i32_w]
       rfl
      refine pure_ (i := 34) (N := some 72) (v := undef) (a' := ?_) b114_ rfl rfl (any_of HT_.out (by kernel_rfl)) (fun _ _ _ h => h) (Or.inr ⟨by rfl, rfl⟩) ?_ ?_
      rotate_left
      ·simp only [Act.put, sA, sZ, sS, i64_w, i32_w]
       rfl
      refine pure_ (i := 35) (N := some 73) (v := undef) (a' := ?_) b115_ rfl rfl (any_of HT_.out (by kernel_rfl)) (fun _ _ _ h => h) (Or.inr ⟨by rfl, rfl⟩) ?_ ?_
      rotate_left
      ·simp only [Act.put, sA, sZ, sS, i64_w, i32_w]
       rfl
      refine pure_ (i := 36) (N := some 74) (v := ?_) (a' := ?_) b116_ rfl rfl (any_of HT_.out (by kernel_rfl)) (fun _ _ _ h => h) (Or.inl ⟨by rfl, ?_⟩) ?_ ?_
      rotate_left
      ·intro w'
       go_simp
       with_reducible rfl
      rotate_left
      ·simp only [Act.put, sA, sZ, sS, i64_w, i32_w]
       rfl
      refine done_ (done_of HT_.out (by kernel_rfl)) ?_
      try go_wp2
      go_meet
      case rel => exact ⟨_, (true), (by first | rfl | (simp; done) | (simp [*]; done)), H', ⟨by first | omega | exact Nat.le_refl _⟩, ⟨by exact qy BK186.out⟩, ⟨by exact qy BK187.out⟩, ⟨by exact qy BK188.out⟩, ⟨by repeat (first | (with_reducible first | exact HB.out | apply ea | apply en | apply ed | refine es ?_ GE186.out | refine es ?_ GE187.out | refine es ?_ GE188.out) | exact HB.out)⟩⟩
     ·rw [if_neg c19] at H
      have c19b0 : decide (t191 ≤ a2_1) = false := decide_eq_false c19
      clear c19
      by_cases c22 : a2_2.toList = ([] : List UInt8)
      ·rw [if_pos c22] at H
       have c22b0 : (a2_2.toList == ([] : List UInt8)) = true := beq_iff_eq.mpr c22
       have c22b1 : (a2_2.toList != ([] : List UInt8)) = false := bne_eq_false_iff_eq.mpr c22
       clear c22
       have H' := aM H
       clear H
       try go_wp2
       have n0_ := aM (blk_drew BK186.out)
       have n1_ := aM (blk_drew BK187.out)
       have n2_ := aM (blk_drew BK188.out)
       have n3_ := aM (below_drew1 HB.out)
       clear BK186
       clear BK187
       clear BK188
       clear HB
       have BK186 := n0_
       have BK187 := n1_
       have BK188 := n2_
       have HB := n3_
       clear n0_ n1_ n2_ n3_
       refine start_ (n := 37) (S := fun w' => w'.cell? ⟨gb187, 0, none⟩ = some (.int .i64 a2_0) ∧ w'.cell? ⟨gb187, 1, none⟩ = some (.int .i64 a2_1) ∧ w'.cell? ⟨gb187, 2, none⟩ = some (.string a2_2) ∧ w'.cell? ⟨gb187, 3, none⟩ = some (.string a2_3) ∧ w'.cell? ⟨gb187, 4, none⟩ = some (.bool a2_4)) (ds := []) b79_ (by kernel_rfl) rfl rfl ⟨(bC BK187.out 0).trans rfl, (bC BK187.out 1).trans rfl, (bC BK187.out 2).trans rfl, (bC BK187.out 3).trans rfl, (bC BK187.out 4).trans rfl⟩ (fun hHeld => ?_); refine with_tabW subst_Do.tab2 subst_Do.bits2 (fun HT_ HW_ => ?_)
       generalize w12.drew = w23 at BK186 BK187 BK188 HB hHeld ⊢
       refine pure_ (i := 0) (N := some 38) (v := ?_) (a' := ?_) b80_ rfl rfl (any_of HT_.out (by kernel_rfl)) (fun _ _ _ h => h) (Or.inl ⟨by rfl, ?_⟩) ?_ ?_
       rotate_left
       ·intro w'
        go_simp
        with_reducible rfl
       rotate_left
       ·simp only [Act.put, sA, sZ, sS, i64_w, i32_w]
        rfl
       refine pure_ (i := 1) (N := some 39) (v := ?_) (a' := ?_) b81_ rfl rfl (any_of HT_.out (by kernel_rfl)) (fun _ _ _ h => h) (Or.inl ⟨by rfl, ?_⟩) ?_ ?_
       rotate_left
       ·intro w'
        go_simp
        with_reducible rfl
       rotate_left
       ·simp only [Act.put, sA, sZ, sS, i64_w, i32_w]
        rfl
       refine pure_ (i := 2) (N := some 40) (v := ?_) (a' := ?_) b82_ rfl rfl (any_of HT_.out (by kernel_rfl)) (fun _ _ _ h => h) (Or.inl ⟨by rfl, ?_⟩) ?_ ?_
       rotate_left
       ·intro w'
        go_simp
        with_reducible rfl
       rotate_left
       ·simp only [Act.put, sA, sZ, sS, i64_w, i32_w]
        rfl
       refine pure_ (i := 3) (N := some 41) (v := ?_) (a' := ?_) b83_ rfl rfl (any_of HT_.out (by kernel_rfl)) (fun _ _ _ h => h) (Or.inl ⟨by rfl, ?_⟩) ?_ ?_
       rotate_left
       ·intro w'
        go_simp
        with_reducible rfl
       rotate_left
       ·simp only [Act.put, sA, sZ, sS, i64_w, i32_w]
        rfl
       refine take_ (i := 4) (N := some 42) (v := ?_) (a' := ?_) b84_ rfl rfl (take_ofW HT_.out HW_.out (by kernel_rfl)) (fun _ _ _ h => h) (Or.inl ⟨by rfl, ?_⟩) hHeld ?_ ?_
       rotate_left
       ·rintro w' ⟨s0, s1, s2, s3, s4⟩
        go_simp
        with_reducible rfl
       rotate_left
       ·simp only [Act.put, sA, sZ, sS, i64_w, i32_w]
        rfl
       refine pure_ (i := 5) (N := some 43) (v := ?_) (a' := ?_) b85_ rfl rfl (any_of HT_.out (by kernel_rfl)) (fun _ _ _ h => h) (Or.inl ⟨by rfl, ?_⟩) ?_ ?_
       rotate_left
       ·intro w'
        go_simp
        with_reducible rfl
       rotate_left
       ·simp only [Act.put, sA, sZ, sS, i64_w, i32_w]
        rfl
       refine pure_ (i := 6) (N := some 44) (v := ?_) (a' := ?_) b86_ rfl rfl (any_of HT_.out (by kernel_rfl)) (fun _ _ _ h => h) (Or.inl ⟨by rfl, ?_⟩) ?_ ?_
       rotate_left
       ·intro w'
        go_simp
        with_reducible rfl
       rotate_left
       ·simp only [Act.put, sA, sZ, sS, i64_w, i32_w]
        rfl
       refine pure_ (i := 7) (N := some 45) (v := ?_) (a' := ?_) b87_ rfl rfl (any_of HT_.out (by kernel_rfl)) (fun _ _ _ h => h) (Or.inl ⟨by rfl, ?_⟩) ?_ ?_
       rotate_left
       ·intro w'
        go_simp
        with_reducible rfl
       rotate_left
       ·simp only [Act.put, sA, sZ, sS, i64_w, i32_w]
        rfl
       refine pure_ (i := 8) (N := some 46) (v := ?_) (a' := ?_) b88_ rfl rfl (any_of HT_.out (by kernel_rfl)) (fun _ _ _ h => h) (Or.inl ⟨by rfl, ?_⟩) ?_ ?_
       rotate_left
       ·intro w'
        go_simp
        with_reducible rfl
       rotate_left
       ·simp only [Act.put, sA, sZ, sS, i64_w, i32_w]
        rfl
       refine pure_ (i := 10) (N := some 48) (v := ?_) (a' := ?_) b117_ rfl rfl (any_of HT_.out (by kernel_rfl)) (fun _ _ _ h => h) (Or.inl ⟨by rfl, ?_⟩) ?_ ?_
       rotate_left
       ·intro w'
        go_simp
        with_reducible rfl
       rotate_left
       ·simp only [Act.put, sA, sZ, sS, i64_w, i32_w]
        rfl
       refine take_ (i := 9) (N := some 47) (v := ?_) (a' := ?_) b90_ rfl rfl (take_ofW HT_.out HW_.out (by kernel_rfl)) (fun _ _ _ h => h) (Or.inl ⟨by rfl, ?_⟩) hHeld ?_ ?_
       rotate_left
       ·rintro w' ⟨s0, s1, s2, s3, s4⟩
        go_simp
        with_reducible rfl
       rotate_left
       ·simp only [Act.put, sA, sZ, sS, i64_w, i32_w]
        rfl
       refine take_ (i := 11) (N := some 49) (v := ?_) (a' := ?_) b91_ rfl rfl (take_ofW HT_.out HW_.out (by kernel_rfl)) (fun _ _ _ h => h) (Or.inl ⟨by rfl, ?_⟩) hHeld ?_ ?_
       rotate_left
       ·rintro w' ⟨s0, s1, s2, s3, s4⟩
        go_simp
        with_reducible rfl
       rotate_left
       ·simp only [Act.put, sA, sZ, sS, i64_w, i32_w]
        rfl
       refine pure_ (i := 12) (N := some 50) (v := ?_) (a' := ?_) b92_ rfl rfl (any_of HT_.out (by kernel_rfl)) (fun _ _ _ h => h) (Or.inl ⟨by rfl, ?_⟩) ?_ ?_
       rotate_left
       ·intro w'
        go_simp
        with_reducible rfl
       rotate_left
       ·simp only [Act.put, sA, sZ, sS, i64_w, i32_w]
        rfl
       refine pure_ (i := 13) (N := some 51) (v := ?_) (a' := ?_) b93_ rfl rfl (any_of HT_.out (by kernel_rfl)) (fun _ _ _ h => h) (Or.inl ⟨by rfl, ?_⟩) ?_ ?_
       rotate_left
       ·intro w'
        go_simp
        with_reducible rfl
       rotate_left
       ·simp only [Act.put, sA, sZ, sS, i64_w, i32_w]
        rfl
       refine pure_ (i := 14) (N := some 52) (v := ?_) (a' := ?_) b94_ rfl rfl (any_of HT_.out (by kernel_rfl)) (fun _ _ _ h => h) (Or.inl ⟨by rfl, ?_⟩) ?_ ?_
       rotate_left
       ·intro w'
        go_simp
        with_reducible rfl
       rotate_left
       ·simp only [Act.put, sA, sZ, sS, i64_w, i32_w]
        rfl
       refine pure_ (i := 15) (N := some 53) (v := ?_) (a' := ?_) b95_ rfl rfl (any_of HT_.out (by kernel_rfl)) (fun _ _ _ h => h) (Or.inl ⟨by rfl, ?_⟩) ?_ ?_
       rotate_left
       ·intro w'
        go_simp
        with_reducible rfl
       rotate_left
       ·simp only [Act.put, sA, sZ, sS, i64_w, i32_w]
        rfl
       refine pure_ (i := 17) (N := some 55) (v := ?_) (a' := ?_) b118_ rfl rfl (any_of HT_.out (by kernel_rfl)) (fun _ _ _ h => h) (Or.inl ⟨by rfl, ?_⟩) ?_ ?_
       rotate_left
       ·intro w'
        go_simp
        with_reducible rfl
       rotate_left
       ·simp only [Act.put, sA, sZ, sS, i64_w, i32_w]
        rfl
       refine take_ (i := 16) (N := some 54) (v := ?_) (a' := ?_) b97_ rfl rfl (take_ofW HT_.out HW_.out (by kernel_rfl)) (fun _ _ _ h => h) (Or.inl ⟨by rfl, ?_⟩) hHeld ?_ ?_
       rotate_left
       ·rintro w' ⟨s0, s1, s2, s3, s4⟩
        go_simp
        with_reducible rfl
       rotate_left
       ·simp only [Act.put, sA, sZ, sS, i64_w, i32_w]
        rfl
       refine one_ (i := 18) (N := some 56) b98_ rfl rfl (one_of HT_.out (by kernel_rfl)) (by decide) (fun K hK => ?_)
       refine goes_ Try.func20 (by kernel_rfl) rfl #[.string t189] (by rfl) rfl rfl (by (try simp only [mT, mC, mN]); first | done | rfl | (simp only [lD, lT]; rfl)) ?_
       with_reducible refine (line_Count.calls t189 t191 _ A18.out).mono ?_
       rintro e w24 ⟨rfl, hb⟩
       refine ⟨_, rfl, ?_⟩
       have n0_ := aM (bB (g := gb186) (qy BK186.out) hb)
       have n1_ := aM (bB (g := gb187) (qy BK187.out) hb)
       have n2_ := aM (bB (g := gb188) (qy BK188.out) hb)
       have n3_ := aM (bP (by repeat (first | (with_reducible first | exact HB.out | apply ea | apply en | apply ed | refine es ?_ GE186.out | refine es ?_ GE187.out | refine es ?_ GE188.out) | exact HB.out)) hb)
       clear BK186
       clear BK187
       clear BK188
       clear HB
       have BK186 := n0_
       have BK187 := n1_
       have BK188 := n2_
       have HB := n3_
       clear n0_ n1_ n2_ n3_
       (try clear hb)
       (try clear hb2)
       (try clear hk)
       (try clear hi)
       refine hK.out _ _ ⟨(bC BK187.out 0).trans rfl, (bC BK187.out 1).trans rfl, (bC BK187.out 2).trans rfl, (bC BK187.out 3).trans rfl, (bC BK187.out 4).trans rfl⟩ (fun hHeld => ?_)
       clear hK K
       refine norm_ (a' := ?_) ?_ ?_
       rotate_left
       ·show Act.put _ (some 56) _ = _
        simp only [Act.put, sA, sZ, sS, i64_w, i32_w]
        rfl
       refine pure_ (i := 19) (N := some 57) (v := ?_) (a' := ?_) b99_ rfl rfl (any_of HT_.out (by kernel_rfl)) (fun _ _ _ h => h) (Or.inl ⟨by rfl, ?_⟩) ?_ ?_
       rotate_left
       ·intro w'
        go_simp
        with_reducible rfl
       rotate_left
       ·simp only [Act.put, sA, sZ, sS, i64_w, i32_w]
        rfl
       refine pure_ (i := 20) (N := some 58) (v := ?_) (a' := ?_) b100_ rfl rfl (any_of HT_.out (by kernel_rfl)) (fun _ _ _ h => h) (Or.inl ⟨by rfl, ?_⟩) ?_ ?_
       rotate_left
       ·intro w'
        go_simp
        with_reducible rfl
       rotate_left
       ·simp only [Act.put, sA, sZ, sS, i64_w, i32_w]
        rfl
       refine pure_ (i := 21) (N := some 59) (v := ?_) (a' := ?_) b101_ rfl rfl (any_of HT_.out (by kernel_rfl)) (fun _ _ _ h => h) (Or.inl ⟨by rfl, ?_⟩) ?_ ?_
       rotate_left
       ·intro w'
        go_simp
        with_reducible rfl
       rotate_left
       ·simp only [Act.put, sA, sZ, sS, i64_w, i32_w]
        rfl
       refine pure_ (i := 22) (N := some 60) (v := ?_) (a' := ?_) b102_ rfl rfl (any_of HT_.out (by kernel_rfl)) (fun _ _ _ h => h) (Or.inl ⟨by rfl, ?_⟩) ?_ ?_
       rotate_left
       ·intro w'
        go_simp
        with_reducible rfl
       rotate_left
       ·simp only [Act.put, sA, sZ, sS, i64_w, i32_w]
        rfl
       refine take_ (i := 23) (N := some 61) (v := ?_) (a' := ?_) b103_ rfl rfl (take_ofW HT_.out HW_.out (by kernel_rfl)) (fun _ _ _ h => h) (Or.inl ⟨by rfl, ?_⟩) hHeld ?_ ?_
       rotate_left
       ·rintro w' ⟨s0, s1, s2, s3, s4⟩
        go_simp
        with_reducible rfl
       rotate_left
       ·simp only [Act.put, sA, sZ, sS, i64_w, i32_w]
        rfl
       refine pure_ (i := 24) (N := some 62) (v := ?_) (a' := ?_) b104_ rfl rfl (any_of HT_.out (by kernel_rfl)) (fun _ _ _ h => h) (Or.inl ⟨by rfl, ?_⟩) ?_ ?_
       rotate_left
       ·intro w'
        go_simp
        with_reducible rfl
       rotate_left
       ·simp only [Act.put, sA, sZ, sS, i64_w, i32_w]
        rfl
       refine pure_ (i := 25) (N := some 63) (v := ?_) (a' := ?_) b105_ rfl rfl (any_of HT_.out (by kernel_rfl)) (fun _ _ _ h => h) (Or.inl ⟨by rfl, ?_⟩) ?_ ?_
       rotate_left
       ·intro w'
        go_simp
        with_reducible rfl
       rotate_left
       ·simp only [Act.put, sA, sZ, sS, i64_w, i32_w]
        rfl
       refine pure_ (i := 26) (N := some 64) (v := ?_) (a' := ?_) b106_ rfl rfl (any_of HT_.out (by kernel_rfl)) (fun _ _ _ h => h) (Or.inl ⟨by rfl, ?_⟩) ?_ ?_
       rotate_left
       ·intro w'
        go_simp
        with_reducible rfl
       rotate_left
       ·simp only [Act.put, sA, sZ, sS, i64_w, i32_w]
        rfl
       refine pure_ (i := 27) (N := some 65) (v := undef) (a' := ?_) b107_ rfl rfl (any_of HT_.out (by kernel_rfl)) (fun _ _ _ h => h) (Or.inr ⟨by rfl, rfl⟩) ?_ ?_
       rotate_left
       ·simp only [Act.put, sA, sZ, sS, i64_w, i32_w]
        rfl
       refine pure_ (i := 28) (N := some 66) (v := undef) (a' := ?_) b108_ rfl rfl (any_of HT_.out (by kernel_rfl)) (fun _ _ _ h => h) (Or.inr ⟨by rfl, rfl⟩) ?_ ?_
       rotate_left
       ·simp only [Act.put, sA, sZ, sS, i64_w, i32_w]
        rfl
       refine pure_ (i := 29) (N := some 67) (v := undef) (a' := ?_) b109_ rfl rfl (any_of HT_.out (by kernel_rfl)) (fun _ _ _ h => h) (Or.inr ⟨by rfl, rfl⟩) ?_ ?_
       rotate_left
       ·simp only [Act.put, sA, sZ, sS, i64_w, i32_w]
        rfl
       refine pure_ (i := 30) (N := some 68) (v := ?_) (a' := ?_) b110_ rfl rfl (any_of HT_.out (by kernel_rfl)) (fun _ _ _ h => h) (Or.inl ⟨by rfl, ?_⟩) ?_ ?_
       rotate_left
       ·intro w'
        go_simp
        with_reducible rfl
       rotate_left
       ·simp only [Act.put, sA, sZ, sS, i64_w, i32_w]
        rfl
       refine pure_ (i := 31) (N := some 69) (v := ?_) (a' := ?_) b111_ rfl rfl (any_of HT_.out (by kernel_rfl)) (fun _ _ _ h => h) (Or.inl ⟨by rfl, ?_⟩) ?_ ?_
       rotate_left
       ·intro w'
        go_simp
        with_reducible rfl
       rotate_left
       ·simp only [Act.put, sA, sZ, sS, i64_w, i32_w]
        rfl
       refine pure_ (i := 32) (N := some 70) (v := undef) (a' := ?_) b112_ rfl rfl (any_of HT_.out (by kernel_rfl)) (fun _ _ _ h => h) (Or.inr ⟨by rfl, rfl⟩) ?_ ?_
       rotate_left
       ·simp only [Act.put, sA, sZ, sS, i64_w, i32_w]
        rfl
       refine pure_ (i := 33) (N := some 71) (v := undef) (a' := ?_) b113_ rfl rfl (any_of HT_.out (by kernel_rfl)) (fun _ _ _ h => h) (Or.inr ⟨by rfl, rfl⟩) ?_ ?_
       rotate_left
       ·simp only [Act.put, sA, sZ, sS, i64_w, i32_w]
        rfl
       refine pure_ (i := 34) (N := some 72) (v := undef) (a' := ?_) b114_ rfl rfl (any_of HT_.out (by kernel_rfl)) (fun _ _ _ h => h) (Or.inr ⟨by rfl, rfl⟩) ?_ ?_
       rotate_left
       ·simp only [Act.put, sA, sZ, sS, i64_w, i32_w]
        rfl
       refine pure_ (i := 35) (N := some 73) (v := undef) (a' := ?_) b115_ rfl rfl (any_of HT_.out (by kernel_rfl)) (fun _ _ _ h => h) (Or.inr ⟨by rfl, rfl⟩) ?_ ?_
       rotate_left
       ·simp only [Act.put, sA, sZ, sS, i64_w, i32_w]
        rfl
       refine pure_ (i := 36) (N := some 74) (v := ?_) (a' := ?_) b116_ rfl rfl (any_of HT_.out (by kernel_rfl)) (fun _ _ _ h => h) (Or.inl ⟨by rfl, ?_⟩) ?_ ?_
       rotate_left
       ·intro w'
        go_simp
        with_reducible rfl
       rotate_left
       ·simp only [Act.put, sA, sZ, sS, i64_w, i32_w]
        rfl
       refine done_ (done_of HT_.out (by kernel_rfl)) ?_
       try go_wp2
       go_meet
       case rel => exact ⟨_, (true), (by first | rfl | (simp; done) | (simp [*]; done)), H', ⟨by first | omega | exact Nat.le_refl _⟩, ⟨by exact qy BK186.out⟩, ⟨by exact qy BK187.out⟩, ⟨by exact qy BK188.out⟩, ⟨by repeat (first | (with_reducible first | exact HB.out | apply ea | apply en | apply ed | refine es ?_ GE186.out | refine es ?_ GE187.out | refine es ?_ GE188.out) | exact HB.out)⟩⟩
      ·rw [if_neg c22] at H
       have c22b0 : (a2_2.toList == ([] : List UInt8)) = false := beq_eq_false_iff_ne.mpr c22
       have c22b1 : (a2_2.toList != ([] : List UInt8)) = true := bne_iff_ne.mpr c22
       replace H := Option.bind_eq_some_iff.mp H
       obtain ⟨t192, A250, H⟩ := H
       replace H : (if t192 = true then (subst_Do.j0 k a1 t189 true a0_0 l0_1 a2_0 a2_1 a2_2 a2_3 a2_4) else (subst_Do.j0 k a1 t189 (decide ((a2_3.size : Int) > 4096)) a0_0 l0_1 a2_0 a2_1 a2_2 a2_3 a2_4)) = some (r1, r2, r3, r4, r5, r6, r7) := H
       have A25 := aM A250
       clear A250
       by_cases c26 : t192 = true
       ·subst c26
        have H1 : (subst_Do.j0 k a1 t189 true a0_0 l0_1 a2_0 a2_1 a2_2 a2_3 a2_4) = some (r1, r2, r3, r4, r5, r6, r7) := by rw [if_pos rfl] at H; exact H
        clear H
        have H := H1
        clear H1
        have H' := aM H
        clear H
        try go_wp2
        have n0_ := aM (blk_drew BK186.out)
        have n1_ := aM (blk_drew BK187.out)
        have n2_ := aM (blk_drew BK188.out)
        have n3_ := aM (below_drew1 HB.out)
        clear BK186
        clear BK187
        clear BK188
        clear HB
        have BK186 := n0_
        have BK187 := n1_
        have BK188 := n2_
        have HB := n3_
        clear n0_ n1_ n2_ n3_
        refine start_ (n := 37) (S := fun w' => w'.cell? ⟨gb187, 0, none⟩ = some (.int .i64 a2_0) ∧ w'.cell? ⟨gb187, 1, none⟩ = some (.int .i64 a2_1) ∧ w'.cell? ⟨gb187, 2, none⟩ = some (.string a2_2) ∧ w'.cell? ⟨gb187, 3, none⟩ = some (.string a2_3) ∧ w'.cell? ⟨gb187, 4, none⟩ = some (.bool a2_4)) (ds := []) b79_ (by kernel_rfl) rfl rfl ⟨(bC BK187.out 0).trans rfl, (bC BK187.out 1).trans rfl, (bC BK187.out 2).trans rfl, (bC BK187.out 3).trans rfl, (bC BK187.out 4).trans rfl⟩ (fun hHeld => ?_); refine with_tabW subst_Do.tab2 subst_Do.bits2 (fun HT_ HW_ => ?_)
        generalize w12.drew = w27 at BK186 BK187 BK188 HB hHeld ⊢
        refine pure_ (i := 0) (N := some 38) (v := ?_) (a' := ?_) b80_ rfl rfl (any_of HT_.out (by kernel_rfl)) (fun _ _ _ h => h) (Or.inl ⟨by rfl, ?_⟩) ?_ ?_
        rotate_left
        ·intro w'
         go_simp
         with_reducible rfl
        rotate_left
        ·simp only [Act.put, sA, sZ, sS, i64_w, i32_w]
         rfl
        refine pure_ (i := 1) (N := some 39) (v := ?_) (a' := ?_) b81_ rfl rfl (any_of HT_.out (by kernel_rfl)) (fun _ _ _ h => h) (Or.inl ⟨by rfl, ?_⟩) ?_ ?_
        rotate_left
        ·intro w'
         go_simp
         with_reducible rfl
        rotate_left
        ·simp only [Act.put, sA, sZ, sS, i64_w, i32_w]
         rfl
        refine pure_ (i := 2) (N := some 40) (v := ?_) (a' := ?_) b82_ rfl rfl (any_of HT_.out (by kernel_rfl)) (fun _ _ _ h => h) (Or.inl ⟨by rfl, ?_⟩) ?_ ?_
        rotate_left
        ·intro w'
         go_simp
         with_reducible rfl
        rotate_left
        ·simp only [Act.put, sA, sZ, sS, i64_w, i32_w]
         rfl
        refine pure_ (i := 3) (N := some 41) (v := ?_) (a' := ?_) b83_ rfl rfl (any_of HT_.out (by kernel_rfl)) (fun _ _ _ h => h) (Or.inl ⟨by rfl, ?_⟩) ?_ ?_
        rotate_left
        ·intro w'
         go_simp
         with_reducible rfl
        rotate_left
        ·simp only [Act.put, sA, sZ, sS, i64_w, i32_w]
         rfl
        refine take_ (i := 4) (N := some 42) (v := ?_) (a' := ?_) b84_ rfl rfl (take_ofW HT_.out HW_.out (by kernel_rfl)) (fun _ _ _ h => h) (Or.inl ⟨by rfl, ?_⟩) hHeld ?_ ?_
        rotate_left
        ·rintro w' ⟨s0, s1, s2, s3, s4⟩
         go_simp
         with_reducible rfl
        rotate_left
        ·simp only [Act.put, sA, sZ, sS, i64_w, i32_w]
         rfl
        refine pure_ (i := 5) (N := some 43) (v := ?_) (a' := ?_) b85_ rfl rfl (any_of HT_.out (by kernel_rfl)) (fun _ _ _ h => h) (Or.inl ⟨by rfl, ?_⟩) ?_ ?_
        rotate_left
        ·intro w'
         go_simp
         with_reducible rfl
        rotate_left
        ·simp only [Act.put, sA, sZ, sS, i64_w, i32_w]
         rfl
        refine pure_ (i := 6) (N := some 44) (v := ?_) (a' := ?_) b86_ rfl rfl (any_of HT_.out (by kernel_rfl)) (fun _ _ _ h => h) (Or.inl ⟨by rfl, ?_⟩) ?_ ?_
        rotate_left
        ·intro w'
         go_simp
         with_reducible rfl
        rotate_left
        ·simp only [Act.put, sA, sZ, sS, i64_w, i32_w]
         rfl
        refine pure_ (i := 7) (N := some 45) (v := ?_) (a' := ?_) b87_ rfl rfl (any_of HT_.out (by kernel_rfl)) (fun _ _ _ h => h) (Or.inl ⟨by rfl, ?_⟩) ?_ ?_
        rotate_left
        ·intro w'
         go_simp
         with_reducible rfl
        rotate_left
        ·simp only [Act.put, sA, sZ, sS, i64_w, i32_w]
         rfl
        refine pure_ (i := 8) (N := some 46) (v := ?_) (a' := ?_) b88_ rfl rfl (any_of HT_.out (by kernel_rfl)) (fun _ _ _ h => h) (Or.inl ⟨by rfl, ?_⟩) ?_ ?_
        rotate_left
        ·intro w'
         go_simp
         with_reducible rfl
        rotate_left
        ·simp only [Act.put, sA, sZ, sS, i64_w, i32_w]
         rfl
        refine pure_ (i := 10) (N := some 48) (v := ?_) (a' := ?_) b117_ rfl rfl (any_of HT_.out (by kernel_rfl)) (fun _ _ _ h => h) (Or.inl ⟨by rfl, ?_⟩) ?_ ?_
        rotate_left
        ·intro w'
         go_simp
         with_reducible rfl
        rotate_left
        ·simp only [Act.put, sA, sZ, sS, i64_w, i32_w]
         rfl
        refine take_ (i := 9) (N := some 47) (v := ?_) (a' := ?_) b90_ rfl rfl (take_ofW HT_.out HW_.out (by kernel_rfl)) (fun _ _ _ h => h) (Or.inl ⟨by rfl, ?_⟩) hHeld ?_ ?_
        rotate_left
        ·rintro w' ⟨s0, s1, s2, s3, s4⟩
         go_simp
         with_reducible rfl
        rotate_left
        ·simp only [Act.put, sA, sZ, sS, i64_w, i32_w]
         rfl
        refine take_ (i := 11) (N := some 49) (v := ?_) (a' := ?_) b91_ rfl rfl (take_ofW HT_.out HW_.out (by kernel_rfl)) (fun _ _ _ h => h) (Or.inl ⟨by rfl, ?_⟩) hHeld ?_ ?_
        rotate_left
        ·rintro w' ⟨s0, s1, s2, s3, s4⟩
         go_simp
         with_reducible rfl
        rotate_left
        ·simp only [Act.put, sA, sZ, sS, i64_w, i32_w]
         rfl
        refine pure_ (i := 12) (N := some 50) (v := ?_) (a' := ?_) b92_ rfl rfl (any_of HT_.out (by kernel_rfl)) (fun _ _ _ h => h) (Or.inl ⟨by rfl, ?_⟩) ?_ ?_
        rotate_left
        ·intro w'
         go_simp
         with_reducible rfl
        rotate_left
        ·simp only [Act.put, sA, sZ, sS, i64_w, i32_w]
         rfl
        refine pure_ (i := 13) (N := some 51) (v := ?_) (a' := ?_) b93_ rfl rfl (any_of HT_.out (by kernel_rfl)) (fun _ _ _ h => h) (Or.inl ⟨by rfl, ?_⟩) ?_ ?_
        rotate_left
        ·intro w'
         go_simp
         with_reducible rfl
        rotate_left
        ·simp only [Act.put, sA, sZ, sS, i64_w, i32_w]
         rfl
        refine pure_ (i := 14) (N := some 52) (v := ?_) (a' := ?_) b94_ rfl rfl (any_of HT_.out (by kernel_rfl)) (fun _ _ _ h => h) (Or.inl ⟨by rfl, ?_⟩) ?_ ?_
        rotate_left
        ·intro w'
         go_simp
         with_reducible rfl
        rotate_left
        ·simp only [Act.put, sA, sZ, sS, i64_w, i32_w]
         rfl
        refine pure_ (i := 15) (N := some 53) (v := ?_) (a' := ?_) b95_ rfl rfl (any_of HT_.out (by kernel_rfl)) (fun _ _ _ h => h) (Or.inl ⟨by rfl, ?_⟩) ?_ ?_
        rotate_left
        ·intro w'
         go_simp
         with_reducible rfl
        rotate_left
        ·simp only [Act.put, sA, sZ, sS, i64_w, i32_w]
         rfl
        refine pure_ (i := 17) (N := some 55) (v := ?_) (a' := ?_) b118_ rfl rfl (any_of HT_.out (by kernel_rfl)) (fun _ _ _ h => h) (Or.inl ⟨by rfl, ?_⟩) ?_ ?_
        rotate_left
        ·intro w'
         go_simp
         with_reducible rfl
        rotate_left
        ·simp only [Act.put, sA, sZ, sS, i64_w, i32_w]
         rfl
        refine take_ (i := 16) (N := some 54) (v := ?_) (a' := ?_) b97_ rfl rfl (take_ofW HT_.out HW_.out (by kernel_rfl)) (fun _ _ _ h => h) (Or.inl ⟨by rfl, ?_⟩) hHeld ?_ ?_
        rotate_left
        ·rintro w' ⟨s0, s1, s2, s3, s4⟩
         go_simp
         with_reducible rfl
        rotate_left
        ·simp only [Act.put, sA, sZ, sS, i64_w, i32_w]
         rfl
        refine one_ (i := 18) (N := some 56) b98_ rfl rfl (one_of HT_.out (by kernel_rfl)) (by decide) (fun K hK => ?_)
        refine goes_ Try.func20 (by kernel_rfl) rfl #[.string t189] (by rfl) rfl rfl (by (try simp only [mT, mC, mN]); first | done | rfl | (simp only [lD, lT]; rfl)) ?_
        with_reducible refine (line_Count.calls t189 t191 _ A18.out).mono ?_
        rintro e w28 ⟨rfl, hb⟩
        refine ⟨_, rfl, ?_⟩
        have n0_ := aM (bB (g := gb186) (qy BK186.out) hb)
        have n1_ := aM (bB (g := gb187) (qy BK187.out) hb)
        have n2_ := aM (bB (g := gb188) (qy BK188.out) hb)
        have n3_ := aM (bP (by repeat (first | (with_reducible first | exact HB.out | apply ea | apply en | apply ed | refine es ?_ GE186.out | refine es ?_ GE187.out | refine es ?_ GE188.out) | exact HB.out)) hb)
        clear BK186
        clear BK187
        clear BK188
        clear HB
        have BK186 := n0_
        have BK187 := n1_
        have BK188 := n2_
        have HB := n3_
        clear n0_ n1_ n2_ n3_
        (try clear hb)
        (try clear hb2)
        (try clear hk)
        (try clear hi)
        refine hK.out _ _ ⟨(bC BK187.out 0).trans rfl, (bC BK187.out 1).trans rfl, (bC BK187.out 2).trans rfl, (bC BK187.out 3).trans rfl, (bC BK187.out 4).trans rfl⟩ (fun hHeld => ?_)
        clear hK K
        refine norm_ (a' := ?_) ?_ ?_
        rotate_left
        ·show Act.put _ (some 56) _ = _
         simp only [Act.put, sA, sZ, sS, i64_w, i32_w]
         rfl
        refine pure_ (i := 19) (N := some 57) (v := ?_) (a' := ?_) b99_ rfl rfl (any_of HT_.out (by kernel_rfl)) (fun _ _ _ h => h) (Or.inl ⟨by rfl, ?_⟩) ?_ ?_
        rotate_left
        ·intro w'
         go_simp
         with_reducible rfl
        rotate_left
        ·simp only [Act.put, sA, sZ, sS, i64_w, i32_w]
         rfl
        refine pure_ (i := 20) (N := some 58) (v := ?_) (a' := ?_) b100_ rfl rfl (any_of HT_.out (by kernel_rfl)) (fun _ _ _ h => h) (Or.inl ⟨by rfl, ?_⟩) ?_ ?_
        rotate_left
        ·intro w'
         go_simp
         with_reducible rfl
        rotate_left
        ·simp only [Act.put, sA, sZ, sS, i64_w, i32_w]
         rfl
        refine pure_ (i := 21) (N := some 59) (v := ?_) (a' := ?_) b101_ rfl rfl (any_of HT_.out (by kernel_rfl)) (fun _ _ _ h => h) (Or.inl ⟨by rfl, ?_⟩) ?_ ?_
        rotate_left
        ·intro w'
         go_simp
         with_reducible rfl
        rotate_left
        ·simp only [Act.put, sA, sZ, sS, i64_w, i32_w]
         rfl
        refine pure_ (i := 22) (N := some 60) (v := ?_) (a' := ?_) b102_ rfl rfl (any_of HT_.out (by kernel_rfl)) (fun _ _ _ h => h) (Or.inl ⟨by rfl, ?_⟩) ?_ ?_
        rotate_left
        ·intro w'
         go_simp
         with_reducible rfl
        rotate_left
        ·simp only [Act.put, sA, sZ, sS, i64_w, i32_w]
         rfl
        refine take_ (i := 23) (N := some 61) (v := ?_) (a' := ?_) b103_ rfl rfl (take_ofW HT_.out HW_.out (by kernel_rfl)) (fun _ _ _ h => h) (Or.inl ⟨by rfl, ?_⟩) hHeld ?_ ?_
        rotate_left
        ·rintro w' ⟨s0, s1, s2, s3, s4⟩
         go_simp
         with_reducible rfl
        rotate_left
        ·simp only [Act.put, sA, sZ, sS, i64_w, i32_w]
         rfl
        refine pure_ (i := 24) (N := some 62) (v := ?_) (a' := ?_) b104_ rfl rfl (any_of HT_.out (by kernel_rfl)) (fun _ _ _ h => h) (Or.inl ⟨by rfl, ?_⟩) ?_ ?_
        rotate_left
        ·intro w'
         go_simp
         with_reducible rfl
        rotate_left
        ·simp only [Act.put, sA, sZ, sS, i64_w, i32_w]
         rfl
        refine pure_ (i := 25) (N := some 63) (v := ?_) (a' := ?_) b105_ rfl rfl (any_of HT_.out (by kernel_rfl)) (fun _ _ _ h => h) (Or.inl ⟨by rfl, ?_⟩) ?_ ?_
        rotate_left
        ·intro w'
         go_simp
         with_reducible rfl
        rotate_left
        ·simp only [Act.put, sA, sZ, sS, i64_w, i32_w]
         rfl
        refine pure_ (i := 26) (N := some 64) (v := ?_) (a' := ?_) b106_ rfl rfl (any_of HT_.out (by kernel_rfl)) (fun _ _ _ h => h) (Or.inl ⟨by rfl, ?_⟩) ?_ ?_
        rotate_left
        ·intro w'
         go_simp
         with_reducible rfl
        rotate_left
        ·simp only [Act.put, sA, sZ, sS, i64_w, i32_w]
         rfl
        refine pure_ (i := 27) (N := some 65) (v := ?_) (a' := ?_) b107_ rfl rfl (any_of HT_.out (by kernel_rfl)) (fun _ _ _ h => h) (Or.inl ⟨by rfl, ?_⟩) ?_ ?_
        rotate_left
        ·intro w'
         go_simp
         with_reducible rfl
        rotate_left
        ·simp only [Act.put, sA, sZ, sS, i64_w, i32_w]
         rfl
        refine take_ (i := 28) (N := some 66) (v := ?_) (a' := ?_) b108_ rfl rfl (take_ofW HT_.out HW_.out (by kernel_rfl)) (fun _ _ _ h => h) (Or.inl ⟨by rfl, ?_⟩) hHeld ?_ ?_
        rotate_left
        ·rintro w' ⟨s0, s1, s2, s3, s4⟩
         go_simp
         with_reducible rfl
        rotate_left
        ·simp only [Act.put, sA, sZ, sS, i64_w, i32_w]
         rfl
        refine one_ (i := 29) (N := some 67) b109_ rfl rfl (one_of HT_.out (by kernel_rfl)) (by decide) (fun K hK => ?_)
        refine goes_ Try.func21 (by kernel_rfl) rfl #[.string a2_2, .string (⟨#[10]⟩ : ByteArray)] (by rfl) rfl rfl (by (try simp only [mT, mC, mN]); first | done | rfl | (simp only [lD, lT]; rfl)) ?_
        with_reducible refine (strings_Contains.calls a2_2 (⟨#[10]⟩ : ByteArray) true _ A25.out).mono ?_
        rintro e w29 ⟨rfl, hb⟩
        refine ⟨_, rfl, ?_⟩
        have n0_ := aM (bB (g := gb186) (qy BK186.out) hb)
        have n1_ := aM (bB (g := gb187) (qy BK187.out) hb)
        have n2_ := aM (bB (g := gb188) (qy BK188.out) hb)
        have n3_ := aM (bP (by repeat (first | (with_reducible first | exact HB.out | apply ea | apply en | apply ed | refine es ?_ GE186.out | refine es ?_ GE187.out | refine es ?_ GE188.out) | exact HB.out)) hb)
        clear BK186
        clear BK187
        clear BK188
        clear HB
        have BK186 := n0_
        have BK187 := n1_
        have BK188 := n2_
        have HB := n3_
        clear n0_ n1_ n2_ n3_
        (try clear hb)
        (try clear hb2)
        (try clear hk)
        (try clear hi)
        refine hK.out _ _ ⟨(bC BK187.out 0).trans rfl, (bC BK187.out 1).trans rfl, (bC BK187.out 2).trans rfl, (bC BK187.out 3).trans rfl, (bC BK187.out 4).trans rfl⟩ (fun hHeld => ?_)
        clear hK K
        refine norm_ (a' := ?_) ?_ ?_
        rotate_left
        ·show Act.put _ (some 67) _ = _
         simp only [Act.put, sA, sZ, sS, i64_w, i32_w]
         rfl
        refine pure_ (i := 30) (N := some 68) (v := ?_) (a' := ?_) b110_ rfl rfl (any_of HT_.out (by kernel_rfl)) (fun _ _ _ h => h) (Or.inl ⟨by rfl, ?_⟩) ?_ ?_
        rotate_left
        ·intro w'
         go_simp
         with_reducible rfl
        rotate_left
        ·simp only [Act.put, sA, sZ, sS, i64_w, i32_w]
         rfl
        refine pure_ (i := 31) (N := some 69) (v := ?_) (a' := ?_) b111_ rfl rfl (any_of HT_.out (by kernel_rfl)) (fun _ _ _ h => h) (Or.inl ⟨by rfl, ?_⟩) ?_ ?_
        rotate_left
        ·intro w'
         go_simp
         with_reducible rfl
        rotate_left
        ·simp only [Act.put, sA, sZ, sS, i64_w, i32_w]
         rfl
        refine pure_ (i := 32) (N := some 70) (v := undef) (a' := ?_) b112_ rfl rfl (any_of HT_.out (by kernel_rfl)) (fun _ _ _ h => h) (Or.inr ⟨by rfl, rfl⟩) ?_ ?_
        rotate_left
        ·simp only [Act.put, sA, sZ, sS, i64_w, i32_w]
         rfl
        refine pure_ (i := 33) (N := some 71) (v := undef) (a' := ?_) b113_ rfl rfl (any_of HT_.out (by kernel_rfl)) (fun _ _ _ h => h) (Or.inr ⟨by rfl, rfl⟩) ?_ ?_
        rotate_left
        ·simp only [Act.put, sA, sZ, sS, i64_w, i32_w]
         rfl
        refine pure_ (i := 34) (N := some 72) (v := undef) (a' := ?_) b114_ rfl rfl (any_of HT_.out (by kernel_rfl)) (fun _ _ _ h => h) (Or.inr ⟨by rfl, rfl⟩) ?_ ?_
        rotate_left
        ·simp only [Act.put, sA, sZ, sS, i64_w, i32_w]
         rfl
        refine pure_ (i := 35) (N := some 73) (v := undef) (a' := ?_) b115_ rfl rfl (any_of HT_.out (by kernel_rfl)) (fun _ _ _ h => h) (Or.inr ⟨by rfl, rfl⟩) ?_ ?_
        rotate_left
        ·simp only [Act.put, sA, sZ, sS, i64_w, i32_w]
         rfl
        refine pure_ (i := 36) (N := some 74) (v := ?_) (a' := ?_) b116_ rfl rfl (any_of HT_.out (by kernel_rfl)) (fun _ _ _ h => h) (Or.inl ⟨by rfl, ?_⟩) ?_ ?_
        rotate_left
        ·intro w'
         go_simp
         with_reducible rfl
        rotate_left
        ·simp only [Act.put, sA, sZ, sS, i64_w, i32_w]
         rfl
        refine done_ (done_of HT_.out (by kernel_rfl)) ?_
        try go_wp2
        go_meet
        case rel => exact ⟨_, (true), (by first | rfl | (simp; done) | (simp [*]; done)), H', ⟨by first | omega | exact Nat.le_refl _⟩, ⟨by exact qy BK186.out⟩, ⟨by exact qy BK187.out⟩, ⟨by exact qy BK188.out⟩, ⟨by repeat (first | (with_reducible first | exact HB.out | apply ea | apply en | apply ed | refine es ?_ GE186.out | refine es ?_ GE187.out | refine es ?_ GE188.out) | exact HB.out)⟩⟩
       ·replace c26 := Bool.eq_false_iff.mpr c26
        subst c26
        have H1 : (subst_Do.j0 k a1 t189 (decide ((a2_3.size : Int) > 4096)) a0_0 l0_1 a2_0 a2_1 a2_2 a2_3 a2_4) = some (r1, r2, r3, r4, r5, r6, r7) := by rw [if_neg (show ¬ (false = true) by decide)] at H; exact H
        clear H
        have H := H1
        clear H1
        have H' := aM H
        clear H
        try go_wp2
        have n0_ := aM (blk_drew BK186.out)
        have n1_ := aM (blk_drew BK187.out)
        have n2_ := aM (blk_drew BK188.out)
        have n3_ := aM (below_drew1 HB.out)
        clear BK186
        clear BK187
        clear BK188
        clear HB
        have BK186 := n0_
        have BK187 := n1_
        have BK188 := n2_
        have HB := n3_
        clear n0_ n1_ n2_ n3_
        refine start_ (n := 37) (S := fun w' => w'.cell? ⟨gb187, 0, none⟩ = some (.int .i64 a2_0) ∧ w'.cell? ⟨gb187, 1, none⟩ = some (.int .i64 a2_1) ∧ w'.cell? ⟨gb187, 2, none⟩ = some (.string a2_2) ∧ w'.cell? ⟨gb187, 3, none⟩ = some (.string a2_3) ∧ w'.cell? ⟨gb187, 4, none⟩ = some (.bool a2_4)) (ds := []) b79_ (by kernel_rfl) rfl rfl ⟨(bC BK187.out 0).trans rfl, (bC BK187.out 1).trans rfl, (bC BK187.out 2).trans rfl, (bC BK187.out 3).trans rfl, (bC BK187.out 4).trans rfl⟩ (fun hHeld => ?_); refine with_tabW subst_Do.tab2 subst_Do.bits2 (fun HT_ HW_ => ?_)
        generalize w12.drew = w30 at BK186 BK187 BK188 HB hHeld ⊢
        refine pure_ (i := 0) (N := some 38) (v := ?_) (a' := ?_) b80_ rfl rfl (any_of HT_.out (by kernel_rfl)) (fun _ _ _ h => h) (Or.inl ⟨by rfl, ?_⟩) ?_ ?_
        rotate_left
        ·intro w'
         go_simp
         with_reducible rfl
        rotate_left
        ·simp only [Act.put, sA, sZ, sS, i64_w, i32_w]
         rfl
        refine pure_ (i := 1) (N := some 39) (v := ?_) (a' := ?_) b81_ rfl rfl (any_of HT_.out (by kernel_rfl)) (fun _ _ _ h => h) (Or.inl ⟨by rfl, ?_⟩) ?_ ?_
        rotate_left
        ·intro w'
         go_simp
         with_reducible rfl
        rotate_left
        ·simp only [Act.put, sA, sZ, sS, i64_w, i32_w]
         rfl
        refine pure_ (i := 2) (N := some 40) (v := ?_) (a' := ?_) b82_ rfl rfl (any_of HT_.out (by kernel_rfl)) (fun _ _ _ h => h) (Or.inl ⟨by rfl, ?_⟩) ?_ ?_
        rotate_left
        ·intro w'
         go_simp
         with_reducible rfl
        rotate_left
        ·simp only [Act.put, sA, sZ, sS, i64_w, i32_w]
         rfl
        refine pure_ (i := 3) (N := some 41) (v := ?_) (a' := ?_) b83_ rfl rfl (any_of HT_.out (by kernel_rfl)) (fun _ _ _ h => h) (Or.inl ⟨by rfl, ?_⟩) ?_ ?_
        rotate_left
        ·intro w'
         go_simp
         with_reducible rfl
        rotate_left
        ·simp only [Act.put, sA, sZ, sS, i64_w, i32_w]
         rfl
        refine take_ (i := 4) (N := some 42) (v := ?_) (a' := ?_) b84_ rfl rfl (take_ofW HT_.out HW_.out (by kernel_rfl)) (fun _ _ _ h => h) (Or.inl ⟨by rfl, ?_⟩) hHeld ?_ ?_
        rotate_left
        ·rintro w' ⟨s0, s1, s2, s3, s4⟩
         go_simp
         with_reducible rfl
        rotate_left
        ·simp only [Act.put, sA, sZ, sS, i64_w, i32_w]
         rfl
        refine pure_ (i := 5) (N := some 43) (v := ?_) (a' := ?_) b85_ rfl rfl (any_of HT_.out (by kernel_rfl)) (fun _ _ _ h => h) (Or.inl ⟨by rfl, ?_⟩) ?_ ?_
        rotate_left
        ·intro w'
         go_simp
         with_reducible rfl
        rotate_left
        ·simp only [Act.put, sA, sZ, sS, i64_w, i32_w]
         rfl
        refine pure_ (i := 6) (N := some 44) (v := ?_) (a' := ?_) b86_ rfl rfl (any_of HT_.out (by kernel_rfl)) (fun _ _ _ h => h) (Or.inl ⟨by rfl, ?_⟩) ?_ ?_
        rotate_left
        ·intro w'
         go_simp
         with_reducible rfl
        rotate_left
        ·simp only [Act.put, sA, sZ, sS, i64_w, i32_w]
         rfl
        refine pure_ (i := 7) (N := some 45) (v := ?_) (a' := ?_) b87_ rfl rfl (any_of HT_.out (by kernel_rfl)) (fun _ _ _ h => h) (Or.inl ⟨by rfl, ?_⟩) ?_ ?_
        rotate_left
        ·intro w'
         go_simp
         with_reducible rfl
        rotate_left
        ·simp only [Act.put, sA, sZ, sS, i64_w, i32_w]
         rfl
        refine pure_ (i := 8) (N := some 46) (v := ?_) (a' := ?_) b88_ rfl rfl (any_of HT_.out (by kernel_rfl)) (fun _ _ _ h => h) (Or.inl ⟨by rfl, ?_⟩) ?_ ?_
        rotate_left
        ·intro w'
         go_simp
         with_reducible rfl
        rotate_left
        ·simp only [Act.put, sA, sZ, sS, i64_w, i32_w]
         rfl
        refine pure_ (i := 10) (N := some 48) (v := ?_) (a' := ?_) b117_ rfl rfl (any_of HT_.out (by kernel_rfl)) (fun _ _ _ h => h) (Or.inl ⟨by rfl, ?_⟩) ?_ ?_
        rotate_left
        ·intro w'
         go_simp
         with_reducible rfl
        rotate_left
        ·simp only [Act.put, sA, sZ, sS, i64_w, i32_w]
         rfl
        refine take_ (i := 9) (N := some 47) (v := ?_) (a' := ?_) b90_ rfl rfl (take_ofW HT_.out HW_.out (by kernel_rfl)) (fun _ _ _ h => h) (Or.inl ⟨by rfl, ?_⟩) hHeld ?_ ?_
        rotate_left
        ·rintro w' ⟨s0, s1, s2, s3, s4⟩
         go_simp
         with_reducible rfl
        rotate_left
        ·simp only [Act.put, sA, sZ, sS, i64_w, i32_w]
         rfl
        refine take_ (i := 11) (N := some 49) (v := ?_) (a' := ?_) b91_ rfl rfl (take_ofW HT_.out HW_.out (by kernel_rfl)) (fun _ _ _ h => h) (Or.inl ⟨by rfl, ?_⟩) hHeld ?_ ?_
        rotate_left
        ·rintro w' ⟨s0, s1, s2, s3, s4⟩
         go_simp
         with_reducible rfl
        rotate_left
        ·simp only [Act.put, sA, sZ, sS, i64_w, i32_w]
         rfl
        refine pure_ (i := 12) (N := some 50) (v := ?_) (a' := ?_) b92_ rfl rfl (any_of HT_.out (by kernel_rfl)) (fun _ _ _ h => h) (Or.inl ⟨by rfl, ?_⟩) ?_ ?_
        rotate_left
        ·intro w'
         go_simp
         with_reducible rfl
        rotate_left
        ·simp only [Act.put, sA, sZ, sS, i64_w, i32_w]
         rfl
        refine pure_ (i := 13) (N := some 51) (v := ?_) (a' := ?_) b93_ rfl rfl (any_of HT_.out (by kernel_rfl)) (fun _ _ _ h => h) (Or.inl ⟨by rfl, ?_⟩) ?_ ?_
        rotate_left
        ·intro w'
         go_simp
         with_reducible rfl
        rotate_left
        ·simp only [Act.put, sA, sZ, sS, i64_w, i32_w]
         rfl
        refine pure_ (i := 14) (N := some 52) (v := ?_) (a' := ?_) b94_ rfl rfl (any_of HT_.out (by kernel_rfl)) (fun _ _ _ h => h) (Or.inl ⟨by rfl, ?_⟩) ?_ ?_
        rotate_left
        ·intro w'
         go_simp
         with_reducible rfl
        rotate_left
        ·simp only [Act.put, sA, sZ, sS, i64_w, i32_w]
         rfl
        refine pure_ (i := 15) (N := some 53) (v := ?_) (a' := ?_) b95_ rfl rfl (any_of HT_.out (by kernel_rfl)) (fun _ _ _ h => h) (Or.inl ⟨by rfl, ?_⟩) ?_ ?_
        rotate_left
        ·intro w'
         go_simp
         with_reducible rfl
        rotate_left
        ·simp only [Act.put, sA, sZ, sS, i64_w, i32_w]
         rfl
        refine pure_ (i := 17) (N := some 55) (v := ?_) (a' := ?_) b118_ rfl rfl (any_of HT_.out (by kernel_rfl)) (fun _ _ _ h => h) (Or.inl ⟨by rfl, ?_⟩) ?_ ?_
        rotate_left
        ·intro w'
         go_simp
         with_reducible rfl
        rotate_left
        ·simp only [Act.put, sA, sZ, sS, i64_w, i32_w]
         rfl
        refine take_ (i := 16) (N := some 54) (v := ?_) (a' := ?_) b97_ rfl rfl (take_ofW HT_.out HW_.out (by kernel_rfl)) (fun _ _ _ h => h) (Or.inl ⟨by rfl, ?_⟩) hHeld ?_ ?_
        rotate_left
        ·rintro w' ⟨s0, s1, s2, s3, s4⟩
         go_simp
         with_reducible rfl
        rotate_left
        ·simp only [Act.put, sA, sZ, sS, i64_w, i32_w]
         rfl
        refine one_ (i := 18) (N := some 56) b98_ rfl rfl (one_of HT_.out (by kernel_rfl)) (by decide) (fun K hK => ?_)
        refine goes_ Try.func20 (by kernel_rfl) rfl #[.string t189] (by rfl) rfl rfl (by (try simp only [mT, mC, mN]); first | done | rfl | (simp only [lD, lT]; rfl)) ?_
        with_reducible refine (line_Count.calls t189 t191 _ A18.out).mono ?_
        rintro e w31 ⟨rfl, hb⟩
        refine ⟨_, rfl, ?_⟩
        have n0_ := aM (bB (g := gb186) (qy BK186.out) hb)
        have n1_ := aM (bB (g := gb187) (qy BK187.out) hb)
        have n2_ := aM (bB (g := gb188) (qy BK188.out) hb)
        have n3_ := aM (bP (by repeat (first | (with_reducible first | exact HB.out | apply ea | apply en | apply ed | refine es ?_ GE186.out | refine es ?_ GE187.out | refine es ?_ GE188.out) | exact HB.out)) hb)
        clear BK186
        clear BK187
        clear BK188
        clear HB
        have BK186 := n0_
        have BK187 := n1_
        have BK188 := n2_
        have HB := n3_
        clear n0_ n1_ n2_ n3_
        (try clear hb)
        (try clear hb2)
        (try clear hk)
        (try clear hi)
        refine hK.out _ _ ⟨(bC BK187.out 0).trans rfl, (bC BK187.out 1).trans rfl, (bC BK187.out 2).trans rfl, (bC BK187.out 3).trans rfl, (bC BK187.out 4).trans rfl⟩ (fun hHeld => ?_)
        clear hK K
        refine norm_ (a' := ?_) ?_ ?_
        rotate_left
        ·show Act.put _ (some 56) _ = _
         simp only [Act.put, sA, sZ, sS, i64_w, i32_w]
         rfl
        refine pure_ (i := 19) (N := some 57) (v := ?_) (a' := ?_) b99_ rfl rfl (any_of HT_.out (by kernel_rfl)) (fun _ _ _ h => h) (Or.inl ⟨by rfl, ?_⟩) ?_ ?_
        rotate_left
        ·intro w'
         go_simp
         with_reducible rfl
        rotate_left
        ·simp only [Act.put, sA, sZ, sS, i64_w, i32_w]
         rfl
        refine pure_ (i := 20) (N := some 58) (v := ?_) (a' := ?_) b100_ rfl rfl (any_of HT_.out (by kernel_rfl)) (fun _ _ _ h => h) (Or.inl ⟨by rfl, ?_⟩) ?_ ?_
        rotate_left
        ·intro w'
         go_simp
         with_reducible rfl
        rotate_left
        ·simp only [Act.put, sA, sZ, sS, i64_w, i32_w]
         rfl
        refine pure_ (i := 21) (N := some 59) (v := ?_) (a' := ?_) b101_ rfl rfl (any_of HT_.out (by kernel_rfl)) (fun _ _ _ h => h) (Or.inl ⟨by rfl, ?_⟩) ?_ ?_
        rotate_left
        ·intro w'
         go_simp
         with_reducible rfl
        rotate_left
        ·simp only [Act.put, sA, sZ, sS, i64_w, i32_w]
         rfl
        refine pure_ (i := 22) (N := some 60) (v := ?_) (a' := ?_) b102_ rfl rfl (any_of HT_.out (by kernel_rfl)) (fun _ _ _ h => h) (Or.inl ⟨by rfl, ?_⟩) ?_ ?_
        rotate_left
        ·intro w'
         go_simp
         with_reducible rfl
        rotate_left
        ·simp only [Act.put, sA, sZ, sS, i64_w, i32_w]
         rfl
        refine take_ (i := 23) (N := some 61) (v := ?_) (a' := ?_) b103_ rfl rfl (take_ofW HT_.out HW_.out (by kernel_rfl)) (fun _ _ _ h => h) (Or.inl ⟨by rfl, ?_⟩) hHeld ?_ ?_
        rotate_left
        ·rintro w' ⟨s0, s1, s2, s3, s4⟩
         go_simp
         with_reducible rfl
        rotate_left
        ·simp only [Act.put, sA, sZ, sS, i64_w, i32_w]
         rfl
        refine pure_ (i := 24) (N := some 62) (v := ?_) (a' := ?_) b104_ rfl rfl (any_of HT_.out (by kernel_rfl)) (fun _ _ _ h => h) (Or.inl ⟨by rfl, ?_⟩) ?_ ?_
        rotate_left
        ·intro w'
         go_simp
         with_reducible rfl
        rotate_left
        ·simp only [Act.put, sA, sZ, sS, i64_w, i32_w]
         rfl
        refine pure_ (i := 25) (N := some 63) (v := ?_) (a' := ?_) b105_ rfl rfl (any_of HT_.out (by kernel_rfl)) (fun _ _ _ h => h) (Or.inl ⟨by rfl, ?_⟩) ?_ ?_
        rotate_left
        ·intro w'
         go_simp
         with_reducible rfl
        rotate_left
        ·simp only [Act.put, sA, sZ, sS, i64_w, i32_w]
         rfl
        refine pure_ (i := 26) (N := some 64) (v := ?_) (a' := ?_) b106_ rfl rfl (any_of HT_.out (by kernel_rfl)) (fun _ _ _ h => h) (Or.inl ⟨by rfl, ?_⟩) ?_ ?_
        rotate_left
        ·intro w'
         go_simp
         with_reducible rfl
        rotate_left
        ·simp only [Act.put, sA, sZ, sS, i64_w, i32_w]
         rfl
        refine pure_ (i := 27) (N := some 65) (v := ?_) (a' := ?_) b107_ rfl rfl (any_of HT_.out (by kernel_rfl)) (fun _ _ _ h => h) (Or.inl ⟨by rfl, ?_⟩) ?_ ?_
        rotate_left
        ·intro w'
         go_simp
         with_reducible rfl
        rotate_left
        ·simp only [Act.put, sA, sZ, sS, i64_w, i32_w]
         rfl
        refine take_ (i := 28) (N := some 66) (v := ?_) (a' := ?_) b108_ rfl rfl (take_ofW HT_.out HW_.out (by kernel_rfl)) (fun _ _ _ h => h) (Or.inl ⟨by rfl, ?_⟩) hHeld ?_ ?_
        rotate_left
        ·rintro w' ⟨s0, s1, s2, s3, s4⟩
         go_simp
         with_reducible rfl
        rotate_left
        ·simp only [Act.put, sA, sZ, sS, i64_w, i32_w]
         rfl
        refine one_ (i := 29) (N := some 67) b109_ rfl rfl (one_of HT_.out (by kernel_rfl)) (by decide) (fun K hK => ?_)
        refine goes_ Try.func21 (by kernel_rfl) rfl #[.string a2_2, .string (⟨#[10]⟩ : ByteArray)] (by rfl) rfl rfl (by (try simp only [mT, mC, mN]); first | done | rfl | (simp only [lD, lT]; rfl)) ?_
        with_reducible refine (strings_Contains.calls a2_2 (⟨#[10]⟩ : ByteArray) false _ A25.out).mono ?_
        rintro e w32 ⟨rfl, hb⟩
        refine ⟨_, rfl, ?_⟩
        have n0_ := aM (bB (g := gb186) (qy BK186.out) hb)
        have n1_ := aM (bB (g := gb187) (qy BK187.out) hb)
        have n2_ := aM (bB (g := gb188) (qy BK188.out) hb)
        have n3_ := aM (bP (by repeat (first | (with_reducible first | exact HB.out | apply ea | apply en | apply ed | refine es ?_ GE186.out | refine es ?_ GE187.out | refine es ?_ GE188.out) | exact HB.out)) hb)
        clear BK186
        clear BK187
        clear BK188
        clear HB
        have BK186 := n0_
        have BK187 := n1_
        have BK188 := n2_
        have HB := n3_
        clear n0_ n1_ n2_ n3_
        (try clear hb)
        (try clear hb2)
        (try clear hk)
        (try clear hi)
        refine hK.out _ _ ⟨(bC BK187.out 0).trans rfl, (bC BK187.out 1).trans rfl, (bC BK187.out 2).trans rfl, (bC BK187.out 3).trans rfl, (bC BK187.out 4).trans rfl⟩ (fun hHeld => ?_)
        clear hK K
        refine norm_ (a' := ?_) ?_ ?_
        rotate_left
        ·show Act.put _ (some 67) _ = _
         simp only [Act.put, sA, sZ, sS, i64_w, i32_w]
         rfl
        refine pure_ (i := 30) (N := some 68) (v := ?_) (a' := ?_) b110_ rfl rfl (any_of HT_.out (by kernel_rfl)) (fun _ _ _ h => h) (Or.inl ⟨by rfl, ?_⟩) ?_ ?_
        rotate_left
        ·intro w'
         go_simp
         with_reducible rfl
        rotate_left
        ·simp only [Act.put, sA, sZ, sS, i64_w, i32_w]
         rfl
        refine pure_ (i := 31) (N := some 69) (v := ?_) (a' := ?_) b111_ rfl rfl (any_of HT_.out (by kernel_rfl)) (fun _ _ _ h => h) (Or.inl ⟨by rfl, ?_⟩) ?_ ?_
        rotate_left
        ·intro w'
         go_simp
         with_reducible rfl
        rotate_left
        ·simp only [Act.put, sA, sZ, sS, i64_w, i32_w]
         rfl
        refine pure_ (i := 32) (N := some 70) (v := ?_) (a' := ?_) b112_ rfl rfl (any_of HT_.out (by kernel_rfl)) (fun _ _ _ h => h) (Or.inl ⟨by rfl, ?_⟩) ?_ ?_
        rotate_left
        ·intro w'
         go_simp
         with_reducible rfl
        rotate_left
        ·simp only [Act.put, sA, sZ, sS, i64_w, i32_w]
         rfl
        refine take_ (i := 33) (N := some 71) (v := ?_) (a' := ?_) b113_ rfl rfl (take_ofW HT_.out HW_.out (by kernel_rfl)) (fun _ _ _ h => h) (Or.inl ⟨by rfl, ?_⟩) hHeld ?_ ?_
        rotate_left
        ·rintro w' ⟨s0, s1, s2, s3, s4⟩
         go_simp
         with_reducible rfl
        rotate_left
        ·simp only [Act.put, sA, sZ, sS, i64_w, i32_w]
         rfl
        refine pure_ (i := 34) (N := some 72) (v := ?_) (a' := ?_) b114_ rfl rfl (any_of HT_.out (by kernel_rfl)) (fun _ _ _ h => h) (Or.inl ⟨by rfl, ?_⟩) ?_ ?_
        rotate_left
        ·intro w'
         go_simp
         with_reducible rfl
        rotate_left
        ·simp only [Act.put, sA, sZ, sS, i64_w, i32_w]
         rfl
        refine pure_ (i := 35) (N := some 73) (v := ?_) (a' := ?_) b115_ rfl rfl (any_of HT_.out (by kernel_rfl)) (fun _ _ _ h => h) (Or.inl ⟨by rfl, ?_⟩) ?_ ?_
        rotate_left
        ·intro w'
         go_simp
         with_reducible rfl
        rotate_left
        ·simp only [Act.put, sA, sZ, sS, i64_w, i32_w]
         rfl
        refine pure_ (i := 36) (N := some 74) (v := ?_) (a' := ?_) b116_ rfl rfl (any_of HT_.out (by kernel_rfl)) (fun _ _ _ h => h) (Or.inl ⟨by rfl, ?_⟩) ?_ ?_
        rotate_left
        ·intro w'
         go_simp
         with_reducible rfl
        rotate_left
        ·simp only [Act.put, sA, sZ, sS, i64_w, i32_w]
         rfl
        refine done_ (done_of HT_.out (by kernel_rfl)) ?_
        try go_wp2
        go_meet
        case rel => exact ⟨_, (decide ((a2_3.size : Int) > 4096)), (by first | rfl | (simp; done) | (simp [*]; done)), H', ⟨by first | omega | exact Nat.le_refl _⟩, ⟨by exact qy BK186.out⟩, ⟨by exact qy BK187.out⟩, ⟨by exact qy BK188.out⟩, ⟨by repeat (first | (with_reducible first | exact HB.out | apply ea | apply en | apply ed | refine es ?_ GE186.out | refine es ?_ GE187.out | refine es ?_ GE188.out) | exact HB.out)⟩⟩
  ·rw [if_neg c13] at H
   have c13b0 : (t190 == 0) = false := beq_eq_false_iff_ne.mpr c13
   have c13b1 : (t190 != 0) = true := bne_iff_ne.mpr c13
   (first | rw [c13b0] | (simp only [i64_w, i32_w]; rw [c13b0]) | skip)
   have H' := aM H
   clear H
   try go_wp2
   have n0_ := aM (blk_drew BK186.out)
   have n1_ := aM (blk_drew BK187.out)
   have n2_ := aM (blk_drew BK188.out)
   have n3_ := aM (below_drew1 HB.out)
   clear BK186
   clear BK187
   clear BK188
   clear HB
   have BK186 := n0_
   have BK187 := n1_
   have BK188 := n2_
   have HB := n3_
   clear n0_ n1_ n2_ n3_
   refine start_ (n := 37) (S := fun w' => True) (ds := []) b79_ (by kernel_rfl) rfl rfl trivial (fun hHeld => ?_); refine with_tabW subst_Do.tab2 subst_Do.bits2 (fun HT_ HW_ => ?_)
   generalize w12.drew = w33 at BK186 BK187 BK188 HB hHeld ⊢
   refine pure_ (i := 0) (N := some 38) (v := ?_) (a' := ?_) b80_ rfl rfl (any_of HT_.out (by kernel_rfl)) (fun _ _ _ h => h) (Or.inl ⟨by rfl, ?_⟩) ?_ ?_
   rotate_left
   ·intro w'
    go_simp
    with_reducible rfl
   rotate_left
   ·simp only [Act.put, sA, sZ, sS, i64_w, i32_w]
    rfl
   refine pure_ (i := 1) (N := some 39) (v := ?_) (a' := ?_) b81_ rfl rfl (any_of HT_.out (by kernel_rfl)) (fun _ _ _ h => h) (Or.inl ⟨by rfl, ?_⟩) ?_ ?_
   rotate_left
   ·intro w'
    go_simp
    with_reducible rfl
   rotate_left
   ·simp only [Act.put, sA, sZ, sS, i64_w, i32_w]
    rfl
   refine pure_ (i := 2) (N := some 40) (v := ?_) (a' := ?_) b82_ rfl rfl (any_of HT_.out (by kernel_rfl)) (fun _ _ _ h => h) (Or.inl ⟨by rfl, ?_⟩) ?_ ?_
   rotate_left
   ·intro w'
    go_simp
    with_reducible rfl
   rotate_left
   ·simp only [Act.put, sA, sZ, sS, i64_w, i32_w]
    rfl
   refine pure_ (i := 3) (N := some 41) (v := undef) (a' := ?_) b83_ rfl rfl (any_of HT_.out (by kernel_rfl)) (fun _ _ _ h => h) (Or.inr ⟨by rfl, rfl⟩) ?_ ?_
   rotate_left
   ·simp only [Act.put, sA, sZ, sS, i64_w, i32_w]
    rfl
   refine pure_ (i := 4) (N := some 42) (v := undef) (a' := ?_) b84_ rfl rfl (any_of HT_.out (by kernel_rfl)) (fun _ _ _ h => h) (Or.inr ⟨by rfl, rfl⟩) ?_ ?_
   rotate_left
   ·simp only [Act.put, sA, sZ, sS, i64_w, i32_w]
    rfl
   refine pure_ (i := 5) (N := some 43) (v := undef) (a' := ?_) b85_ rfl rfl (any_of HT_.out (by kernel_rfl)) (fun _ _ _ h => h) (Or.inr ⟨by rfl, rfl⟩) ?_ ?_
   rotate_left
   ·simp only [Act.put, sA, sZ, sS, i64_w, i32_w]
    rfl
   refine pure_ (i := 6) (N := some 44) (v := ?_) (a' := ?_) b86_ rfl rfl (any_of HT_.out (by kernel_rfl)) (fun _ _ _ h => h) (Or.inl ⟨by rfl, ?_⟩) ?_ ?_
   rotate_left
   ·intro w'
    go_simp
    with_reducible rfl
   rotate_left
   ·simp only [Act.put, sA, sZ, sS, i64_w, i32_w]
    rfl
   refine pure_ (i := 7) (N := some 45) (v := ?_) (a' := ?_) b87_ rfl rfl (any_of HT_.out (by kernel_rfl)) (fun _ _ _ h => h) (Or.inl ⟨by rfl, ?_⟩) ?_ ?_
   rotate_left
   ·intro w'
    go_simp
    with_reducible rfl
   rotate_left
   ·simp only [Act.put, sA, sZ, sS, i64_w, i32_w]
    rfl
   refine pure_ (i := 8) (N := some 46) (v := undef) (a' := ?_) b88_ rfl rfl (any_of HT_.out (by kernel_rfl)) (fun _ _ _ h => h) (Or.inr ⟨by rfl, rfl⟩) ?_ ?_
   rotate_left
   ·simp only [Act.put, sA, sZ, sS, i64_w, i32_w]
    rfl
   refine pure_ (i := 9) (N := some 47) (v := undef) (a' := ?_) b89_ rfl rfl (any_of HT_.out (by kernel_rfl)) (fun _ _ _ h => h) (Or.inr ⟨by rfl, rfl⟩) ?_ ?_
   rotate_left
   ·simp only [Act.put, sA, sZ, sS, i64_w, i32_w]
    rfl
   refine pure_ (i := 10) (N := some 48) (v := undef) (a' := ?_) b90_ rfl rfl (any_of HT_.out (by kernel_rfl)) (fun _ _ _ h => h) (Or.inr ⟨by rfl, rfl⟩) ?_ ?_
   rotate_left
   ·simp only [Act.put, sA, sZ, sS, i64_w, i32_w]
    rfl
   refine pure_ (i := 11) (N := some 49) (v := undef) (a' := ?_) b91_ rfl rfl (any_of HT_.out (by kernel_rfl)) (fun _ _ _ h => h) (Or.inr ⟨by rfl, rfl⟩) ?_ ?_
   rotate_left
   ·simp only [Act.put, sA, sZ, sS, i64_w, i32_w]
    rfl
   refine pure_ (i := 12) (N := some 50) (v := undef) (a' := ?_) b92_ rfl rfl (any_of HT_.out (by kernel_rfl)) (fun _ _ _ h => h) (Or.inr ⟨by rfl, rfl⟩) ?_ ?_
   rotate_left
   ·simp only [Act.put, sA, sZ, sS, i64_w, i32_w]
    rfl
   refine pure_ (i := 13) (N := some 51) (v := ?_) (a' := ?_) b93_ rfl rfl (any_of HT_.out (by kernel_rfl)) (fun _ _ _ h => h) (Or.inl ⟨by rfl, ?_⟩) ?_ ?_
   rotate_left
   ·intro w'
    go_simp
    with_reducible rfl
   rotate_left
   ·simp only [Act.put, sA, sZ, sS, i64_w, i32_w]
    rfl
   refine pure_ (i := 14) (N := some 52) (v := ?_) (a' := ?_) b94_ rfl rfl (any_of HT_.out (by kernel_rfl)) (fun _ _ _ h => h) (Or.inl ⟨by rfl, ?_⟩) ?_ ?_
   rotate_left
   ·intro w'
    go_simp
    with_reducible rfl
   rotate_left
   ·simp only [Act.put, sA, sZ, sS, i64_w, i32_w]
    rfl
   refine pure_ (i := 15) (N := some 53) (v := undef) (a' := ?_) b95_ rfl rfl (any_of HT_.out (by kernel_rfl)) (fun _ _ _ h => h) (Or.inr ⟨by rfl, rfl⟩) ?_ ?_
   rotate_left
   ·simp only [Act.put, sA, sZ, sS, i64_w, i32_w]
    rfl
   refine pure_ (i := 16) (N := some 54) (v := undef) (a' := ?_) b96_ rfl rfl (any_of HT_.out (by kernel_rfl)) (fun _ _ _ h => h) (Or.inr ⟨by rfl, rfl⟩) ?_ ?_
   rotate_left
   ·simp only [Act.put, sA, sZ, sS, i64_w, i32_w]
    rfl
   refine pure_ (i := 17) (N := some 55) (v := undef) (a' := ?_) b97_ rfl rfl (any_of HT_.out (by kernel_rfl)) (fun _ _ _ h => h) (Or.inr ⟨by rfl, rfl⟩) ?_ ?_
   rotate_left
   ·simp only [Act.put, sA, sZ, sS, i64_w, i32_w]
    rfl
   refine pure_ (i := 18) (N := some 56) (v := undef) (a' := ?_) b98_ rfl rfl (any_of HT_.out (by kernel_rfl)) (fun _ _ _ h => h) (Or.inr ⟨by rfl, rfl⟩) ?_ ?_
   rotate_left
   ·simp only [Act.put, sA, sZ, sS, i64_w, i32_w]
    rfl
   refine pure_ (i := 19) (N := some 57) (v := undef) (a' := ?_) b99_ rfl rfl (any_of HT_.out (by kernel_rfl)) (fun _ _ _ h => h) (Or.inr ⟨by rfl, rfl⟩) ?_ ?_
   rotate_left
   ·simp only [Act.put, sA, sZ, sS, i64_w, i32_w]
    rfl
   refine pure_ (i := 20) (N := some 58) (v := ?_) (a' := ?_) b100_ rfl rfl (any_of HT_.out (by kernel_rfl)) (fun _ _ _ h => h) (Or.inl ⟨by rfl, ?_⟩) ?_ ?_
   rotate_left
   ·intro w'
    go_simp
    with_reducible rfl
   rotate_left
   ·simp only [Act.put, sA, sZ, sS, i64_w, i32_w]
    rfl
   refine pure_ (i := 21) (N := some 59) (v := ?_) (a' := ?_) b101_ rfl rfl (any_of HT_.out (by kernel_rfl)) (fun _ _ _ h => h) (Or.inl ⟨by rfl, ?_⟩) ?_ ?_
   rotate_left
   ·intro w'
    go_simp
    with_reducible rfl
   rotate_left
   ·simp only [Act.put, sA, sZ, sS, i64_w, i32_w]
    rfl
   refine pure_ (i := 22) (N := some 60) (v := undef) (a' := ?_) b102_ rfl rfl (any_of HT_.out (by kernel_rfl)) (fun _ _ _ h => h) (Or.inr ⟨by rfl, rfl⟩) ?_ ?_
   rotate_left
   ·simp only [Act.put, sA, sZ, sS, i64_w, i32_w]
    rfl
   refine pure_ (i := 23) (N := some 61) (v := undef) (a' := ?_) b103_ rfl rfl (any_of HT_.out (by kernel_rfl)) (fun _ _ _ h => h) (Or.inr ⟨by rfl, rfl⟩) ?_ ?_
   rotate_left
   ·simp only [Act.put, sA, sZ, sS, i64_w, i32_w]
    rfl
   refine pure_ (i := 24) (N := some 62) (v := undef) (a' := ?_) b104_ rfl rfl (any_of HT_.out (by kernel_rfl)) (fun _ _ _ h => h) (Or.inr ⟨by rfl, rfl⟩) ?_ ?_
   rotate_left
   ·simp only [Act.put, sA, sZ, sS, i64_w, i32_w]
    rfl
   refine pure_ (i := 25) (N := some 63) (v := ?_) (a' := ?_) b105_ rfl rfl (any_of HT_.out (by kernel_rfl)) (fun _ _ _ h => h) (Or.inl ⟨by rfl, ?_⟩) ?_ ?_
   rotate_left
   ·intro w'
    go_simp
    with_reducible rfl
   rotate_left
   ·simp only [Act.put, sA, sZ, sS, i64_w, i32_w]
    rfl
   refine pure_ (i := 26) (N := some 64) (v := ?_) (a' := ?_) b106_ rfl rfl (any_of HT_.out (by kernel_rfl)) (fun _ _ _ h => h) (Or.inl ⟨by rfl, ?_⟩) ?_ ?_
   rotate_left
   ·intro w'
    go_simp
    with_reducible rfl
   rotate_left
   ·simp only [Act.put, sA, sZ, sS, i64_w, i32_w]
    rfl
   refine pure_ (i := 27) (N := some 65) (v := undef) (a' := ?_) b107_ rfl rfl (any_of HT_.out (by kernel_rfl)) (fun _ _ _ h => h) (Or.inr ⟨by rfl, rfl⟩) ?_ ?_
   rotate_left
   ·simp only [Act.put, sA, sZ, sS, i64_w, i32_w]
    rfl
   refine pure_ (i := 28) (N := some 66) (v := undef) (a' := ?_) b108_ rfl rfl (any_of HT_.out (by kernel_rfl)) (fun _ _ _ h => h) (Or.inr ⟨by rfl, rfl⟩) ?_ ?_
   rotate_left
   ·simp only [Act.put, sA, sZ, sS, i64_w, i32_w]
    rfl
   refine pure_ (i := 29) (N := some 67) (v := undef) (a' := ?_) b109_ rfl rfl (any_of HT_.out (by kernel_rfl)) (fun _ _ _ h => h) (Or.inr ⟨by rfl, rfl⟩) ?_ ?_
   rotate_left
   ·simp only [Act.put, sA, sZ, sS, i64_w, i32_w]
    rfl
   refine pure_ (i := 30) (N := some 68) (v := ?_) (a' := ?_) b110_ rfl rfl (any_of HT_.out (by kernel_rfl)) (fun _ _ _ h => h) (Or.inl ⟨by rfl, ?_⟩) ?_ ?_
   rotate_left
   ·intro w'
    go_simp
    with_reducible rfl
   rotate_left
   ·simp only [Act.put, sA, sZ, sS, i64_w, i32_w]
    rfl
   refine pure_ (i := 31) (N := some 69) (v := ?_) (a' := ?_) b111_ rfl rfl (any_of HT_.out (by kernel_rfl)) (fun _ _ _ h => h) (Or.inl ⟨by rfl, ?_⟩) ?_ ?_
   rotate_left
   ·intro w'
    go_simp
    with_reducible rfl
   rotate_left
   ·simp only [Act.put, sA, sZ, sS, i64_w, i32_w]
    rfl
   refine pure_ (i := 32) (N := some 70) (v := undef) (a' := ?_) b112_ rfl rfl (any_of HT_.out (by kernel_rfl)) (fun _ _ _ h => h) (Or.inr ⟨by rfl, rfl⟩) ?_ ?_
   rotate_left
   ·simp only [Act.put, sA, sZ, sS, i64_w, i32_w]
    rfl
   refine pure_ (i := 33) (N := some 71) (v := undef) (a' := ?_) b113_ rfl rfl (any_of HT_.out (by kernel_rfl)) (fun _ _ _ h => h) (Or.inr ⟨by rfl, rfl⟩) ?_ ?_
   rotate_left
   ·simp only [Act.put, sA, sZ, sS, i64_w, i32_w]
    rfl
   refine pure_ (i := 34) (N := some 72) (v := undef) (a' := ?_) b114_ rfl rfl (any_of HT_.out (by kernel_rfl)) (fun _ _ _ h => h) (Or.inr ⟨by rfl, rfl⟩) ?_ ?_
   rotate_left
   ·simp only [Act.put, sA, sZ, sS, i64_w, i32_w]
    rfl
   refine pure_ (i := 35) (N := some 73) (v := undef) (a' := ?_) b115_ rfl rfl (any_of HT_.out (by kernel_rfl)) (fun _ _ _ h => h) (Or.inr ⟨by rfl, rfl⟩) ?_ ?_
   rotate_left
   ·simp only [Act.put, sA, sZ, sS, i64_w, i32_w]
    rfl
   refine pure_ (i := 36) (N := some 74) (v := ?_) (a' := ?_) b116_ rfl rfl (any_of HT_.out (by kernel_rfl)) (fun _ _ _ h => h) (Or.inl ⟨by rfl, ?_⟩) ?_ ?_
   rotate_left
   ·intro w'
    go_simp
    with_reducible rfl
   rotate_left
   ·simp only [Act.put, sA, sZ, sS, i64_w, i32_w]
    rfl
   refine done_ (done_of HT_.out (by kernel_rfl)) ?_
   try go_wp2
   go_meet
   case rel => exact ⟨_, (true), (by first | rfl | (simp; done) | (simp [*]; done)), H', ⟨by first | omega | exact Nat.le_refl _⟩, ⟨by exact qy BK186.out⟩, ⟨by exact qy BK187.out⟩, ⟨by exact qy BK188.out⟩, ⟨by repeat (first | (with_reducible first | exact HB.out | apply ea | apply en | apply ed | refine es ?_ GE186.out | refine es ?_ GE187.out | refine es ?_ GE188.out) | exact HB.out)⟩⟩
 case rest =>
  clear HC5
  try clear c1
  try clear c2
  try clear p2
  try clear c13
  try clear c13b0
  try clear c13b1
  try clear c20
  try clear c21
  try clear c26
  obtain ⟨kq, x74_4, rfl, HA, HJ4, BK186, BK187, BK188, HB⟩ := hcut
  cases kq with
  | zero => exact absurd HA.out (by simp [subst_Do.j0])
  | succ kj4 =>
   have H := HA.out
   clear HA
   simp only [subst_Do.j0] at H
   by_cases c34 : x74_4 = true
   ·subst c34
    have H1 : (some (0, (⟨#[]⟩ : ByteArray), ([] : List (S51)), (⟨#[]⟩ : ByteArray), ([] : List (S51)), 0, 2)) = some (r1, r2, r3, r4, r5, r6, r7) := by rw [if_pos rfl] at H; exact H
    clear H
    have H := H1
    clear H1
    simp only [Option.some.injEq, Prod.mk.injEq] at H
    obtain ⟨rfl, rfl, rfl, rfl, rfl, rfl, rfl⟩ := H
    have hnb35 := NB188_186.out
    have hnc35 := NB186_188.out
    have hnb36 := NB188_187.out
    have hnc36 := NB187_188.out
    have hcz37_0 : wc.cell? ⟨gb188, 0, none⟩ = some (.int .i64 0) := (bC BK188.out 0).trans rfl
    have hcz37_1 : wc.cell? ⟨gb188, 1, none⟩ = some (.string (⟨#[]⟩ : ByteArray)) := (bC BK188.out 1).trans rfl
    have hcz37_2 : wc.cell? ⟨gb188, 2, none⟩ = some (.slice none 0 0) := (bC BK188.out 2).trans rfl
    have hcz37_3 : wc.cell? ⟨gb188, 3, none⟩ = some (.string (⟨#[]⟩ : ByteArray)) := (bC BK188.out 3).trans rfl
    have hcz37_4 : wc.cell? ⟨gb188, 4, none⟩ = some (.slice none 0 0) := (bC BK188.out 4).trans rfl
    have hfz37_0 := bF BK188.out 0
    have hfz37_1 := bF BK188.out 1
    have hfz37_2 := bF BK188.out 2
    have hfz37_3 := bF BK188.out 3
    have hfz37_4 := bF BK188.out 4
    go_wp2
    refine bodyPost_ret (results_ctt rfl _ _ gb188 32 #[.int .i64 0, .string (⟨#[]⟩ : ByteArray), .slice none 0 0, .string (⟨#[]⟩ : ByteArray), .slice none 0 0] (0, 0) _ rfl (by (with_reducible repeat (first | apply qn | apply qd | apply qa)); refine bU (cs := #[.int .i64 0, .string (⟨#[]⟩ : ByteArray), .slice none 0 0, .string (⟨#[]⟩ : ByteArray), .slice none 0 0]) ?_ 4 _ rfl; (with_reducible repeat (first | apply qn | apply qd | apply qa)); refine bU (cs := #[.int .i64 0, .string (⟨#[]⟩ : ByteArray), .slice none 0 0, .string (⟨#[]⟩ : ByteArray), .slice none 0 0]) ?_ 3 _ rfl; (with_reducible repeat (first | apply qn | apply qd | apply qa)); refine bU (cs := #[.int .i64 0, .string (⟨#[]⟩ : ByteArray), .slice none 0 0, .string (⟨#[]⟩ : ByteArray), .slice none 0 0]) ?_ 2 _ rfl; (with_reducible repeat (first | apply qn | apply qd | apply qa)); refine bU (cs := #[.int .i64 0, .string (⟨#[]⟩ : ByteArray), .slice none 0 0, .string (⟨#[]⟩ : ByteArray), .slice none 0 0]) ?_ 1 _ rfl; (with_reducible repeat (first | apply qn | apply qd | apply qa)); refine bU (cs := #[.int .i64 0, .string (⟨#[]⟩ : ByteArray), .slice none 0 0, .string (⟨#[]⟩ : ByteArray), .slice none 0 0]) ?_ 0 _ rfl; exact qy BK188.out) Try.underlying32 rfl (by kernel_rfl)) rfl ?_
    exact ⟨_, _, by first | rfl | (simp [errW_none, errW_some] <;> rfl) | (simp [*, errW_none, errW_some] <;> rfl), by first | exact Kd.R_nil _ _ _ _ _ | exact Kd.N_nil _ _ _ _ _ | exact Kd.V_nil _ _ _ _ _ | exact Kd.Q_nil _ _ _ _ _ | exact Kd.S_nil _ _ _ _ _, by first | exact Kd.R_nil _ _ _ _ _ | exact Kd.N_nil _ _ _ _ _ | exact Kd.V_nil _ _ _ _ _ | exact Kd.Q_nil _ _ _ _ _ | exact Kd.S_nil _ _ _ _ _, by repeat (first | (with_reducible first | exact HB.out | apply ea | apply en | apply ed | refine es ?_ GE186.out | refine es ?_ GE187.out | refine es ?_ GE188.out) | exact HB.out)⟩
   ·replace c34 := Bool.eq_false_iff.mpr c34
    subst c34
    have H1 : (subst_Do.l0 kj4 a1 t189 ([] : List Int) a2_0 a0_0 l0_1 a2_0 a2_1 a2_2 a2_3 a2_4) = some (r1, r2, r3, r4, r5, r6, r7) := by rw [if_neg (show ¬ (false = true) by decide)] at H; exact H
    clear H
    have H := H1
    clear H1
    have H' := aM H
    clear H
    have hnb38 := NB187_186.out
    have hnc38 := NB186_187.out
    have hnb39 := NB187_188.out
    have hnc39 := NB188_187.out
    have hcz40_0 : wc.cell? ⟨gb187, 0, none⟩ = some (.int .i64 a2_0) := (bC BK187.out 0).trans rfl
    have hcz40_1 : wc.cell? ⟨gb187, 1, none⟩ = some (.int .i64 a2_1) := (bC BK187.out 1).trans rfl
    have hcz40_2 : wc.cell? ⟨gb187, 2, none⟩ = some (.string a2_2) := (bC BK187.out 2).trans rfl
    have hcz40_3 : wc.cell? ⟨gb187, 3, none⟩ = some (.string a2_3) := (bC BK187.out 3).trans rfl
    have hcz40_4 : wc.cell? ⟨gb187, 4, none⟩ = some (.bool a2_4) := (bC BK187.out 4).trans rfl
    have hfz40_0 := bF BK187.out 0
    have hfz40_1 := bF BK187.out 1
    have hfz40_2 := bF BK187.out 2
    have hfz40_3 := bF BK187.out 3
    have hfz40_4 := bF BK187.out 4
    go_wp2
    go_loopg [11, 12] kj4 (fun kq v11 v12 w' => ∃ (x11_2 : List Int) (x12_2 : Int), v12 = .int .i64 x12_2 ∧ Aside0 (subst_Do.l0 kq a1 t189 x11_2 x12_2 a0_0 l0_1 a2_0 a2_1 a2_2 a2_3 a2_4 = some (r1, r2, r3, r4, r5, r6, r7)) ∧ Aside0 (kq ≤ kj4) ∧ Aside0 (Kd.R (Kd.int .i64) 3 w' w.heap.size (fun _ => True) v11 x11_2) ∧ Aside0 (w'.heap[gb186]? = some (.cells #[.string a0_0, (.slice A0_1 l0_1.length c0_1)] 24 (0, 0))) ∧ Aside0 (w'.heap[gb187]? = some (.cells #[.int .i64 a2_0, .int .i64 a2_1, .string a2_2, .string a2_3, .bool a2_4] 28 (0, 0))) ∧ Aside0 (w'.heap[gb188]? = some (.cells #[.int .i64 0, .string (⟨#[]⟩ : ByteArray), (.slice none 0 0), .string (⟨#[]⟩ : ByteArray), (.slice none 0 0)] 32 (0, 0))) ∧ Aside0 (Below w.heap.size w w'))
    case atStart => exact ⟨(([] : List Int)), (a2_0), (by first | rfl | (simp; done) | (simp [*]; done)), H', ⟨Nat.le_refl _⟩, ⟨by first | exact Kd.R_nil _ _ _ _ _ | exact Kd.N_nil _ _ _ _ _ | exact Kd.V_nil _ _ _ _ _ | exact Kd.Q_nil _ _ _ _ _ | exact Kd.S_nil _ _ _ _ _⟩, ⟨by exact qy BK186.out⟩, ⟨by exact qy BK187.out⟩, ⟨by exact qy BK188.out⟩, ⟨by repeat (first | (with_reducible first | exact HB.out | apply ea | apply en | apply ed | refine es ?_ GE186.out | refine es ?_ GE187.out | refine es ?_ GE188.out) | exact HB.out)⟩⟩
    case round =>
     clear H'
     try clear c1
     try clear c2
     try clear p2
     try clear c3
     try clear c13
     try clear c13b0
     try clear c13b1
     try clear c20
     try clear c21
     try clear c26
     try clear c34
     try clear c35
     try clear c36
     try clear c38
     try clear c39
     try clear hcz37_0
     try clear hcz37_1
     try clear hcz37_2
     try clear hcz37_3
     try clear hcz37_4
     try clear hcz40_0
     try clear hcz40_1
     try clear hcz40_2
     try clear hcz40_3
     try clear hcz40_4
     try clear hfz37_0
     try clear hfz37_1
     try clear hfz37_2
     try clear hfz37_3
     try clear hfz37_4
     try clear hfz40_0
     try clear hfz40_1
     try clear hfz40_2
     try clear hfz40_3
     try clear hfz40_4
     try clear p2
     obtain ⟨x11_2, x12_2, rfl, HA, HK2, HO_11, BK186, BK187, BK188, HB⟩ := hrel
     cases gk with
     | zero => exact absurd HA.out (by simp [subst_Do.l0])
     | succ k2 =>
      have H := HA.out
      clear HA
      simp only [subst_Do.l0] at H
      by_cases c41 : x12_2 ≤ a2_1
      ·rw [if_pos c41] at H
       have c41b0 : decide (x12_2 ≤ a2_1) = true := decide_eq_true c41
       clear c41
       replace H := Option.bind_eq_some_iff.mp H
       obtain ⟨⟨t193, t194, t195⟩, A420, H⟩ := H
       replace H : ((subst_places.f k2 a0_0 l0_1 a1 a2_0 a2_1 a2_2 a2_3 a2_4 t193 t194).bind fun t196 => (if x11_2.length + t196.length < 17592186044416 then (subst_Do.l0 k2 a1 t189 (x11_2 ++ t196) (wrap64 (x12_2 + 1)) a0_0 l0_1 a2_0 a2_1 a2_2 a2_3 a2_4) else (none))) = some (r1, r2, r3, r4, r5, r6, r7) := H
       have A42 := aM A420
       clear A420
       replace H := Option.bind_eq_some_iff.mp H
       obtain ⟨t196, A430, H⟩ := H
       replace H : (if x11_2.length + t196.length < 17592186044416 then (subst_Do.l0 k2 a1 t189 (x11_2 ++ t196) (wrap64 (x12_2 + 1)) a0_0 l0_1 a2_0 a2_1 a2_2 a2_3 a2_4) else (none)) = some (r1, r2, r3, r4, r5, r6, r7) := H
       have A43 := aM A430
       clear A430
       by_cases c44 : x11_2.length + t196.length < 17592186044416
       ·rw [if_pos c44] at H
        have LMc44 := aM c44
        clear c44
        obtain ⟨y199, hy199⟩ : ∃ y_ : List Int, y_ = (x11_2 ++ t196) := ⟨_, rfl⟩
        replace H : (subst_Do.l0 k2 a1 t189 y199 (wrap64 (x12_2 + 1)) a0_0 l0_1 a2_0 a2_1 a2_2 a2_3 a2_4) = some (r1, r2, r3, r4, r5, r6, r7) := by first | (rw [hy199]; with_reducible exact H) | (have H2_ := (Option.bind_some _ _).symm.trans H; rw [hy199]; with_reducible exact H2_) | (have H2_ := (Option.bind_some _ _).symm.trans H; with_reducible exact H2_) | with_reducible exact H | (rw [hy199]; exact H) | exact H
        have Ny199 := aM hy199
        clear hy199
        have H' := aM H
        clear H
        have hnb45 := NB187_186.out
        have hnc45 := NB186_187.out
        have hnb46 := NB187_188.out
        have hnc46 := NB188_187.out
        have hcz47_0 : wr.cell? ⟨gb187, 0, none⟩ = some (.int .i64 a2_0) := (bC BK187.out 0).trans rfl
        have hcz47_1 : wr.cell? ⟨gb187, 1, none⟩ = some (.int .i64 a2_1) := (bC BK187.out 1).trans rfl
        have hcz47_2 : wr.cell? ⟨gb187, 2, none⟩ = some (.string a2_2) := (bC BK187.out 2).trans rfl
        have hcz47_3 : wr.cell? ⟨gb187, 3, none⟩ = some (.string a2_3) := (bC BK187.out 3).trans rfl
        have hcz47_4 : wr.cell? ⟨gb187, 4, none⟩ = some (.bool a2_4) := (bC BK187.out 4).trans rfl
        have hfz47_0 := bF BK187.out 0
        have hfz47_1 := bF BK187.out 1
        have hfz47_2 := bF BK187.out 2
        have hfz47_3 := bF BK187.out 3
        have hfz47_4 := bF BK187.out 4
        go_wp2_with (first | ((with_reducible refine gate_callee (f := 22) rfl ?_); refine goesL_ (some 87) rfl rfl Try.func22 (by kernel_rfl) rfl #[.string t189, .int .i64 x12_2] rfl (by (try simp only [mT, mC, mN]); first | done | rfl | (simp only [lD, lT]; rfl)) ?_; (with_reducible refine (line_Bounds.calls k2 t189 x12_2 t193 t194 t195 _ A42.out).mono ?_); rintro e w48 ⟨rfl, hb⟩; refine ⟨_, rfl, ?_⟩; have n0_ := aM (Kd.R_below (ry HO_11.out) hb); have n1_ := aM (bB (g := gb186) (qy BK186.out) hb); have n2_ := aM (bB (g := gb187) (qy BK187.out) hb); have n3_ := aM (bB (g := gb188) (qy BK188.out) hb); have n4_ := aM (bP (by repeat (first | (with_reducible first | exact HB.out | apply ea | apply en | apply ed | refine es ?_ GE186.out | refine es ?_ GE187.out | refine es ?_ GE188.out) | exact HB.out)) hb); clear HO_11 BK186 BK187 BK188 HB; have HO_11 := n0_; have BK186 := n1_; have BK187 := n2_; have BK188 := n3_; have HB := n4_; clear n0_ n1_ n2_ n3_ n4_; (try clear hb); (try clear hb2); (try clear hk); (try clear hi); have hnb49 := NB186_188.out; have hnc49 := NB188_186.out; have hcz50_0 : w48.cell? ⟨gb186, 0, none⟩ = some (.string a0_0) := (bC BK186.out 0).trans rfl; have hcz50_1 : w48.cell? ⟨gb186, 1, none⟩ = some (.slice A0_1 l0_1.length c0_1) := (bC BK186.out 1).trans rfl; have hfz50_0 := bF BK186.out 0; have hfz50_1 := bF BK186.out 1; have hcz51_0 : w48.cell? ⟨gb187, 0, none⟩ = some (.int .i64 a2_0) := (bC BK187.out 0).trans rfl; have hcz51_1 : w48.cell? ⟨gb187, 1, none⟩ = some (.int .i64 a2_1) := (bC BK187.out 1).trans rfl; have hcz51_2 : w48.cell? ⟨gb187, 2, none⟩ = some (.string a2_2) := (bC BK187.out 2).trans rfl; have hcz51_3 : w48.cell? ⟨gb187, 3, none⟩ = some (.string a2_3) := (bC BK187.out 3).trans rfl; have hcz51_4 : w48.cell? ⟨gb187, 4, none⟩ = some (.bool a2_4) := (bC BK187.out 4).trans rfl; have hfz51_0 := bF BK187.out 0; have hfz51_1 := bF BK187.out 1; have hfz51_2 := bF BK187.out 2; have hfz51_3 := bF BK187.out 3; have hfz51_4 := bF BK187.out 4) | ((with_reducible refine gate_callee (f := 23) rfl ?_); refine goesL_ (some 97) rfl rfl Try.func23 (by kernel_rfl) rfl #[.agg #[.string a0_0, .slice A0_1 l0_1.length c0_1], .int .u64 a1, .agg #[.int .i64 a2_0, .int .i64 a2_1, .string a2_2, .string a2_3, .bool a2_4], .int .i64 t193, .int .i64 t194] rfl (by (try simp only [mT, mC, mN]); first | done | rfl | (simp only [lD, lT]; rfl)) ?_; (with_reducible refine (subst_places.calls k2 a0_0 _ _ l0_1 a1 a2_0 a2_1 a2_2 a2_3 a2_4 t193 t194 t196 _ ?mx5 ?side1 ?side2 A43.out).mono ?_); (case mx5 => exact MaxOk.below HMX.out (by repeat (first | (with_reducible first | exact HB.out | apply ea | apply en | apply ed | refine es ?_ GE186.out | refine es ?_ GE187.out | refine es ?_ GE188.out) | exact HB.out))); (case side1 => repeat (first | exact (cB_ HR0_1.out HB.out) | (with_reducible refine Kd.C_alloc ?_ _) | (with_reducible refine Kd.C_drewN ?_ _) | (with_reducible refine Kd.C_drew ?_))); (case side2 => exact HC0_1.out); rintro e w52 ⟨v197, rfl, ho0, hb⟩; refine ⟨_, rfl, ?_⟩; have n0_ := aM (rE (ry HO_11.out) (Kd.R_base ho0) hb); have n1_ := aM (rL (Kd.R_new' ho0 (Kd.R_lt (ry HO_11.out))) (bZ (by repeat (first | (with_reducible first | exact HB.out | apply ea | apply en | apply ed | refine es ?_ GE186.out | refine es ?_ GE187.out | refine es ?_ GE188.out) | exact HB.out)))); have n2_ := aM (bB (g := gb186) (qy BK186.out) hb); have n3_ := aM (bB (g := gb187) (qy BK187.out) hb); have n4_ := aM (bB (g := gb188) (qy BK188.out) hb); have n5_ := aM (bP (by repeat (first | (with_reducible first | exact HB.out | apply ea | apply en | apply ed | refine es ?_ GE186.out | refine es ?_ GE187.out | refine es ?_ GE188.out) | exact HB.out)) hb); clear HO_11 BK186 BK187 BK188 HB; have HO_11 := n0_; have HO198 := n1_; have BK186 := n2_; have BK187 := n3_; have BK188 := n4_; have HB := n5_; clear n0_ n1_ n2_ n3_ n4_ n5_; (try clear hb); (try clear hb2); (try clear hk); (try clear hi); (try clear ho0); obtain ⟨Ao54, co54, eo54⟩ := Kd.R_slice HO198.out; subst eo54) | ((with_reducible refine gate_builtin (b := .append) (xs := #[.tmp 91, .tmp 97]) rfl ?_); (try (refine gate_guard (by rfl) ?_; dsimp only)); at_builtin; refine Kd.R_append_rows (Kd.int .i64) (w0 := w) w.heap.size rfl (.tmp 91) (.tmp 97) 56 3 (.int .i64 0) 8 rfl Try.underlying56 info3 rfl (by decide) (by omega) u11 x11_2 t196 _ _ _ (fun k_ => some k_ ≠ (.slice Ao54 t196.length co54 : Value).ownBlock) (fun _ => False) rfl rfl ?aO ?aR (fun _ _ h => h) (fun _ h => h.elim) ?aF ?aB ?aS ?aL ?_; (case aR => repeat (first | exact (rR HO198.out).2.2 | (with_reducible refine Kd.C_alloc ?_ _) | (with_reducible refine Kd.C_drewN ?_ _) | (with_reducible refine Kd.C_drew ?_))); (case aB => exact (by repeat (first | (with_reducible first | exact HB.out | apply ea | apply en | apply ed | refine es ?_ GE186.out | refine es ?_ GE187.out | refine es ?_ GE188.out) | exact HB.out))); (case aF => exact (fun k_ hk => Kd.fresh' (Kd.R_lt (ry HO198.out)) k_ hk)); (case aO => exact (by (with_reducible repeat (first | apply ra | apply rn | apply rd_)); exact rM HO_11.out (fun _ hk => hk.2))); (case aS => exact (bZ (by repeat (first | (with_reducible first | exact HB.out | apply ea | apply en | apply ed | refine es ?_ GE186.out | refine es ?_ GE187.out | refine es ?_ GE188.out) | exact HB.out)))); (case aL => have := LMc44.out; omega); intro v200 w53 ho hb hg hat; rw [← Ny199.out] at ho; have n0_ := aM (blk_grown (g := gb186) (qy BK186.out) hg (Kd.R_ne HO_11.out BK186.out (by decide))); have n1_ := aM (blk_grown (g := gb187) (qy BK187.out) hg (Kd.R_ne HO_11.out BK187.out (by decide))); have n2_ := aM (blk_grown (g := gb188) (qy BK188.out) hg (Kd.R_ne HO_11.out BK188.out (by decide))); have n3_ := aM (Kd.R_after (ok := (fun _ => True)) (ry HO198.out) hg hat); have n4_ := aM (hb); have n5_ := aM (ho); clear BK186 BK187 BK188 HO198 HB HO_11; have BK186 := n0_; have BK187 := n1_; have BK188 := n2_; have HO198 := n3_; have HB := n4_; have HO201 := n5_; clear n0_ n1_ n2_ n3_ n4_ n5_; clear ho hb hg hat))
        go_roundg k2
        case measure => have := HJ4.out; have := HK2.out; omega
        case rel => exact ⟨(y199), (wrap64 (x12_2 + 1)), (by first | rfl | (simp; done) | (simp [*]; done)), H', ⟨by have := HJ4.out; have := HK2.out; omega⟩, ⟨by (with_reducible repeat (first | apply ra | apply rn | apply rd_)); exact rM HO201.out (fun _ hk => trivial)⟩, ⟨by exact qy BK186.out⟩, ⟨by exact qy BK187.out⟩, ⟨by exact qy BK188.out⟩, ⟨by repeat (first | (with_reducible first | exact HB.out | apply ea | apply en | apply ed | refine es ?_ GE186.out | refine es ?_ GE187.out | refine es ?_ GE188.out) | exact HB.out)⟩⟩
       ·rw [if_neg c44] at H
        exact absurd H (by simp)
      ·rw [if_neg c41] at H
       have c41b0 : decide (x12_2 ≤ a2_1) = false := decide_eq_false c41
       clear c41
       by_cases c55 : (x11_2.length : Int) = 0
       ·rw [if_pos c55] at H
        have c55b0 : ((x11_2.length : Int) == 0) = true := beq_iff_eq.mpr c55
        have c55b1 : ((x11_2.length : Int) != 0) = false := bne_eq_false_iff_eq.mpr c55
        clear c55
        simp only [Option.some.injEq, Prod.mk.injEq] at H
        obtain ⟨rfl, rfl, rfl, rfl, rfl, rfl, rfl⟩ := H
        have hnb56 := NB187_186.out
        have hnc56 := NB186_187.out
        have hnb57 := NB187_188.out
        have hnc57 := NB188_187.out
        have hcz58_0 : wr.cell? ⟨gb187, 0, none⟩ = some (.int .i64 a2_0) := (bC BK187.out 0).trans rfl
        have hcz58_1 : wr.cell? ⟨gb187, 1, none⟩ = some (.int .i64 a2_1) := (bC BK187.out 1).trans rfl
        have hcz58_2 : wr.cell? ⟨gb187, 2, none⟩ = some (.string a2_2) := (bC BK187.out 2).trans rfl
        have hcz58_3 : wr.cell? ⟨gb187, 3, none⟩ = some (.string a2_3) := (bC BK187.out 3).trans rfl
        have hcz58_4 : wr.cell? ⟨gb187, 4, none⟩ = some (.bool a2_4) := (bC BK187.out 4).trans rfl
        have hfz58_0 := bF BK187.out 0
        have hfz58_1 := bF BK187.out 1
        have hfz58_2 := bF BK187.out 2
        have hfz58_3 := bF BK187.out 3
        have hfz58_4 := bF BK187.out 4
        obtain ⟨Ao59, co59, eo59⟩ := Kd.R_slice HO_11.out
        subst eo59
        have hnb60 := NB188_186.out
        have hnc60 := NB186_188.out
        have hcz61_0 : wr.cell? ⟨gb188, 0, none⟩ = some (.int .i64 0) := (bC BK188.out 0).trans rfl
        have hcz61_1 : wr.cell? ⟨gb188, 1, none⟩ = some (.string (⟨#[]⟩ : ByteArray)) := (bC BK188.out 1).trans rfl
        have hcz61_2 : wr.cell? ⟨gb188, 2, none⟩ = some (.slice none 0 0) := (bC BK188.out 2).trans rfl
        have hcz61_3 : wr.cell? ⟨gb188, 3, none⟩ = some (.string (⟨#[]⟩ : ByteArray)) := (bC BK188.out 3).trans rfl
        have hcz61_4 : wr.cell? ⟨gb188, 4, none⟩ = some (.slice none 0 0) := (bC BK188.out 4).trans rfl
        have hfz61_0 := bF BK188.out 0
        have hfz61_1 := bF BK188.out 1
        have hfz61_2 := bF BK188.out 2
        have hfz61_3 := bF BK188.out 3
        have hfz61_4 := bF BK188.out 4
        go_wp2
        refine bodyPost_ret (results_ctt rfl _ _ gb188 32 #[.int .i64 0, .string (⟨#[]⟩ : ByteArray), .slice none 0 0, .string (⟨#[]⟩ : ByteArray), .slice none 0 0] (0, 0) _ rfl (by (with_reducible repeat (first | apply qn | apply qd | apply qa)); refine bU (cs := #[.int .i64 0, .string (⟨#[]⟩ : ByteArray), .slice none 0 0, .string (⟨#[]⟩ : ByteArray), .slice none 0 0]) ?_ 4 _ rfl; (with_reducible repeat (first | apply qn | apply qd | apply qa)); refine bU (cs := #[.int .i64 0, .string (⟨#[]⟩ : ByteArray), .slice none 0 0, .string (⟨#[]⟩ : ByteArray), .slice none 0 0]) ?_ 3 _ rfl; (with_reducible repeat (first | apply qn | apply qd | apply qa)); refine bU (cs := #[.int .i64 0, .string (⟨#[]⟩ : ByteArray), .slice none 0 0, .string (⟨#[]⟩ : ByteArray), .slice none 0 0]) ?_ 2 _ rfl; (with_reducible repeat (first | apply qn | apply qd | apply qa)); refine bU (cs := #[.int .i64 0, .string (⟨#[]⟩ : ByteArray), .slice none 0 0, .string (⟨#[]⟩ : ByteArray), .slice none 0 0]) ?_ 1 _ rfl; (with_reducible repeat (first | apply qn | apply qd | apply qa)); refine bU (cs := #[.int .i64 0, .string (⟨#[]⟩ : ByteArray), .slice none 0 0, .string (⟨#[]⟩ : ByteArray), .slice none 0 0]) ?_ 0 _ rfl; exact qy BK188.out) Try.underlying32 rfl (by kernel_rfl)) rfl ?_
        exact ⟨_, _, by first | rfl | (simp [errW_none, errW_some] <;> rfl) | (simp [*, errW_none, errW_some] <;> rfl), by first | exact Kd.R_nil _ _ _ _ _ | exact Kd.N_nil _ _ _ _ _ | exact Kd.V_nil _ _ _ _ _ | exact Kd.Q_nil _ _ _ _ _ | exact Kd.S_nil _ _ _ _ _, by first | exact Kd.R_nil _ _ _ _ _ | exact Kd.N_nil _ _ _ _ _ | exact Kd.V_nil _ _ _ _ _ | exact Kd.Q_nil _ _ _ _ _ | exact Kd.S_nil _ _ _ _ _, by repeat (first | (with_reducible first | exact HB.out | apply ea | apply en | apply ed | refine es ?_ GE186.out | refine es ?_ GE187.out | refine es ?_ GE188.out) | exact HB.out)⟩
       ·rw [if_neg c55] at H
        have c55b0 : ((x11_2.length : Int) == 0) = false := beq_eq_false_iff_ne.mpr c55
        have c55b1 : ((x11_2.length : Int) != 0) = true := bne_iff_ne.mpr c55
        have c55b2 : ¬ (x11_2 = []) := fun h_ => c55 (by rw [h_]; rfl)
        by_cases c62 : (wrap64 ((a0_0.size : Int) + (wrap64 ((x11_2.length : Int) * (wrap64 ((a2_3.size : Int) - (a2_2.size : Int))))))) > 4096
        ·rw [if_pos c62] at H
         have c62b0 : decide (4096 < (wrap64 ((a0_0.size : Int) + (wrap64 ((x11_2.length : Int) * (wrap64 ((a2_3.size : Int) - (a2_2.size : Int)))))))) = true := decide_eq_true c62
         clear c62
         simp only [Option.some.injEq, Prod.mk.injEq] at H
         obtain ⟨rfl, rfl, rfl, rfl, rfl, rfl, rfl⟩ := H
         have hnb63 := NB187_186.out
         have hnc63 := NB186_187.out
         have hnb64 := NB187_188.out
         have hnc64 := NB188_187.out
         have hcz65_0 : wr.cell? ⟨gb187, 0, none⟩ = some (.int .i64 a2_0) := (bC BK187.out 0).trans rfl
         have hcz65_1 : wr.cell? ⟨gb187, 1, none⟩ = some (.int .i64 a2_1) := (bC BK187.out 1).trans rfl
         have hcz65_2 : wr.cell? ⟨gb187, 2, none⟩ = some (.string a2_2) := (bC BK187.out 2).trans rfl
         have hcz65_3 : wr.cell? ⟨gb187, 3, none⟩ = some (.string a2_3) := (bC BK187.out 3).trans rfl
         have hcz65_4 : wr.cell? ⟨gb187, 4, none⟩ = some (.bool a2_4) := (bC BK187.out 4).trans rfl
         have hfz65_0 := bF BK187.out 0
         have hfz65_1 := bF BK187.out 1
         have hfz65_2 := bF BK187.out 2
         have hfz65_3 := bF BK187.out 3
         have hfz65_4 := bF BK187.out 4
         obtain ⟨Ao66, co66, eo66⟩ := Kd.R_slice HO_11.out
         subst eo66
         have hnb67 := NB186_188.out
         have hnc67 := NB188_186.out
         have hcz68_0 : wr.cell? ⟨gb186, 0, none⟩ = some (.string a0_0) := (bC BK186.out 0).trans rfl
         have hcz68_1 : wr.cell? ⟨gb186, 1, none⟩ = some (.slice A0_1 l0_1.length c0_1) := (bC BK186.out 1).trans rfl
         have hfz68_0 := bF BK186.out 0
         have hfz68_1 := bF BK186.out 1
         have hcz69_0 : wr.cell? ⟨gb188, 0, none⟩ = some (.int .i64 0) := (bC BK188.out 0).trans rfl
         have hcz69_1 : wr.cell? ⟨gb188, 1, none⟩ = some (.string (⟨#[]⟩ : ByteArray)) := (bC BK188.out 1).trans rfl
         have hcz69_2 : wr.cell? ⟨gb188, 2, none⟩ = some (.slice none 0 0) := (bC BK188.out 2).trans rfl
         have hcz69_3 : wr.cell? ⟨gb188, 3, none⟩ = some (.string (⟨#[]⟩ : ByteArray)) := (bC BK188.out 3).trans rfl
         have hcz69_4 : wr.cell? ⟨gb188, 4, none⟩ = some (.slice none 0 0) := (bC BK188.out 4).trans rfl
         have hfz69_0 := bF BK188.out 0
         have hfz69_1 := bF BK188.out 1
         have hfz69_2 := bF BK188.out 2
         have hfz69_3 := bF BK188.out 3
         have hfz69_4 := bF BK188.out 4
         go_wp2
         refine bodyPost_ret (results_ctt rfl _ _ gb188 32 #[.int .i64 0, .string (⟨#[]⟩ : ByteArray), .slice none 0 0, .string (⟨#[]⟩ : ByteArray), .slice none 0 0] (0, 0) _ rfl (by (with_reducible repeat (first | apply qn | apply qd | apply qa)); refine bU (cs := #[.int .i64 0, .string (⟨#[]⟩ : ByteArray), .slice none 0 0, .string (⟨#[]⟩ : ByteArray), .slice none 0 0]) ?_ 4 _ rfl; (with_reducible repeat (first | apply qn | apply qd | apply qa)); refine bU (cs := #[.int .i64 0, .string (⟨#[]⟩ : ByteArray), .slice none 0 0, .string (⟨#[]⟩ : ByteArray), .slice none 0 0]) ?_ 3 _ rfl; (with_reducible repeat (first | apply qn | apply qd | apply qa)); refine bU (cs := #[.int .i64 0, .string (⟨#[]⟩ : ByteArray), .slice none 0 0, .string (⟨#[]⟩ : ByteArray), .slice none 0 0]) ?_ 2 _ rfl; (with_reducible repeat (first | apply qn | apply qd | apply qa)); refine bU (cs := #[.int .i64 0, .string (⟨#[]⟩ : ByteArray), .slice none 0 0, .string (⟨#[]⟩ : ByteArray), .slice none 0 0]) ?_ 1 _ rfl; (with_reducible repeat (first | apply qn | apply qd | apply qa)); refine bU (cs := #[.int .i64 0, .string (⟨#[]⟩ : ByteArray), .slice none 0 0, .string (⟨#[]⟩ : ByteArray), .slice none 0 0]) ?_ 0 _ rfl; exact qy BK188.out) Try.underlying32 rfl (by kernel_rfl)) rfl ?_
         exact ⟨_, _, by first | rfl | (simp [errW_none, errW_some] <;> rfl) | (simp [*, errW_none, errW_some] <;> rfl), by first | exact Kd.R_nil _ _ _ _ _ | exact Kd.N_nil _ _ _ _ _ | exact Kd.V_nil _ _ _ _ _ | exact Kd.Q_nil _ _ _ _ _ | exact Kd.S_nil _ _ _ _ _, by first | exact Kd.R_nil _ _ _ _ _ | exact Kd.N_nil _ _ _ _ _ | exact Kd.V_nil _ _ _ _ _ | exact Kd.Q_nil _ _ _ _ _ | exact Kd.S_nil _ _ _ _ _, by repeat (first | (with_reducible first | exact HB.out | apply ea | apply en | apply ed | refine es ?_ GE186.out | refine es ?_ GE187.out | refine es ?_ GE188.out) | exact HB.out)⟩
        ·rw [if_neg c62] at H
         have c62b0 : decide (4096 < (wrap64 ((a0_0.size : Int) + (wrap64 ((x11_2.length : Int) * (wrap64 ((a2_3.size : Int) - (a2_2.size : Int)))))))) = false := decide_eq_false c62
         clear c62
         replace H := Option.bind_eq_some_iff.mp H
         obtain ⟨⟨t202, t203, t206⟩, A700, H⟩ := H
         replace H : ((line_Bounds.f k2 t189 a2_0).bind fun bt208 => ((line_Bounds.f k2 t189 a2_1).bind fun bt211 => (if x11_2.length < 17592186044416 then ((some (x11_2 ++ [bt211.2.1] : List Int)).bind fun y215 => (subst_Do.l1 k2 x11_2 bt208.1 bt211.2.1 bt208.1 y215 (y215.length : Int) 0 a0_0 l0_1 a2_0 a2_1 a2_2 a2_3 a2_4 t202 t203 (⟨#[]⟩ : ByteArray) ([] : List (S51)))) else (none)))) = some (r1, r2, r3, r4, r5, r6, r7) := H
         have A70 := aM A700
         clear A700
         replace H := Option.bind_eq_some_iff.mp H
         obtain ⟨⟨t208, t209, t210⟩, A710, H⟩ := H
         replace H : ((line_Bounds.f k2 t189 a2_1).bind fun bt211 => (if x11_2.length < 17592186044416 then ((some (x11_2 ++ [bt211.2.1] : List Int)).bind fun y215 => (subst_Do.l1 k2 x11_2 t208 bt211.2.1 t208 y215 (y215.length : Int) 0 a0_0 l0_1 a2_0 a2_1 a2_2 a2_3 a2_4 t202 t203 (⟨#[]⟩ : ByteArray) ([] : List (S51)))) else (none))) = some (r1, r2, r3, r4, r5, r6, r7) := H
         have A71 := aM A710
         clear A710
         replace H := Option.bind_eq_some_iff.mp H
         obtain ⟨⟨t211, t212, t213⟩, A720, H⟩ := H
         replace H : (if x11_2.length < 17592186044416 then ((some (x11_2 ++ [t212] : List Int)).bind fun y215 => (subst_Do.l1 k2 x11_2 t208 t212 t208 y215 (y215.length : Int) 0 a0_0 l0_1 a2_0 a2_1 a2_2 a2_3 a2_4 t202 t203 (⟨#[]⟩ : ByteArray) ([] : List (S51)))) else (none)) = some (r1, r2, r3, r4, r5, r6, r7) := H
         have A72 := aM A720
         clear A720
         by_cases c73 : x11_2.length < 17592186044416
         ·rw [if_pos c73] at H
          have LMc73 := aM c73
          clear c73
          obtain ⟨y215, hy215⟩ : ∃ y_ : List Int, y_ = (x11_2 ++ [t212]) := ⟨_, rfl⟩
          replace H : (subst_Do.l1 k2 x11_2 t208 t212 t208 y215 (y215.length : Int) 0 a0_0 l0_1 a2_0 a2_1 a2_2 a2_3 a2_4 t202 t203 (⟨#[]⟩ : ByteArray) ([] : List (S51))) = some (r1, r2, r3, r4, r5, r6, r7) := by first | (rw [hy215]; with_reducible exact H) | (have H2_ := (Option.bind_some _ _).symm.trans H; rw [hy215]; with_reducible exact H2_) | (have H2_ := (Option.bind_some _ _).symm.trans H; with_reducible exact H2_) | with_reducible exact H | (rw [hy215]; exact H) | exact H
          have Ny215 := aM hy215
          clear hy215
          have H' := aM H
          clear H
          have hnb74 := NB187_186.out
          have hnc74 := NB186_187.out
          have hnb75 := NB187_188.out
          have hnc75 := NB188_187.out
          have hcz76_0 : wr.cell? ⟨gb187, 0, none⟩ = some (.int .i64 a2_0) := (bC BK187.out 0).trans rfl
          have hcz76_1 : wr.cell? ⟨gb187, 1, none⟩ = some (.int .i64 a2_1) := (bC BK187.out 1).trans rfl
          have hcz76_2 : wr.cell? ⟨gb187, 2, none⟩ = some (.string a2_2) := (bC BK187.out 2).trans rfl
          have hcz76_3 : wr.cell? ⟨gb187, 3, none⟩ = some (.string a2_3) := (bC BK187.out 3).trans rfl
          have hcz76_4 : wr.cell? ⟨gb187, 4, none⟩ = some (.bool a2_4) := (bC BK187.out 4).trans rfl
          have hfz76_0 := bF BK187.out 0
          have hfz76_1 := bF BK187.out 1
          have hfz76_2 := bF BK187.out 2
          have hfz76_3 := bF BK187.out 3
          have hfz76_4 := bF BK187.out 4
          obtain ⟨Ao77, co77, eo77⟩ := Kd.R_slice HO_11.out
          subst eo77
          have hnb78 := NB186_188.out
          have hnc78 := NB188_186.out
          have hcz79_0 : wr.cell? ⟨gb186, 0, none⟩ = some (.string a0_0) := (bC BK186.out 0).trans rfl
          have hcz79_1 : wr.cell? ⟨gb186, 1, none⟩ = some (.slice A0_1 l0_1.length c0_1) := (bC BK186.out 1).trans rfl
          have hfz79_0 := bF BK186.out 0
          have hfz79_1 := bF BK186.out 1
          go_wp2_with (first | ((with_reducible refine gate_callee (f := 24) rfl ?_); refine goesL_ (some 125) rfl rfl Try.func24 (by kernel_rfl) rfl #[.string a2_3, .int .u64 a1] rfl (by (try simp only [mT, mC, mN]); first | done | rfl | (simp only [lD, lT]; rfl)) ?_; (with_reducible refine (strip_Make.calls k2 a2_3 a1 t202 t203 t206 _ A70.out).mono ?_); rintro e w80 ⟨v204, rfl, ho0, hb⟩; refine ⟨_, rfl, ?_⟩; have n0_ := aM (Kd.R_below (ry HO_11.out) hb); have n1_ := aM (rL ho0 (bZ (by repeat (first | (with_reducible first | exact HB.out | apply ea | apply en | apply ed | refine es ?_ GE186.out | refine es ?_ GE187.out | refine es ?_ GE188.out) | exact HB.out)))); have n2_ := aM (bB (g := gb186) (qy BK186.out) hb); have n3_ := aM (bB (g := gb187) (qy BK187.out) hb); have n4_ := aM (bB (g := gb188) (qy BK188.out) hb); have n5_ := aM (bP (by repeat (first | (with_reducible first | exact HB.out | apply ea | apply en | apply ed | refine es ?_ GE186.out | refine es ?_ GE187.out | refine es ?_ GE188.out) | exact HB.out)) hb); clear HO_11 BK186 BK187 BK188 HB; have HO_11 := n0_; have HO205 := n1_; have BK186 := n2_; have BK187 := n3_; have BK188 := n4_; have HB := n5_; clear n0_ n1_ n2_ n3_ n4_ n5_; (try clear hb); (try clear hb2); (try clear hk); (try clear hi); (try clear ho0)) | ((with_reducible refine gate_dst (N := 16) rfl ?_); (try (refine gate_guard (by rfl) ?_; dsimp only)); refine box_event ?hg (N := 16) ?hd (cs := #[.string (⟨#[]⟩ : ByteArray), .slice none 0 0]) (t := 24) ?hr ?_; (case hd | hg => rfl); (case hr => first | (go_simp; done) | (go_simp; rfl)); intro gb207 hg w81 hbox hb; have n0_ := aM (Kd.R_below (ry HO_11.out) hb); have n1_ := aM (Kd.R_below (ry HO205.out) hb); have n2_ := aM (bB (g := gb186) (qy BK186.out) hb); have n3_ := aM (bB (g := gb187) (qy BK187.out) hb); have n4_ := aM (bB (g := gb188) (qy BK188.out) hb); have n5_ := aM (bP (by repeat (first | (with_reducible first | exact HB.out | apply ea | apply en | apply ed | refine es ?_ GE186.out | refine es ?_ GE187.out | refine es ?_ GE188.out) | exact HB.out)) hb); have n6_ := aM (hbox); have n7_ := aM ((by rw [hg]; exact (bZ (by repeat (first | (with_reducible first | exact HB.out | apply ea | apply en | apply ed | refine es ?_ GE186.out | refine es ?_ GE187.out | refine es ?_ GE188.out) | exact HB.out))) : w.heap.size ≤ gb207)); have n8_ := n7_; have n9_ := aM ((by rw [hg]; exact Nat.ne_of_lt (blk_lt (g := gb186) (qy BK186.out)) : gb186 ≠ gb207)); have n10_ := aM ((by rw [hg]; exact Nat.ne_of_gt (blk_lt (g := gb186) (qy BK186.out)) : gb207 ≠ gb186)); have n11_ := aM ((by rw [hg]; exact Nat.ne_of_lt (blk_lt (g := gb187) (qy BK187.out)) : gb187 ≠ gb207)); have n12_ := aM ((by rw [hg]; exact Nat.ne_of_gt (blk_lt (g := gb187) (qy BK187.out)) : gb207 ≠ gb187)); have n13_ := aM ((by rw [hg]; exact Nat.ne_of_lt (blk_lt (g := gb188) (qy BK188.out)) : gb188 ≠ gb207)); have n14_ := aM ((by rw [hg]; exact Nat.ne_of_gt (blk_lt (g := gb188) (qy BK188.out)) : gb207 ≠ gb188)); clear HO_11 HO205 BK186 BK187 BK188 HB; have HO_11 := n0_; have HO205 := n1_; have BK186 := n2_; have BK187 := n3_; have BK188 := n4_; have HB := n5_; have BK207 := n6_; have GW207 := n7_; have GE207 := n8_; have NB186_207 := n9_; have NB207_186 := n10_; have NB187_207 := n11_; have NB207_187 := n12_; have NB188_207 := n13_; have NB207_188 := n14_; clear n0_ n1_ n2_ n3_ n4_ n5_ n6_ n7_ n8_ n9_ n10_ n11_ n12_ n13_ n14_; clear hb hbox hg; have hnb82 := NB207_186.out; have hnc82 := NB186_207.out; have hnb83 := NB207_187.out; have hnc83 := NB187_207.out; have hnb84 := NB207_188.out; have hnc84 := NB188_207.out; have hcz85_0 : w81.cell? ⟨gb207, 0, none⟩ = some (.string (⟨#[]⟩ : ByteArray)) := (bC BK207.out 0).trans rfl; have hcz85_1 : w81.cell? ⟨gb207, 1, none⟩ = some (.slice none 0 0) := (bC BK207.out 1).trans rfl; have hfz85_0 := bF BK207.out 0; have hfz85_1 := bF BK207.out 1; obtain ⟨Ao86, co86, eo86⟩ := Kd.R_slice HO205.out; subst eo86; have hcz87_0 : w81.cell? ⟨gb187, 0, none⟩ = some (.int .i64 a2_0) := (bC BK187.out 0).trans rfl; have hcz87_1 : w81.cell? ⟨gb187, 1, none⟩ = some (.int .i64 a2_1) := (bC BK187.out 1).trans rfl; have hcz87_2 : w81.cell? ⟨gb187, 2, none⟩ = some (.string a2_2) := (bC BK187.out 2).trans rfl; have hcz87_3 : w81.cell? ⟨gb187, 3, none⟩ = some (.string a2_3) := (bC BK187.out 3).trans rfl; have hcz87_4 : w81.cell? ⟨gb187, 4, none⟩ = some (.bool a2_4) := (bC BK187.out 4).trans rfl; have hfz87_0 := bF BK187.out 0; have hfz87_1 := bF BK187.out 1; have hfz87_2 := bF BK187.out 2; have hfz87_3 := bF BK187.out 3; have hfz87_4 := bF BK187.out 4) | ((with_reducible refine gate_callee (f := 22) rfl ?_); refine goesL_ (some 132) rfl rfl Try.func22 (by kernel_rfl) rfl #[.string t189, .int .i64 a2_0] rfl (by (try simp only [mT, mC, mN]); first | done | rfl | (simp only [lD, lT]; rfl)) ?_; (with_reducible refine (line_Bounds.calls k2 t189 a2_0 t208 t209 t210 _ A71.out).mono ?_); rintro e w88 ⟨rfl, hb⟩; refine ⟨_, rfl, ?_⟩; have n0_ := aM (Kd.R_below (by (with_reducible repeat (first | apply ra | apply rn | apply rd_)); exact (rM (rF (p := ⟨gb207, 1, none⟩) (rF (p := ⟨gb207, 0, none⟩) (rT HO_11.out BK207.out (by decide)) (fun _ hk => hk.2) (.string t202)) (fun _ hk => hk.2) (.slice Ao86 t203.length co86)) (fun _ h_ => h_.1))) hb); have n1_ := aM (Kd.R_below (by (with_reducible repeat (first | apply ra | apply rn | apply rd_)); exact (rM (rF (p := ⟨gb207, 1, none⟩) (rF (p := ⟨gb207, 0, none⟩) (rT HO205.out BK207.out (by decide)) (fun _ hk => hk.2) (.string t202)) (fun _ hk => hk.2) (.slice Ao86 t203.length co86)) (fun _ h_ => h_.1))) hb); have n2_ := aM (bB (g := gb186) (o := .cells #[.string a0_0, .slice A0_1 l0_1.length c0_1] 24 (0, 0)) (by (with_reducible repeat (first | apply qn | apply qd | apply qa)); refine bR ?_ NB186_207.out _; (with_reducible repeat (first | apply qn | apply qd | apply qa)); refine bR ?_ NB186_207.out _; exact qy BK186.out) hb); have n3_ := aM (bB (g := gb187) (o := .cells #[.int .i64 a2_0, .int .i64 a2_1, .string a2_2, .string a2_3, .bool a2_4] 28 (0, 0)) (by (with_reducible repeat (first | apply qn | apply qd | apply qa)); refine bR ?_ NB187_207.out _; (with_reducible repeat (first | apply qn | apply qd | apply qa)); refine bR ?_ NB187_207.out _; exact qy BK187.out) hb); have n4_ := aM (bB (g := gb188) (o := .cells #[.int .i64 0, .string (⟨#[]⟩ : ByteArray), .slice none 0 0, .string (⟨#[]⟩ : ByteArray), .slice none 0 0] 32 (0, 0)) (by (with_reducible repeat (first | apply qn | apply qd | apply qa)); refine bR ?_ NB188_207.out _; (with_reducible repeat (first | apply qn | apply qd | apply qa)); refine bR ?_ NB188_207.out _; exact qy BK188.out) hb); have n5_ := aM (bB (g := gb207) (o := .cells #[.string t202, .slice Ao86 t203.length co86] 24 (0, 0)) (by (with_reducible repeat (first | apply qn | apply qd | apply qa)); refine bU (cs := #[.string t202, .slice none 0 0]) ?_ 1 _ rfl; (with_reducible repeat (first | apply qn | apply qd | apply qa)); refine bU (cs := #[.string (⟨#[]⟩ : ByteArray), .slice none 0 0]) ?_ 0 _ rfl; exact qy BK207.out) hb); have n6_ := aM (bP (by repeat (first | (with_reducible first | exact HB.out | apply ea | apply en | apply ed | refine es ?_ GE186.out | refine es ?_ GE187.out | refine es ?_ GE188.out | refine es ?_ GE207.out) | exact HB.out)) hb); clear HO_11 HO205 BK186 BK187 BK188 BK207 HB; have HO_11 := n0_; have HO205 := n1_; have BK186 := n2_; have BK187 := n3_; have BK188 := n4_; have BK207 := n5_; have HB := n6_; clear n0_ n1_ n2_ n3_ n4_ n5_ n6_; (try clear hb); (try clear hb2); (try clear hk); (try clear hi); have hcz89_0 : w88.cell? ⟨gb187, 0, none⟩ = some (.int .i64 a2_0) := (bC BK187.out 0).trans rfl; have hcz89_1 : w88.cell? ⟨gb187, 1, none⟩ = some (.int .i64 a2_1) := (bC BK187.out 1).trans rfl; have hcz89_2 : w88.cell? ⟨gb187, 2, none⟩ = some (.string a2_2) := (bC BK187.out 2).trans rfl; have hcz89_3 : w88.cell? ⟨gb187, 3, none⟩ = some (.string a2_3) := (bC BK187.out 3).trans rfl; have hcz89_4 : w88.cell? ⟨gb187, 4, none⟩ = some (.bool a2_4) := (bC BK187.out 4).trans rfl; have hfz89_0 := bF BK187.out 0; have hfz89_1 := bF BK187.out 1; have hfz89_2 := bF BK187.out 2; have hfz89_3 := bF BK187.out 3; have hfz89_4 := bF BK187.out 4) | ((with_reducible refine gate_callee (f := 22) rfl ?_); refine goesL_ (some 140) rfl rfl Try.func22 (by kernel_rfl) rfl #[.string t189, .int .i64 a2_1] rfl (by (try simp only [mT, mC, mN]); first | done | rfl | (simp only [lD, lT]; rfl)) ?_; (with_reducible refine (line_Bounds.calls k2 t189 a2_1 t211 t212 t213 _ A72.out).mono ?_); rintro e w90 ⟨rfl, hb⟩; refine ⟨_, rfl, ?_⟩; have n0_ := aM (Kd.R_below (ry HO_11.out) hb); have n1_ := aM (Kd.R_below (ry HO205.out) hb); have n2_ := aM (bB (g := gb186) (qy BK186.out) hb); have n3_ := aM (bB (g := gb187) (qy BK187.out) hb); have n4_ := aM (bB (g := gb188) (qy BK188.out) hb); have n5_ := aM (bB (g := gb207) (qy BK207.out) hb); have n6_ := aM (bP (by repeat (first | (with_reducible first | exact HB.out | apply ea | apply en | apply ed | refine es ?_ GE186.out | refine es ?_ GE187.out | refine es ?_ GE188.out | refine es ?_ GE207.out) | exact HB.out)) hb); clear HO_11 HO205 BK186 BK187 BK188 BK207 HB; have HO_11 := n0_; have HO205 := n1_; have BK186 := n2_; have BK187 := n3_; have BK188 := n4_; have BK207 := n5_; have HB := n6_; clear n0_ n1_ n2_ n3_ n4_ n5_ n6_; (try clear hb); (try clear hb2); (try clear hk); (try clear hi)) | ((with_reducible refine gate_dst (N := 24) rfl ?_); (try (refine gate_guard (by rfl) ?_; dsimp only)); refine box_event ?hg (N := 24) ?hd (cs := #[.string (⟨#[]⟩ : ByteArray), .slice none 0 0]) (t := 24) ?hr ?_; (case hd | hg => rfl); (case hr => first | (go_simp; done) | (go_simp; rfl)); intro gb214 hg w91 hbox hb; have n0_ := aM (Kd.R_below (ry HO_11.out) hb); have n1_ := aM (Kd.R_below (ry HO205.out) hb); have n2_ := aM (bB (g := gb186) (qy BK186.out) hb); have n3_ := aM (bB (g := gb187) (qy BK187.out) hb); have n4_ := aM (bB (g := gb188) (qy BK188.out) hb); have n5_ := aM (bB (g := gb207) (qy BK207.out) hb); have n6_ := aM (bP (by repeat (first | (with_reducible first | exact HB.out | apply ea | apply en | apply ed | refine es ?_ GE186.out | refine es ?_ GE187.out | refine es ?_ GE188.out | refine es ?_ GE207.out) | exact HB.out)) hb); have n7_ := aM (hbox); have n8_ := aM ((by rw [hg]; exact (bZ (by repeat (first | (with_reducible first | exact HB.out | apply ea | apply en | apply ed | refine es ?_ GE186.out | refine es ?_ GE187.out | refine es ?_ GE188.out | refine es ?_ GE207.out) | exact HB.out))) : w.heap.size ≤ gb214)); have n9_ := n8_; have n10_ := aM ((by rw [hg]; exact Nat.ne_of_lt (blk_lt (g := gb186) (qy BK186.out)) : gb186 ≠ gb214)); have n11_ := aM ((by rw [hg]; exact Nat.ne_of_gt (blk_lt (g := gb186) (qy BK186.out)) : gb214 ≠ gb186)); have n12_ := aM ((by rw [hg]; exact Nat.ne_of_lt (blk_lt (g := gb187) (qy BK187.out)) : gb187 ≠ gb214)); have n13_ := aM ((by rw [hg]; exact Nat.ne_of_gt (blk_lt (g := gb187) (qy BK187.out)) : gb214 ≠ gb187)); have n14_ := aM ((by rw [hg]; exact Nat.ne_of_lt (blk_lt (g := gb188) (qy BK188.out)) : gb188 ≠ gb214)); have n15_ := aM ((by rw [hg]; exact Nat.ne_of_gt (blk_lt (g := gb188) (qy BK188.out)) : gb214 ≠ gb188)); have n16_ := aM ((by rw [hg]; exact Nat.ne_of_lt (blk_lt (g := gb207) (qy BK207.out)) : gb207 ≠ gb214)); have n17_ := aM ((by rw [hg]; exact Nat.ne_of_gt (blk_lt (g := gb207) (qy BK207.out)) : gb214 ≠ gb207)); clear HO_11 HO205 BK186 BK187 BK188 BK207 HB; have HO_11 := n0_; have HO205 := n1_; have BK186 := n2_; have BK187 := n3_; have BK188 := n4_; have BK207 := n5_; have HB := n6_; have BK214 := n7_; have GW214 := n8_; have GE214 := n9_; have NB186_214 := n10_; have NB214_186 := n11_; have NB187_214 := n12_; have NB214_187 := n13_; have NB188_214 := n14_; have NB214_188 := n15_; have NB207_214 := n16_; have NB214_207 := n17_; clear n0_ n1_ n2_ n3_ n4_ n5_ n6_ n7_ n8_ n9_ n10_ n11_ n12_ n13_ n14_ n15_ n16_ n17_; clear hb hbox hg) | ((with_reducible refine gate_builtin (b := .append) (xs := #[.tmp 145, .tmp 147]) rfl ?_); (try (refine gate_guard (by rfl) ?_; dsimp only)); at_builtin; refine Kd.R_append (Kd.int .i64) (w0 := w) w.heap.size rfl (.tmp 145) (.tmp 147) 56 3 (.int .i64 0) 8 rfl Try.underlying56 info3 rfl (by decide) (by omega) (.slice Ao77 x11_2.length co77) x11_2 t212 [.int .i64 t212] (fun _ => True) (fun _ => False) rfl rfl ?aP (fun _ hk => hk.elim) ?aF ?aO ?aB ?aS ?aL ?_; (case aP => exact rfl); (case aB => exact (by repeat (first | (with_reducible first | exact HB.out | apply ea | apply en | apply ed | refine es ?_ GE186.out | refine es ?_ GE187.out | refine es ?_ GE188.out | refine es ?_ GE207.out | refine es ?_ GE214.out) | exact HB.out))); (case aF => exact (fun _ _ => trivial)); (case aO => exact (ry HO_11.out)); (case aS => exact (bZ (by repeat (first | (with_reducible first | exact HB.out | apply ea | apply en | apply ed | refine es ?_ GE186.out | refine es ?_ GE187.out | refine es ?_ GE188.out | refine es ?_ GE207.out | refine es ?_ GE214.out) | exact HB.out)))); (case aL => have := LMc73.out; omega); intro v216 w92 ho hb hg hat; rw [← Ny215.out] at ho; have n0_ := aM (blk_grown (g := gb186) (qy BK186.out) hg (Kd.R_ne HO_11.out BK186.out (by decide))); have n1_ := aM (blk_grown (g := gb187) (qy BK187.out) hg (Kd.R_ne HO_11.out BK187.out (by decide))); have n2_ := aM (blk_grown (g := gb188) (qy BK188.out) hg (Kd.R_ne HO_11.out BK188.out (by decide))); have n3_ := aM (Kd.R_over' (ry HO205.out) (Kd.R_typed (ry HO_11.out)) (by decide) hg); have n4_ := aM (blk_grown (g := gb207) (qy BK207.out) hg (Kd.R_ne HO_11.out BK207.out (by decide))); have n5_ := aM (blk_grown (g := gb214) (qy BK214.out) hg (Kd.R_ne HO_11.out BK214.out (by decide))); have n6_ := aM (hb); have n7_ := aM (ho); clear BK186 BK187 BK188 HO205 BK207 BK214 HB HO_11; have BK186 := n0_; have BK187 := n1_; have BK188 := n2_; have HO205 := n3_; have BK207 := n4_; have BK214 := n5_; have HB := n6_; have HO217 := n7_; clear n0_ n1_ n2_ n3_ n4_ n5_ n6_ n7_; clear ho hb hg hat; obtain ⟨Ao93, co93, eo93⟩ := Kd.R_slice HO217.out; subst eo93))
          go_loopg [25, 150] k2 (fun kq v25 v150 w' => ∃ (x25_3 : Int) (x150_3 : Int) (x215000_3 : ByteArray) (x215001_3 : List (S51)) (u215001 : Value), v25 = .int .i64 x25_3 ∧ v150 = .int .i64 x150_3 ∧ Aside0 (subst_Do.l1 kq x11_2 t208 t212 x25_3 y215 (y215.length : Int) x150_3 a0_0 l0_1 a2_0 a2_1 a2_2 a2_3 a2_4 t202 t203 x215000_3 x215001_3 = some (r1, r2, r3, r4, r5, r6, r7)) ∧ Aside0 (kq ≤ k2) ∧ Aside0 (Kd.R (Kd.int .i64) 3 w' w.heap.size (fun _ => True) (.slice Ao93 y215.length co93) y215) ∧ Aside0 (Kd.R k51 51 w' w.heap.size (fun k_ => some k_ ≠ (u215001 : Value).ownBlock) (.slice Ao86 t203.length co86) t203) ∧ Aside0 (Kd.R k51 51 w' w.heap.size (fun k_ => some k_ ≠ ((.slice Ao86 t203.length co86) : Value).ownBlock) u215001 x215001_3) ∧ Aside0 (w'.heap[gb186]? = some (.cells #[.string a0_0, (.slice A0_1 l0_1.length c0_1)] 24 (0, 0))) ∧ Aside0 (w'.heap[gb187]? = some (.cells #[.int .i64 a2_0, .int .i64 a2_1, .string a2_2, .string a2_3, .bool a2_4] 28 (0, 0))) ∧ Aside0 (w'.heap[gb188]? = some (.cells #[.int .i64 0, .string (⟨#[]⟩ : ByteArray), (.slice none 0 0), .string (⟨#[]⟩ : ByteArray), (.slice none 0 0)] 32 (0, 0))) ∧ Aside0 (w'.heap[gb207]? = some (.cells #[.string t202, (.slice Ao86 t203.length co86)] 24 (0, 0))) ∧ Aside0 (w'.heap[gb214]? = some (.cells #[.string x215000_3, u215001] 24 (0, 0))) ∧ Aside0 (Below w.heap.size w w'))
          case atStart => exact ⟨(t208), (0), ((⟨#[]⟩ : ByteArray)), (([] : List (S51))), (.slice none 0 0), (by first | rfl | (simp; done) | (simp [*]; done)), (by first | rfl | (simp; done) | (simp [*]; done)), H', ⟨Nat.le_refl _⟩, ⟨by exact ry HO217.out⟩, ⟨by (with_reducible repeat (first | apply ra | apply rn | apply rd_)); exact rM HO205.out (fun _ hk => (by simp [Value.ownBlock]))⟩, ⟨by first | exact Kd.R_nil _ _ _ _ _ | exact Kd.N_nil _ _ _ _ _ | exact Kd.V_nil _ _ _ _ _ | exact Kd.Q_nil _ _ _ _ _ | exact Kd.S_nil _ _ _ _ _⟩, ⟨by exact qy BK186.out⟩, ⟨by exact qy BK187.out⟩, ⟨by exact qy BK188.out⟩, ⟨by exact qy BK207.out⟩, ⟨by exact qy BK214.out⟩, ⟨by repeat (first | (with_reducible first | exact HB.out | apply ea | apply en | apply ed | refine es ?_ GE186.out | refine es ?_ GE187.out | refine es ?_ GE188.out | refine es ?_ GE207.out | refine es ?_ GE214.out) | exact HB.out)⟩⟩
          case round =>
           clear H'
           try clear c1
           try clear c2
           try clear p2
           try clear c3
           try clear c4
           try clear c5
           try clear c6
           try clear p6
           try clear c7
           try clear c8
           try clear c13
           try clear c13b0
           try clear c13b1
           try clear c20
           try clear c21
           try clear c22
           try clear c23
           try clear c24
           try clear c26
           try clear c34
           try clear c35
           try clear c36
           try clear c38
           try clear c39
           try clear c41
           try clear c41b0
           try clear c44
           try clear c45
           try clear c46
           try clear c49
           try clear c55
           try clear c55b0
           try clear c55b1
           try clear c55b2
           try clear c56
           try clear c57
           try clear c60
           try clear c62
           try clear c62b0
           try clear c63
           try clear c64
           try clear p64
           try clear c67
           try clear c73
           try clear c74
           try clear c75
           try clear c78
           try clear c82
           try clear c83
           try clear c84
           try clear hcz37_0
           try clear hcz37_1
           try clear hcz37_2
           try clear hcz37_3
           try clear hcz37_4
           try clear hcz40_0
           try clear hcz40_1
           try clear hcz40_2
           try clear hcz40_3
           try clear hcz40_4
           try clear hcz47_0
           try clear hcz47_1
           try clear hcz47_2
           try clear hcz47_3
           try clear hcz47_4
           try clear hcz50_0
           try clear hcz50_1
           try clear hcz51_0
           try clear hcz51_1
           try clear hcz51_2
           try clear hcz51_3
           try clear hcz51_4
           try clear hcz58_0
           try clear hcz58_1
           try clear hcz58_2
           try clear hcz58_3
           try clear hcz58_4
           try clear hcz61_0
           try clear hcz61_1
           try clear hcz61_2
           try clear hcz61_3
           try clear hcz61_4
           try clear hcz65_0
           try clear hcz65_1
           try clear hcz65_2
           try clear hcz65_3
           try clear hcz65_4
           try clear hcz68_0
           try clear hcz68_1
           try clear hcz69_0
           try clear hcz69_1
           try clear hcz69_2
           try clear hcz69_3
           try clear hcz69_4
           try clear hcz76_0
           try clear hcz76_1
           try clear hcz76_2
           try clear hcz76_3
           try clear hcz76_4
           try clear hcz79_0
           try clear hcz79_1
           try clear hcz85_0
           try clear hcz85_1
           try clear hcz87_0
           try clear hcz87_1
           try clear hcz87_2
           try clear hcz87_3
           try clear hcz87_4
           try clear hcz89_0
           try clear hcz89_1
           try clear hcz89_2
           try clear hcz89_3
           try clear hcz89_4
           try clear hfz37_0
           try clear hfz37_1
           try clear hfz37_2
           try clear hfz37_3
           try clear hfz37_4
           try clear hfz40_0
           try clear hfz40_1
           try clear hfz40_2
           try clear hfz40_3
           try clear hfz40_4
           try clear hfz47_0
           try clear hfz47_1
           try clear hfz47_2
           try clear hfz47_3
           try clear hfz47_4
           try clear hfz50_0
           try clear hfz50_1
           try clear hfz51_0
           try clear hfz51_1
           try clear hfz51_2
           try clear hfz51_3
           try clear hfz51_4
           try clear hfz58_0
           try clear hfz58_1
           try clear hfz58_2
           try clear hfz58_3
           try clear hfz58_4
           try clear hfz61_0
           try clear hfz61_1
           try clear hfz61_2
           try clear hfz61_3
           try clear hfz61_4
           try clear hfz65_0
           try clear hfz65_1
           try clear hfz65_2
           try clear hfz65_3
           try clear hfz65_4
           try clear hfz68_0
           try clear hfz68_1
           try clear hfz69_0
           try clear hfz69_1
           try clear hfz69_2
           try clear hfz69_3
           try clear hfz69_4
           try clear hfz76_0
           try clear hfz76_1
           try clear hfz76_2
           try clear hfz76_3
           try clear hfz76_4
           try clear hfz79_0
           try clear hfz79_1
           try clear hfz85_0
           try clear hfz85_1
           try clear hfz87_0
           try clear hfz87_1
           try clear hfz87_2
           try clear hfz87_3
           try clear hfz87_4
           try clear hfz89_0
           try clear hfz89_1
           try clear hfz89_2
           try clear hfz89_3
           try clear hfz89_4
           try clear p2
           obtain ⟨x25_3, x150_3, x215000_3, x215001_3, u215001, rfl, rfl, HA, HK3, HO_148, HO_208001, HO_215001, BK186, BK187, BK188, BK207, BK214, HB⟩ := hrel
           cases gk with
           | zero => exact absurd HA.out (by simp [subst_Do.l1])
           | succ k3 =>
            have H := HA.out
            clear HA
            simp only [subst_Do.l1] at H
            by_cases c94 : x150_3 < (y215.length : Int)
            ·rw [if_pos c94] at H
             have c94b0 : decide (x150_3 < (y215.length : Int)) = true := decide_eq_true c94
             clear c94
             by_cases c95 : 0 ≤ x150_3
             ·rw [if_pos c95] at H
              have c95b0 : decide (0 ≤ x150_3) = true := decide_eq_true c95
              clear c95
              by_cases c96 : x150_3 < (y215.length : Int)
              ·rw [if_pos c96] at H
               have c96b0 : decide (x150_3 < (y215.length : Int)) = true := decide_eq_true c96
               clear c96
               replace H := Option.bind_eq_some_iff.mp H
               obtain ⟨⟨t230, t231, t234⟩, A970, H⟩ := H
               replace H : ((strip_Cat.f k3 x215000_3 x215001_3 t230 t231).bind fun bt236 => (if (rd y215 x150_3) < t212 then ((strip_Cat.f k3 bt236.1 bt236.2.1 t202 t203).bind fun bt241 => (subst_Do.l1 k3 x11_2 t208 t212 (wrap64 ((rd y215 x150_3) + (a2_2.size : Int))) y215 (y215.length : Int) (wrap64 (x150_3 + 1)) a0_0 l0_1 a2_0 a2_1 a2_2 a2_3 a2_4 t202 t203 bt241.1 bt241.2.1)) else (subst_Do.l1 k3 x11_2 t208 t212 (wrap64 ((rd y215 x150_3) + (a2_2.size : Int))) y215 (y215.length : Int) (wrap64 (x150_3 + 1)) a0_0 l0_1 a2_0 a2_1 a2_2 a2_3 a2_4 t202 t203 bt236.1 bt236.2.1))) = some (r1, r2, r3, r4, r5, r6, r7) := H
               have A97 := aM A970
               clear A970
               replace H := Option.bind_eq_some_iff.mp H
               obtain ⟨⟨t236, t237, t240⟩, A980, H⟩ := H
               replace H : (if (rd y215 x150_3) < t212 then ((strip_Cat.f k3 t236 t237 t202 t203).bind fun bt241 => (subst_Do.l1 k3 x11_2 t208 t212 (wrap64 ((rd y215 x150_3) + (a2_2.size : Int))) y215 (y215.length : Int) (wrap64 (x150_3 + 1)) a0_0 l0_1 a2_0 a2_1 a2_2 a2_3 a2_4 t202 t203 bt241.1 bt241.2.1)) else (subst_Do.l1 k3 x11_2 t208 t212 (wrap64 ((rd y215 x150_3) + (a2_2.size : Int))) y215 (y215.length : Int) (wrap64 (x150_3 + 1)) a0_0 l0_1 a2_0 a2_1 a2_2 a2_3 a2_4 t202 t203 t236 t237)) = some (r1, r2, r3, r4, r5, r6, r7) := H
               have A98 := aM A980
               clear A980
               by_cases c99 : (rd y215 x150_3) < t212
               ·rw [if_pos c99] at H
                have c99b0 : decide ((rd y215 x150_3) < t212) = true := decide_eq_true c99
                clear c99
                replace H := Option.bind_eq_some_iff.mp H
                obtain ⟨⟨t241, t242, t245⟩, A1000, H⟩ := H
                replace H : (subst_Do.l1 k3 x11_2 t208 t212 (wrap64 ((rd y215 x150_3) + (a2_2.size : Int))) y215 (y215.length : Int) (wrap64 (x150_3 + 1)) a0_0 l0_1 a2_0 a2_1 a2_2 a2_3 a2_4 t202 t203 t241 t242) = some (r1, r2, r3, r4, r5, r6, r7) := H
                have A100 := aM A1000
                clear A1000
                have H' := aM H
                clear H
                have p229 : 0 ≤ (x150_3 : Int) := of_decide_eq_true (by first | (with_reducible assumption) | assumption)
                have q229 : x150_3 < (y215.length : Int) := of_decide_eq_true (by first | (with_reducible assumption) | assumption)
                obtain ⟨ad229, e229, hx229_0⟩ := Kd.at_int (rR HO_148.out).2.2 x150_3 p229 q229
                cases e229
                replace p229 := eq_true p229
                replace q229 := eq_true q229
                have hnb101 := NB186_187.out
                have hnc101 := NB187_186.out
                have hnb102 := NB186_188.out
                have hnc102 := NB188_186.out
                have hnb103 := NB186_207.out
                have hnc103 := NB207_186.out
                have hnb104 := NB186_214.out
                have hnc104 := NB214_186.out
                have hcz105_0 : wr.cell? ⟨gb186, 0, none⟩ = some (.string a0_0) := (bC BK186.out 0).trans rfl
                have hcz105_1 : wr.cell? ⟨gb186, 1, none⟩ = some (.slice A0_1 l0_1.length c0_1) := (bC BK186.out 1).trans rfl
                have hfz105_0 := bF BK186.out 0
                have hfz105_1 := bF BK186.out 1
                go_wp2_with (first | ((with_reducible refine gate_callee (f := 25) rfl ?_); refine goesL_ (some 158) rfl rfl Try.func25 (by kernel_rfl) rfl #[.agg #[.string a0_0, .slice A0_1 l0_1.length c0_1], .int .i64 x25_3, .int .i64 (rd y215 x150_3)] rfl (by (try simp only [mT, mC, mN]); first | done | rfl | (simp only [lD, lT]; rfl)) ?_; (with_reducible refine (strip_Cut.calls k3 a0_0 _ _ l0_1 x25_3 (rd y215 x150_3) t230 t231 t234 _ ?side1 ?side2 A97.out).mono ?_); (case side1 => repeat (first | exact (cB_ HR0_1.out HB.out) | (with_reducible refine Kd.C_alloc ?_ _) | (with_reducible refine Kd.C_drewN ?_ _) | (with_reducible refine Kd.C_drew ?_))); (case side2 => exact HC0_1.out); rintro e w106 ⟨v232, rfl, ho0, hb⟩; refine ⟨_, rfl, ?_⟩; have n0_ := aM (Kd.R_below (ry HO_148.out) hb); have n1_ := aM (rE (ry HO_208001.out) (Kd.R_base ho0) hb); have n2_ := aM (rE (ry HO_215001.out) (Kd.R_base ho0) hb); have n3_ := aM (rL (Kd.R_new' (Kd.R_new' ho0 (Kd.R_lt (ry HO_208001.out))) (Kd.R_lt (ry HO_215001.out))) (bZ (by repeat (first | (with_reducible first | exact HB.out | apply ea | apply en | apply ed | refine es ?_ GE186.out | refine es ?_ GE187.out | refine es ?_ GE188.out | refine es ?_ GE207.out | refine es ?_ GE214.out) | exact HB.out)))); have n4_ := aM (bB (g := gb186) (qy BK186.out) hb); have n5_ := aM (bB (g := gb187) (qy BK187.out) hb); have n6_ := aM (bB (g := gb188) (qy BK188.out) hb); have n7_ := aM (bB (g := gb207) (qy BK207.out) hb); have n8_ := aM (bB (g := gb214) (qy BK214.out) hb); have n9_ := aM (bP (by repeat (first | (with_reducible first | exact HB.out | apply ea | apply en | apply ed | refine es ?_ GE186.out | refine es ?_ GE187.out | refine es ?_ GE188.out | refine es ?_ GE207.out | refine es ?_ GE214.out) | exact HB.out)) hb); clear HO_148 HO_208001 HO_215001 BK186 BK187 BK188 BK207 BK214 HB; have HO_148 := n0_; have HO_208001 := n1_; have HO_215001 := n2_; have HO233 := n3_; have BK186 := n4_; have BK187 := n5_; have BK188 := n6_; have BK207 := n7_; have BK214 := n8_; have HB := n9_; clear n0_ n1_ n2_ n3_ n4_ n5_ n6_ n7_ n8_ n9_; (try clear hb); (try clear hb2); (try clear hk); (try clear hi); (try clear ho0)) | ((with_reducible refine gate_dst (N := 28) rfl ?_); (try (refine gate_guard (by rfl) ?_; dsimp only)); refine box_event ?hg (N := 28) ?hd (cs := #[.string (⟨#[]⟩ : ByteArray), .slice none 0 0]) (t := 24) ?hr ?_; (case hd | hg => rfl); (case hr => first | (go_simp; done) | (go_simp; rfl)); intro gb235 hg w107 hbox hb; have n0_ := aM (Kd.R_below (ry HO_148.out) hb); have n1_ := aM (Kd.R_below (ry HO_208001.out) hb); have n2_ := aM (Kd.R_below (ry HO_215001.out) hb); have n3_ := aM (Kd.R_below (ry HO233.out) hb); have n4_ := aM (bB (g := gb186) (qy BK186.out) hb); have n5_ := aM (bB (g := gb187) (qy BK187.out) hb); have n6_ := aM (bB (g := gb188) (qy BK188.out) hb); have n7_ := aM (bB (g := gb207) (qy BK207.out) hb); have n8_ := aM (bB (g := gb214) (qy BK214.out) hb); have n9_ := aM (bP (by repeat (first | (with_reducible first | exact HB.out | apply ea | apply en | apply ed | refine es ?_ GE186.out | refine es ?_ GE187.out | refine es ?_ GE188.out | refine es ?_ GE207.out | refine es ?_ GE214.out) | exact HB.out)) hb); have n10_ := aM (hbox); have n11_ := aM ((by rw [hg]; exact (bZ (by repeat (first | (with_reducible first | exact HB.out | apply ea | apply en | apply ed | refine es ?_ GE186.out | refine es ?_ GE187.out | refine es ?_ GE188.out | refine es ?_ GE207.out | refine es ?_ GE214.out) | exact HB.out))) : w.heap.size ≤ gb235)); have n12_ := n11_; have n13_ := aM ((by rw [hg]; exact Nat.ne_of_lt (blk_lt (g := gb186) (qy BK186.out)) : gb186 ≠ gb235)); have n14_ := aM ((by rw [hg]; exact Nat.ne_of_gt (blk_lt (g := gb186) (qy BK186.out)) : gb235 ≠ gb186)); have n15_ := aM ((by rw [hg]; exact Nat.ne_of_lt (blk_lt (g := gb187) (qy BK187.out)) : gb187 ≠ gb235)); have n16_ := aM ((by rw [hg]; exact Nat.ne_of_gt (blk_lt (g := gb187) (qy BK187.out)) : gb235 ≠ gb187)); have n17_ := aM ((by rw [hg]; exact Nat.ne_of_lt (blk_lt (g := gb188) (qy BK188.out)) : gb188 ≠ gb235)); have n18_ := aM ((by rw [hg]; exact Nat.ne_of_gt (blk_lt (g := gb188) (qy BK188.out)) : gb235 ≠ gb188)); have n19_ := aM ((by rw [hg]; exact Nat.ne_of_lt (blk_lt (g := gb207) (qy BK207.out)) : gb207 ≠ gb235)); have n20_ := aM ((by rw [hg]; exact Nat.ne_of_gt (blk_lt (g := gb207) (qy BK207.out)) : gb235 ≠ gb207)); have n21_ := aM ((by rw [hg]; exact Nat.ne_of_lt (blk_lt (g := gb214) (qy BK214.out)) : gb214 ≠ gb235)); have n22_ := aM ((by rw [hg]; exact Nat.ne_of_gt (blk_lt (g := gb214) (qy BK214.out)) : gb235 ≠ gb214)); clear HO_148 HO_208001 HO_215001 HO233 BK186 BK187 BK188 BK207 BK214 HB; have HO_148 := n0_; have HO_208001 := n1_; have HO_215001 := n2_; have HO233 := n3_; have BK186 := n4_; have BK187 := n5_; have BK188 := n6_; have BK207 := n7_; have BK214 := n8_; have HB := n9_; have BK235 := n10_; have GW235 := n11_; have GE235 := n12_; have NB186_235 := n13_; have NB235_186 := n14_; have NB187_235 := n15_; have NB235_187 := n16_; have NB188_235 := n17_; have NB235_188 := n18_; have NB207_235 := n19_; have NB235_207 := n20_; have NB214_235 := n21_; have NB235_214 := n22_; clear n0_ n1_ n2_ n3_ n4_ n5_ n6_ n7_ n8_ n9_ n10_ n11_ n12_ n13_ n14_ n15_ n16_ n17_ n18_ n19_ n20_ n21_ n22_; clear hb hbox hg; have hnb108 := NB235_186.out; have hnc108 := NB186_235.out; have hnb109 := NB235_187.out; have hnc109 := NB187_235.out; have hnb110 := NB235_188.out; have hnc110 := NB188_235.out; have hnb111 := NB235_207.out; have hnc111 := NB207_235.out; have hnb112 := NB235_214.out; have hnc112 := NB214_235.out; have hcz113_0 : w107.cell? ⟨gb235, 0, none⟩ = some (.string (⟨#[]⟩ : ByteArray)) := (bC BK235.out 0).trans rfl; have hcz113_1 : w107.cell? ⟨gb235, 1, none⟩ = some (.slice none 0 0) := (bC BK235.out 1).trans rfl; have hfz113_0 := bF BK235.out 0; have hfz113_1 := bF BK235.out 1; obtain ⟨Ao114, co114, eo114⟩ := Kd.R_slice HO233.out; subst eo114; have hnb115 := NB214_187.out; have hnc115 := NB187_214.out; have hnb116 := NB214_188.out; have hnc116 := NB188_214.out; have hnb117 := NB214_207.out; have hnc117 := NB207_214.out; have hcz118_0 : w107.cell? ⟨gb214, 0, none⟩ = some (.string x215000_3) := (bC BK214.out 0).trans rfl; have hcz118_1 : w107.cell? ⟨gb214, 1, none⟩ = some (u215001) := (bC BK214.out 1).trans rfl; have hfz118_0 := bF BK214.out 0; have hfz118_1 := bF BK214.out 1; obtain ⟨Ao119, co119, eo119⟩ := Kd.R_slice HO_215001.out; subst eo119) | ((with_reducible refine gate_callee (f := 26) rfl ?_); refine goesL_ (some 164) rfl rfl Try.func26 (by kernel_rfl) rfl #[.agg #[.string x215000_3, .slice Ao119 x215001_3.length co119], .agg #[.string t230, .slice Ao114 t231.length co114]] rfl (by (try simp only [mT, mC, mN]); first | done | rfl | (simp only [lD, lT]; rfl)) ?_; (with_reducible refine (strip_Cat.calls k3 x215000_3 _ _ x215001_3 t230 _ _ t231 t236 t237 t240 _ ?side1 ?side2 ?side3 ?side4 A98.out).mono ?_); (case side1 => refine (rR (e := 51) (base := w.heap.size) (ok := fun k_ => (some k_ ≠ (.slice Ao86 t203.length co86 : Value).ownBlock ∧ some k_ ≠ (.slice Ao114 t231.length co114 : Value).ownBlock)) (n := x215001_3.length) (c := co119) ?_).2.2; exact (by (with_reducible repeat (first | apply ra | apply rn | apply rd_)); exact (rM (rF (p := ⟨gb235, 1, none⟩) (rF (p := ⟨gb235, 0, none⟩) (rT HO_215001.out BK235.out (by decide)) (fun _ hk => hk.2) (.string t230)) (fun _ hk => hk.2) (.slice Ao114 t231.length co114)) (fun _ h_ => h_.1)))); (case side2 => exact (rR HO_215001.out).2.1); (case side3 => refine (rR (e := 51) (base := w.heap.size) (ok := fun k_ => ((True ∧ some k_ ≠ (.slice Ao86 t203.length co86 : Value).ownBlock) ∧ some k_ ≠ (.slice Ao119 x215001_3.length co119 : Value).ownBlock)) (n := t231.length) (c := co114) ?_).2.2; exact (by (with_reducible repeat (first | apply ra | apply rn | apply rd_)); exact (rM (rF (p := ⟨gb235, 1, none⟩) (rF (p := ⟨gb235, 0, none⟩) (rT HO233.out BK235.out (by decide)) (fun _ hk => hk.2) (.string t230)) (fun _ hk => hk.2) (.slice Ao114 t231.length co114)) (fun _ h_ => h_.1)))); (case side4 => exact (rR HO233.out).2.1); rintro e w120 ⟨v238, rfl, ho0, hb⟩; refine ⟨_, rfl, ?_⟩; have n0_ := aM (Kd.R_below (by (with_reducible repeat (first | apply ra | apply rn | apply rd_)); exact (rM (rF (p := ⟨gb235, 1, none⟩) (rF (p := ⟨gb235, 0, none⟩) (rT HO_148.out BK235.out (by decide)) (fun _ hk => hk.2) (.string t230)) (fun _ hk => hk.2) (.slice Ao114 t231.length co114)) (fun _ h_ => h_.1))) hb); have n1_ := aM (rE (by (with_reducible repeat (first | apply ra | apply rn | apply rd_)); exact (rM (rF (p := ⟨gb235, 1, none⟩) (rF (p := ⟨gb235, 0, none⟩) (rT HO_208001.out BK235.out (by decide)) (fun _ hk => hk.2) (.string t230)) (fun _ hk => hk.2) (.slice Ao114 t231.length co114)) (fun _ h_ => h_.1))) (Kd.R_base ho0) hb); have n2_ := aM (rE (by (with_reducible repeat (first | apply ra | apply rn | apply rd_)); exact (rM (rF (p := ⟨gb235, 1, none⟩) (rF (p := ⟨gb235, 0, none⟩) (rT HO_215001.out BK235.out (by decide)) (fun _ hk => hk.2) (.string t230)) (fun _ hk => hk.2) (.slice Ao114 t231.length co114)) (fun _ h_ => h_.1))) (Kd.R_base ho0) hb); have n3_ := aM (rE (by (with_reducible repeat (first | apply ra | apply rn | apply rd_)); exact (rM (rF (p := ⟨gb235, 1, none⟩) (rF (p := ⟨gb235, 0, none⟩) (rT HO233.out BK235.out (by decide)) (fun _ hk => hk.2) (.string t230)) (fun _ hk => hk.2) (.slice Ao114 t231.length co114)) (fun _ h_ => h_.1))) (Kd.R_base ho0) hb); have n4_ := aM (rL (Kd.R_new' (Kd.R_new' (Kd.R_new' ho0 (Kd.R_lt (by (with_reducible repeat (first | apply ra | apply rn | apply rd_)); exact (rM (rF (p := ⟨gb235, 1, none⟩) (rF (p := ⟨gb235, 0, none⟩) (rT HO_208001.out BK235.out (by decide)) (fun _ hk => hk.2) (.string t230)) (fun _ hk => hk.2) (.slice Ao114 t231.length co114)) (fun _ h_ => h_.1))))) (Kd.R_lt (by (with_reducible repeat (first | apply ra | apply rn | apply rd_)); exact (rM (rF (p := ⟨gb235, 1, none⟩) (rF (p := ⟨gb235, 0, none⟩) (rT HO_215001.out BK235.out (by decide)) (fun _ hk => hk.2) (.string t230)) (fun _ hk => hk.2) (.slice Ao114 t231.length co114)) (fun _ h_ => h_.1))))) (Kd.R_lt (by (with_reducible repeat (first | apply ra | apply rn | apply rd_)); exact (rM (rF (p := ⟨gb235, 1, none⟩) (rF (p := ⟨gb235, 0, none⟩) (rT HO233.out BK235.out (by decide)) (fun _ hk => hk.2) (.string t230)) (fun _ hk => hk.2) (.slice Ao114 t231.length co114)) (fun _ h_ => h_.1))))) (bZ (by repeat (first | (with_reducible first | exact HB.out | apply ea | apply en | apply ed | refine es ?_ GE186.out | refine es ?_ GE187.out | refine es ?_ GE188.out | refine es ?_ GE207.out | refine es ?_ GE214.out | refine es ?_ GE235.out) | exact HB.out)))); have n5_ := aM (bB (g := gb186) (o := .cells #[.string a0_0, .slice A0_1 l0_1.length c0_1] 24 (0, 0)) (by (with_reducible repeat (first | apply qn | apply qd | apply qa)); refine bR ?_ NB186_235.out _; (with_reducible repeat (first | apply qn | apply qd | apply qa)); refine bR ?_ NB186_235.out _; exact qy BK186.out) hb); have n6_ := aM (bB (g := gb187) (o := .cells #[.int .i64 a2_0, .int .i64 a2_1, .string a2_2, .string a2_3, .bool a2_4] 28 (0, 0)) (by (with_reducible repeat (first | apply qn | apply qd | apply qa)); refine bR ?_ NB187_235.out _; (with_reducible repeat (first | apply qn | apply qd | apply qa)); refine bR ?_ NB187_235.out _; exact qy BK187.out) hb); have n7_ := aM (bB (g := gb188) (o := .cells #[.int .i64 0, .string (⟨#[]⟩ : ByteArray), .slice none 0 0, .string (⟨#[]⟩ : ByteArray), .slice none 0 0] 32 (0, 0)) (by (with_reducible repeat (first | apply qn | apply qd | apply qa)); refine bR ?_ NB188_235.out _; (with_reducible repeat (first | apply qn | apply qd | apply qa)); refine bR ?_ NB188_235.out _; exact qy BK188.out) hb); have n8_ := aM (bB (g := gb207) (o := .cells #[.string t202, .slice Ao86 t203.length co86] 24 (0, 0)) (by (with_reducible repeat (first | apply qn | apply qd | apply qa)); refine bR ?_ NB207_235.out _; (with_reducible repeat (first | apply qn | apply qd | apply qa)); refine bR ?_ NB207_235.out _; exact qy BK207.out) hb); have n9_ := aM (bB (g := gb214) (o := .cells #[.string x215000_3, .slice Ao119 x215001_3.length co119] 24 (0, 0)) (by (with_reducible repeat (first | apply qn | apply qd | apply qa)); refine bR ?_ NB214_235.out _; (with_reducible repeat (first | apply qn | apply qd | apply qa)); refine bR ?_ NB214_235.out _; exact qy BK214.out) hb); have n10_ := aM (bB (g := gb235) (o := .cells #[.string t230, .slice Ao114 t231.length co114] 24 (0, 0)) (by (with_reducible repeat (first | apply qn | apply qd | apply qa)); refine bU (cs := #[.string t230, .slice none 0 0]) ?_ 1 _ rfl; (with_reducible repeat (first | apply qn | apply qd | apply qa)); refine bU (cs := #[.string (⟨#[]⟩ : ByteArray), .slice none 0 0]) ?_ 0 _ rfl; exact qy BK235.out) hb); have n11_ := aM (bP (by repeat (first | (with_reducible first | exact HB.out | apply ea | apply en | apply ed | refine es ?_ GE186.out | refine es ?_ GE187.out | refine es ?_ GE188.out | refine es ?_ GE207.out | refine es ?_ GE214.out | refine es ?_ GE235.out) | exact HB.out)) hb); clear HO_148 HO_208001 HO_215001 HO233 BK186 BK187 BK188 BK207 BK214 BK235 HB; have HO_148 := n0_; have HO_208001 := n1_; have HO_215001 := n2_; have HO233 := n3_; have HO239 := n4_; have BK186 := n5_; have BK187 := n6_; have BK188 := n7_; have BK207 := n8_; have BK214 := n9_; have BK235 := n10_; have HB := n11_; clear n0_ n1_ n2_ n3_ n4_ n5_ n6_ n7_ n8_ n9_ n10_ n11_; (try clear hb); (try clear hb2); (try clear hk); (try clear hi); (try clear ho0); have hcz121_0 : w120.cell? ⟨gb214, 0, none⟩ = some (.string x215000_3) := (bC BK214.out 0).trans rfl; have hcz121_1 : w120.cell? ⟨gb214, 1, none⟩ = some (.slice Ao119 x215001_3.length co119) := (bC BK214.out 1).trans rfl; have hfz121_0 := bF BK214.out 0; have hfz121_1 := bF BK214.out 1; obtain ⟨Ao122, co122, eo122⟩ := Kd.R_slice HO239.out; subst eo122; have hnb123 := NB207_187.out; have hnc123 := NB187_207.out; have hnb124 := NB207_188.out; have hnc124 := NB188_207.out; have hcz125_0 : w120.cell? ⟨gb207, 0, none⟩ = some (.string t202) := (bC BK207.out 0).trans rfl; have hcz125_1 : w120.cell? ⟨gb207, 1, none⟩ = some (.slice Ao86 t203.length co86) := (bC BK207.out 1).trans rfl; have hfz125_0 := bF BK207.out 0; have hfz125_1 := bF BK207.out 1) | ((with_reducible refine gate_callee (f := 26) rfl ?_); refine goesL_ (some 173) rfl rfl Try.func26 (by kernel_rfl) rfl #[.agg #[.string t236, .slice Ao122 t237.length co122], .agg #[.string t202, .slice Ao86 t203.length co86]] rfl (by (try simp only [mT, mC, mN]); first | done | rfl | (simp only [lD, lT]; rfl)) ?_; (with_reducible refine (strip_Cat.calls k3 t236 _ _ t237 t202 _ _ t203 t241 t242 t245 _ ?side1 ?side2 ?side3 ?side4 A100.out).mono ?_); (case side1 => refine (rR (e := 51) (base := w.heap.size) (ok := fun k_ => (((True ∧ some k_ ≠ (.slice Ao86 t203.length co86 : Value).ownBlock) ∧ some k_ ≠ (.slice Ao119 x215001_3.length co119 : Value).ownBlock) ∧ some k_ ≠ (.slice Ao114 t231.length co114 : Value).ownBlock)) (n := t237.length) (c := co122) ?_).2.2; exact (by (with_reducible repeat (first | apply ra | apply rn | apply rd_)); exact (rM (rF (p := ⟨gb214, 1, none⟩) (rF (p := ⟨gb214, 0, none⟩) (rT HO239.out BK214.out (by decide)) (fun _ hk => hk.2) (.string t236)) (fun _ hk => hk.2) (.slice Ao122 t237.length co122)) (fun _ h_ => h_.1)))); (case side2 => exact (rR HO239.out).2.1); (case side3 => refine (rR (e := 51) (base := w.heap.size) (ok := fun k_ => ((some k_ ≠ (.slice Ao119 x215001_3.length co119 : Value).ownBlock ∧ some k_ ≠ (.slice Ao114 t231.length co114 : Value).ownBlock) ∧ some k_ ≠ (.slice Ao122 t237.length co122 : Value).ownBlock)) (n := t203.length) (c := co86) ?_).2.2; exact (by (with_reducible repeat (first | apply ra | apply rn | apply rd_)); exact (rM (rF (p := ⟨gb214, 1, none⟩) (rF (p := ⟨gb214, 0, none⟩) (rT HO_208001.out BK214.out (by decide)) (fun _ hk => hk.2) (.string t236)) (fun _ hk => hk.2) (.slice Ao122 t237.length co122)) (fun _ h_ => h_.1)))); (case side4 => exact (rR HO_208001.out).2.1); rintro e w126 ⟨v243, rfl, ho0, hb⟩; refine ⟨_, rfl, ?_⟩; have n0_ := aM (Kd.R_below (by (with_reducible repeat (first | apply ra | apply rn | apply rd_)); exact (rM (rF (p := ⟨gb214, 1, none⟩) (rF (p := ⟨gb214, 0, none⟩) (rT HO_148.out BK214.out (by decide)) (fun _ hk => hk.2) (.string t236)) (fun _ hk => hk.2) (.slice Ao122 t237.length co122)) (fun _ h_ => h_.1))) hb); have n1_ := aM (rE (by (with_reducible repeat (first | apply ra | apply rn | apply rd_)); exact (rM (rF (p := ⟨gb214, 1, none⟩) (rF (p := ⟨gb214, 0, none⟩) (rT HO_208001.out BK214.out (by decide)) (fun _ hk => hk.2) (.string t236)) (fun _ hk => hk.2) (.slice Ao122 t237.length co122)) (fun _ h_ => h_.1))) (Kd.R_base ho0) hb); have n2_ := aM (rE (by (with_reducible repeat (first | apply ra | apply rn | apply rd_)); exact (rM (rF (p := ⟨gb214, 1, none⟩) (rF (p := ⟨gb214, 0, none⟩) (rT HO_215001.out BK214.out (by decide)) (fun _ hk => hk.2) (.string t236)) (fun _ hk => hk.2) (.slice Ao122 t237.length co122)) (fun _ h_ => h_.1))) (Kd.R_base ho0) hb); have n3_ := aM (rE (by (with_reducible repeat (first | apply ra | apply rn | apply rd_)); exact (rM (rF (p := ⟨gb214, 1, none⟩) (rF (p := ⟨gb214, 0, none⟩) (rT HO233.out BK214.out (by decide)) (fun _ hk => hk.2) (.string t236)) (fun _ hk => hk.2) (.slice Ao122 t237.length co122)) (fun _ h_ => h_.1))) (Kd.R_base ho0) hb); have n4_ := aM (rE (by (with_reducible repeat (first | apply ra | apply rn | apply rd_)); exact (rM (rF (p := ⟨gb214, 1, none⟩) (rF (p := ⟨gb214, 0, none⟩) (rT HO239.out BK214.out (by decide)) (fun _ hk => hk.2) (.string t236)) (fun _ hk => hk.2) (.slice Ao122 t237.length co122)) (fun _ h_ => h_.1))) (Kd.R_base ho0) hb); have n5_ := aM (rL (Kd.R_new' (Kd.R_new' (Kd.R_new' (Kd.R_new' ho0 (Kd.R_lt (by (with_reducible repeat (first | apply ra | apply rn | apply rd_)); exact (rM (rF (p := ⟨gb214, 1, none⟩) (rF (p := ⟨gb214, 0, none⟩) (rT HO_208001.out BK214.out (by decide)) (fun _ hk => hk.2) (.string t236)) (fun _ hk => hk.2) (.slice Ao122 t237.length co122)) (fun _ h_ => h_.1))))) (Kd.R_lt (by (with_reducible repeat (first | apply ra | apply rn | apply rd_)); exact (rM (rF (p := ⟨gb214, 1, none⟩) (rF (p := ⟨gb214, 0, none⟩) (rT HO_215001.out BK214.out (by decide)) (fun _ hk => hk.2) (.string t236)) (fun _ hk => hk.2) (.slice Ao122 t237.length co122)) (fun _ h_ => h_.1))))) (Kd.R_lt (by (with_reducible repeat (first | apply ra | apply rn | apply rd_)); exact (rM (rF (p := ⟨gb214, 1, none⟩) (rF (p := ⟨gb214, 0, none⟩) (rT HO233.out BK214.out (by decide)) (fun _ hk => hk.2) (.string t236)) (fun _ hk => hk.2) (.slice Ao122 t237.length co122)) (fun _ h_ => h_.1))))) (Kd.R_lt (by (with_reducible repeat (first | apply ra | apply rn | apply rd_)); exact (rM (rF (p := ⟨gb214, 1, none⟩) (rF (p := ⟨gb214, 0, none⟩) (rT HO239.out BK214.out (by decide)) (fun _ hk => hk.2) (.string t236)) (fun _ hk => hk.2) (.slice Ao122 t237.length co122)) (fun _ h_ => h_.1))))) (bZ (by repeat (first | (with_reducible first | exact HB.out | apply ea | apply en | apply ed | refine es ?_ GE186.out | refine es ?_ GE187.out | refine es ?_ GE188.out | refine es ?_ GE207.out | refine es ?_ GE214.out | refine es ?_ GE235.out) | exact HB.out)))); have n6_ := aM (bB (g := gb186) (o := .cells #[.string a0_0, .slice A0_1 l0_1.length c0_1] 24 (0, 0)) (by (with_reducible repeat (first | apply qn | apply qd | apply qa)); refine bR ?_ NB186_214.out _; (with_reducible repeat (first | apply qn | apply qd | apply qa)); refine bR ?_ NB186_214.out _; exact qy BK186.out) hb); have n7_ := aM (bB (g := gb187) (o := .cells #[.int .i64 a2_0, .int .i64 a2_1, .string a2_2, .string a2_3, .bool a2_4] 28 (0, 0)) (by (with_reducible repeat (first | apply qn | apply qd | apply qa)); refine bR ?_ NB187_214.out _; (with_reducible repeat (first | apply qn | apply qd | apply qa)); refine bR ?_ NB187_214.out _; exact qy BK187.out) hb); have n8_ := aM (bB (g := gb188) (o := .cells #[.int .i64 0, .string (⟨#[]⟩ : ByteArray), .slice none 0 0, .string (⟨#[]⟩ : ByteArray), .slice none 0 0] 32 (0, 0)) (by (with_reducible repeat (first | apply qn | apply qd | apply qa)); refine bR ?_ NB188_214.out _; (with_reducible repeat (first | apply qn | apply qd | apply qa)); refine bR ?_ NB188_214.out _; exact qy BK188.out) hb); have n9_ := aM (bB (g := gb207) (o := .cells #[.string t202, .slice Ao86 t203.length co86] 24 (0, 0)) (by (with_reducible repeat (first | apply qn | apply qd | apply qa)); refine bR ?_ NB207_214.out _; (with_reducible repeat (first | apply qn | apply qd | apply qa)); refine bR ?_ NB207_214.out _; exact qy BK207.out) hb); have n10_ := aM (bB (g := gb214) (o := .cells #[.string t236, .slice Ao122 t237.length co122] 24 (0, 0)) (by (with_reducible repeat (first | apply qn | apply qd | apply qa)); refine bU (cs := #[.string t236, .slice Ao119 x215001_3.length co119]) ?_ 1 _ rfl; (with_reducible repeat (first | apply qn | apply qd | apply qa)); refine bU (cs := #[.string x215000_3, .slice Ao119 x215001_3.length co119]) ?_ 0 _ rfl; exact qy BK214.out) hb); have n11_ := aM (bB (g := gb235) (o := .cells #[.string t230, .slice Ao114 t231.length co114] 24 (0, 0)) (by (with_reducible repeat (first | apply qn | apply qd | apply qa)); refine bR ?_ NB235_214.out _; (with_reducible repeat (first | apply qn | apply qd | apply qa)); refine bR ?_ NB235_214.out _; exact qy BK235.out) hb); have n12_ := aM (bP (by repeat (first | (with_reducible first | exact HB.out | apply ea | apply en | apply ed | refine es ?_ GE186.out | refine es ?_ GE187.out | refine es ?_ GE188.out | refine es ?_ GE207.out | refine es ?_ GE214.out | refine es ?_ GE235.out) | exact HB.out)) hb); clear HO_148 HO_208001 HO_215001 HO233 HO239 BK186 BK187 BK188 BK207 BK214 BK235 HB; have HO_148 := n0_; have HO_208001 := n1_; have HO_215001 := n2_; have HO233 := n3_; have HO239 := n4_; have HO244 := n5_; have BK186 := n6_; have BK187 := n7_; have BK188 := n8_; have BK207 := n9_; have BK214 := n10_; have BK235 := n11_; have HB := n12_; clear n0_ n1_ n2_ n3_ n4_ n5_ n6_ n7_ n8_ n9_ n10_ n11_ n12_; (try clear hb); (try clear hb2); (try clear hk); (try clear hi); (try clear ho0); have hcz127_0 : w126.cell? ⟨gb214, 0, none⟩ = some (.string t236) := (bC BK214.out 0).trans rfl; have hcz127_1 : w126.cell? ⟨gb214, 1, none⟩ = some (.slice Ao122 t237.length co122) := (bC BK214.out 1).trans rfl; have hfz127_0 := bF BK214.out 0; have hfz127_1 := bF BK214.out 1; obtain ⟨Ao128, co128, eo128⟩ := Kd.R_slice HO244.out; subst eo128; have hnb129 := NB187_188.out; have hnc129 := NB188_187.out; have hcz130_0 : w126.cell? ⟨gb187, 0, none⟩ = some (.int .i64 a2_0) := (bC BK187.out 0).trans rfl; have hcz130_1 : w126.cell? ⟨gb187, 1, none⟩ = some (.int .i64 a2_1) := (bC BK187.out 1).trans rfl; have hcz130_2 : w126.cell? ⟨gb187, 2, none⟩ = some (.string a2_2) := (bC BK187.out 2).trans rfl; have hcz130_3 : w126.cell? ⟨gb187, 3, none⟩ = some (.string a2_3) := (bC BK187.out 3).trans rfl; have hcz130_4 : w126.cell? ⟨gb187, 4, none⟩ = some (.bool a2_4) := (bC BK187.out 4).trans rfl; have hfz130_0 := bF BK187.out 0; have hfz130_1 := bF BK187.out 1; have hfz130_2 := bF BK187.out 2; have hfz130_3 := bF BK187.out 3; have hfz130_4 := bF BK187.out 4))
                go_roundg k3
                case measure => have := HJ4.out; have := HK2.out; have := HK3.out; omega
                case rel => exact ⟨(wrap64 ((rd y215 x150_3) + (a2_2.size : Int))), (wrap64 (x150_3 + 1)), (t241), (t242), (.slice Ao128 t242.length co128), (by first | rfl | (simp; done) | (simp [*]; done)), (by first | rfl | (simp; done) | (simp [*]; done)), H', ⟨by have := HJ4.out; have := HK2.out; have := HK3.out; omega⟩, ⟨by (with_reducible repeat (first | apply ra | apply rn | apply rd_)); exact rM (rF (p := ⟨gb214, 1, none⟩) (rF (p := ⟨gb214, 0, none⟩) (rT HO_148.out BK214.out (by decide)) (fun _ hk => hk.2) (.string t241)) (fun _ hk => hk.2) (.slice Ao128 t242.length co128)) (fun _ hk => trivial)⟩, ⟨by (with_reducible repeat (first | apply ra | apply rn | apply rd_)); exact rM (rF (p := ⟨gb214, 1, none⟩) (rF (p := ⟨gb214, 0, none⟩) (rT HO_208001.out BK214.out (by decide)) (fun _ hk => hk.2) (.string t241)) (fun _ hk => hk.2) (.slice Ao128 t242.length co128)) (fun _ hk => hk.1.2)⟩, ⟨by (with_reducible repeat (first | apply ra | apply rn | apply rd_)); exact rM (rF (p := ⟨gb214, 1, none⟩) (rF (p := ⟨gb214, 0, none⟩) (rT HO244.out BK214.out (by decide)) (fun _ hk => hk.2) (.string t241)) (fun _ hk => hk.2) (.slice Ao128 t242.length co128)) (fun _ hk => hk.1.1.1.1.2)⟩, ⟨by (with_reducible repeat (first | apply qn | apply qd | apply qa)); refine bR ?_ NB186_214.out _; (with_reducible repeat (first | apply qn | apply qd | apply qa)); refine bR ?_ NB186_214.out _; exact qy BK186.out⟩, ⟨by (with_reducible repeat (first | apply qn | apply qd | apply qa)); refine bR ?_ NB187_214.out _; (with_reducible repeat (first | apply qn | apply qd | apply qa)); refine bR ?_ NB187_214.out _; exact qy BK187.out⟩, ⟨by (with_reducible repeat (first | apply qn | apply qd | apply qa)); refine bR ?_ NB188_214.out _; (with_reducible repeat (first | apply qn | apply qd | apply qa)); refine bR ?_ NB188_214.out _; exact qy BK188.out⟩, ⟨by (with_reducible repeat (first | apply qn | apply qd | apply qa)); refine bR ?_ NB207_214.out _; (with_reducible repeat (first | apply qn | apply qd | apply qa)); refine bR ?_ NB207_214.out _; exact qy BK207.out⟩, ⟨by (with_reducible repeat (first | apply qn | apply qd | apply qa)); refine bU (cs := #[.string t241, .slice Ao122 t237.length co122]) ?_ 1 _ rfl; (with_reducible repeat (first | apply qn | apply qd | apply qa)); refine bU (cs := #[.string t236, .slice Ao122 t237.length co122]) ?_ 0 _ rfl; exact qy BK214.out⟩, ⟨by repeat (first | (with_reducible first | exact HB.out | apply ea | apply en | apply ed | refine es ?_ GE186.out | refine es ?_ GE187.out | refine es ?_ GE188.out | refine es ?_ GE207.out | refine es ?_ GE214.out | refine es ?_ GE235.out) | exact HB.out)⟩⟩
               ·rw [if_neg c99] at H
                have c99b0 : decide ((rd y215 x150_3) < t212) = false := decide_eq_false c99
                clear c99
                have H' := aM H
                clear H
                have p229 : 0 ≤ (x150_3 : Int) := of_decide_eq_true (by first | (with_reducible assumption) | assumption)
                have q229 : x150_3 < (y215.length : Int) := of_decide_eq_true (by first | (with_reducible assumption) | assumption)
                obtain ⟨ad229, e229, hx229_0⟩ := Kd.at_int (rR HO_148.out).2.2 x150_3 p229 q229
                cases e229
                replace p229 := eq_true p229
                replace q229 := eq_true q229
                have hnb131 := NB186_187.out
                have hnc131 := NB187_186.out
                have hnb132 := NB186_188.out
                have hnc132 := NB188_186.out
                have hnb133 := NB186_207.out
                have hnc133 := NB207_186.out
                have hnb134 := NB186_214.out
                have hnc134 := NB214_186.out
                have hcz135_0 : wr.cell? ⟨gb186, 0, none⟩ = some (.string a0_0) := (bC BK186.out 0).trans rfl
                have hcz135_1 : wr.cell? ⟨gb186, 1, none⟩ = some (.slice A0_1 l0_1.length c0_1) := (bC BK186.out 1).trans rfl
                have hfz135_0 := bF BK186.out 0
                have hfz135_1 := bF BK186.out 1
                go_wp2_with (first | ((with_reducible refine gate_callee (f := 25) rfl ?_); refine goesL_ (some 158) rfl rfl Try.func25 (by kernel_rfl) rfl #[.agg #[.string a0_0, .slice A0_1 l0_1.length c0_1], .int .i64 x25_3, .int .i64 (rd y215 x150_3)] rfl (by (try simp only [mT, mC, mN]); first | done | rfl | (simp only [lD, lT]; rfl)) ?_; (with_reducible refine (strip_Cut.calls k3 a0_0 _ _ l0_1 x25_3 (rd y215 x150_3) t230 t231 t234 _ ?side1 ?side2 A97.out).mono ?_); (case side1 => repeat (first | exact (cB_ HR0_1.out HB.out) | (with_reducible refine Kd.C_alloc ?_ _) | (with_reducible refine Kd.C_drewN ?_ _) | (with_reducible refine Kd.C_drew ?_))); (case side2 => exact HC0_1.out); rintro e w136 ⟨v232, rfl, ho0, hb⟩; refine ⟨_, rfl, ?_⟩; have n0_ := aM (Kd.R_below (ry HO_148.out) hb); have n1_ := aM (rE (ry HO_208001.out) (Kd.R_base ho0) hb); have n2_ := aM (rE (ry HO_215001.out) (Kd.R_base ho0) hb); have n3_ := aM (rL (Kd.R_new' (Kd.R_new' ho0 (Kd.R_lt (ry HO_208001.out))) (Kd.R_lt (ry HO_215001.out))) (bZ (by repeat (first | (with_reducible first | exact HB.out | apply ea | apply en | apply ed | refine es ?_ GE186.out | refine es ?_ GE187.out | refine es ?_ GE188.out | refine es ?_ GE207.out | refine es ?_ GE214.out) | exact HB.out)))); have n4_ := aM (bB (g := gb186) (qy BK186.out) hb); have n5_ := aM (bB (g := gb187) (qy BK187.out) hb); have n6_ := aM (bB (g := gb188) (qy BK188.out) hb); have n7_ := aM (bB (g := gb207) (qy BK207.out) hb); have n8_ := aM (bB (g := gb214) (qy BK214.out) hb); have n9_ := aM (bP (by repeat (first | (with_reducible first | exact HB.out | apply ea | apply en | apply ed | refine es ?_ GE186.out | refine es ?_ GE187.out | refine es ?_ GE188.out | refine es ?_ GE207.out | refine es ?_ GE214.out) | exact HB.out)) hb); clear HO_148 HO_208001 HO_215001 BK186 BK187 BK188 BK207 BK214 HB; have HO_148 := n0_; have HO_208001 := n1_; have HO_215001 := n2_; have HO233 := n3_; have BK186 := n4_; have BK187 := n5_; have BK188 := n6_; have BK207 := n7_; have BK214 := n8_; have HB := n9_; clear n0_ n1_ n2_ n3_ n4_ n5_ n6_ n7_ n8_ n9_; (try clear hb); (try clear hb2); (try clear hk); (try clear hi); (try clear ho0)) | ((with_reducible refine gate_dst (N := 28) rfl ?_); (try (refine gate_guard (by rfl) ?_; dsimp only)); refine box_event ?hg (N := 28) ?hd (cs := #[.string (⟨#[]⟩ : ByteArray), .slice none 0 0]) (t := 24) ?hr ?_; (case hd | hg => rfl); (case hr => first | (go_simp; done) | (go_simp; rfl)); intro gb235 hg w137 hbox hb; have n0_ := aM (Kd.R_below (ry HO_148.out) hb); have n1_ := aM (Kd.R_below (ry HO_208001.out) hb); have n2_ := aM (Kd.R_below (ry HO_215001.out) hb); have n3_ := aM (Kd.R_below (ry HO233.out) hb); have n4_ := aM (bB (g := gb186) (qy BK186.out) hb); have n5_ := aM (bB (g := gb187) (qy BK187.out) hb); have n6_ := aM (bB (g := gb188) (qy BK188.out) hb); have n7_ := aM (bB (g := gb207) (qy BK207.out) hb); have n8_ := aM (bB (g := gb214) (qy BK214.out) hb); have n9_ := aM (bP (by repeat (first | (with_reducible first | exact HB.out | apply ea | apply en | apply ed | refine es ?_ GE186.out | refine es ?_ GE187.out | refine es ?_ GE188.out | refine es ?_ GE207.out | refine es ?_ GE214.out) | exact HB.out)) hb); have n10_ := aM (hbox); have n11_ := aM ((by rw [hg]; exact (bZ (by repeat (first | (with_reducible first | exact HB.out | apply ea | apply en | apply ed | refine es ?_ GE186.out | refine es ?_ GE187.out | refine es ?_ GE188.out | refine es ?_ GE207.out | refine es ?_ GE214.out) | exact HB.out))) : w.heap.size ≤ gb235)); have n12_ := n11_; have n13_ := aM ((by rw [hg]; exact Nat.ne_of_lt (blk_lt (g := gb186) (qy BK186.out)) : gb186 ≠ gb235)); have n14_ := aM ((by rw [hg]; exact Nat.ne_of_gt (blk_lt (g := gb186) (qy BK186.out)) : gb235 ≠ gb186)); have n15_ := aM ((by rw [hg]; exact Nat.ne_of_lt (blk_lt (g := gb187) (qy BK187.out)) : gb187 ≠ gb235)); have n16_ := aM ((by rw [hg]; exact Nat.ne_of_gt (blk_lt (g := gb187) (qy BK187.out)) : gb235 ≠ gb187)); have n17_ := aM ((by rw [hg]; exact Nat.ne_of_lt (blk_lt (g := gb188) (qy BK188.out)) : gb188 ≠ gb235)); have n18_ := aM ((by rw [hg]; exact Nat.ne_of_gt (blk_lt (g := gb188) (qy BK188.out)) : gb235 ≠ gb188)); have n19_ := aM ((by rw [hg]; exact Nat.ne_of_lt (blk_lt (g := gb207) (qy BK207.out)) : gb207 ≠ gb235)); have n20_ := aM ((by rw [hg]; exact Nat.ne_of_gt (blk_lt (g := gb207) (qy BK207.out)) : gb235 ≠ gb207)); have n21_ := aM ((by rw [hg]; exact Nat.ne_of_lt (blk_lt (g := gb214) (qy BK214.out)) : gb214 ≠ gb235)); have n22_ := aM ((by rw [hg]; exact Nat.ne_of_gt (blk_lt (g := gb214) (qy BK214.out)) : gb235 ≠ gb214)); clear HO_148 HO_208001 HO_215001 HO233 BK186 BK187 BK188 BK207 BK214 HB; have HO_148 := n0_; have HO_208001 := n1_; have HO_215001 := n2_; have HO233 := n3_; have BK186 := n4_; have BK187 := n5_; have BK188 := n6_; have BK207 := n7_; have BK214 := n8_; have HB := n9_; have BK235 := n10_; have GW235 := n11_; have GE235 := n12_; have NB186_235 := n13_; have NB235_186 := n14_; have NB187_235 := n15_; have NB235_187 := n16_; have NB188_235 := n17_; have NB235_188 := n18_; have NB207_235 := n19_; have NB235_207 := n20_; have NB214_235 := n21_; have NB235_214 := n22_; clear n0_ n1_ n2_ n3_ n4_ n5_ n6_ n7_ n8_ n9_ n10_ n11_ n12_ n13_ n14_ n15_ n16_ n17_ n18_ n19_ n20_ n21_ n22_; clear hb hbox hg; have hnb138 := NB235_186.out; have hnc138 := NB186_235.out; have hnb139 := NB235_187.out; have hnc139 := NB187_235.out; have hnb140 := NB235_188.out; have hnc140 := NB188_235.out; have hnb141 := NB235_207.out; have hnc141 := NB207_235.out; have hnb142 := NB235_214.out; have hnc142 := NB214_235.out; have hcz143_0 : w137.cell? ⟨gb235, 0, none⟩ = some (.string (⟨#[]⟩ : ByteArray)) := (bC BK235.out 0).trans rfl; have hcz143_1 : w137.cell? ⟨gb235, 1, none⟩ = some (.slice none 0 0) := (bC BK235.out 1).trans rfl; have hfz143_0 := bF BK235.out 0; have hfz143_1 := bF BK235.out 1; obtain ⟨Ao144, co144, eo144⟩ := Kd.R_slice HO233.out; subst eo144; have hnb145 := NB214_187.out; have hnc145 := NB187_214.out; have hnb146 := NB214_188.out; have hnc146 := NB188_214.out; have hnb147 := NB214_207.out; have hnc147 := NB207_214.out; have hcz148_0 : w137.cell? ⟨gb214, 0, none⟩ = some (.string x215000_3) := (bC BK214.out 0).trans rfl; have hcz148_1 : w137.cell? ⟨gb214, 1, none⟩ = some (u215001) := (bC BK214.out 1).trans rfl; have hfz148_0 := bF BK214.out 0; have hfz148_1 := bF BK214.out 1; obtain ⟨Ao149, co149, eo149⟩ := Kd.R_slice HO_215001.out; subst eo149) | ((with_reducible refine gate_callee (f := 26) rfl ?_); refine goesL_ (some 164) rfl rfl Try.func26 (by kernel_rfl) rfl #[.agg #[.string x215000_3, .slice Ao149 x215001_3.length co149], .agg #[.string t230, .slice Ao144 t231.length co144]] rfl (by (try simp only [mT, mC, mN]); first | done | rfl | (simp only [lD, lT]; rfl)) ?_; (with_reducible refine (strip_Cat.calls k3 x215000_3 _ _ x215001_3 t230 _ _ t231 t236 t237 t240 _ ?side1 ?side2 ?side3 ?side4 A98.out).mono ?_); (case side1 => refine (rR (e := 51) (base := w.heap.size) (ok := fun k_ => (some k_ ≠ (.slice Ao86 t203.length co86 : Value).ownBlock ∧ some k_ ≠ (.slice Ao144 t231.length co144 : Value).ownBlock)) (n := x215001_3.length) (c := co149) ?_).2.2; exact (by (with_reducible repeat (first | apply ra | apply rn | apply rd_)); exact (rM (rF (p := ⟨gb235, 1, none⟩) (rF (p := ⟨gb235, 0, none⟩) (rT HO_215001.out BK235.out (by decide)) (fun _ hk => hk.2) (.string t230)) (fun _ hk => hk.2) (.slice Ao144 t231.length co144)) (fun _ h_ => h_.1)))); (case side2 => exact (rR HO_215001.out).2.1); (case side3 => refine (rR (e := 51) (base := w.heap.size) (ok := fun k_ => ((True ∧ some k_ ≠ (.slice Ao86 t203.length co86 : Value).ownBlock) ∧ some k_ ≠ (.slice Ao149 x215001_3.length co149 : Value).ownBlock)) (n := t231.length) (c := co144) ?_).2.2; exact (by (with_reducible repeat (first | apply ra | apply rn | apply rd_)); exact (rM (rF (p := ⟨gb235, 1, none⟩) (rF (p := ⟨gb235, 0, none⟩) (rT HO233.out BK235.out (by decide)) (fun _ hk => hk.2) (.string t230)) (fun _ hk => hk.2) (.slice Ao144 t231.length co144)) (fun _ h_ => h_.1)))); (case side4 => exact (rR HO233.out).2.1); rintro e w150 ⟨v238, rfl, ho0, hb⟩; refine ⟨_, rfl, ?_⟩; have n0_ := aM (Kd.R_below (by (with_reducible repeat (first | apply ra | apply rn | apply rd_)); exact (rM (rF (p := ⟨gb235, 1, none⟩) (rF (p := ⟨gb235, 0, none⟩) (rT HO_148.out BK235.out (by decide)) (fun _ hk => hk.2) (.string t230)) (fun _ hk => hk.2) (.slice Ao144 t231.length co144)) (fun _ h_ => h_.1))) hb); have n1_ := aM (rE (by (with_reducible repeat (first | apply ra | apply rn | apply rd_)); exact (rM (rF (p := ⟨gb235, 1, none⟩) (rF (p := ⟨gb235, 0, none⟩) (rT HO_208001.out BK235.out (by decide)) (fun _ hk => hk.2) (.string t230)) (fun _ hk => hk.2) (.slice Ao144 t231.length co144)) (fun _ h_ => h_.1))) (Kd.R_base ho0) hb); have n2_ := aM (rE (by (with_reducible repeat (first | apply ra | apply rn | apply rd_)); exact (rM (rF (p := ⟨gb235, 1, none⟩) (rF (p := ⟨gb235, 0, none⟩) (rT HO_215001.out BK235.out (by decide)) (fun _ hk => hk.2) (.string t230)) (fun _ hk => hk.2) (.slice Ao144 t231.length co144)) (fun _ h_ => h_.1))) (Kd.R_base ho0) hb); have n3_ := aM (rE (by (with_reducible repeat (first | apply ra | apply rn | apply rd_)); exact (rM (rF (p := ⟨gb235, 1, none⟩) (rF (p := ⟨gb235, 0, none⟩) (rT HO233.out BK235.out (by decide)) (fun _ hk => hk.2) (.string t230)) (fun _ hk => hk.2) (.slice Ao144 t231.length co144)) (fun _ h_ => h_.1))) (Kd.R_base ho0) hb); have n4_ := aM (rL (Kd.R_new' (Kd.R_new' (Kd.R_new' ho0 (Kd.R_lt (by (with_reducible repeat (first | apply ra | apply rn | apply rd_)); exact (rM (rF (p := ⟨gb235, 1, none⟩) (rF (p := ⟨gb235, 0, none⟩) (rT HO_208001.out BK235.out (by decide)) (fun _ hk => hk.2) (.string t230)) (fun _ hk => hk.2) (.slice Ao144 t231.length co144)) (fun _ h_ => h_.1))))) (Kd.R_lt (by (with_reducible repeat (first | apply ra | apply rn | apply rd_)); exact (rM (rF (p := ⟨gb235, 1, none⟩) (rF (p := ⟨gb235, 0, none⟩) (rT HO_215001.out BK235.out (by decide)) (fun _ hk => hk.2) (.string t230)) (fun _ hk => hk.2) (.slice Ao144 t231.length co144)) (fun _ h_ => h_.1))))) (Kd.R_lt (by (with_reducible repeat (first | apply ra | apply rn | apply rd_)); exact (rM (rF (p := ⟨gb235, 1, none⟩) (rF (p := ⟨gb235, 0, none⟩) (rT HO233.out BK235.out (by decide)) (fun _ hk => hk.2) (.string t230)) (fun _ hk => hk.2) (.slice Ao144 t231.length co144)) (fun _ h_ => h_.1))))) (bZ (by repeat (first | (with_reducible first | exact HB.out | apply ea | apply en | apply ed | refine es ?_ GE186.out | refine es ?_ GE187.out | refine es ?_ GE188.out | refine es ?_ GE207.out | refine es ?_ GE214.out | refine es ?_ GE235.out) | exact HB.out)))); have n5_ := aM (bB (g := gb186) (o := .cells #[.string a0_0, .slice A0_1 l0_1.length c0_1] 24 (0, 0)) (by (with_reducible repeat (first | apply qn | apply qd | apply qa)); refine bR ?_ NB186_235.out _; (with_reducible repeat (first | apply qn | apply qd | apply qa)); refine bR ?_ NB186_235.out _; exact qy BK186.out) hb); have n6_ := aM (bB (g := gb187) (o := .cells #[.int .i64 a2_0, .int .i64 a2_1, .string a2_2, .string a2_3, .bool a2_4] 28 (0, 0)) (by (with_reducible repeat (first | apply qn | apply qd | apply qa)); refine bR ?_ NB187_235.out _; (with_reducible repeat (first | apply qn | apply qd | apply qa)); refine bR ?_ NB187_235.out _; exact qy BK187.out) hb); have n7_ := aM (bB (g := gb188) (o := .cells #[.int .i64 0, .string (⟨#[]⟩ : ByteArray), .slice none 0 0, .string (⟨#[]⟩ : ByteArray), .slice none 0 0] 32 (0, 0)) (by (with_reducible repeat (first | apply qn | apply qd | apply qa)); refine bR ?_ NB188_235.out _; (with_reducible repeat (first | apply qn | apply qd | apply qa)); refine bR ?_ NB188_235.out _; exact qy BK188.out) hb); have n8_ := aM (bB (g := gb207) (o := .cells #[.string t202, .slice Ao86 t203.length co86] 24 (0, 0)) (by (with_reducible repeat (first | apply qn | apply qd | apply qa)); refine bR ?_ NB207_235.out _; (with_reducible repeat (first | apply qn | apply qd | apply qa)); refine bR ?_ NB207_235.out _; exact qy BK207.out) hb); have n9_ := aM (bB (g := gb214) (o := .cells #[.string x215000_3, .slice Ao149 x215001_3.length co149] 24 (0, 0)) (by (with_reducible repeat (first | apply qn | apply qd | apply qa)); refine bR ?_ NB214_235.out _; (with_reducible repeat (first | apply qn | apply qd | apply qa)); refine bR ?_ NB214_235.out _; exact qy BK214.out) hb); have n10_ := aM (bB (g := gb235) (o := .cells #[.string t230, .slice Ao144 t231.length co144] 24 (0, 0)) (by (with_reducible repeat (first | apply qn | apply qd | apply qa)); refine bU (cs := #[.string t230, .slice none 0 0]) ?_ 1 _ rfl; (with_reducible repeat (first | apply qn | apply qd | apply qa)); refine bU (cs := #[.string (⟨#[]⟩ : ByteArray), .slice none 0 0]) ?_ 0 _ rfl; exact qy BK235.out) hb); have n11_ := aM (bP (by repeat (first | (with_reducible first | exact HB.out | apply ea | apply en | apply ed | refine es ?_ GE186.out | refine es ?_ GE187.out | refine es ?_ GE188.out | refine es ?_ GE207.out | refine es ?_ GE214.out | refine es ?_ GE235.out) | exact HB.out)) hb); clear HO_148 HO_208001 HO_215001 HO233 BK186 BK187 BK188 BK207 BK214 BK235 HB; have HO_148 := n0_; have HO_208001 := n1_; have HO_215001 := n2_; have HO233 := n3_; have HO239 := n4_; have BK186 := n5_; have BK187 := n6_; have BK188 := n7_; have BK207 := n8_; have BK214 := n9_; have BK235 := n10_; have HB := n11_; clear n0_ n1_ n2_ n3_ n4_ n5_ n6_ n7_ n8_ n9_ n10_ n11_; (try clear hb); (try clear hb2); (try clear hk); (try clear hi); (try clear ho0); have hcz151_0 : w150.cell? ⟨gb214, 0, none⟩ = some (.string x215000_3) := (bC BK214.out 0).trans rfl; have hcz151_1 : w150.cell? ⟨gb214, 1, none⟩ = some (.slice Ao149 x215001_3.length co149) := (bC BK214.out 1).trans rfl; have hfz151_0 := bF BK214.out 0; have hfz151_1 := bF BK214.out 1; obtain ⟨Ao152, co152, eo152⟩ := Kd.R_slice HO239.out; subst eo152; have hnb153 := NB187_188.out; have hnc153 := NB188_187.out; have hnb154 := NB187_207.out; have hnc154 := NB207_187.out; have hcz155_0 : w150.cell? ⟨gb187, 0, none⟩ = some (.int .i64 a2_0) := (bC BK187.out 0).trans rfl; have hcz155_1 : w150.cell? ⟨gb187, 1, none⟩ = some (.int .i64 a2_1) := (bC BK187.out 1).trans rfl; have hcz155_2 : w150.cell? ⟨gb187, 2, none⟩ = some (.string a2_2) := (bC BK187.out 2).trans rfl; have hcz155_3 : w150.cell? ⟨gb187, 3, none⟩ = some (.string a2_3) := (bC BK187.out 3).trans rfl; have hcz155_4 : w150.cell? ⟨gb187, 4, none⟩ = some (.bool a2_4) := (bC BK187.out 4).trans rfl; have hfz155_0 := bF BK187.out 0; have hfz155_1 := bF BK187.out 1; have hfz155_2 := bF BK187.out 2; have hfz155_3 := bF BK187.out 3; have hfz155_4 := bF BK187.out 4))
                go_roundg k3
                case measure => have := HJ4.out; have := HK2.out; have := HK3.out; omega
                case rel => exact ⟨(wrap64 ((rd y215 x150_3) + (a2_2.size : Int))), (wrap64 (x150_3 + 1)), (t236), (t237), (.slice Ao152 t237.length co152), (by first | rfl | (simp; done) | (simp [*]; done)), (by first | rfl | (simp; done) | (simp [*]; done)), H', ⟨by have := HJ4.out; have := HK2.out; have := HK3.out; omega⟩, ⟨by (with_reducible repeat (first | apply ra | apply rn | apply rd_)); exact rM (rF (p := ⟨gb214, 1, none⟩) (rF (p := ⟨gb214, 0, none⟩) (rT HO_148.out BK214.out (by decide)) (fun _ hk => hk.2) (.string t236)) (fun _ hk => hk.2) (.slice Ao152 t237.length co152)) (fun _ hk => trivial)⟩, ⟨by (with_reducible repeat (first | apply ra | apply rn | apply rd_)); exact rM (rF (p := ⟨gb214, 1, none⟩) (rF (p := ⟨gb214, 0, none⟩) (rT HO_208001.out BK214.out (by decide)) (fun _ hk => hk.2) (.string t236)) (fun _ hk => hk.2) (.slice Ao152 t237.length co152)) (fun _ hk => hk.1.2)⟩, ⟨by (with_reducible repeat (first | apply ra | apply rn | apply rd_)); exact rM (rF (p := ⟨gb214, 1, none⟩) (rF (p := ⟨gb214, 0, none⟩) (rT HO239.out BK214.out (by decide)) (fun _ hk => hk.2) (.string t236)) (fun _ hk => hk.2) (.slice Ao152 t237.length co152)) (fun _ hk => hk.1.1.1.2)⟩, ⟨by (with_reducible repeat (first | apply qn | apply qd | apply qa)); refine bR ?_ NB186_214.out _; (with_reducible repeat (first | apply qn | apply qd | apply qa)); refine bR ?_ NB186_214.out _; exact qy BK186.out⟩, ⟨by (with_reducible repeat (first | apply qn | apply qd | apply qa)); refine bR ?_ NB187_214.out _; (with_reducible repeat (first | apply qn | apply qd | apply qa)); refine bR ?_ NB187_214.out _; exact qy BK187.out⟩, ⟨by (with_reducible repeat (first | apply qn | apply qd | apply qa)); refine bR ?_ NB188_214.out _; (with_reducible repeat (first | apply qn | apply qd | apply qa)); refine bR ?_ NB188_214.out _; exact qy BK188.out⟩, ⟨by (with_reducible repeat (first | apply qn | apply qd | apply qa)); refine bR ?_ NB207_214.out _; (with_reducible repeat (first | apply qn | apply qd | apply qa)); refine bR ?_ NB207_214.out _; exact qy BK207.out⟩, ⟨by (with_reducible repeat (first | apply qn | apply qd | apply qa)); refine bU (cs := #[.string t236, .slice Ao149 x215001_3.length co149]) ?_ 1 _ rfl; (with_reducible repeat (first | apply qn | apply qd | apply qa)); refine bU (cs := #[.string x215000_3, .slice Ao149 x215001_3.length co149]) ?_ 0 _ rfl; exact qy BK214.out⟩, ⟨by repeat (first | (with_reducible first | exact HB.out | apply ea | apply en | apply ed | refine es ?_ GE186.out | refine es ?_ GE187.out | refine es ?_ GE188.out | refine es ?_ GE207.out | refine es ?_ GE214.out | refine es ?_ GE235.out) | exact HB.out)⟩⟩
              ·rw [if_neg c96] at H
               exact absurd H (by simp)
             ·rw [if_neg c95] at H
              exact absurd H (by simp)
            ·rw [if_neg c94] at H
             have c94b0 : decide (x150_3 < (y215.length : Int)) = false := decide_eq_false c94
             clear c94
             replace H := Option.bind_eq_some_iff.mp H
             obtain ⟨⟨t218, t219, t220, t223, t224, t227⟩, A1560, H⟩ := H
             replace H : (some (t218, t219, t220, t223, t224, (x11_2.length : Int), t227)) = some (r1, r2, r3, r4, r5, r6, r7) := H
             have A156 := aM A1560
             clear A1560
             simp only [Option.some.injEq, Prod.mk.injEq] at H
             obtain ⟨rfl, rfl, rfl, rfl, rfl, rfl, rfl⟩ := H
             have hnb157 := NB186_187.out
             have hnc157 := NB187_186.out
             have hnb158 := NB186_188.out
             have hnc158 := NB188_186.out
             have hnb159 := NB186_207.out
             have hnc159 := NB207_186.out
             have hnb160 := NB186_214.out
             have hnc160 := NB214_186.out
             have hcz161_0 : wr.cell? ⟨gb186, 0, none⟩ = some (.string a0_0) := (bC BK186.out 0).trans rfl
             have hcz161_1 : wr.cell? ⟨gb186, 1, none⟩ = some (.slice A0_1 l0_1.length c0_1) := (bC BK186.out 1).trans rfl
             have hfz161_0 := bF BK186.out 0
             have hfz161_1 := bF BK186.out 1
             have hnb162 := NB214_187.out
             have hnc162 := NB187_214.out
             have hnb163 := NB214_188.out
             have hnc163 := NB188_214.out
             have hnb164 := NB214_207.out
             have hnc164 := NB207_214.out
             have hcz165_0 : wr.cell? ⟨gb214, 0, none⟩ = some (.string x215000_3) := (bC BK214.out 0).trans rfl
             have hcz165_1 : wr.cell? ⟨gb214, 1, none⟩ = some (u215001) := (bC BK214.out 1).trans rfl
             have hfz165_0 := bF BK214.out 0
             have hfz165_1 := bF BK214.out 1
             obtain ⟨Ao166, co166, eo166⟩ := Kd.R_slice HO_215001.out
             subst eo166
             go_wp2_with (first | ((with_reducible refine gate_callee (f := 27) rfl ?_); refine goesL_ (some 187) rfl rfl Try.func27 (by kernel_rfl) rfl #[.agg #[.string a0_0, .slice A0_1 l0_1.length c0_1], .int .i64 t208, .int .i64 t212, .agg #[.string x215000_3, .slice Ao166 x215001_3.length co166]] rfl (by (try simp only [mT, mC, mN]); first | done | rfl | (simp only [lD, lT]; rfl)) ?_; (with_reducible refine (edit_Of.calls k3 a0_0 _ _ l0_1 t208 t212 x215000_3 _ _ x215001_3 t218 t219 t220 t223 t224 t227 _ ?side1 ?side2 ?side3 ?side4 A156.out).mono ?_); (case side1 => repeat (first | exact (cB_ HR0_1.out HB.out) | (with_reducible refine Kd.C_alloc ?_ _) | (with_reducible refine Kd.C_drewN ?_ _) | (with_reducible refine Kd.C_drew ?_))); (case side2 => exact HC0_1.out); (case side3 => repeat (first | exact (rR HO_215001.out).2.2 | (with_reducible refine Kd.C_alloc ?_ _) | (with_reducible refine Kd.C_drewN ?_ _) | (with_reducible refine Kd.C_drew ?_))); (case side4 => exact (rR HO_215001.out).2.1); rintro e w167 ⟨v221, v225, rfl, ho0, ho1, hb⟩; refine ⟨_, rfl, ?_⟩; have n0_ := aM (Kd.R_below (ry HO_148.out) hb); have n1_ := aM (rM (Kd.R_told (Kd.R_told (Kd.R_old (ry HO_208001.out) hb) (Kd.R_base ho0)) (Kd.R_base ho1)) (fun _ h_ => h_.1)); have n2_ := aM (rM (Kd.R_told (Kd.R_told (Kd.R_old (ry HO_215001.out) hb) (Kd.R_base ho0)) (Kd.R_base ho1)) (fun _ h_ => h_.1)); have n3_ := aM (rL (Kd.R_new' (Kd.R_new' ho0 (Kd.R_lt (ry HO_208001.out))) (Kd.R_lt (ry HO_215001.out))) (bZ (by repeat (first | (with_reducible first | exact HB.out | apply ea | apply en | apply ed | refine es ?_ GE186.out | refine es ?_ GE187.out | refine es ?_ GE188.out | refine es ?_ GE207.out | refine es ?_ GE214.out) | exact HB.out)))); have n4_ := aM (rL (Kd.R_new' (Kd.R_new' ho1 (Kd.R_lt (ry HO_208001.out))) (Kd.R_lt (ry HO_215001.out))) (bZ (by repeat (first | (with_reducible first | exact HB.out | apply ea | apply en | apply ed | refine es ?_ GE186.out | refine es ?_ GE187.out | refine es ?_ GE188.out | refine es ?_ GE207.out | refine es ?_ GE214.out) | exact HB.out)))); have n5_ := aM (bB (g := gb186) (qy BK186.out) hb); have n6_ := aM (bB (g := gb187) (qy BK187.out) hb); have n7_ := aM (bB (g := gb188) (qy BK188.out) hb); have n8_ := aM (bB (g := gb207) (qy BK207.out) hb); have n9_ := aM (bB (g := gb214) (qy BK214.out) hb); have n10_ := aM (bP (by repeat (first | (with_reducible first | exact HB.out | apply ea | apply en | apply ed | refine es ?_ GE186.out | refine es ?_ GE187.out | refine es ?_ GE188.out | refine es ?_ GE207.out | refine es ?_ GE214.out) | exact HB.out)) hb); clear HO_148 HO_208001 HO_215001 BK186 BK187 BK188 BK207 BK214 HB; have HO_148 := n0_; have HO_208001 := n1_; have HO_215001 := n2_; have HO222 := n3_; have HO226 := n4_; have BK186 := n5_; have BK187 := n6_; have BK188 := n7_; have BK207 := n8_; have BK214 := n9_; have HB := n10_; clear n0_ n1_ n2_ n3_ n4_ n5_ n6_ n7_ n8_ n9_ n10_; (try clear hb); (try clear hb2); (try clear hk); (try clear hi); (try clear ho0); (try clear ho1)) | ((with_reducible refine gate_dst (N := 30) rfl ?_); (try (refine gate_guard (by rfl) ?_; dsimp only)); refine box_event ?hg (N := 30) ?hd (cs := #[.int .i64 0, .string (⟨#[]⟩ : ByteArray), .slice none 0 0, .string (⟨#[]⟩ : ByteArray), .slice none 0 0]) (t := 32) ?hr ?_; (case hd | hg => rfl); (case hr => first | (go_simp; done) | (go_simp; rfl)); intro gb228 hg w168 hbox hb; have n0_ := aM (Kd.R_below (ry HO_148.out) hb); have n1_ := aM (Kd.R_below (ry HO_208001.out) hb); have n2_ := aM (Kd.R_below (ry HO_215001.out) hb); have n3_ := aM (Kd.R_below (ry HO222.out) hb); have n4_ := aM (Kd.R_below (ry HO226.out) hb); have n5_ := aM (bB (g := gb186) (qy BK186.out) hb); have n6_ := aM (bB (g := gb187) (qy BK187.out) hb); have n7_ := aM (bB (g := gb188) (qy BK188.out) hb); have n8_ := aM (bB (g := gb207) (qy BK207.out) hb); have n9_ := aM (bB (g := gb214) (qy BK214.out) hb); have n10_ := aM (bP (by repeat (first | (with_reducible first | exact HB.out | apply ea | apply en | apply ed | refine es ?_ GE186.out | refine es ?_ GE187.out | refine es ?_ GE188.out | refine es ?_ GE207.out | refine es ?_ GE214.out) | exact HB.out)) hb); have n11_ := aM (hbox); have n12_ := aM ((by rw [hg]; exact (bZ (by repeat (first | (with_reducible first | exact HB.out | apply ea | apply en | apply ed | refine es ?_ GE186.out | refine es ?_ GE187.out | refine es ?_ GE188.out | refine es ?_ GE207.out | refine es ?_ GE214.out) | exact HB.out))) : w.heap.size ≤ gb228)); have n13_ := n12_; have n14_ := aM ((by rw [hg]; exact Nat.ne_of_lt (blk_lt (g := gb186) (qy BK186.out)) : gb186 ≠ gb228)); have n15_ := aM ((by rw [hg]; exact Nat.ne_of_gt (blk_lt (g := gb186) (qy BK186.out)) : gb228 ≠ gb186)); have n16_ := aM ((by rw [hg]; exact Nat.ne_of_lt (blk_lt (g := gb187) (qy BK187.out)) : gb187 ≠ gb228)); have n17_ := aM ((by rw [hg]; exact Nat.ne_of_gt (blk_lt (g := gb187) (qy BK187.out)) : gb228 ≠ gb187)); have n18_ := aM ((by rw [hg]; exact Nat.ne_of_lt (blk_lt (g := gb188) (qy BK188.out)) : gb188 ≠ gb228)); have n19_ := aM ((by rw [hg]; exact Nat.ne_of_gt (blk_lt (g := gb188) (qy BK188.out)) : gb228 ≠ gb188)); have n20_ := aM ((by rw [hg]; exact Nat.ne_of_lt (blk_lt (g := gb207) (qy BK207.out)) : gb207 ≠ gb228)); have n21_ := aM ((by rw [hg]; exact Nat.ne_of_gt (blk_lt (g := gb207) (qy BK207.out)) : gb228 ≠ gb207)); have n22_ := aM ((by rw [hg]; exact Nat.ne_of_lt (blk_lt (g := gb214) (qy BK214.out)) : gb214 ≠ gb228)); have n23_ := aM ((by rw [hg]; exact Nat.ne_of_gt (blk_lt (g := gb214) (qy BK214.out)) : gb228 ≠ gb214)); clear HO_148 HO_208001 HO_215001 HO222 HO226 BK186 BK187 BK188 BK207 BK214 HB; have HO_148 := n0_; have HO_208001 := n1_; have HO_215001 := n2_; have HO222 := n3_; have HO226 := n4_; have BK186 := n5_; have BK187 := n6_; have BK188 := n7_; have BK207 := n8_; have BK214 := n9_; have HB := n10_; have BK228 := n11_; have GW228 := n12_; have GE228 := n13_; have NB186_228 := n14_; have NB228_186 := n15_; have NB187_228 := n16_; have NB228_187 := n17_; have NB188_228 := n18_; have NB228_188 := n19_; have NB207_228 := n20_; have NB228_207 := n21_; have NB214_228 := n22_; have NB228_214 := n23_; clear n0_ n1_ n2_ n3_ n4_ n5_ n6_ n7_ n8_ n9_ n10_ n11_ n12_ n13_ n14_ n15_ n16_ n17_ n18_ n19_ n20_ n21_ n22_ n23_; clear hb hbox hg; have hnb169 := NB228_186.out; have hnc169 := NB186_228.out; have hnb170 := NB228_187.out; have hnc170 := NB187_228.out; have hnb171 := NB228_188.out; have hnc171 := NB188_228.out; have hnb172 := NB228_207.out; have hnc172 := NB207_228.out; have hnb173 := NB228_214.out; have hnc173 := NB214_228.out; have hcz174_0 : w168.cell? ⟨gb228, 0, none⟩ = some (.int .i64 0) := (bC BK228.out 0).trans rfl; have hcz174_1 : w168.cell? ⟨gb228, 1, none⟩ = some (.string (⟨#[]⟩ : ByteArray)) := (bC BK228.out 1).trans rfl; have hcz174_2 : w168.cell? ⟨gb228, 2, none⟩ = some (.slice none 0 0) := (bC BK228.out 2).trans rfl; have hcz174_3 : w168.cell? ⟨gb228, 3, none⟩ = some (.string (⟨#[]⟩ : ByteArray)) := (bC BK228.out 3).trans rfl; have hcz174_4 : w168.cell? ⟨gb228, 4, none⟩ = some (.slice none 0 0) := (bC BK228.out 4).trans rfl; have hfz174_0 := bF BK228.out 0; have hfz174_1 := bF BK228.out 1; have hfz174_2 := bF BK228.out 2; have hfz174_3 := bF BK228.out 3; have hfz174_4 := bF BK228.out 4; obtain ⟨Ao175, co175, eo175⟩ := Kd.R_slice HO222.out; subst eo175; obtain ⟨Ao176, co176, eo176⟩ := Kd.R_slice HO226.out; subst eo176; have hnb177 := NB188_187.out; have hnc177 := NB187_188.out; have hnb178 := NB188_207.out; have hnc178 := NB207_188.out; have hcz179_0 : w168.cell? ⟨gb188, 0, none⟩ = some (.int .i64 0) := (bC BK188.out 0).trans rfl; have hcz179_1 : w168.cell? ⟨gb188, 1, none⟩ = some (.string (⟨#[]⟩ : ByteArray)) := (bC BK188.out 1).trans rfl; have hcz179_2 : w168.cell? ⟨gb188, 2, none⟩ = some (.slice none 0 0) := (bC BK188.out 2).trans rfl; have hcz179_3 : w168.cell? ⟨gb188, 3, none⟩ = some (.string (⟨#[]⟩ : ByteArray)) := (bC BK188.out 3).trans rfl; have hcz179_4 : w168.cell? ⟨gb188, 4, none⟩ = some (.slice none 0 0) := (bC BK188.out 4).trans rfl; have hfz179_0 := bF BK188.out 0; have hfz179_1 := bF BK188.out 1; have hfz179_2 := bF BK188.out 2; have hfz179_3 := bF BK188.out 3; have hfz179_4 := bF BK188.out 4))
             refine bodyPost_ret (results_ctt rfl _ _ gb188 32 #[.int .i64 t218, .string t219, .slice Ao175 t220.length co175, .string t223, .slice Ao176 t224.length co176] (0, 0) _ rfl (by (with_reducible repeat (first | apply qn | apply qd | apply qa)); refine bU (cs := #[.int .i64 t218, .string t219, .slice Ao175 t220.length co175, .string t223, .slice none 0 0]) ?_ 4 _ rfl; (with_reducible repeat (first | apply qn | apply qd | apply qa)); refine bU (cs := #[.int .i64 t218, .string t219, .slice Ao175 t220.length co175, .string (⟨#[]⟩ : ByteArray), .slice none 0 0]) ?_ 3 _ rfl; (with_reducible repeat (first | apply qn | apply qd | apply qa)); refine bU (cs := #[.int .i64 t218, .string t219, .slice none 0 0, .string (⟨#[]⟩ : ByteArray), .slice none 0 0]) ?_ 2 _ rfl; (with_reducible repeat (first | apply qn | apply qd | apply qa)); refine bU (cs := #[.int .i64 t218, .string (⟨#[]⟩ : ByteArray), .slice none 0 0, .string (⟨#[]⟩ : ByteArray), .slice none 0 0]) ?_ 1 _ rfl; (with_reducible repeat (first | apply qn | apply qd | apply qa)); refine bU (cs := #[.int .i64 0, .string (⟨#[]⟩ : ByteArray), .slice none 0 0, .string (⟨#[]⟩ : ByteArray), .slice none 0 0]) ?_ 0 _ rfl; (with_reducible repeat (first | apply qn | apply qd | apply qa)); refine bR ?_ NB188_228.out _; (with_reducible repeat (first | apply qn | apply qd | apply qa)); refine bR ?_ NB188_228.out _; (with_reducible repeat (first | apply qn | apply qd | apply qa)); refine bR ?_ NB188_228.out _; (with_reducible repeat (first | apply qn | apply qd | apply qa)); refine bR ?_ NB188_228.out _; (with_reducible repeat (first | apply qn | apply qd | apply qa)); refine bR ?_ NB188_228.out _; exact qy BK188.out) Try.underlying32 rfl (by kernel_rfl)) rfl ?_
             exact ⟨_, _, by first | rfl | (simp [errW_none, errW_some] <;> rfl) | (simp [*, errW_none, errW_some] <;> rfl), by (with_reducible repeat (first | apply ra | apply rn | apply rd_)); exact rM (rF (p := ⟨gb188, 4, none⟩) (rF (p := ⟨gb188, 3, none⟩) (rF (p := ⟨gb188, 2, none⟩) (rF (p := ⟨gb188, 1, none⟩) (rF (p := ⟨gb188, 0, none⟩) (rF (p := ⟨gb228, 4, none⟩) (rF (p := ⟨gb228, 3, none⟩) (rF (p := ⟨gb228, 2, none⟩) (rF (p := ⟨gb228, 1, none⟩) (rF (p := ⟨gb228, 0, none⟩) (rT (rT HO222.out BK228.out (by decide)) BK188.out (by decide)) (fun _ hk => hk.1.2) (.int .i64 t218)) (fun _ hk => hk.1.2) (.string t219)) (fun _ hk => hk.1.2) (.slice Ao175 t220.length co175)) (fun _ hk => hk.1.2) (.string t223)) (fun _ hk => hk.1.2) (.slice Ao176 t224.length co176)) (fun _ hk => hk.2) (.int .i64 t218)) (fun _ hk => hk.2) (.string t219)) (fun _ hk => hk.2) (.slice Ao175 t220.length co175)) (fun _ hk => hk.2) (.string t223)) (fun _ hk => hk.2) (.slice Ao176 t224.length co176)) (fun _ hk => hk.1.1.1.1), by (with_reducible repeat (first | apply ra | apply rn | apply rd_)); exact rM (rF (p := ⟨gb188, 4, none⟩) (rF (p := ⟨gb188, 3, none⟩) (rF (p := ⟨gb188, 2, none⟩) (rF (p := ⟨gb188, 1, none⟩) (rF (p := ⟨gb188, 0, none⟩) (rF (p := ⟨gb228, 4, none⟩) (rF (p := ⟨gb228, 3, none⟩) (rF (p := ⟨gb228, 2, none⟩) (rF (p := ⟨gb228, 1, none⟩) (rF (p := ⟨gb228, 0, none⟩) (rT (rT HO226.out BK228.out (by decide)) BK188.out (by decide)) (fun _ hk => hk.1.2) (.int .i64 t218)) (fun _ hk => hk.1.2) (.string t219)) (fun _ hk => hk.1.2) (.slice Ao175 t220.length co175)) (fun _ hk => hk.1.2) (.string t223)) (fun _ hk => hk.1.2) (.slice Ao176 t224.length co176)) (fun _ hk => hk.2) (.int .i64 t218)) (fun _ hk => hk.2) (.string t219)) (fun _ hk => hk.2) (.slice Ao175 t220.length co175)) (fun _ hk => hk.2) (.string t223)) (fun _ hk => hk.2) (.slice Ao176 t224.length co176)) (fun _ hk => hk.1.1.1.1), by repeat (first | (with_reducible first | exact HB.out | apply ea | apply en | apply ed | refine es ?_ GE186.out | refine es ?_ GE187.out | refine es ?_ GE188.out | refine es ?_ GE207.out | refine es ?_ GE214.out | refine es ?_ GE228.out) | exact HB.out)⟩
         ·rw [if_neg c73] at H
          exact absurd H (by simp)
end Go.Proofs.Ytnbdldpjiofafaa.PB
end
