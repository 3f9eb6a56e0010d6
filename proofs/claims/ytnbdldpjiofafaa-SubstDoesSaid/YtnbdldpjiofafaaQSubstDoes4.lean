/- What the row hangs on, part 4. -/
import Derived.Test.YtnbdldpjiofafaaQSubstDoes3
section
namespace Go.Proofs.Ytnbdldpjiofafaa.PB
open Go.RowKit Go.Proofs.YtnbdldpjiofafaaW.PrintWords Go.Proofs.YtnbdldpjiofafaaW.PrintLast Go.Proofs.YtnbdldpjiofafaaW.PrintMore
attribute [local go_sem] max2_int min2_int max_two min_two max_three min_three max_four min_four   
set_option linter.unusedVariables false
set_option linter.unusedSimpArgs false
mutual
def subst_Do.j0 : Nat → Int → ByteArray → Bool → ByteArray → List (S51) → Int → Int → ByteArray → ByteArray → Bool → Option (Int × ByteArray × (List (S51)) × ByteArray × (List (S51)) × Int × Int)
 | 0, _, _, _, _, _, _, _, _, _, _ => none
 | k + 1, x1, x9, x74, x187000, x187001, x188000, x188001, x188002, x188003, x188004 => if x74 = true then (some (0, (⟨#[]⟩ : ByteArray), ([] : List (S51)), (⟨#[]⟩ : ByteArray), ([] : List (S51)), 0, 2)) else (subst_Do.l0 k x1 x9 ([] : List Int) x188000 x187000 x187001 x188000 x188001 x188002 x188003 x188004)
def subst_Do.l0 : Nat → Int → ByteArray → List Int → Int → ByteArray → List (S51) → Int → Int → ByteArray → ByteArray → Bool → Option (Int × ByteArray × (List (S51)) × ByteArray × (List (S51)) × Int × Int)
 | 0, _, _, _, _, _, _, _, _, _, _, _ => none
 | k + 1, x1, x9, x11, x12, x187000, x187001, x188000, x188001, x188002, x188003, x188004 => if x12 ≤ x188001 then ((line_Bounds.f k x9 x12).bind fun bt193 => ((subst_places.f k x187000 x187001 x1 x188000 x188001 x188002 x188003 x188004 bt193.1 bt193.2.1).bind fun t196 => (if x11.length + t196.length < 17592186044416 then (subst_Do.l0 k x1 x9 (x11 ++ t196) (wrap64 (x12 + 1)) x187000 x187001 x188000 x188001 x188002 x188003 x188004) else (none)))) else (if (x11.length : Int) = 0 then (some (0, (⟨#[]⟩ : ByteArray), ([] : List (S51)), (⟨#[]⟩ : ByteArray), ([] : List (S51)), 0, 6)) else (if (wrap64 ((x187000.size : Int) + (wrap64 ((x11.length : Int) * (wrap64 ((x188003.size : Int) - (x188002.size : Int))))))) > 4096 then (some (0, (⟨#[]⟩ : ByteArray), ([] : List (S51)), (⟨#[]⟩ : ByteArray), ([] : List (S51)), 0, 3)) else ((strip_Make.f k x188003 x1).bind fun bt202 => ((line_Bounds.f k x9 x188000).bind fun bt208 => ((line_Bounds.f k x9 x188001).bind fun bt211 => (if x11.length < 17592186044416 then ((some (x11 ++ [bt211.2.1] : List Int)).bind fun y215 => (subst_Do.l1 k x11 bt208.1 bt211.2.1 bt208.1 y215 (y215.length : Int) 0 x187000 x187001 x188000 x188001 x188002 x188003 x188004 bt202.1 bt202.2.1 (⟨#[]⟩ : ByteArray) ([] : List (S51)))) else (none)))))))
def subst_Do.l1 : Nat → List Int → Int → Int → Int → List Int → Int → Int → ByteArray → List (S51) → Int → Int → ByteArray → ByteArray → Bool → ByteArray → List (S51) → ByteArray → List (S51) → Option (Int × ByteArray × (List (S51)) × ByteArray × (List (S51)) × Int × Int)
 | 0, _, _, _, _, _, _, _, _, _, _, _, _, _, _, _, _, _, _ => none
 | k + 1, x11, x18, x22, x25, x148, x149, x150, x187000, x187001, x188000, x188001, x188002, x188003, x188004, x208000, x208001, x215000, x215001 => if x150 < x149 then (if 0 ≤ x150 then (if x150 < (x148.length : Int) then ((strip_Cut.f k x187000 x187001 x25 (rd x148 x150)).bind fun bt230 => ((strip_Cat.f k x215000 x215001 bt230.1 bt230.2.1).bind fun bt236 => (if (rd x148 x150) < x22 then ((strip_Cat.f k bt236.1 bt236.2.1 x208000 x208001).bind fun bt241 => (subst_Do.l1 k x11 x18 x22 (wrap64 ((rd x148 x150) + (x188002.size : Int))) x148 x149 (wrap64 (x150 + 1)) x187000 x187001 x188000 x188001 x188002 x188003 x188004 x208000 x208001 bt241.1 bt241.2.1)) else (subst_Do.l1 k x11 x18 x22 (wrap64 ((rd x148 x150) + (x188002.size : Int))) x148 x149 (wrap64 (x150 + 1)) x187000 x187001 x188000 x188001 x188002 x188003 x188004 x208000 x208001 bt236.1 bt236.2.1)))) else (none)) else (none)) else ((edit_Of.f k x187000 x187001 x18 x22 x215000 x215001).bind fun bt218 => (some (bt218.1, bt218.2.1, bt218.2.2.1, bt218.2.2.2.1, bt218.2.2.2.2.1, (x11.length : Int), bt218.2.2.2.2.2)))
end
def subst_Do.f (k : Nat) (a0_0 : ByteArray) (l0_1 : List (S51)) (a1 : Int) (a2_0 : Int) (a2_1 : Int) (a2_2 : ByteArray) (a2_3 : ByteArray) (a2_4 : Bool) : Option (Int × ByteArray × (List (S51)) × ByteArray × (List (S51)) × Int × Int) := (strip_View.f k a0_0 l0_1 a1).bind fun bt189 => (if bt189.2 = 0 then (if a2_0 < 0 then (subst_Do.j0 k a1 bt189.1 true a0_0 l0_1 a2_0 a2_1 a2_2 a2_3 a2_4) else (if a2_1 < a2_0 then (subst_Do.j0 k a1 bt189.1 true a0_0 l0_1 a2_0 a2_1 a2_2 a2_3 a2_4) else ((line_Count.f bt189.1).bind fun t191 => (if a2_1 ≥ t191 then (subst_Do.j0 k a1 bt189.1 true a0_0 l0_1 a2_0 a2_1 a2_2 a2_3 a2_4) else (if a2_2.toList = ([] : List UInt8) then (subst_Do.j0 k a1 bt189.1 true a0_0 l0_1 a2_0 a2_1 a2_2 a2_3 a2_4) else ((strings_Contains.f a2_2 (⟨#[10]⟩ : ByteArray)).bind fun t192 => (if t192 = true then (subst_Do.j0 k a1 bt189.1 true a0_0 l0_1 a2_0 a2_1 a2_2 a2_3 a2_4) else (subst_Do.j0 k a1 bt189.1 (decide ((a2_3.size : Int) > 4096)) a0_0 l0_1 a2_0 a2_1 a2_2 a2_3 a2_4)))))))) else (subst_Do.j0 k a1 bt189.1 true a0_0 l0_1 a2_0 a2_1 a2_2 a2_3 a2_4))
theorem subst_Do.mono_l : ∀ k, (∀ y0 y1 y2 y3 y4 y5 y6 y7 y8 y9, LeO (subst_Do.j0 k y0 y1 y2 y3 y4 y5 y6 y7 y8 y9) (subst_Do.j0 (k + 1) y0 y1 y2 y3 y4 y5 y6 y7 y8 y9)) ∧ (∀ y0 y1 y2 y3 y4 y5 y6 y7 y8 y9 y10, LeO (subst_Do.l0 k y0 y1 y2 y3 y4 y5 y6 y7 y8 y9 y10) (subst_Do.l0 (k + 1) y0 y1 y2 y3 y4 y5 y6 y7 y8 y9 y10)) ∧ (∀ y0 y1 y2 y3 y4 y5 y6 y7 y8 y9 y10 y11 y12 y13 y14 y15 y16 y17, LeO (subst_Do.l1 k y0 y1 y2 y3 y4 y5 y6 y7 y8 y9 y10 y11 y12 y13 y14 y15 y16 y17) (subst_Do.l1 (k + 1) y0 y1 y2 y3 y4 y5 y6 y7 y8 y9 y10 y11 y12 y13 y14 y15 y16 y17))
 | 0 => ⟨fun _ _ _ _ _ _ _ _ _ _ r h => by simp [subst_Do.j0] at h, fun _ _ _ _ _ _ _ _ _ _ _ r h => by simp [subst_Do.l0] at h, fun _ _ _ _ _ _ _ _ _ _ _ _ _ _ _ _ _ _ r h => by simp [subst_Do.l1] at h⟩
 | k + 1 => by
  obtain ⟨ih0, ih1, ih2⟩ := subst_Do.mono_l k
  refine ⟨?_, ?_, ?_⟩
  ·intro y0 y1 y2 y3 y4 y5 y6 y7 y8 y9
   unfold subst_Do.j0
   repeat' first
   | (with_reducible exact ih0 _ _ _ _ _ _ _ _ _ _)
   | (with_reducible exact ih1 _ _ _ _ _ _ _ _ _ _ _)
   | (with_reducible exact ih2 _ _ _ _ _ _ _ _ _ _ _ _ _ _ _ _ _ _)
   | (with_reducible exact edit_Of.mono _ _ _ _ _ _ _)
   | (with_reducible exact line_Bounds.mono _ _ _)
   | (with_reducible exact strip_Cat.mono _ _ _ _ _)
   | (with_reducible exact strip_Cut.mono _ _ _ _ _)
   | (with_reducible exact strip_Make.mono _ _ _)
   | (with_reducible exact strip_View.mono _ _ _ _)
   | (with_reducible exact subst_places.mono _ _ _ _ _ _ _ _ _ _ _)
   | (with_reducible exact LeO.refl _)
   | (with_reducible exact LeO.none _)
   | (with_reducible refine LeO.ite ?_ ?_)
   | (with_reducible refine LeO.bind ?_ (fun _ => ?_))
   | exact ih0 _ _ _ _ _ _ _ _ _ _
   | exact ih1 _ _ _ _ _ _ _ _ _ _ _
   | exact ih2 _ _ _ _ _ _ _ _ _ _ _ _ _ _ _ _ _ _
   | exact edit_Of.mono _ _ _ _ _ _ _
   | exact line_Bounds.mono _ _ _
   | exact strip_Cat.mono _ _ _ _ _
   | exact strip_Cut.mono _ _ _ _ _
   | exact strip_Make.mono _ _ _
   | exact strip_View.mono _ _ _ _
   | exact subst_places.mono _ _ _ _ _ _ _ _ _ _ _
   | exact LeO.none _
   | refine LeO.ite ?_ ?_
   | refine LeO.bind ?_ (fun _ => ?_)
  ·intro y0 y1 y2 y3 y4 y5 y6 y7 y8 y9 y10
   unfold subst_Do.l0
   repeat' first
   | (with_reducible exact ih0 _ _ _ _ _ _ _ _ _ _)
   | (with_reducible exact ih1 _ _ _ _ _ _ _ _ _ _ _)
   | (with_reducible exact ih2 _ _ _ _ _ _ _ _ _ _ _ _ _ _ _ _ _ _)
   | (with_reducible exact edit_Of.mono _ _ _ _ _ _ _)
   | (with_reducible exact line_Bounds.mono _ _ _)
   | (with_reducible exact strip_Cat.mono _ _ _ _ _)
   | (with_reducible exact strip_Cut.mono _ _ _ _ _)
   | (with_reducible exact strip_Make.mono _ _ _)
   | (with_reducible exact strip_View.mono _ _ _ _)
   | (with_reducible exact subst_places.mono _ _ _ _ _ _ _ _ _ _ _)
   | (with_reducible exact LeO.refl _)
   | (with_reducible exact LeO.none _)
   | (with_reducible refine LeO.ite ?_ ?_)
   | (with_reducible refine LeO.bind ?_ (fun _ => ?_))
   | exact ih0 _ _ _ _ _ _ _ _ _ _
   | exact ih1 _ _ _ _ _ _ _ _ _ _ _
   | exact ih2 _ _ _ _ _ _ _ _ _ _ _ _ _ _ _ _ _ _
   | exact edit_Of.mono _ _ _ _ _ _ _
   | exact line_Bounds.mono _ _ _
   | exact strip_Cat.mono _ _ _ _ _
   | exact strip_Cut.mono _ _ _ _ _
   | exact strip_Make.mono _ _ _
   | exact strip_View.mono _ _ _ _
   | exact subst_places.mono _ _ _ _ _ _ _ _ _ _ _
   | exact LeO.none _
   | refine LeO.ite ?_ ?_
   | refine LeO.bind ?_ (fun _ => ?_)
  ·intro y0 y1 y2 y3 y4 y5 y6 y7 y8 y9 y10 y11 y12 y13 y14 y15 y16 y17
   unfold subst_Do.l1
   repeat' first
   | (with_reducible exact ih0 _ _ _ _ _ _ _ _ _ _)
   | (with_reducible exact ih1 _ _ _ _ _ _ _ _ _ _ _)
   | (with_reducible exact ih2 _ _ _ _ _ _ _ _ _ _ _ _ _ _ _ _ _ _)
   | (with_reducible exact edit_Of.mono _ _ _ _ _ _ _)
   | (with_reducible exact line_Bounds.mono _ _ _)
   | (with_reducible exact strip_Cat.mono _ _ _ _ _)
   | (with_reducible exact strip_Cut.mono _ _ _ _ _)
   | (with_reducible exact strip_Make.mono _ _ _)
   | (with_reducible exact strip_View.mono _ _ _ _)
   | (with_reducible exact subst_places.mono _ _ _ _ _ _ _ _ _ _ _)
   | (with_reducible exact LeO.refl _)
   | (with_reducible exact LeO.none _)
   | (with_reducible refine LeO.ite ?_ ?_)
   | (with_reducible refine LeO.bind ?_ (fun _ => ?_))
   | exact ih0 _ _ _ _ _ _ _ _ _ _
   | exact ih1 _ _ _ _ _ _ _ _ _ _ _
   | exact ih2 _ _ _ _ _ _ _ _ _ _ _ _ _ _ _ _ _ _
   | exact edit_Of.mono _ _ _ _ _ _ _
   | exact line_Bounds.mono _ _ _
   | exact strip_Cat.mono _ _ _ _ _
   | exact strip_Cut.mono _ _ _ _ _
   | exact strip_Make.mono _ _ _
   | exact strip_View.mono _ _ _ _
   | exact subst_places.mono _ _ _ _ _ _ _ _ _ _ _
   | exact LeO.none _
   | refine LeO.ite ?_ ?_
   | refine LeO.bind ?_ (fun _ => ?_)
theorem subst_Do.mono : ∀ a0 a1 a2 a3 a4 a5 a6 a7 k, LeO (subst_Do.f k a0 a1 a2 a3 a4 a5 a6 a7) (subst_Do.f (k + 1) a0 a1 a2 a3 a4 a5 a6 a7) := by
 intro a0 a1 a2 a3 a4 a5 a6 a7 k
 obtain ⟨ih0, ih1, ih2⟩ := subst_Do.mono_l k
 unfold subst_Do.f
 repeat' first
   | (with_reducible exact ih0 _ _ _ _ _ _ _ _ _ _)
   | (with_reducible exact ih1 _ _ _ _ _ _ _ _ _ _ _)
   | (with_reducible exact ih2 _ _ _ _ _ _ _ _ _ _ _ _ _ _ _ _ _ _)
   | (with_reducible exact edit_Of.mono _ _ _ _ _ _ _)
   | (with_reducible exact line_Bounds.mono _ _ _)
   | (with_reducible exact strip_Cat.mono _ _ _ _ _)
   | (with_reducible exact strip_Cut.mono _ _ _ _ _)
   | (with_reducible exact strip_Make.mono _ _ _)
   | (with_reducible exact strip_View.mono _ _ _ _)
   | (with_reducible exact subst_places.mono _ _ _ _ _ _ _ _ _ _ _)
   | (with_reducible exact LeO.refl _)
   | (with_reducible exact LeO.none _)
   | (with_reducible refine LeO.ite ?_ ?_)
   | (with_reducible refine LeO.bind ?_ (fun _ => ?_))
   | exact ih0 _ _ _ _ _ _ _ _ _ _
   | exact ih1 _ _ _ _ _ _ _ _ _ _ _
   | exact ih2 _ _ _ _ _ _ _ _ _ _ _ _ _ _ _ _ _ _
   | exact edit_Of.mono _ _ _ _ _ _ _
   | exact line_Bounds.mono _ _ _
   | exact strip_Cat.mono _ _ _ _ _
   | exact strip_Cut.mono _ _ _ _ _
   | exact strip_Make.mono _ _ _
   | exact strip_View.mono _ _ _ _
   | exact subst_places.mono _ _ _ _ _ _ _ _ _ _ _
   | exact LeO.none _
   | refine LeO.ite ?_ ?_
   | refine LeO.bind ?_ (fun _ => ?_)
def subst_Do.T2 : Bool × List (List Nat × List Nat) := (true, [([], []), ([0], [0]), ([1], [1]), ([2], [2]), ([3, 2], [2, 3]), ([4, 2], [2, 4]), ([2, 5], [2, 5]), ([6, 2], [6]), ([7], [7]), ([8, 7], [7, 8]), ([7], [7]), ([10, 7], [7, 10]), ([9, 11, 7], [7, 9, 11]), ([7, 12], [7, 12]), ([13, 7], [13]), ([14], [14]), ([15, 14], [14, 15]), ([14], [14]), ([17, 14, 14], [14, 17]), ([16, 18, 14], [14, 16, 18]), ([14, 19], [14, 19]), ([20, 18], [20]), ([21], [21]), ([22, 21], [21, 22]), ([23, 21], [21, 23]), ([21, 24], [21, 24]), ([25, 21], [25]), ([26], [26]), ([27, 26], [26, 27]), ([28, 26, 26], [26, 28]), ([26, 29], [26, 29]), ([30, 29], [30]), ([31], [31]), ([32, 31], [31, 32]), ([33, 31], [31, 33]), ([34, 31], [31, 34]), ([31, 35], [31, 35])])
def subst_Do.B2 : List Nat := [0, 1, 3, 7, 15, 31, 63, 127, 255, 511, 255, 1279, 4095, 8191, 16383, 32767, 65535, 32767, 163839, 524287, 1048575, 2097151, 4194303, 8388607, 16777215, 33554431, 67108863, 134217727, 268435455, 536870911, 1073741823, 2147483647, 4294967295, 8589934591, 17179869183, 34359738367, 68719476735]
theorem subst_Do.tab2 : rtab .any (opsOf Try.f10 2) = subst_Do.T2 := by kernel_rfl
theorem subst_Do.bits2 : waitsOk subst_Do.T2.2 subst_Do.B2 = true := by kernel_rfl
set_option maxHeartbeats 8000000 in
set_option maxRecDepth 100000 in
theorem subst_Do.calls (k : Nat) (a0_0 : ByteArray) (A0_1 : Option Addr) (c0_1 : Nat) (l0_1 : List (S51)) (a1 : Int) (a2_0 : Int) (a2_1 : Int) (a2_2 : ByteArray) (a2_3 : ByteArray) (a2_4 : Bool) (r1 : Int) (r2 : ByteArray) (r3 : List (S51)) (r4 : ByteArray) (r5 : List (S51)) (r6 : Int) (r7 : Int) (w : World) (hMX : MaxOk w) (hr0_1 : Kd.C k51 w A0_1 l0_1.length l0_1) (hc0_1 : l0_1.length ≤ c0_1) (h : subst_Do.f k a0_0 l0_1 a1 a2_0 a2_1 a2_2 a2_3 a2_4 = some (r1, r2, r3, r4, r5, r6, r7)) :
  Calls Try.prog 10 #[.agg #[.string a0_0, .slice A0_1 l0_1.length c0_1], .int .u64 a1, .agg #[.int .i64 a2_0, .int .i64 a2_1, .string a2_2, .string a2_3, .bool a2_4]] w fun e w' => ∃ v2_ v4_ : Value, e = .returned (.tuple #[.agg #[.int .i64 r1, .string r2, v2_, .string r4, v4_], .int .i64 r6, .int .i64 r7]) ∧ Kd.R k51 51 w' w.heap.size (fun k_ => some k_ ≠ (v4_ : Value).ownBlock) v2_ r3 ∧ Kd.R k51 51 w' w.heap.size (fun k_ => some k_ ≠ (v2_ : Value).ownBlock) v4_ r5 ∧ Below w.heap.size w w' := by
 have HMX := aM hMX
 clear hMX
 have hu24 := Try.underlying24
 have hu28 := Try.underlying28
 have hu32 := Try.underlying32
 have HR0_1 := aM hr0_1
 have HC0_1 := aM hc0_1
 clear hr0_1 hc0_1
 have HB := aM (Below.refl w.heap.size w)
 have H : ((strip_View.f k a0_0 l0_1 a1).bind fun bt189 => (if bt189.2 = 0 then (if a2_0 < 0 then (subst_Do.j0 k a1 bt189.1 true a0_0 l0_1 a2_0 a2_1 a2_2 a2_3 a2_4) else (if a2_1 < a2_0 then (subst_Do.j0 k a1 bt189.1 true a0_0 l0_1 a2_0 a2_1 a2_2 a2_3 a2_4) else ((line_Count.f bt189.1).bind fun t191 => (if a2_1 ≥ t191 then (subst_Do.j0 k a1 bt189.1 true a0_0 l0_1 a2_0 a2_1 a2_2 a2_3 a2_4) else (if a2_2.toList = ([] : List UInt8) then (subst_Do.j0 k a1 bt189.1 true a0_0 l0_1 a2_0 a2_1 a2_2 a2_3 a2_4) else ((strings_Contains.f a2_2 (⟨#[10]⟩ : ByteArray)).bind fun t192 => (if t192 = true then (subst_Do.j0 k a1 bt189.1 true a0_0 l0_1 a2_0 a2_1 a2_2 a2_3 a2_4) else (subst_Do.j0 k a1 bt189.1 (decide ((a2_3.size : Int) > 4096)) a0_0 l0_1 a2_0 a2_1 a2_2 a2_3 a2_4)))))))) else (subst_Do.j0 k a1 bt189.1 true a0_0 l0_1 a2_0 a2_1 a2_2 a2_3 a2_4))) = some (r1, r2, r3, r4, r5, r6, r7) := h
 clear h
 replace H := Option.bind_eq_some_iff.mp H
 obtain ⟨⟨t189, t190⟩, A40, H⟩ := H
 replace H : (if t190 = 0 then (if a2_0 < 0 then (subst_Do.j0 k a1 t189 true a0_0 l0_1 a2_0 a2_1 a2_2 a2_3 a2_4) else (if a2_1 < a2_0 then (subst_Do.j0 k a1 t189 true a0_0 l0_1 a2_0 a2_1 a2_2 a2_3 a2_4) else ((line_Count.f t189).bind fun t191 => (if a2_1 ≥ t191 then (subst_Do.j0 k a1 t189 true a0_0 l0_1 a2_0 a2_1 a2_2 a2_3 a2_4) else (if a2_2.toList = ([] : List UInt8) then (subst_Do.j0 k a1 t189 true a0_0 l0_1 a2_0 a2_1 a2_2 a2_3 a2_4) else ((strings_Contains.f a2_2 (⟨#[10]⟩ : ByteArray)).bind fun t192 => (if t192 = true then (subst_Do.j0 k a1 t189 true a0_0 l0_1 a2_0 a2_1 a2_2 a2_3 a2_4) else (subst_Do.j0 k a1 t189 (decide ((a2_3.size : Int) > 4096)) a0_0 l0_1 a2_0 a2_1 a2_2 a2_3 a2_4)))))))) else (subst_Do.j0 k a1 t189 true a0_0 l0_1 a2_0 a2_1 a2_2 a2_3 a2_4)) = some (r1, r2, r3, r4, r5, r6, r7) := H
 have A4 := aM A40
 clear A40
 have HC5 := aM H
 clear H
 go_enter Try.func10, Try.ntmps10
 go_upto_region 2 with (first | ((with_reducible refine gate_dst (N := 3) rfl ?_); (try (refine gate_guard (by rfl) ?_; dsimp only)); refine box_event ?hg (N := 3) ?hd (cs := #[.string a0_0, .slice A0_1 l0_1.length c0_1]) (t := 24) ?hr ?_; (case hd | hg => rfl); (case hr => first | (go_simp; done) | (go_simp; rfl)); intro gb186 hg w6 hbox hb; have n0_ := aM (bP (ey HB.out) hb); have n1_ := aM (hbox); have n2_ := aM ((by rw [hg]; exact (bZ (ey HB.out)) : w.heap.size ≤ gb186)); have n3_ := n2_; clear HB; have HB := n0_; have BK186 := n1_; have GW186 := n2_; have GE186 := n3_; clear n0_ n1_ n2_ n3_; clear hb hbox hg) | ((with_reducible refine gate_dst (N := 5) rfl ?_); (try (refine gate_guard (by rfl) ?_; dsimp only)); refine box_event ?hg (N := 5) ?hd (cs := #[.int .i64 a2_0, .int .i64 a2_1, .string a2_2, .string a2_3, .bool a2_4]) (t := 28) ?hr ?_; (case hd | hg => rfl); (case hr => first | (go_simp; done) | (go_simp; rfl)); intro gb187 hg w7 hbox hb; have n0_ := aM (bB (g := gb186) (qy BK186.out) hb); have n1_ := aM (bP (by repeat (first | (with_reducible first | exact HB.out | apply ea | apply en | apply ed | refine es ?_ GE186.out) | exact HB.out)) hb); have n2_ := aM (hbox); have n3_ := aM ((by rw [hg]; exact (bZ (by repeat (first | (with_reducible first | exact HB.out | apply ea | apply en | apply ed | refine es ?_ GE186.out) | exact HB.out))) : w.heap.size ≤ gb187)); have n4_ := n3_; have n5_ := aM ((by rw [hg]; exact Nat.ne_of_lt (blk_lt (g := gb186) (qy BK186.out)) : gb186 ≠ gb187)); have n6_ := aM ((by rw [hg]; exact Nat.ne_of_gt (blk_lt (g := gb186) (qy BK186.out)) : gb187 ≠ gb186)); clear BK186 HB; have BK186 := n0_; have HB := n1_; have BK187 := n2_; have GW187 := n3_; have GE187 := n4_; have NB186_187 := n5_; have NB187_186 := n6_; clear n0_ n1_ n2_ n3_ n4_ n5_ n6_; clear hb hbox hg) | ((with_reducible refine gate_dst (N := 6) rfl ?_); (try (refine gate_guard (by rfl) ?_; dsimp only)); refine box_event ?hg (N := 6) ?hd (cs := #[.int .i64 0, .string (⟨#[]⟩ : ByteArray), .slice none 0 0, .string (⟨#[]⟩ : ByteArray), .slice none 0 0]) (t := 32) ?hr ?_; (case hd | hg => rfl); (case hr => first | (go_simp; done) | (go_simp; rfl)); intro gb188 hg w8 hbox hb; have n0_ := aM (bB (g := gb186) (qy BK186.out) hb); have n1_ := aM (bB (g := gb187) (qy BK187.out) hb); have n2_ := aM (bP (by repeat (first | (with_reducible first | exact HB.out | apply ea | apply en | apply ed | refine es ?_ GE186.out | refine es ?_ GE187.out) | exact HB.out)) hb); have n3_ := aM (hbox); have n4_ := aM ((by rw [hg]; exact (bZ (by repeat (first | (with_reducible first | exact HB.out | apply ea | apply en | apply ed | refine es ?_ GE186.out | refine es ?_ GE187.out) | exact HB.out))) : w.heap.size ≤ gb188)); have n5_ := n4_; have n6_ := aM ((by rw [hg]; exact Nat.ne_of_lt (blk_lt (g := gb186) (qy BK186.out)) : gb186 ≠ gb188)); have n7_ := aM ((by rw [hg]; exact Nat.ne_of_gt (blk_lt (g := gb186) (qy BK186.out)) : gb188 ≠ gb186)); have n8_ := aM ((by rw [hg]; exact Nat.ne_of_lt (blk_lt (g := gb187) (qy BK187.out)) : gb187 ≠ gb188)); have n9_ := aM ((by rw [hg]; exact Nat.ne_of_gt (blk_lt (g := gb187) (qy BK187.out)) : gb188 ≠ gb187)); clear BK186 BK187 HB; have BK186 := n0_; have BK187 := n1_; have HB := n2_; have BK188 := n3_; have GW188 := n4_; have GE188 := n5_; have NB186_188 := n6_; have NB188_186 := n7_; have NB187_188 := n8_; have NB188_187 := n9_; clear n0_ n1_ n2_ n3_ n4_ n5_ n6_ n7_ n8_ n9_; clear hb hbox hg; have hnb9 := NB186_187.out; have hnc9 := NB187_186.out; have hnb10 := NB186_188.out; have hnc10 := NB188_186.out; have hcz11_0 := zC BK186.out 0 (.string a0_0); have hcz11_1 := zC BK186.out 1 (.slice A0_1 l0_1.length c0_1); have hfz11_0 := bF BK186.out 0; have hfz11_1 := bF BK186.out 1) | ((with_reducible refine gate_callee (f := 19) rfl ?_); refine goesL_ (some 35) rfl rfl Try.func19 (by kernel_rfl) rfl #[.agg #[.string a0_0, .slice A0_1 l0_1.length c0_1], .int .u64 a1] rfl (by (try simp only [mT, mC, mN]); first | done | rfl | (simp only [lD, lT]; rfl)) ?_; (with_reducible refine (strip_View.calls k a0_0 _ _ l0_1 a1 t189 t190 _ ?side1 ?side2 A4.out).mono ?_); (case side1 => repeat (first | exact (cB_ HR0_1.out HB.out) | (with_reducible refine Kd.C_alloc ?_ _) | (with_reducible refine Kd.C_drewN ?_ _) | (with_reducible refine Kd.C_drew ?_))); (case side2 => exact HC0_1.out); rintro e w12 ⟨rfl, hb⟩; refine ⟨_, rfl, ?_⟩; have n0_ := aM (bB (g := gb186) (qy BK186.out) hb); have n1_ := aM (bB (g := gb187) (qy BK187.out) hb); have n2_ := aM (bB (g := gb188) (qy BK188.out) hb); have n3_ := aM (bP (by repeat (first | (with_reducible first | exact HB.out | apply ea | apply en | apply ed | refine es ?_ GE186.out | refine es ?_ GE187.out | refine es ?_ GE188.out) | exact HB.out)) hb); clear BK186 BK187 BK188 HB; have BK186 := n0_; have BK187 := n1_; have BK188 := n2_; have HB := n3_; clear n0_ n1_ n2_ n3_; (try clear hb); (try clear hb2); (try clear hk); (try clear hi)))
 (try simp only [Act.put, sA, sZ, sS])
 go_cut [74] (fun v74 wc => ∃ (kq : Nat) (x74_4 : Bool), v74 = .bool x74_4 ∧ Aside0 (subst_Do.j0 kq a1 t189 x74_4 a0_0 l0_1 a2_0 a2_1 a2_2 a2_3 a2_4 = some (r1, r2, r3, r4, r5, r6, r7)) ∧ Aside0 (kq ≤ k) ∧ Aside0 (wc.heap[gb186]? = some (.cells #[.string a0_0, (.slice A0_1 l0_1.length c0_1)] 24 (0, 0))) ∧ Aside0 (wc.heap[gb187]? = some (.cells #[.int .i64 a2_0, .int .i64 a2_1, .string a2_2, .string a2_3, .bool a2_4] 28 (0, 0))) ∧ Aside0 (wc.heap[gb188]? = some (.cells #[.int .i64 0, .string (⟨#[]⟩ : ByteArray), (.slice none 0 0), .string (⟨#[]⟩ : ByteArray), (.slice none 0 0)] 32 (0, 0))) ∧ Aside0 (Below w.heap.size w wc))
 case first =>
  have H := HC5.out
  clear HC5
  by_cases c13 : t190 = 0
  ·rw [if_pos c13] at H
   have c13b0 : (t190 == 0) = true := beq_iff_eq.mpr c13
   have c13b1 : (t190 != 0) = false := bne_eq_false_iff_eq.mpr c13
   clear c13
   (first | rw [c13b0] | (simp only [i64_w, i32_w]; rw [c13b0]) | skip)
   by_cases c14 : a2_0 < 0
   ·rw [if_pos c14] at H
    have c14b0 : decide (a2_0 < 0) = true := decide_eq_true c14
    clear c14
    have H' := aM H
    clear H
    try go_wp2
    have n0_ := aM (blk_drew BK186.out)
    have n1_ := aM (blk_drew BK187.out)
    have n2_ := aM (blk_drew BK188.out)
    have n3_ := aM (below_drew1 HB.out)
    clear BK186
    clear BK187
    clear BK188
    clear HB
    have BK186 := n0_
    have BK187 := n1_
    have BK188 := n2_
    have HB := n3_
    clear n0_ n1_ n2_ n3_
    refine start_ (n := 37) (S := fun w' => w'.cell? ⟨gb187, 0, none⟩ = some (.int .i64 a2_0) ∧ w'.cell? ⟨gb187, 1, none⟩ = some (.int .i64 a2_1) ∧ w'.cell? ⟨gb187, 2, none⟩ = some (.string a2_2) ∧ w'.cell? ⟨gb187, 3, none⟩ = some (.string a2_3) ∧ w'.cell? ⟨gb187, 4, none⟩ = some (.bool a2_4)) (ds := []) b54_ (by kernel_rfl) rfl rfl ⟨(bC BK187.out 0).trans rfl, (bC BK187.out 1).trans rfl, (bC BK187.out 2).trans rfl, (bC BK187.out 3).trans rfl, (bC BK187.out 4).trans rfl⟩ (fun hHeld => ?_); refine with_tabW subst_Do.tab2 subst_Do.bits2 (fun HT_ HW_ => ?_)
    generalize w12.drew = w15 at BK186 BK187 BK188 HB hHeld ⊢
    refine pv 0 38 b55_ HT_ ?_
    refine pv 1 39 b56_ HT_ ?_
    refine pv 2 40 b57_ HT_ ?_
    refine pv 3 41 b58_ HT_ ?_
    refine pt 4 42 b59_ HT_ HW_ hHeld ?_
    refine pv 5 43 b60_ HT_ ?_
    refine pv 6 44 b61_ HT_ ?_
    refine pv 7 45 b62_ HT_ ?_
    refine pu 8 46 b63_ HT_ ?_
    refine pu 9 47 b64_ HT_ ?_
    refine pu 10 48 b65_ HT_ ?_
    refine pu 11 49 b66_ HT_ ?_
    refine pu 12 50 b67_ HT_ ?_
    refine pv 13 51 b68_ HT_ ?_
    refine pv 14 52 b69_ HT_ ?_
    refine pu 15 53 b70_ HT_ ?_
    refine pu 16 54 b71_ HT_ ?_
    refine pu 17 55 b72_ HT_ ?_
    refine pu 18 56 b73_ HT_ ?_
    refine pu 19 57 b74_ HT_ ?_
    refine pv 20 58 b75_ HT_ ?_
    refine pv 21 59 b76_ HT_ ?_
    refine pu 22 60 b77_ HT_ ?_
    refine pu 23 61 b78_ HT_ ?_
    refine pu 24 62 b79_ HT_ ?_
    refine pv 25 63 b80_ HT_ ?_
    refine pv 26 64 b81_ HT_ ?_
    refine pu 27 65 b82_ HT_ ?_
    refine pu 28 66 b83_ HT_ ?_
    refine pu 29 67 b84_ HT_ ?_
    refine pv 30 68 b85_ HT_ ?_
    refine pv 31 69 b86_ HT_ ?_
    refine pu 32 70 b87_ HT_ ?_
    refine pu 33 71 b88_ HT_ ?_
    refine pu 34 72 b89_ HT_ ?_
    refine pu 35 73 b90_ HT_ ?_
    refine pv 36 74 b91_ HT_ ?_
    refine done_ (done_of HT_.out (by kernel_rfl)) ?_
    try go_wp2
    go_meet
    case rel => exact ⟨_, (true), (by first | rfl | (simp; done) | (simp [*]; done)), H', ⟨by first | omega | exact Nat.le_refl _⟩, ⟨by exact qy BK186.out⟩, ⟨by exact qy BK187.out⟩, ⟨by exact qy BK188.out⟩, ⟨by repeat (first | (with_reducible first | exact HB.out | apply ea | apply en | apply ed | refine es ?_ GE186.out | refine es ?_ GE187.out | refine es ?_ GE188.out) | exact HB.out)⟩⟩
   ·rw [if_neg c14] at H
    have c14b0 : decide (a2_0 < 0) = false := decide_eq_false c14
    clear c14
    by_cases c16 : a2_1 < a2_0
    ·rw [if_pos c16] at H
     have c16b0 : decide (a2_1 < a2_0) = true := decide_eq_true c16
     clear c16
     have H' := aM H
     clear H
     try go_wp2
     have n0_ := aM (blk_drew BK186.out)
     have n1_ := aM (blk_drew BK187.out)
     have n2_ := aM (blk_drew BK188.out)
     have n3_ := aM (below_drew1 HB.out)
     clear BK186
     clear BK187
     clear BK188
     clear HB
     have BK186 := n0_
     have BK187 := n1_
     have BK188 := n2_
     have HB := n3_
     clear n0_ n1_ n2_ n3_
     refine start_ (n := 37) (S := fun w' => w'.cell? ⟨gb187, 0, none⟩ = some (.int .i64 a2_0) ∧ w'.cell? ⟨gb187, 1, none⟩ = some (.int .i64 a2_1) ∧ w'.cell? ⟨gb187, 2, none⟩ = some (.string a2_2) ∧ w'.cell? ⟨gb187, 3, none⟩ = some (.string a2_3) ∧ w'.cell? ⟨gb187, 4, none⟩ = some (.bool a2_4)) (ds := []) b54_ (by kernel_rfl) rfl rfl ⟨(bC BK187.out 0).trans rfl, (bC BK187.out 1).trans rfl, (bC BK187.out 2).trans rfl, (bC BK187.out 3).trans rfl, (bC BK187.out 4).trans rfl⟩ (fun hHeld => ?_); refine with_tabW subst_Do.tab2 subst_Do.bits2 (fun HT_ HW_ => ?_)
     generalize w12.drew = w17 at BK186 BK187 BK188 HB hHeld ⊢
     refine pv 0 38 b55_ HT_ ?_
     refine pv 1 39 b56_ HT_ ?_
     refine pv 2 40 b57_ HT_ ?_
     refine pv 3 41 b58_ HT_ ?_
     refine pt 4 42 b59_ HT_ HW_ hHeld ?_
     refine pv 5 43 b60_ HT_ ?_
     refine pv 6 44 b61_ HT_ ?_
     refine pv 7 45 b62_ HT_ ?_
     refine pv 8 46 b63_ HT_ ?_
     refine pv 10 48 b92_ HT_ ?_
     refine pt 9 47 b65_ HT_ HW_ hHeld ?_
     refine pt 11 49 b66_ HT_ HW_ hHeld ?_
     refine pv 12 50 b67_ HT_ ?_
     refine pv 13 51 b68_ HT_ ?_
     refine pv 14 52 b69_ HT_ ?_
     refine pu 15 53 b70_ HT_ ?_
     refine pu 16 54 b71_ HT_ ?_
     refine pu 17 55 b72_ HT_ ?_
     refine pu 18 56 b73_ HT_ ?_
     refine pu 19 57 b74_ HT_ ?_
     refine pv 20 58 b75_ HT_ ?_
     refine pv 21 59 b76_ HT_ ?_
     refine pu 22 60 b77_ HT_ ?_
     refine pu 23 61 b78_ HT_ ?_
     refine pu 24 62 b79_ HT_ ?_
     refine pv 25 63 b80_ HT_ ?_
     refine pv 26 64 b81_ HT_ ?_
     refine pu 27 65 b82_ HT_ ?_
     refine pu 28 66 b83_ HT_ ?_
     refine pu 29 67 b84_ HT_ ?_
     refine pv 30 68 b85_ HT_ ?_
     refine pv 31 69 b86_ HT_ ?_
     refine pu 32 70 b87_ HT_ ?_
     refine pu 33 71 b88_ HT_ ?_
     refine pu 34 72 b89_ HT_ ?_
     refine pu 35 73 b90_ HT_ ?_
     refine pv 36 74 b91_ HT_ ?_
     refine done_ (done_of HT_.out (by kernel_rfl)) ?_
     try go_wp2
     go_meet
     case rel => exact ⟨_, (true), (by first | rfl | (simp; done) | (simp [*]; done)), H', ⟨by first | omega | exact Nat.le_refl _⟩, ⟨by exact qy BK186.out⟩, ⟨by exact qy BK187.out⟩, ⟨by exact qy BK188.out⟩, ⟨by repeat (first | (with_reducible first | exact HB.out | apply ea | apply en | apply ed | refine es ?_ GE186.out | refine es ?_ GE187.out | refine es ?_ GE188.out) | exact HB.out)⟩⟩
    ·rw [if_neg c16] at H
     have c16b0 : decide (a2_1 < a2_0) = false := decide_eq_false c16
     clear c16
     replace H := Option.bind_eq_some_iff.mp H
     obtain ⟨t191, A180, H⟩ := H
     replace H : (if a2_1 ≥ t191 then (subst_Do.j0 k a1 t189 true a0_0 l0_1 a2_0 a2_1 a2_2 a2_3 a2_4) else (if a2_2.toList = ([] : List UInt8) then (subst_Do.j0 k a1 t189 true a0_0 l0_1 a2_0 a2_1 a2_2 a2_3 a2_4) else ((strings_Contains.f a2_2 (⟨#[10]⟩ : ByteArray)).bind fun t192 => (if t192 = true then (subst_Do.j0 k a1 t189 true a0_0 l0_1 a2_0 a2_1 a2_2 a2_3 a2_4) else (subst_Do.j0 k a1 t189 (decide ((a2_3.size : Int) > 4096)) a0_0 l0_1 a2_0 a2_1 a2_2 a2_3 a2_4))))) = some (r1, r2, r3, r4, r5, r6, r7) := H
     have A18 := aM A180
     clear A180
     by_cases c19 : a2_1 ≥ t191
     ·rw [if_pos c19] at H
      have c19b0 : decide (t191 ≤ a2_1) = true := decide_eq_true c19
      clear c19
      have H' := aM H
      clear H
      try go_wp2
      have n0_ := aM (blk_drew BK186.out)
      have n1_ := aM (blk_drew BK187.out)
      have n2_ := aM (blk_drew BK188.out)
      have n3_ := aM (below_drew1 HB.out)
      clear BK186
      clear BK187
      clear BK188
      clear HB
      have BK186 := n0_
      have BK187 := n1_
      have BK188 := n2_
      have HB := n3_
      clear n0_ n1_ n2_ n3_
      refine start_ (n := 37) (S := fun w' => w'.cell? ⟨gb187, 0, none⟩ = some (.int .i64 a2_0) ∧ w'.cell? ⟨gb187, 1, none⟩ = some (.int .i64 a2_1) ∧ w'.cell? ⟨gb187, 2, none⟩ = some (.string a2_2) ∧ w'.cell? ⟨gb187, 3, none⟩ = some (.string a2_3) ∧ w'.cell? ⟨gb187, 4, none⟩ = some (.bool a2_4)) (ds := []) b54_ (by kernel_rfl) rfl rfl ⟨(bC BK187.out 0).trans rfl, (bC BK187.out 1).trans rfl, (bC BK187.out 2).trans rfl, (bC BK187.out 3).trans rfl, (bC BK187.out 4).trans rfl⟩ (fun hHeld => ?_); refine with_tabW subst_Do.tab2 subst_Do.bits2 (fun HT_ HW_ => ?_)
      generalize w12.drew = w20 at BK186 BK187 BK188 HB hHeld ⊢
      refine pv 0 38 b55_ HT_ ?_
      refine pv 1 39 b56_ HT_ ?_
      refine pv 2 40 b57_ HT_ ?_
      refine pv 3 41 b58_ HT_ ?_
      refine pt 4 42 b59_ HT_ HW_ hHeld ?_
      refine pv 5 43 b60_ HT_ ?_
      refine pv 6 44 b61_ HT_ ?_
      refine pv 7 45 b62_ HT_ ?_
      refine pv 8 46 b63_ HT_ ?_
      refine pv 10 48 b92_ HT_ ?_
      refine pt 9 47 b65_ HT_ HW_ hHeld ?_
      refine pt 11 49 b66_ HT_ HW_ hHeld ?_
      refine pv 12 50 b67_ HT_ ?_
      refine pv 13 51 b68_ HT_ ?_
      refine pv 14 52 b69_ HT_ ?_
      refine pv 15 53 b70_ HT_ ?_
      refine pv 17 55 b93_ HT_ ?_
      refine pt 16 54 b72_ HT_ HW_ hHeld ?_
      refine one_ (i := 18) (N := some 56) b73_ rfl rfl (one_of HT_.out (by kernel_rfl)) (by decide) (fun K hK => ?_)
      refine goes_ Try.func20 (by kernel_rfl) rfl #[.string t189] (by rfl) rfl rfl (by (try simp only [mT, mC, mN]); first | done | rfl | (simp only [lD, lT]; rfl)) ?_
      with_reducible refine (line_Count.calls t189 t191 _ A18.out).mono ?_
      rintro e w21 ⟨rfl, hb⟩
      refine ⟨_, rfl, ?_⟩
      have n0_ := aM (bB (g := gb186) (qy BK186.out) hb)
      have n1_ := aM (bB (g := gb187) (qy BK187.out) hb)
      have n2_ := aM (bB (g := gb188) (qy BK188.out) hb)
      have n3_ := aM (bP (by repeat (first | (with_reducible first | exact HB.out | apply ea | apply en | apply ed | refine es ?_ GE186.out | refine es ?_ GE187.out | refine es ?_ GE188.out) | exact HB.out)) hb)
      clear BK186
      clear BK187
      clear BK188
      clear HB
      have BK186 := n0_
      have BK187 := n1_
      have BK188 := n2_
      have HB := n3_
      clear n0_ n1_ n2_ n3_
      (try clear hb)
      (try clear hb2)
      (try clear hk)
      (try clear hi)
      refine hK.out _ _ ⟨(bC BK187.out 0).trans rfl, (bC BK187.out 1).trans rfl, (bC BK187.out 2).trans rfl, (bC BK187.out 3).trans rfl, (bC BK187.out 4).trans rfl⟩ (fun hHeld => ?_)
      clear hK K
      refine norm_ (a' := ?_) ?_ ?_
      rotate_left
      ·show Act.put _ (some 56) _ = _
       simp only [Act.put, sA, sZ, sS, i64_w, i32_w]
       rfl
      refine pv 19 57 b74_ HT_ ?_
      refine pv 20 58 b75_ HT_ ?_
      refine pv 21 59 b76_ HT_ ?_
      refine pu 22 60 b77_ HT_ ?_
      refine pu 23 61 b78_ HT_ ?_
      refine pu 24 62 b79_ HT_ ?_
      refine pv 25 63 b80_ HT_ ?_
      refine pv 26 64 b81_ HT_ ?_
      refine pu 27 65 b82_ HT_ ?_
      refine pu 28 66 b83_ HT_ ?_
      refine pu 29 67 b84_ HT_ ?_
      refine pv 30 68 b85_ HT_ ?_
      refine pv 31 69 b86_ HT_ ?_
      refine pu 32 70 b87_ HT_ ?_
      refine pu 33 71 b88_ HT_ ?_
      refine pu 34 72 b89_ HT_ ?_
      refine pu 35 73 b90_ HT_ ?_
      refine pv 36 74 b91_ HT_ ?_
      refine done_ (done_of HT_.out (by kernel_rfl)) ?_
      try go_wp2
      go_meet
      case rel => exact ⟨_, (true), (by first | rfl | (simp; done) | (simp [*]; done)), H', ⟨by first | omega | exact Nat.le_refl _⟩, ⟨by exact qy BK186.out⟩, ⟨by exact qy BK187.out⟩, ⟨by exact qy BK188.out⟩, ⟨by repeat (first | (with_reducible first | exact HB.out | apply ea | apply en | apply ed | refine es ?_ GE186.out | refine es ?_ GE187.out | refine es ?_ GE188.out) | exact HB.out)⟩⟩
     ·rw [if_neg c19] at H
      have c19b0 : decide (t191 ≤ a2_1) = false := decide_eq_false c19
      clear c19
      by_cases c22 : a2_2.toList = ([] : List UInt8)
      ·rw [if_pos c22] at H
       have c22b0 : (a2_2.toList == ([] : List UInt8)) = true := beq_iff_eq.mpr c22
       have c22b1 : (a2_2.toList != ([] : List UInt8)) = false := bne_eq_false_iff_eq.mpr c22
       clear c22
       have H' := aM H
       clear H
       try go_wp2
       have n0_ := aM (blk_drew BK186.out)
       have n1_ := aM (blk_drew BK187.out)
       have n2_ := aM (blk_drew BK188.out)
       have n3_ := aM (below_drew1 HB.out)
       clear BK186
       clear BK187
       clear BK188
       clear HB
       have BK186 := n0_
       have BK187 := n1_
       have BK188 := n2_
       have HB := n3_
       clear n0_ n1_ n2_ n3_
       refine start_ (n := 37) (S := fun w' => w'.cell? ⟨gb187, 0, none⟩ = some (.int .i64 a2_0) ∧ w'.cell? ⟨gb187, 1, none⟩ = some (.int .i64 a2_1) ∧ w'.cell? ⟨gb187, 2, none⟩ = some (.string a2_2) ∧ w'.cell? ⟨gb187, 3, none⟩ = some (.string a2_3) ∧ w'.cell? ⟨gb187, 4, none⟩ = some (.bool a2_4)) (ds := []) b54_ (by kernel_rfl) rfl rfl ⟨(bC BK187.out 0).trans rfl, (bC BK187.out 1).trans rfl, (bC BK187.out 2).trans rfl, (bC BK187.out 3).trans rfl, (bC BK187.out 4).trans rfl⟩ (fun hHeld => ?_); refine with_tabW subst_Do.tab2 subst_Do.bits2 (fun HT_ HW_ => ?_)
       generalize w12.drew = w23 at BK186 BK187 BK188 HB hHeld ⊢
       refine pv 0 38 b55_ HT_ ?_
       refine pv 1 39 b56_ HT_ ?_
       refine pv 2 40 b57_ HT_ ?_
       refine pv 3 41 b58_ HT_ ?_
       refine pt 4 42 b59_ HT_ HW_ hHeld ?_
       refine pv 5 43 b60_ HT_ ?_
       refine pv 6 44 b61_ HT_ ?_
       refine pv 7 45 b62_ HT_ ?_
       refine pv 8 46 b63_ HT_ ?_
       refine pv 10 48 b92_ HT_ ?_
       refine pt 9 47 b65_ HT_ HW_ hHeld ?_
       refine pt 11 49 b66_ HT_ HW_ hHeld ?_
       refine pv 12 50 b67_ HT_ ?_
       refine pv 13 51 b68_ HT_ ?_
       refine pv 14 52 b69_ HT_ ?_
       refine pv 15 53 b70_ HT_ ?_
       refine pv 17 55 b93_ HT_ ?_
       refine pt 16 54 b72_ HT_ HW_ hHeld ?_
       refine one_ (i := 18) (N := some 56) b73_ rfl rfl (one_of HT_.out (by kernel_rfl)) (by decide) (fun K hK => ?_)
       refine goes_ Try.func20 (by kernel_rfl) rfl #[.string t189] (by rfl) rfl rfl (by (try simp only [mT, mC, mN]); first | done | rfl | (simp only [lD, lT]; rfl)) ?_
       with_reducible refine (line_Count.calls t189 t191 _ A18.out).mono ?_
       rintro e w24 ⟨rfl, hb⟩
       refine ⟨_, rfl, ?_⟩
       have n0_ := aM (bB (g := gb186) (qy BK186.out) hb)
       have n1_ := aM (bB (g := gb187) (qy BK187.out) hb)
       have n2_ := aM (bB (g := gb188) (qy BK188.out) hb)
       have n3_ := aM (bP (by repeat (first | (with_reducible first | exact HB.out | apply ea | apply en | apply ed | refine es ?_ GE186.out | refine es ?_ GE187.out | refine es ?_ GE188.out) | exact HB.out)) hb)
       clear BK186
       clear BK187
       clear BK188
       clear HB
       have BK186 := n0_
       have BK187 := n1_
       have BK188 := n2_
       have HB := n3_
       clear n0_ n1_ n2_ n3_
       (try clear hb)
       (try clear hb2)
       (try clear hk)
       (try clear hi)
       refine hK.out _ _ ⟨(bC BK187.out 0).trans rfl, (bC BK187.out 1).trans rfl, (bC BK187.out 2).trans rfl, (bC BK187.out 3).trans rfl, (bC BK187.out 4).trans rfl⟩ (fun hHeld => ?_)
       clear hK K
       refine norm_ (a' := ?_) ?_ ?_
       rotate_left
       ·show Act.put _ (some 56) _ = _
        simp only [Act.put, sA, sZ, sS, i64_w, i32_w]
        rfl
       refine pv 19 57 b74_ HT_ ?_
       refine pv 20 58 b75_ HT_ ?_
       refine pv 21 59 b76_ HT_ ?_
       refine pv 22 60 b77_ HT_ ?_
       refine pt 23 61 b78_ HT_ HW_ hHeld ?_
       refine pv 24 62 b79_ HT_ ?_
       refine pv 25 63 b80_ HT_ ?_
       refine pv 26 64 b81_ HT_ ?_
       refine pu 27 65 b82_ HT_ ?_
       refine pu 28 66 b83_ HT_ ?_
       refine pu 29 67 b84_ HT_ ?_
       refine pv 30 68 b85_ HT_ ?_
       refine pv 31 69 b86_ HT_ ?_
       refine pu 32 70 b87_ HT_ ?_
       refine pu 33 71 b88_ HT_ ?_
       refine pu 34 72 b89_ HT_ ?_
       refine pu 35 73 b90_ HT_ ?_
       refine pv 36 74 b91_ HT_ ?_
       refine done_ (done_of HT_.out (by kernel_rfl)) ?_
       try go_wp2
       go_meet
       case rel => exact ⟨_, (true), (by first | rfl | (simp; done) | (simp [*]; done)), H', ⟨by first | omega | exact Nat.le_refl _⟩, ⟨by exact qy BK186.out⟩, ⟨by exact qy BK187.out⟩, ⟨by exact qy BK188.out⟩, ⟨by repeat (first | (with_reducible first | exact HB.out | apply ea | apply en | apply ed | refine es ?_ GE186.out | refine es ?_ GE187.out | refine es ?_ GE188.out) | exact HB.out)⟩⟩
      ·rw [if_neg c22] at H
       have c22b0 : (a2_2.toList == ([] : List UInt8)) = false := beq_eq_false_iff_ne.mpr c22
       have c22b1 : (a2_2.toList != ([] : List UInt8)) = true := bne_iff_ne.mpr c22
       replace H := Option.bind_eq_some_iff.mp H
       obtain ⟨t192, A250, H⟩ := H
       replace H : (if t192 = true then (subst_Do.j0 k a1 t189 true a0_0 l0_1 a2_0 a2_1 a2_2 a2_3 a2_4) else (subst_Do.j0 k a1 t189 (decide ((a2_3.size : Int) > 4096)) a0_0 l0_1 a2_0 a2_1 a2_2 a2_3 a2_4)) = some (r1, r2, r3, r4, r5, r6, r7) := H
       have A25 := aM A250
       clear A250
       by_cases c26 : t192 = true
       ·subst c26
        have H1 : (subst_Do.j0 k a1 t189 true a0_0 l0_1 a2_0 a2_1 a2_2 a2_3 a2_4) = some (r1, r2, r3, r4, r5, r6, r7) := by rw [if_pos rfl] at H; exact H
        clear H
        have H := H1
        clear H1
        have H' := aM H
        clear H
        try go_wp2
        have n0_ := aM (blk_drew BK186.out)
        have n1_ := aM (blk_drew BK187.out)
        have n2_ := aM (blk_drew BK188.out)
        have n3_ := aM (below_drew1 HB.out)
        clear BK186
        clear BK187
        clear BK188
        clear HB
        have BK186 := n0_
        have BK187 := n1_
        have BK188 := n2_
        have HB := n3_
        clear n0_ n1_ n2_ n3_
        refine start_ (n := 37) (S := fun w' => w'.cell? ⟨gb187, 0, none⟩ = some (.int .i64 a2_0) ∧ w'.cell? ⟨gb187, 1, none⟩ = some (.int .i64 a2_1) ∧ w'.cell? ⟨gb187, 2, none⟩ = some (.string a2_2) ∧ w'.cell? ⟨gb187, 3, none⟩ = some (.string a2_3) ∧ w'.cell? ⟨gb187, 4, none⟩ = some (.bool a2_4)) (ds := []) b54_ (by kernel_rfl) rfl rfl ⟨(bC BK187.out 0).trans rfl, (bC BK187.out 1).trans rfl, (bC BK187.out 2).trans rfl, (bC BK187.out 3).trans rfl, (bC BK187.out 4).trans rfl⟩ (fun hHeld => ?_); refine with_tabW subst_Do.tab2 subst_Do.bits2 (fun HT_ HW_ => ?_)
        generalize w12.drew = w27 at BK186 BK187 BK188 HB hHeld ⊢
        refine pv 0 38 b55_ HT_ ?_
        refine pv 1 39 b56_ HT_ ?_
        refine pv 2 40 b57_ HT_ ?_
        refine pv 3 41 b58_ HT_ ?_
        refine pt 4 42 b59_ HT_ HW_ hHeld ?_
        refine pv 5 43 b60_ HT_ ?_
        refine pv 6 44 b61_ HT_ ?_
        refine pv 7 45 b62_ HT_ ?_
        refine pv 8 46 b63_ HT_ ?_
        refine pv 10 48 b92_ HT_ ?_
        refine pt 9 47 b65_ HT_ HW_ hHeld ?_
        refine pt 11 49 b66_ HT_ HW_ hHeld ?_
        refine pv 12 50 b67_ HT_ ?_
        refine pv 13 51 b68_ HT_ ?_
        refine pv 14 52 b69_ HT_ ?_
        refine pv 15 53 b70_ HT_ ?_
        refine pv 17 55 b93_ HT_ ?_
        refine pt 16 54 b72_ HT_ HW_ hHeld ?_
        refine one_ (i := 18) (N := some 56) b73_ rfl rfl (one_of HT_.out (by kernel_rfl)) (by decide) (fun K hK => ?_)
        refine goes_ Try.func20 (by kernel_rfl) rfl #[.string t189] (by rfl) rfl rfl (by (try simp only [mT, mC, mN]); first | done | rfl | (simp only [lD, lT]; rfl)) ?_
        with_reducible refine (line_Count.calls t189 t191 _ A18.out).mono ?_
        rintro e w28 ⟨rfl, hb⟩
        refine ⟨_, rfl, ?_⟩
        have n0_ := aM (bB (g := gb186) (qy BK186.out) hb)
        have n1_ := aM (bB (g := gb187) (qy BK187.out) hb)
        have n2_ := aM (bB (g := gb188) (qy BK188.out) hb)
        have n3_ := aM (bP (by repeat (first | (with_reducible first | exact HB.out | apply ea | apply en | apply ed | refine es ?_ GE186.out | refine es ?_ GE187.out | refine es ?_ GE188.out) | exact HB.out)) hb)
        clear BK186
        clear BK187
        clear BK188
        clear HB
        have BK186 := n0_
        have BK187 := n1_
        have BK188 := n2_
        have HB := n3_
        clear n0_ n1_ n2_ n3_
        (try clear hb)
        (try clear hb2)
        (try clear hk)
        (try clear hi)
        refine hK.out _ _ ⟨(bC BK187.out 0).trans rfl, (bC BK187.out 1).trans rfl, (bC BK187.out 2).trans rfl, (bC BK187.out 3).trans rfl, (bC BK187.out 4).trans rfl⟩ (fun hHeld => ?_)
        clear hK K
        refine norm_ (a' := ?_) ?_ ?_
        rotate_left
        ·show Act.put _ (some 56) _ = _
         simp only [Act.put, sA, sZ, sS, i64_w, i32_w]
         rfl
        refine pv 19 57 b74_ HT_ ?_
        refine pv 20 58 b75_ HT_ ?_
        refine pv 21 59 b76_ HT_ ?_
        refine pv 22 60 b77_ HT_ ?_
        refine pt 23 61 b78_ HT_ HW_ hHeld ?_
        refine pv 24 62 b79_ HT_ ?_
        refine pv 25 63 b80_ HT_ ?_
        refine pv 26 64 b81_ HT_ ?_
        refine pv 27 65 b82_ HT_ ?_
        refine pt 28 66 b83_ HT_ HW_ hHeld ?_
        refine one_ (i := 29) (N := some 67) b84_ rfl rfl (one_of HT_.out (by kernel_rfl)) (by decide) (fun K hK => ?_)
        refine goes_ Try.func21 (by kernel_rfl) rfl #[.string a2_2, .string (⟨#[10]⟩ : ByteArray)] (by rfl) rfl rfl (by (try simp only [mT, mC, mN]); first | done | rfl | (simp only [lD, lT]; rfl)) ?_
        with_reducible refine (strings_Contains.calls a2_2 (⟨#[10]⟩ : ByteArray) true _ A25.out).mono ?_
        rintro e w29 ⟨rfl, hb⟩
        refine ⟨_, rfl, ?_⟩
        have n0_ := aM (bB (g := gb186) (qy BK186.out) hb)
        have n1_ := aM (bB (g := gb187) (qy BK187.out) hb)
        have n2_ := aM (bB (g := gb188) (qy BK188.out) hb)
        have n3_ := aM (bP (by repeat (first | (with_reducible first | exact HB.out | apply ea | apply en | apply ed | refine es ?_ GE186.out | refine es ?_ GE187.out | refine es ?_ GE188.out) | exact HB.out)) hb)
        clear BK186
        clear BK187
        clear BK188
        clear HB
        have BK186 := n0_
        have BK187 := n1_
        have BK188 := n2_
        have HB := n3_
        clear n0_ n1_ n2_ n3_
        (try clear hb)
        (try clear hb2)
        (try clear hk)
        (try clear hi)
        refine hK.out _ _ ⟨(bC BK187.out 0).trans rfl, (bC BK187.out 1).trans rfl, (bC BK187.out 2).trans rfl, (bC BK187.out 3).trans rfl, (bC BK187.out 4).trans rfl⟩ (fun hHeld => ?_)
        clear hK K
        refine norm_ (a' := ?_) ?_ ?_
        rotate_left
        ·show Act.put _ (some 67) _ = _
         simp only [Act.put, sA, sZ, sS, i64_w, i32_w]
         rfl
        refine pv 30 68 b85_ HT_ ?_
        refine pv 31 69 b86_ HT_ ?_
        refine pu 32 70 b87_ HT_ ?_
        refine pu 33 71 b88_ HT_ ?_
        refine pu 34 72 b89_ HT_ ?_
        refine pu 35 73 b90_ HT_ ?_
        refine pv 36 74 b91_ HT_ ?_
        refine done_ (done_of HT_.out (by kernel_rfl)) ?_
        try go_wp2
        go_meet
        case rel => exact ⟨_, (true), (by first | rfl | (simp; done) | (simp [*]; done)), H', ⟨by first | omega | exact Nat.le_refl _⟩, ⟨by exact qy BK186.out⟩, ⟨by exact qy BK187.out⟩, ⟨by exact qy BK188.out⟩, ⟨by repeat (first | (with_reducible first | exact HB.out | apply ea | apply en | apply ed | refine es ?_ GE186.out | refine es ?_ GE187.out | refine es ?_ GE188.out) | exact HB.out)⟩⟩
       ·replace c26 := Bool.eq_false_iff.mpr c26
        subst c26
        have H1 : (subst_Do.j0 k a1 t189 (decide ((a2_3.size : Int) > 4096)) a0_0 l0_1 a2_0 a2_1 a2_2 a2_3 a2_4) = some (r1, r2, r3, r4, r5, r6, r7) := by rw [if_neg (show ¬ (false = true) by decide)] at H; exact H
        clear H
        have H := H1
        clear H1
        have H' := aM H
        clear H
        try go_wp2
        have n0_ := aM (blk_drew BK186.out)
        have n1_ := aM (blk_drew BK187.out)
        have n2_ := aM (blk_drew BK188.out)
        have n3_ := aM (below_drew1 HB.out)
        clear BK186
        clear BK187
        clear BK188
        clear HB
        have BK186 := n0_
        have BK187 := n1_
        have BK188 := n2_
        have HB := n3_
        clear n0_ n1_ n2_ n3_
        refine start_ (n := 37) (S := fun w' => w'.cell? ⟨gb187, 0, none⟩ = some (.int .i64 a2_0) ∧ w'.cell? ⟨gb187, 1, none⟩ = some (.int .i64 a2_1) ∧ w'.cell? ⟨gb187, 2, none⟩ = some (.string a2_2) ∧ w'.cell? ⟨gb187, 3, none⟩ = some (.string a2_3) ∧ w'.cell? ⟨gb187, 4, none⟩ = some (.bool a2_4)) (ds := []) b54_ (by kernel_rfl) rfl rfl ⟨(bC BK187.out 0).trans rfl, (bC BK187.out 1).trans rfl, (bC BK187.out 2).trans rfl, (bC BK187.out 3).trans rfl, (bC BK187.out 4).trans rfl⟩ (fun hHeld => ?_); refine with_tabW subst_Do.tab2 subst_Do.bits2 (fun HT_ HW_ => ?_)
        generalize w12.drew = w30 at BK186 BK187 BK188 HB hHeld ⊢
        refine pv 0 38 b55_ HT_ ?_
        refine pv 1 39 b56_ HT_ ?_
        refine pv 2 40 b57_ HT_ ?_
        refine pv 3 41 b58_ HT_ ?_
        refine pt 4 42 b59_ HT_ HW_ hHeld ?_
        refine pv 5 43 b60_ HT_ ?_
        refine pv 6 44 b61_ HT_ ?_
        refine pv 7 45 b62_ HT_ ?_
        refine pv 8 46 b63_ HT_ ?_
        refine pv 10 48 b92_ HT_ ?_
        refine pt 9 47 b65_ HT_ HW_ hHeld ?_
        refine pt 11 49 b66_ HT_ HW_ hHeld ?_
        refine pv 12 50 b67_ HT_ ?_
        refine pv 13 51 b68_ HT_ ?_
        refine pv 14 52 b69_ HT_ ?_
        refine pv 15 53 b70_ HT_ ?_
        refine pv 17 55 b93_ HT_ ?_
        refine pt 16 54 b72_ HT_ HW_ hHeld ?_
        refine one_ (i := 18) (N := some 56) b73_ rfl rfl (one_of HT_.out (by kernel_rfl)) (by decide) (fun K hK => ?_)
        refine goes_ Try.func20 (by kernel_rfl) rfl #[.string t189] (by rfl) rfl rfl (by (try simp only [mT, mC, mN]); first | done | rfl | (simp only [lD, lT]; rfl)) ?_
        with_reducible refine (line_Count.calls t189 t191 _ A18.out).mono ?_
        rintro e w31 ⟨rfl, hb⟩
        refine ⟨_, rfl, ?_⟩
        have n0_ := aM (bB (g := gb186) (qy BK186.out) hb)
        have n1_ := aM (bB (g := gb187) (qy BK187.out) hb)
        have n2_ := aM (bB (g := gb188) (qy BK188.out) hb)
        have n3_ := aM (bP (by repeat (first | (with_reducible first | exact HB.out | apply ea | apply en | apply ed | refine es ?_ GE186.out | refine es ?_ GE187.out | refine es ?_ GE188.out) | exact HB.out)) hb)
        clear BK186
        clear BK187
        clear BK188
        clear HB
        have BK186 := n0_
        have BK187 := n1_
        have BK188 := n2_
        have HB := n3_
        clear n0_ n1_ n2_ n3_
        (try clear hb)
        (try clear hb2)
        (try clear hk)
        (try clear hi)
        refine hK.out _ _ ⟨(bC BK187.out 0).trans rfl, (bC BK187.out 1).trans rfl, (bC BK187.out 2).trans rfl, (bC BK187.out 3).trans rfl, (bC BK187.out 4).trans rfl⟩ (fun hHeld => ?_)
        clear hK K
        refine norm_ (a' := ?_) ?_ ?_
        rotate_left
        ·show Act.put _ (some 56) _ = _
         simp only [Act.put, sA, sZ, sS, i64_w, i32_w]
         rfl
        refine pv 19 57 b74_ HT_ ?_
        refine pv 20 58 b75_ HT_ ?_
        refine pv 21 59 b76_ HT_ ?_
        refine pv 22 60 b77_ HT_ ?_
        refine pt 23 61 b78_ HT_ HW_ hHeld ?_
        refine pv 24 62 b79_ HT_ ?_
        refine pv 25 63 b80_ HT_ ?_
        refine pv 26 64 b81_ HT_ ?_
        refine pv 27 65 b82_ HT_ ?_
        refine pt 28 66 b83_ HT_ HW_ hHeld ?_
        refine one_ (i := 29) (N := some 67) b84_ rfl rfl (one_of HT_.out (by kernel_rfl)) (by decide) (fun K hK => ?_)
        refine goes_ Try.func21 (by kernel_rfl) rfl #[.string a2_2, .string (⟨#[10]⟩ : ByteArray)] (by rfl) rfl rfl (by (try simp only [mT, mC, mN]); first | done | rfl | (simp only [lD, lT]; rfl)) ?_
        with_reducible refine (strings_Contains.calls a2_2 (⟨#[10]⟩ : ByteArray) false _ A25.out).mono ?_
        rintro e w32 ⟨rfl, hb⟩
        refine ⟨_, rfl, ?_⟩
        have n0_ := aM (bB (g := gb186) (qy BK186.out) hb)
        have n1_ := aM (bB (g := gb187) (qy BK187.out) hb)
        have n2_ := aM (bB (g := gb188) (qy BK188.out) hb)
        have n3_ := aM (bP (by repeat (first | (with_reducible first | exact HB.out | apply ea | apply en | apply ed | refine es ?_ GE186.out | refine es ?_ GE187.out | refine es ?_ GE188.out) | exact HB.out)) hb)
        clear BK186
        clear BK187
        clear BK188
        clear HB
        have BK186 := n0_
        have BK187 := n1_
        have BK188 := n2_
        have HB := n3_
        clear n0_ n1_ n2_ n3_
        (try clear hb)
        (try clear hb2)
        (try clear hk)
        (try clear hi)
        refine hK.out _ _ ⟨(bC BK187.out 0).trans rfl, (bC BK187.out 1).trans rfl, (bC BK187.out 2).trans rfl, (bC BK187.out 3).trans rfl, (bC BK187.out 4).trans rfl⟩ (fun hHeld => ?_)
        clear hK K
        refine norm_ (a' := ?_) ?_ ?_
        rotate_left
        ·show Act.put _ (some 67) _ = _
         simp only [Act.put, sA, sZ, sS, i64_w, i32_w]
         rfl
        refine pv 30 68 b85_ HT_ ?_
        refine pv 31 69 b86_ HT_ ?_
        refine pv 32 70 b87_ HT_ ?_
        refine pt 33 71 b88_ HT_ HW_ hHeld ?_
        refine pv 34 72 b89_ HT_ ?_
        refine pv 35 73 b90_ HT_ ?_
        refine pv 36 74 b91_ HT_ ?_
        refine done_ (done_of HT_.out (by kernel_rfl)) ?_
        try go_wp2
        go_meet
        case rel => exact ⟨_, (decide ((a2_3.size : Int) > 4096)), (by first | rfl | (simp; done) | (simp [*]; done)), H', ⟨by first | omega | exact Nat.le_refl _⟩, ⟨by exact qy BK186.out⟩, ⟨by exact qy BK187.out⟩, ⟨by exact qy BK188.out⟩, ⟨by repeat (first | (with_reducible first | exact HB.out | apply ea | apply en | apply ed | refine es ?_ GE186.out | refine es ?_ GE187.out | refine es ?_ GE188.out) | exact HB.out)⟩⟩
  ·rw [if_neg c13] at H
   have c13b0 : (t190 == 0) = false := beq_eq_false_iff_ne.mpr c13
   have c13b1 : (t190 != 0) = true := bne_iff_ne.mpr c13
   (first | rw [c13b0] | (simp only [i64_w, i32_w]; rw [c13b0]) | skip)
   have H' := aM H
   clear H
   try go_wp2
   have n0_ := aM (blk_drew BK186.out)
   have n1_ := aM (blk_drew BK187.out)
   have n2_ := aM (blk_drew BK188.out)
   have n3_ := aM (below_drew1 HB.out)
   clear BK186
   clear BK187
   clear BK188
   clear HB
   have BK186 := n0_
   have BK187 := n1_
   have BK188 := n2_
   have HB := n3_
   clear n0_ n1_ n2_ n3_
   refine start_ (n := 37) (S := fun w' => True) (ds := []) b54_ (by kernel_rfl) rfl rfl trivial (fun hHeld => ?_); refine with_tabW subst_Do.tab2 subst_Do.bits2 (fun HT_ HW_ => ?_)
   generalize w12.drew = w33 at BK186 BK187 BK188 HB hHeld ⊢
   refine pv 0 38 b55_ HT_ ?_
   refine pv 1 39 b56_ HT_ ?_
   refine pv 2 40 b57_ HT_ ?_
   refine pu 3 41 b58_ HT_ ?_
   refine pu 4 42 b59_ HT_ ?_
   refine pu 5 43 b60_ HT_ ?_
   refine pv 6 44 b61_ HT_ ?_
   refine pv 7 45 b62_ HT_ ?_
   refine pu 8 46 b63_ HT_ ?_
   refine pu 9 47 b64_ HT_ ?_
   refine pu 10 48 b65_ HT_ ?_
   refine pu 11 49 b66_ HT_ ?_
   refine pu 12 50 b67_ HT_ ?_
   refine pv 13 51 b68_ HT_ ?_
   refine pv 14 52 b69_ HT_ ?_
   refine pu 15 53 b70_ HT_ ?_
   refine pu 16 54 b71_ HT_ ?_
   refine pu 17 55 b72_ HT_ ?_
   refine pu 18 56 b73_ HT_ ?_
   refine pu 19 57 b74_ HT_ ?_
   refine pv 20 58 b75_ HT_ ?_
   refine pv 21 59 b76_ HT_ ?_
   refine pu 22 60 b77_ HT_ ?_
   refine pu 23 61 b78_ HT_ ?_
   refine pu 24 62 b79_ HT_ ?_
   refine pv 25 63 b80_ HT_ ?_
   refine pv 26 64 b81_ HT_ ?_
   refine pu 27 65 b82_ HT_ ?_
   refine pu 28 66 b83_ HT_ ?_
   refine pu 29 67 b84_ HT_ ?_
   refine pv 30 68 b85_ HT_ ?_
   refine pv 31 69 b86_ HT_ ?_
   refine pu 32 70 b87_ HT_ ?_
   refine pu 33 71 b88_ HT_ ?_
   refine pu 34 72 b89_ HT_ ?_
   refine pu 35 73 b90_ HT_ ?_
   refine pv 36 74 b91_ HT_ ?_
   refine done_ (done_of HT_.out (by kernel_rfl)) ?_
   try go_wp2
   go_meet
   case rel => exact ⟨_, (true), (by first | rfl | (simp; done) | (simp [*]; done)), H', ⟨by first | omega | exact Nat.le_refl _⟩, ⟨by exact qy BK186.out⟩, ⟨by exact qy BK187.out⟩, ⟨by exact qy BK188.out⟩, ⟨by repeat (first | (with_reducible first | exact HB.out | apply ea | apply en | apply ed | refine es ?_ GE186.out | refine es ?_ GE187.out | refine es ?_ GE188.out) | exact HB.out)⟩⟩
 case rest =>
  clear HC5
  try clear c1
  try clear c2
  try clear p2
  try clear c13
  try clear c13b0
  try clear c13b1
  try clear c20
  try clear c21
  try clear c26
  obtain ⟨kq, x74_4, rfl, HA, HJ4, BK186, BK187, BK188, HB⟩ := hcut
  cases kq with
  | zero => exact absurd HA.out (by simp [subst_Do.j0])
  | succ kj4 =>
   have H := HA.out
   clear HA
   simp only [subst_Do.j0] at H
   by_cases c34 : x74_4 = true
   ·subst c34
    have H1 : (some (0, (⟨#[]⟩ : ByteArray), ([] : List (S51)), (⟨#[]⟩ : ByteArray), ([] : List (S51)), 0, 2)) = some (r1, r2, r3, r4, r5, r6, r7) := by rw [if_pos rfl] at H; exact H
    clear H
    have H := H1
    clear H1
    simp only [Option.some.injEq, Prod.mk.injEq] at H
    obtain ⟨rfl, rfl, rfl, rfl, rfl, rfl, rfl⟩ := H
    have hnb35 := NB188_186.out
    have hnc35 := NB186_188.out
    have hnb36 := NB188_187.out
    have hnc36 := NB187_188.out
    have hcz37_0 := zC BK188.out 0 (.int .i64 0)
    have hcz37_1 := zC BK188.out 1 (.string (⟨#[]⟩ : ByteArray))
    have hcz37_2 := zC BK188.out 2 (.slice none 0 0)
    have hcz37_3 := zC BK188.out 3 (.string (⟨#[]⟩ : ByteArray))
    have hcz37_4 := zC BK188.out 4 (.slice none 0 0)
    have hfz37_0 := bF BK188.out 0
    have hfz37_1 := bF BK188.out 1
    have hfz37_2 := bF BK188.out 2
    have hfz37_3 := bF BK188.out 3
    have hfz37_4 := bF BK188.out 4
    go_wp2
    refine bodyPost_ret (results_ctt rfl _ _ gb188 32 #[.int .i64 0, .string (⟨#[]⟩ : ByteArray), .slice none 0 0, .string (⟨#[]⟩ : ByteArray), .slice none 0 0] (0, 0) _ rfl (by (with_reducible repeat (first | apply qn | apply qd | apply qa)); refine bU (cs := #[.int .i64 0, .string (⟨#[]⟩ : ByteArray), .slice none 0 0, .string (⟨#[]⟩ : ByteArray), .slice none 0 0]) ?_ 4 _ rfl; (with_reducible repeat (first | apply qn | apply qd | apply qa)); refine bU (cs := #[.int .i64 0, .string (⟨#[]⟩ : ByteArray), .slice none 0 0, .string (⟨#[]⟩ : ByteArray), .slice none 0 0]) ?_ 3 _ rfl; (with_reducible repeat (first | apply qn | apply qd | apply qa)); refine bU (cs := #[.int .i64 0, .string (⟨#[]⟩ : ByteArray), .slice none 0 0, .string (⟨#[]⟩ : ByteArray), .slice none 0 0]) ?_ 2 _ rfl; (with_reducible repeat (first | apply qn | apply qd | apply qa)); refine bU (cs := #[.int .i64 0, .string (⟨#[]⟩ : ByteArray), .slice none 0 0, .string (⟨#[]⟩ : ByteArray), .slice none 0 0]) ?_ 1 _ rfl; (with_reducible repeat (first | apply qn | apply qd | apply qa)); refine bU (cs := #[.int .i64 0, .string (⟨#[]⟩ : ByteArray), .slice none 0 0, .string (⟨#[]⟩ : ByteArray), .slice none 0 0]) ?_ 0 _ rfl; exact qy BK188.out) Try.underlying32 rfl (by kernel_rfl)) rfl ?_
    exact ⟨_, _, by first | rfl | (simp [errW_none, errW_some] <;> rfl) | (simp [*, errW_none, errW_some] <;> rfl), by first | exact Kd.R_nil _ _ _ _ _ | exact Kd.N_nil _ _ _ _ _ | exact Kd.V_nil _ _ _ _ _ | exact Kd.Q_nil _ _ _ _ _ | exact Kd.S_nil _ _ _ _ _, by first | exact Kd.R_nil _ _ _ _ _ | exact Kd.N_nil _ _ _ _ _ | exact Kd.V_nil _ _ _ _ _ | exact Kd.Q_nil _ _ _ _ _ | exact Kd.S_nil _ _ _ _ _, by repeat (first | (with_reducible first | exact HB.out | apply ea | apply en | apply ed | refine es ?_ GE186.out | refine es ?_ GE187.out | refine es ?_ GE188.out) | exact HB.out)⟩
   ·replace c34 := Bool.eq_false_iff.mpr c34
    subst c34
    have H1 : (subst_Do.l0 kj4 a1 t189 ([] : List Int) a2_0 a0_0 l0_1 a2_0 a2_1 a2_2 a2_3 a2_4) = some (r1, r2, r3, r4, r5, r6, r7) := by rw [if_neg (show ¬ (false = true) by decide)] at H; exact H
    clear H
    have H := H1
    clear H1
    have H' := aM H
    clear H
    have hnb38 := NB187_186.out
    have hnc38 := NB186_187.out
    have hnb39 := NB187_188.out
    have hnc39 := NB188_187.out
    have hcz40_0 := zC BK187.out 0 (.int .i64 a2_0)
    have hcz40_1 := zC BK187.out 1 (.int .i64 a2_1)
    have hcz40_2 := zC BK187.out 2 (.string a2_2)
    have hcz40_3 := zC BK187.out 3 (.string a2_3)
    have hcz40_4 := zC BK187.out 4 (.bool a2_4)
    have hfz40_0 := bF BK187.out 0
    have hfz40_1 := bF BK187.out 1
    have hfz40_2 := bF BK187.out 2
    have hfz40_3 := bF BK187.out 3
    have hfz40_4 := bF BK187.out 4
    go_wp2
    go_loopg [11, 12] kj4 (fun kq v11 v12 w' => ∃ (x11_2 : List Int) (x12_2 : Int), v12 = .int .i64 x12_2 ∧ Aside0 (subst_Do.l0 kq a1 t189 x11_2 x12_2 a0_0 l0_1 a2_0 a2_1 a2_2 a2_3 a2_4 = some (r1, r2, r3, r4, r5, r6, r7)) ∧ Aside0 (kq ≤ kj4) ∧ Aside0 (Kd.R (Kd.int .i64) 3 w' w.heap.size (fun _ => True) v11 x11_2) ∧ Aside0 (w'.heap[gb186]? = some (.cells #[.string a0_0, (.slice A0_1 l0_1.length c0_1)] 24 (0, 0))) ∧ Aside0 (w'.heap[gb187]? = some (.cells #[.int .i64 a2_0, .int .i64 a2_1, .string a2_2, .string a2_3, .bool a2_4] 28 (0, 0))) ∧ Aside0 (w'.heap[gb188]? = some (.cells #[.int .i64 0, .string (⟨#[]⟩ : ByteArray), (.slice none 0 0), .string (⟨#[]⟩ : ByteArray), (.slice none 0 0)] 32 (0, 0))) ∧ Aside0 (Below w.heap.size w w'))
    case atStart => exact ⟨(([] : List Int)), (a2_0), (by first | rfl | (simp; done) | (simp [*]; done)), H', ⟨Nat.le_refl _⟩, ⟨by first | exact Kd.R_nil _ _ _ _ _ | exact Kd.N_nil _ _ _ _ _ | exact Kd.V_nil _ _ _ _ _ | exact Kd.Q_nil _ _ _ _ _ | exact Kd.S_nil _ _ _ _ _⟩, ⟨by exact qy BK186.out⟩, ⟨by exact qy BK187.out⟩, ⟨by exact qy BK188.out⟩, ⟨by repeat (first | (with_reducible first | exact HB.out | apply ea | apply en | apply ed | refine es ?_ GE186.out | refine es ?_ GE187.out | refine es ?_ GE188.out) | exact HB.out)⟩⟩
    case round =>
     clear H'
     try clear c1
     try clear c2
     try clear p2
     try clear c3
     try clear c13
     try clear c13b0
     try clear c13b1
     try clear c20
     try clear c21
     try clear c26
     try clear c34
     try clear c35
     try clear c36
     try clear c38
     try clear c39
     try clear hcz37_0
     try clear hcz37_1
     try clear hcz37_2
     try clear hcz37_3
     try clear hcz37_4
     try clear hcz40_0
     try clear hcz40_1
     try clear hcz40_2
     try clear hcz40_3
     try clear hcz40_4
     try clear hfz37_0
     try clear hfz37_1
     try clear hfz37_2
     try clear hfz37_3
     try clear hfz37_4
     try clear hfz40_0
     try clear hfz40_1
     try clear hfz40_2
     try clear hfz40_3
     try clear hfz40_4
     try clear p2
     obtain ⟨x11_2, x12_2, rfl, HA, HK2, HO_11, BK186, BK187, BK188, HB⟩ := hrel
     cases gk with
     | zero => exact absurd HA.out (by simp [subst_Do.l0])
     | succ k2 =>
      have H := HA.out
      clear HA
      simp only [subst_Do.l0] at H
      by_cases c41 : x12_2 ≤ a2_1
      ·rw [if_pos c41] at H
       have c41b0 : decide (x12_2 ≤ a2_1) = true := decide_eq_true c41
       clear c41
       replace H := Option.bind_eq_some_iff.mp H
       obtain ⟨⟨t193, t194, t195⟩, A420, H⟩ := H
       replace H : ((subst_places.f k2 a0_0 l0_1 a1 a2_0 a2_1 a2_2 a2_3 a2_4 t193 t194).bind fun t196 => (if x11_2.length + t196.length < 17592186044416 then (subst_Do.l0 k2 a1 t189 (x11_2 ++ t196) (wrap64 (x12_2 + 1)) a0_0 l0_1 a2_0 a2_1 a2_2 a2_3 a2_4) else (none))) = some (r1, r2, r3, r4, r5, r6, r7) := H
       have A42 := aM A420
       clear A420
       replace H := Option.bind_eq_some_iff.mp H
       obtain ⟨t196, A430, H⟩ := H
       replace H : (if x11_2.length + t196.length < 17592186044416 then (subst_Do.l0 k2 a1 t189 (x11_2 ++ t196) (wrap64 (x12_2 + 1)) a0_0 l0_1 a2_0 a2_1 a2_2 a2_3 a2_4) else (none)) = some (r1, r2, r3, r4, r5, r6, r7) := H
       have A43 := aM A430
       clear A430
       by_cases c44 : x11_2.length + t196.length < 17592186044416
       ·rw [if_pos c44] at H
        have LMc44 := aM c44
        clear c44
        obtain ⟨y199, hy199⟩ : ∃ y_ : List Int, y_ = (x11_2 ++ t196) := ⟨_, rfl⟩
        replace H : (subst_Do.l0 k2 a1 t189 y199 (wrap64 (x12_2 + 1)) a0_0 l0_1 a2_0 a2_1 a2_2 a2_3 a2_4) = some (r1, r2, r3, r4, r5, r6, r7) := by first | (rw [hy199]; with_reducible exact H) | (have H2_ := (Option.bind_some _ _).symm.trans H; rw [hy199]; with_reducible exact H2_) | (have H2_ := (Option.bind_some _ _).symm.trans H; with_reducible exact H2_) | with_reducible exact H | (rw [hy199]; exact H) | exact H
        have Ny199 := aM hy199
        clear hy199
        have H' := aM H
        clear H
        have hnb45 := NB187_186.out
        have hnc45 := NB186_187.out
        have hnb46 := NB187_188.out
        have hnc46 := NB188_187.out
        have hcz47_0 := zC BK187.out 0 (.int .i64 a2_0)
        have hcz47_1 := zC BK187.out 1 (.int .i64 a2_1)
        have hcz47_2 := zC BK187.out 2 (.string a2_2)
        have hcz47_3 := zC BK187.out 3 (.string a2_3)
        have hcz47_4 := zC BK187.out 4 (.bool a2_4)
        have hfz47_0 := bF BK187.out 0
        have hfz47_1 := bF BK187.out 1
        have hfz47_2 := bF BK187.out 2
        have hfz47_3 := bF BK187.out 3
        have hfz47_4 := bF BK187.out 4
        go_wp2_with (first | ((with_reducible refine gate_callee (f := 22) rfl ?_); refine goesL_ (some 87) rfl rfl Try.func22 (by kernel_rfl) rfl #[.string t189, .int .i64 x12_2] rfl (by (try simp only [mT, mC, mN]); first | done | rfl | (simp only [lD, lT]; rfl)) ?_; (with_reducible refine (line_Bounds.calls k2 t189 x12_2 t193 t194 t195 _ A42.out).mono ?_); rintro e w48 ⟨rfl, hb⟩; refine ⟨_, rfl, ?_⟩; have n0_ := aM (Kd.R_below (ry HO_11.out) hb); have n1_ := aM (bB (g := gb186) (qy BK186.out) hb); have n2_ := aM (bB (g := gb187) (qy BK187.out) hb); have n3_ := aM (bB (g := gb188) (qy BK188.out) hb); have n4_ := aM (bP (by repeat (first | (with_reducible first | exact HB.out | apply ea | apply en | apply ed | refine es ?_ GE186.out | refine es ?_ GE187.out | refine es ?_ GE188.out) | exact HB.out)) hb); clear HO_11 BK186 BK187 BK188 HB; have HO_11 := n0_; have BK186 := n1_; have BK187 := n2_; have BK188 := n3_; have HB := n4_; clear n0_ n1_ n2_ n3_ n4_; (try clear hb); (try clear hb2); (try clear hk); (try clear hi); have hnb49 := NB186_188.out; have hnc49 := NB188_186.out; have hcz50_0 := zC BK186.out 0 (.string a0_0); have hcz50_1 := zC BK186.out 1 (.slice A0_1 l0_1.length c0_1); have hfz50_0 := bF BK186.out 0; have hfz50_1 := bF BK186.out 1; have hcz51_0 := zC BK187.out 0 (.int .i64 a2_0); have hcz51_1 := zC BK187.out 1 (.int .i64 a2_1); have hcz51_2 := zC BK187.out 2 (.string a2_2); have hcz51_3 := zC BK187.out 3 (.string a2_3); have hcz51_4 := zC BK187.out 4 (.bool a2_4); have hfz51_0 := bF BK187.out 0; have hfz51_1 := bF BK187.out 1; have hfz51_2 := bF BK187.out 2; have hfz51_3 := bF BK187.out 3; have hfz51_4 := bF BK187.out 4) | ((with_reducible refine gate_callee (f := 23) rfl ?_); refine goesL_ (some 97) rfl rfl Try.func23 (by kernel_rfl) rfl #[.agg #[.string a0_0, .slice A0_1 l0_1.length c0_1], .int .u64 a1, .agg #[.int .i64 a2_0, .int .i64 a2_1, .string a2_2, .string a2_3, .bool a2_4], .int .i64 t193, .int .i64 t194] rfl (by (try simp only [mT, mC, mN]); first | done | rfl | (simp only [lD, lT]; rfl)) ?_; (with_reducible refine (subst_places.calls k2 a0_0 _ _ l0_1 a1 a2_0 a2_1 a2_2 a2_3 a2_4 t193 t194 t196 _ ?mx5 ?side1 ?side2 A43.out).mono ?_); (case mx5 => exact MaxOk.below HMX.out (by repeat (first | (with_reducible first | exact HB.out | apply ea | apply en | apply ed | refine es ?_ GE186.out | refine es ?_ GE187.out | refine es ?_ GE188.out) | exact HB.out))); (case side1 => repeat (first | exact (cB_ HR0_1.out HB.out) | (with_reducible refine Kd.C_alloc ?_ _) | (with_reducible refine Kd.C_drewN ?_ _) | (with_reducible refine Kd.C_drew ?_))); (case side2 => exact HC0_1.out); rintro e w52 ⟨v197, rfl, ho0, hb⟩; refine ⟨_, rfl, ?_⟩; have n0_ := aM (rE (ry HO_11.out) (Kd.R_base ho0) hb); have n1_ := aM (rL (Kd.R_new' ho0 (Kd.R_lt (ry HO_11.out))) (bZ (by repeat (first | (with_reducible first | exact HB.out | apply ea | apply en | apply ed | refine es ?_ GE186.out | refine es ?_ GE187.out | refine es ?_ GE188.out) | exact HB.out)))); have n2_ := aM (bB (g := gb186) (qy BK186.out) hb); have n3_ := aM (bB (g := gb187) (qy BK187.out) hb); have n4_ := aM (bB (g := gb188) (qy BK188.out) hb); have n5_ := aM (bP (by repeat (first | (with_reducible first | exact HB.out | apply ea | apply en | apply ed | refine es ?_ GE186.out | refine es ?_ GE187.out | refine es ?_ GE188.out) | exact HB.out)) hb); clear HO_11 BK186 BK187 BK188 HB; have HO_11 := n0_; have HO198 := n1_; have BK186 := n2_; have BK187 := n3_; have BK188 := n4_; have HB := n5_; clear n0_ n1_ n2_ n3_ n4_ n5_; (try clear hb); (try clear hb2); (try clear hk); (try clear hi); (try clear ho0); obtain ⟨Ao54, co54, eo54⟩ := Kd.R_slice HO198.out; subst eo54) | ((with_reducible refine gate_builtin (b := .append) (xs := #[.tmp 91, .tmp 97]) rfl ?_); (try (refine gate_guard (by rfl) ?_; dsimp only)); at_builtin; refine Kd.R_append_rows (Kd.int .i64) (w0 := w) w.heap.size rfl (.tmp 91) (.tmp 97) 56 3 (.int .i64 0) 8 rfl Try.underlying56 info3 rfl (by decide) (by omega) u11 x11_2 t196 _ _ _ (fun k_ => some k_ ≠ (.slice Ao54 t196.length co54 : Value).ownBlock) (fun _ => False) rfl rfl ?aO ?aR (fun _ _ h => h) (fun _ h => h.elim) ?aF ?aB ?aS ?aL ?_; (case aR => repeat (first | exact (rR HO198.out).2.2 | (with_reducible refine Kd.C_alloc ?_ _) | (with_reducible refine Kd.C_drewN ?_ _) | (with_reducible refine Kd.C_drew ?_))); (case aB => exact (by repeat (first | (with_reducible first | exact HB.out | apply ea | apply en | apply ed | refine es ?_ GE186.out | refine es ?_ GE187.out | refine es ?_ GE188.out) | exact HB.out))); (case aF => exact (fun k_ hk => Kd.fresh' (Kd.R_lt (ry HO198.out)) k_ hk)); (case aO => exact (by (with_reducible repeat (first | apply ra | apply rn | apply rd_)); exact rM HO_11.out (fun _ hk => hk.2))); (case aS => exact (bZ (by repeat (first | (with_reducible first | exact HB.out | apply ea | apply en | apply ed | refine es ?_ GE186.out | refine es ?_ GE187.out | refine es ?_ GE188.out) | exact HB.out)))); (case aL => have := LMc44.out; omega); intro v200 w53 ho hb hg hat; rw [← Ny199.out] at ho; have n0_ := aM (blk_grown (g := gb186) (qy BK186.out) hg (Kd.R_ne HO_11.out BK186.out (by decide))); have n1_ := aM (blk_grown (g := gb187) (qy BK187.out) hg (Kd.R_ne HO_11.out BK187.out (by decide))); have n2_ := aM (blk_grown (g := gb188) (qy BK188.out) hg (Kd.R_ne HO_11.out BK188.out (by decide))); have n3_ := aM (Kd.R_after (ok := (fun _ => True)) (ry HO198.out) hg hat); have n4_ := aM (hb); have n5_ := aM (ho); clear BK186 BK187 BK188 HO198 HB HO_11; have BK186 := n0_; have BK187 := n1_; have BK188 := n2_; have HO198 := n3_; have HB := n4_; have HO201 := n5_; clear n0_ n1_ n2_ n3_ n4_ n5_; clear ho hb hg hat))
        go_roundg k2
        case measure => have := HJ4.out; have := HK2.out; omega
        case rel => exact ⟨(y199), (wrap64 (x12_2 + 1)), (by first | rfl | (simp; done) | (simp [*]; done)), H', ⟨by have := HJ4.out; have := HK2.out; omega⟩, ⟨by (with_reducible repeat (first | apply ra | apply rn | apply rd_)); exact rM HO201.out (fun _ hk => trivial)⟩, ⟨by exact qy BK186.out⟩, ⟨by exact qy BK187.out⟩, ⟨by exact qy BK188.out⟩, ⟨by repeat (first | (with_reducible first | exact HB.out | apply ea | apply en | apply ed | refine es ?_ GE186.out | refine es ?_ GE187.out | refine es ?_ GE188.out) | exact HB.out)⟩⟩
       ·rw [if_neg c44] at H
        exact absurd H (by simp)
      ·rw [if_neg c41] at H
       have c41b0 : decide (x12_2 ≤ a2_1) = false := decide_eq_false c41
       clear c41
       by_cases c55 : (x11_2.length : Int) = 0
       ·rw [if_pos c55] at H
        have c55b0 : ((x11_2.length : Int) == 0) = true := beq_iff_eq.mpr c55
        have c55b1 : ((x11_2.length : Int) != 0) = false := bne_eq_false_iff_eq.mpr c55
        clear c55
        simp only [Option.some.injEq, Prod.mk.injEq] at H
        obtain ⟨rfl, rfl, rfl, rfl, rfl, rfl, rfl⟩ := H
        have hnb56 := NB187_186.out
        have hnc56 := NB186_187.out
        have hnb57 := NB187_188.out
        have hnc57 := NB188_187.out
        have hcz58_0 := zC BK187.out 0 (.int .i64 a2_0)
        have hcz58_1 := zC BK187.out 1 (.int .i64 a2_1)
        have hcz58_2 := zC BK187.out 2 (.string a2_2)
        have hcz58_3 := zC BK187.out 3 (.string a2_3)
        have hcz58_4 := zC BK187.out 4 (.bool a2_4)
        have hfz58_0 := bF BK187.out 0
        have hfz58_1 := bF BK187.out 1
        have hfz58_2 := bF BK187.out 2
        have hfz58_3 := bF BK187.out 3
        have hfz58_4 := bF BK187.out 4
        obtain ⟨Ao59, co59, eo59⟩ := Kd.R_slice HO_11.out
        subst eo59
        have hnb60 := NB188_186.out
        have hnc60 := NB186_188.out
        have hcz61_0 := zC BK188.out 0 (.int .i64 0)
        have hcz61_1 := zC BK188.out 1 (.string (⟨#[]⟩ : ByteArray))
        have hcz61_2 := zC BK188.out 2 (.slice none 0 0)
        have hcz61_3 := zC BK188.out 3 (.string (⟨#[]⟩ : ByteArray))
        have hcz61_4 := zC BK188.out 4 (.slice none 0 0)
        have hfz61_0 := bF BK188.out 0
        have hfz61_1 := bF BK188.out 1
        have hfz61_2 := bF BK188.out 2
        have hfz61_3 := bF BK188.out 3
        have hfz61_4 := bF BK188.out 4
        go_wp2
        refine bodyPost_ret (results_ctt rfl _ _ gb188 32 #[.int .i64 0, .string (⟨#[]⟩ : ByteArray), .slice none 0 0, .string (⟨#[]⟩ : ByteArray), .slice none 0 0] (0, 0) _ rfl (by (with_reducible repeat (first | apply qn | apply qd | apply qa)); refine bU (cs := #[.int .i64 0, .string (⟨#[]⟩ : ByteArray), .slice none 0 0, .string (⟨#[]⟩ : ByteArray), .slice none 0 0]) ?_ 4 _ rfl; (with_reducible repeat (first | apply qn | apply qd | apply qa)); refine bU (cs := #[.int .i64 0, .string (⟨#[]⟩ : ByteArray), .slice none 0 0, .string (⟨#[]⟩ : ByteArray), .slice none 0 0]) ?_ 3 _ rfl; (with_reducible repeat (first | apply qn | apply qd | apply qa)); refine bU (cs := #[.int .i64 0, .string (⟨#[]⟩ : ByteArray), .slice none 0 0, .string (⟨#[]⟩ : ByteArray), .slice none 0 0]) ?_ 2 _ rfl; (with_reducible repeat (first | apply qn | apply qd | apply qa)); refine bU (cs := #[.int .i64 0, .string (⟨#[]⟩ : ByteArray), .slice none 0 0, .string (⟨#[]⟩ : ByteArray), .slice none 0 0]) ?_ 1 _ rfl; (with_reducible repeat (first | apply qn | apply qd | apply qa)); refine bU (cs := #[.int .i64 0, .string (⟨#[]⟩ : ByteArray), .slice none 0 0, .string (⟨#[]⟩ : ByteArray), .slice none 0 0]) ?_ 0 _ rfl; exact qy BK188.out) Try.underlying32 rfl (by kernel_rfl)) rfl ?_
        exact ⟨_, _, by first | rfl | (simp [errW_none, errW_some] <;> rfl) | (simp [*, errW_none, errW_some] <;> rfl), by first | exact Kd.R_nil _ _ _ _ _ | exact Kd.N_nil _ _ _ _ _ | exact Kd.V_nil _ _ _ _ _ | exact Kd.Q_nil _ _ _ _ _ | exact Kd.S_nil _ _ _ _ _, by first | exact Kd.R_nil _ _ _ _ _ | exact Kd.N_nil _ _ _ _ _ | exact Kd.V_nil _ _ _ _ _ | exact Kd.Q_nil _ _ _ _ _ | exact Kd.S_nil _ _ _ _ _, by repeat (first | (with_reducible first | exact HB.out | apply ea | apply en | apply ed | refine es ?_ GE186.out | refine es ?_ GE187.out | refine es ?_ GE188.out) | exact HB.out)⟩
       ·rw [if_neg c55] at H
        have c55b0 : ((x11_2.length : Int) == 0) = false := beq_eq_false_iff_ne.mpr c55
        have c55b1 : ((x11_2.length : Int) != 0) = true := bne_iff_ne.mpr c55
        have c55b2 : ¬ (x11_2 = []) := fun h_ => c55 (by rw [h_]; rfl)
        by_cases c62 : (wrap64 ((a0_0.size : Int) + (wrap64 ((x11_2.length : Int) * (wrap64 ((a2_3.size : Int) - (a2_2.size : Int))))))) > 4096
        ·rw [if_pos c62] at H
         have c62b0 : decide (4096 < (wrap64 ((a0_0.size : Int) + (wrap64 ((x11_2.length : Int) * (wrap64 ((a2_3.size : Int) - (a2_2.size : Int)))))))) = true := decide_eq_true c62
         clear c62
         simp only [Option.some.injEq, Prod.mk.injEq] at H
         obtain ⟨rfl, rfl, rfl, rfl, rfl, rfl, rfl⟩ := H
         have hnb63 := NB187_186.out
         have hnc63 := NB186_187.out
         have hnb64 := NB187_188.out
         have hnc64 := NB188_187.out
         have hcz65_0 := zC BK187.out 0 (.int .i64 a2_0)
         have hcz65_1 := zC BK187.out 1 (.int .i64 a2_1)
         have hcz65_2 := zC BK187.out 2 (.string a2_2)
         have hcz65_3 := zC BK187.out 3 (.string a2_3)
         have hcz65_4 := zC BK187.out 4 (.bool a2_4)
         have hfz65_0 := bF BK187.out 0
         have hfz65_1 := bF BK187.out 1
         have hfz65_2 := bF BK187.out 2
         have hfz65_3 := bF BK187.out 3
         have hfz65_4 := bF BK187.out 4
         obtain ⟨Ao66, co66, eo66⟩ := Kd.R_slice HO_11.out
         subst eo66
         have hnb67 := NB186_188.out
         have hnc67 := NB188_186.out
         have hcz68_0 := zC BK186.out 0 (.string a0_0)
         have hcz68_1 := zC BK186.out 1 (.slice A0_1 l0_1.length c0_1)
         have hfz68_0 := bF BK186.out 0
         have hfz68_1 := bF BK186.out 1
         have hcz69_0 := zC BK188.out 0 (.int .i64 0)
         have hcz69_1 := zC BK188.out 1 (.string (⟨#[]⟩ : ByteArray))
         have hcz69_2 := zC BK188.out 2 (.slice none 0 0)
         have hcz69_3 := zC BK188.out 3 (.string (⟨#[]⟩ : ByteArray))
         have hcz69_4 := zC BK188.out 4 (.slice none 0 0)
         have hfz69_0 := bF BK188.out 0
         have hfz69_1 := bF BK188.out 1
         have hfz69_2 := bF BK188.out 2
         have hfz69_3 := bF BK188.out 3
         have hfz69_4 := bF BK188.out 4
         go_wp2
         refine bodyPost_ret (results_ctt rfl _ _ gb188 32 #[.int .i64 0, .string (⟨#[]⟩ : ByteArray), .slice none 0 0, .string (⟨#[]⟩ : ByteArray), .slice none 0 0] (0, 0) _ rfl (by (with_reducible repeat (first | apply qn | apply qd | apply qa)); refine bU (cs := #[.int .i64 0, .string (⟨#[]⟩ : ByteArray), .slice none 0 0, .string (⟨#[]⟩ : ByteArray), .slice none 0 0]) ?_ 4 _ rfl; (with_reducible repeat (first | apply qn | apply qd | apply qa)); refine bU (cs := #[.int .i64 0, .string (⟨#[]⟩ : ByteArray), .slice none 0 0, .string (⟨#[]⟩ : ByteArray), .slice none 0 0]) ?_ 3 _ rfl; (with_reducible repeat (first | apply qn | apply qd | apply qa)); refine bU (cs := #[.int .i64 0, .string (⟨#[]⟩ : ByteArray), .slice none 0 0, .string (⟨#[]⟩ : ByteArray), .slice none 0 0]) ?_ 2 _ rfl; (with_reducible repeat (first | apply qn | apply qd | apply qa)); refine bU (cs := #[.int .i64 0, .string (⟨#[]⟩ : ByteArray), .slice none 0 0, .string (⟨#[]⟩ : ByteArray), .slice none 0 0]) ?_ 1 _ rfl; (with_reducible repeat (first | apply qn | apply qd | apply qa)); refine bU (cs := #[.int .i64 0, .string (⟨#[]⟩ : ByteArray), .slice none 0 0, .string (⟨#[]⟩ : ByteArray), .slice none 0 0]) ?_ 0 _ rfl; exact qy BK188.out) Try.underlying32 rfl (by kernel_rfl)) rfl ?_
         exact ⟨_, _, by first | rfl | (simp [errW_none, errW_some] <;> rfl) | (simp [*, errW_none, errW_some] <;> rfl), by first | exact Kd.R_nil _ _ _ _ _ | exact Kd.N_nil _ _ _ _ _ | exact Kd.V_nil _ _ _ _ _ | exact Kd.Q_nil _ _ _ _ _ | exact Kd.S_nil _ _ _ _ _, by first | exact Kd.R_nil _ _ _ _ _ | exact Kd.N_nil _ _ _ _ _ | exact Kd.V_nil _ _ _ _ _ | exact Kd.Q_nil _ _ _ _ _ | exact Kd.S_nil _ _ _ _ _, by repeat (first | (with_reducible first | exact HB.out | apply ea | apply en | apply ed | refine es ?_ GE186.out | refine es ?_ GE187.out | refine es ?_ GE188.out) | exact HB.out)⟩
        ·rw [if_neg c62] at H
         have c62b0 : decide (4096 < (wrap64 ((a0_0.size : Int) + (wrap64 ((x11_2.length : Int) * (wrap64 ((a2_3.size : Int) - (a2_2.size : Int)))))))) = false := decide_eq_false c62
         clear c62
         replace H := Option.bind_eq_some_iff.mp H
         obtain ⟨⟨t202, t203, t206⟩, A700, H⟩ := H
         replace H : ((line_Bounds.f k2 t189 a2_0).bind fun bt208 => ((line_Bounds.f k2 t189 a2_1).bind fun bt211 => (if x11_2.length < 17592186044416 then ((some (x11_2 ++ [bt211.2.1] : List Int)).bind fun y215 => (subst_Do.l1 k2 x11_2 bt208.1 bt211.2.1 bt208.1 y215 (y215.length : Int) 0 a0_0 l0_1 a2_0 a2_1 a2_2 a2_3 a2_4 t202 t203 (⟨#[]⟩ : ByteArray) ([] : List (S51)))) else (none)))) = some (r1, r2, r3, r4, r5, r6, r7) := H
         have A70 := aM A700
         clear A700
         replace H := Option.bind_eq_some_iff.mp H
         obtain ⟨⟨t208, t209, t210⟩, A710, H⟩ := H
         replace H : ((line_Bounds.f k2 t189 a2_1).bind fun bt211 => (if x11_2.length < 17592186044416 then ((some (x11_2 ++ [bt211.2.1] : List Int)).bind fun y215 => (subst_Do.l1 k2 x11_2 t208 bt211.2.1 t208 y215 (y215.length : Int) 0 a0_0 l0_1 a2_0 a2_1 a2_2 a2_3 a2_4 t202 t203 (⟨#[]⟩ : ByteArray) ([] : List (S51)))) else (none))) = some (r1, r2, r3, r4, r5, r6, r7) := H
         have A71 := aM A710
         clear A710
         replace H := Option.bind_eq_some_iff.mp H
         obtain ⟨⟨t211, t212, t213⟩, A720, H⟩ := H
         replace H : (if x11_2.length < 17592186044416 then ((some (x11_2 ++ [t212] : List Int)).bind fun y215 => (subst_Do.l1 k2 x11_2 t208 t212 t208 y215 (y215.length : Int) 0 a0_0 l0_1 a2_0 a2_1 a2_2 a2_3 a2_4 t202 t203 (⟨#[]⟩ : ByteArray) ([] : List (S51)))) else (none)) = some (r1, r2, r3, r4, r5, r6, r7) := H
         have A72 := aM A720
         clear A720
         by_cases c73 : x11_2.length < 17592186044416
         ·rw [if_pos c73] at H
          have LMc73 := aM c73
          clear c73
          obtain ⟨y215, hy215⟩ : ∃ y_ : List Int, y_ = (x11_2 ++ [t212]) := ⟨_, rfl⟩
          replace H : (subst_Do.l1 k2 x11_2 t208 t212 t208 y215 (y215.length : Int) 0 a0_0 l0_1 a2_0 a2_1 a2_2 a2_3 a2_4 t202 t203 (⟨#[]⟩ : ByteArray) ([] : List (S51))) = some (r1, r2, r3, r4, r5, r6, r7) := by first | (rw [hy215]; with_reducible exact H) | (have H2_ := (Option.bind_some _ _).symm.trans H; rw [hy215]; with_reducible exact H2_) | (have H2_ := (Option.bind_some _ _).symm.trans H; with_reducible exact H2_) | with_reducible exact H | (rw [hy215]; exact H) | exact H
          have Ny215 := aM hy215
          clear hy215
          have H' := aM H
          clear H
          have hnb74 := NB187_186.out
          have hnc74 := NB186_187.out
          have hnb75 := NB187_188.out
          have hnc75 := NB188_187.out
          have hcz76_0 := zC BK187.out 0 (.int .i64 a2_0)
          have hcz76_1 := zC BK187.out 1 (.int .i64 a2_1)
          have hcz76_2 := zC BK187.out 2 (.string a2_2)
          have hcz76_3 := zC BK187.out 3 (.string a2_3)
          have hcz76_4 := zC BK187.out 4 (.bool a2_4)
          have hfz76_0 := bF BK187.out 0
          have hfz76_1 := bF BK187.out 1
          have hfz76_2 := bF BK187.out 2
          have hfz76_3 := bF BK187.out 3
          have hfz76_4 := bF BK187.out 4
          obtain ⟨Ao77, co77, eo77⟩ := Kd.R_slice HO_11.out
          subst eo77
          have hnb78 := NB186_188.out
          have hnc78 := NB188_186.out
          have hcz79_0 := zC BK186.out 0 (.string a0_0)
          have hcz79_1 := zC BK186.out 1 (.slice A0_1 l0_1.length c0_1)
          have hfz79_0 := bF BK186.out 0
          have hfz79_1 := bF BK186.out 1
          go_wp2_with (first | ((with_reducible refine gate_callee (f := 24) rfl ?_); refine goesL_ (some 125) rfl rfl Try.func24 (by kernel_rfl) rfl #[.string a2_3, .int .u64 a1] rfl (by (try simp only [mT, mC, mN]); first | done | rfl | (simp only [lD, lT]; rfl)) ?_; (with_reducible refine (strip_Make.calls k2 a2_3 a1 t202 t203 t206 _ A70.out).mono ?_); rintro e w80 ⟨v204, rfl, ho0, hb⟩; refine ⟨_, rfl, ?_⟩; have n0_ := aM (Kd.R_below (ry HO_11.out) hb); have n1_ := aM (rL ho0 (bZ (by repeat (first | (with_reducible first | exact HB.out | apply ea | apply en | apply ed | refine es ?_ GE186.out | refine es ?_ GE187.out | refine es ?_ GE188.out) | exact HB.out)))); have n2_ := aM (bB (g := gb186) (qy BK186.out) hb); have n3_ := aM (bB (g := gb187) (qy BK187.out) hb); have n4_ := aM (bB (g := gb188) (qy BK188.out) hb); have n5_ := aM (bP (by repeat (first | (with_reducible first | exact HB.out | apply ea | apply en | apply ed | refine es ?_ GE186.out | refine es ?_ GE187.out | refine es ?_ GE188.out) | exact HB.out)) hb); clear HO_11 BK186 BK187 BK188 HB; have HO_11 := n0_; have HO205 := n1_; have BK186 := n2_; have BK187 := n3_; have BK188 := n4_; have HB := n5_; clear n0_ n1_ n2_ n3_ n4_ n5_; (try clear hb); (try clear hb2); (try clear hk); (try clear hi); (try clear ho0)) | ((with_reducible refine gate_dst (N := 16) rfl ?_); (try (refine gate_guard (by rfl) ?_; dsimp only)); refine box_event ?hg (N := 16) ?hd (cs := #[.string (⟨#[]⟩ : ByteArray), .slice none 0 0]) (t := 24) ?hr ?_; (case hd | hg => rfl); (case hr => first | (go_simp; done) | (go_simp; rfl)); intro gb207 hg w81 hbox hb; have n0_ := aM (Kd.R_below (ry HO_11.out) hb); have n1_ := aM (Kd.R_below (ry HO205.out) hb); have n2_ := aM (bB (g := gb186) (qy BK186.out) hb); have n3_ := aM (bB (g := gb187) (qy BK187.out) hb); have n4_ := aM (bB (g := gb188) (qy BK188.out) hb); have n5_ := aM (bP (by repeat (first | (with_reducible first | exact HB.out | apply ea | apply en | apply ed | refine es ?_ GE186.out | refine es ?_ GE187.out | refine es ?_ GE188.out) | exact HB.out)) hb); have n6_ := aM (hbox); have n7_ := aM ((by rw [hg]; exact (bZ (by repeat (first | (with_reducible first | exact HB.out | apply ea | apply en | apply ed | refine es ?_ GE186.out | refine es ?_ GE187.out | refine es ?_ GE188.out) | exact HB.out))) : w.heap.size ≤ gb207)); have n8_ := n7_; have n9_ := aM ((by rw [hg]; exact Nat.ne_of_lt (blk_lt (g := gb186) (qy BK186.out)) : gb186 ≠ gb207)); have n10_ := aM ((by rw [hg]; exact Nat.ne_of_gt (blk_lt (g := gb186) (qy BK186.out)) : gb207 ≠ gb186)); have n11_ := aM ((by rw [hg]; exact Nat.ne_of_lt (blk_lt (g := gb187) (qy BK187.out)) : gb187 ≠ gb207)); have n12_ := aM ((by rw [hg]; exact Nat.ne_of_gt (blk_lt (g := gb187) (qy BK187.out)) : gb207 ≠ gb187)); have n13_ := aM ((by rw [hg]; exact Nat.ne_of_lt (blk_lt (g := gb188) (qy BK188.out)) : gb188 ≠ gb207)); have n14_ := aM ((by rw [hg]; exact Nat.ne_of_gt (blk_lt (g := gb188) (qy BK188.out)) : gb207 ≠ gb188)); clear HO_11 HO205 BK186 BK187 BK188 HB; have HO_11 := n0_; have HO205 := n1_; have BK186 := n2_; have BK187 := n3_; have BK188 := n4_; have HB := n5_; have BK207 := n6_; have GW207 := n7_; have GE207 := n8_; have NB186_207 := n9_; have NB207_186 := n10_; have NB187_207 := n11_; have NB207_187 := n12_; have NB188_207 := n13_; have NB207_188 := n14_; clear n0_ n1_ n2_ n3_ n4_ n5_ n6_ n7_ n8_ n9_ n10_ n11_ n12_ n13_ n14_; clear hb hbox hg; have hnb82 := NB207_186.out; have hnc82 := NB186_207.out; have hnb83 := NB207_187.out; have hnc83 := NB187_207.out; have hnb84 := NB207_188.out; have hnc84 := NB188_207.out; have hcz85_0 := zC BK207.out 0 (.string (⟨#[]⟩ : ByteArray)); have hcz85_1 := zC BK207.out 1 (.slice none 0 0); have hfz85_0 := bF BK207.out 0; have hfz85_1 := bF BK207.out 1; obtain ⟨Ao86, co86, eo86⟩ := Kd.R_slice HO205.out; subst eo86; have hcz87_0 := zC BK187.out 0 (.int .i64 a2_0); have hcz87_1 := zC BK187.out 1 (.int .i64 a2_1); have hcz87_2 := zC BK187.out 2 (.string a2_2); have hcz87_3 := zC BK187.out 3 (.string a2_3); have hcz87_4 := zC BK187.out 4 (.bool a2_4); have hfz87_0 := bF BK187.out 0; have hfz87_1 := bF BK187.out 1; have hfz87_2 := bF BK187.out 2; have hfz87_3 := bF BK187.out 3; have hfz87_4 := bF BK187.out 4) | ((with_reducible refine gate_callee (f := 22) rfl ?_); refine goesL_ (some 132) rfl rfl Try.func22 (by kernel_rfl) rfl #[.string t189, .int .i64 a2_0] rfl (by (try simp only [mT, mC, mN]); first | done | rfl | (simp only [lD, lT]; rfl)) ?_; (with_reducible refine (line_Bounds.calls k2 t189 a2_0 t208 t209 t210 _ A71.out).mono ?_); rintro e w88 ⟨rfl, hb⟩; refine ⟨_, rfl, ?_⟩; have n0_ := aM (Kd.R_below (by (with_reducible repeat (first | apply ra | apply rn | apply rd_)); exact (rM (rF (p := ⟨gb207, 1, none⟩) (rF (p := ⟨gb207, 0, none⟩) (rT HO_11.out BK207.out (by decide)) (fun _ hk => hk.2) (.string t202)) (fun _ hk => hk.2) (.slice Ao86 t203.length co86)) (fun _ h_ => h_.1))) hb); have n1_ := aM (Kd.R_below (by (with_reducible repeat (first | apply ra | apply rn | apply rd_)); exact (rM (rF (p := ⟨gb207, 1, none⟩) (rF (p := ⟨gb207, 0, none⟩) (rT HO205.out BK207.out (by decide)) (fun _ hk => hk.2) (.string t202)) (fun _ hk => hk.2) (.slice Ao86 t203.length co86)) (fun _ h_ => h_.1))) hb); have n2_ := aM (bB (g := gb186) (o := .cells #[.string a0_0, .slice A0_1 l0_1.length c0_1] 24 (0, 0)) (by (with_reducible repeat (first | apply qn | apply qd | apply qa)); refine bR ?_ NB186_207.out _; (with_reducible repeat (first | apply qn | apply qd | apply qa)); refine bR ?_ NB186_207.out _; exact qy BK186.out) hb); have n3_ := aM (bB (g := gb187) (o := .cells #[.int .i64 a2_0, .int .i64 a2_1, .string a2_2, .string a2_3, .bool a2_4] 28 (0, 0)) (by (with_reducible repeat (first | apply qn | apply qd | apply qa)); refine bR ?_ NB187_207.out _; (with_reducible repeat (first | apply qn | apply qd | apply qa)); refine bR ?_ NB187_207.out _; exact qy BK187.out) hb); have n4_ := aM (bB (g := gb188) (o := .cells #[.int .i64 0, .string (⟨#[]⟩ : ByteArray), .slice none 0 0, .string (⟨#[]⟩ : ByteArray), .slice none 0 0] 32 (0, 0)) (by (with_reducible repeat (first | apply qn | apply qd | apply qa)); refine bR ?_ NB188_207.out _; (with_reducible repeat (first | apply qn | apply qd | apply qa)); refine bR ?_ NB188_207.out _; exact qy BK188.out) hb); have n5_ := aM (bB (g := gb207) (o := .cells #[.string t202, .slice Ao86 t203.length co86] 24 (0, 0)) (by (with_reducible repeat (first | apply qn | apply qd | apply qa)); refine bU (cs := #[.string t202, .slice none 0 0]) ?_ 1 _ rfl; (with_reducible repeat (first | apply qn | apply qd | apply qa)); refine bU (cs := #[.string (⟨#[]⟩ : ByteArray), .slice none 0 0]) ?_ 0 _ rfl; exact qy BK207.out) hb); have n6_ := aM (bP (by repeat (first | (with_reducible first | exact HB.out | apply ea | apply en | apply ed | refine es ?_ GE186.out | refine es ?_ GE187.out | refine es ?_ GE188.out | refine es ?_ GE207.out) | exact HB.out)) hb); clear HO_11 HO205 BK186 BK187 BK188 BK207 HB; have HO_11 := n0_; have HO205 := n1_; have BK186 := n2_; have BK187 := n3_; have BK188 := n4_; have BK207 := n5_; have HB := n6_; clear n0_ n1_ n2_ n3_ n4_ n5_ n6_; (try clear hb); (try clear hb2); (try clear hk); (try clear hi); have hcz89_0 := zC BK187.out 0 (.int .i64 a2_0); have hcz89_1 := zC BK187.out 1 (.int .i64 a2_1); have hcz89_2 := zC BK187.out 2 (.string a2_2); have hcz89_3 := zC BK187.out 3 (.string a2_3); have hcz89_4 := zC BK187.out 4 (.bool a2_4); have hfz89_0 := bF BK187.out 0; have hfz89_1 := bF BK187.out 1; have hfz89_2 := bF BK187.out 2; have hfz89_3 := bF BK187.out 3; have hfz89_4 := bF BK187.out 4) | ((with_reducible refine gate_callee (f := 22) rfl ?_); refine goesL_ (some 140) rfl rfl Try.func22 (by kernel_rfl) rfl #[.string t189, .int .i64 a2_1] rfl (by (try simp only [mT, mC, mN]); first | done | rfl | (simp only [lD, lT]; rfl)) ?_; (with_reducible refine (line_Bounds.calls k2 t189 a2_1 t211 t212 t213 _ A72.out).mono ?_); rintro e w90 ⟨rfl, hb⟩; refine ⟨_, rfl, ?_⟩; have n0_ := aM (Kd.R_below (ry HO_11.out) hb); have n1_ := aM (Kd.R_below (ry HO205.out) hb); have n2_ := aM (bB (g := gb186) (qy BK186.out) hb); have n3_ := aM (bB (g := gb187) (qy BK187.out) hb); have n4_ := aM (bB (g := gb188) (qy BK188.out) hb); have n5_ := aM (bB (g := gb207) (qy BK207.out) hb); have n6_ := aM (bP (by repeat (first | (with_reducible first | exact HB.out | apply ea | apply en | apply ed | refine es ?_ GE186.out | refine es ?_ GE187.out | refine es ?_ GE188.out | refine es ?_ GE207.out) | exact HB.out)) hb); clear HO_11 HO205 BK186 BK187 BK188 BK207 HB; have HO_11 := n0_; have HO205 := n1_; have BK186 := n2_; have BK187 := n3_; have BK188 := n4_; have BK207 := n5_; have HB := n6_; clear n0_ n1_ n2_ n3_ n4_ n5_ n6_; (try clear hb); (try clear hb2); (try clear hk); (try clear hi)) | ((with_reducible refine gate_dst (N := 24) rfl ?_); (try (refine gate_guard (by rfl) ?_; dsimp only)); refine box_event ?hg (N := 24) ?hd (cs := #[.string (⟨#[]⟩ : ByteArray), .slice none 0 0]) (t := 24) ?hr ?_; (case hd | hg => rfl); (case hr => first | (go_simp; done) | (go_simp; rfl)); intro gb214 hg w91 hbox hb; have n0_ := aM (Kd.R_below (ry HO_11.out) hb); have n1_ := aM (Kd.R_below (ry HO205.out) hb); have n2_ := aM (bB (g := gb186) (qy BK186.out) hb); have n3_ := aM (bB (g := gb187) (qy BK187.out) hb); have n4_ := aM (bB (g := gb188) (qy BK188.out) hb); have n5_ := aM (bB (g := gb207) (qy BK207.out) hb); have n6_ := aM (bP (by repeat (first | (with_reducible first | exact HB.out | apply ea | apply en | apply ed | refine es ?_ GE186.out | refine es ?_ GE187.out | refine es ?_ GE188.out | refine es ?_ GE207.out) | exact HB.out)) hb); have n7_ := aM (hbox); have n8_ := aM ((by rw [hg]; exact (bZ (by repeat (first | (with_reducible first | exact HB.out | apply ea | apply en | apply ed | refine es ?_ GE186.out | refine es ?_ GE187.out | refine es ?_ GE188.out | refine es ?_ GE207.out) | exact HB.out))) : w.heap.size ≤ gb214)); have n9_ := n8_; have n10_ := aM ((by rw [hg]; exact Nat.ne_of_lt (blk_lt (g := gb186) (qy BK186.out)) : gb186 ≠ gb214)); have n11_ := aM ((by rw [hg]; exact Nat.ne_of_gt (blk_lt (g := gb186) (qy BK186.out)) : gb214 ≠ gb186)); have n12_ := aM ((by rw [hg]; exact Nat.ne_of_lt (blk_lt (g := gb187) (qy BK187.out)) : gb187 ≠ gb214)); have n13_ := aM ((by rw [hg]; exact Nat.ne_of_gt (blk_lt (g := gb187) (qy BK187.out)) : gb214 ≠ gb187)); have n14_ := aM ((by rw [hg]; exact Nat.ne_of_lt (blk_lt (g := gb188) (qy BK188.out)) : gb188 ≠ gb214)); have n15_ := aM ((by rw [hg]; exact Nat.ne_of_gt (blk_lt (g := gb188) (qy BK188.out)) : gb214 ≠ gb188)); have n16_ := aM ((by rw [hg]; exact Nat.ne_of_lt (blk_lt (g := gb207) (qy BK207.out)) : gb207 ≠ gb214)); have n17_ := aM ((by rw [hg]; exact Nat.ne_of_gt (blk_lt (g := gb207) (qy BK207.out)) : gb214 ≠ gb207)); clear HO_11 HO205 BK186 BK187 BK188 BK207 HB; have HO_11 := n0_; have HO205 := n1_; have BK186 := n2_; have BK187 := n3_; have BK188 := n4_; have BK207 := n5_; have HB := n6_; have BK214 := n7_; have GW214 := n8_; have GE214 := n9_; have NB186_214 := n10_; have NB214_186 := n11_; have NB187_214 := n12_; have NB214_187 := n13_; have NB188_214 := n14_; have NB214_188 := n15_; have NB207_214 := n16_; have NB214_207 := n17_; clear n0_ n1_ n2_ n3_ n4_ n5_ n6_ n7_ n8_ n9_ n10_ n11_ n12_ n13_ n14_ n15_ n16_ n17_; clear hb hbox hg) | ((with_reducible refine gate_builtin (b := .append) (xs := #[.tmp 145, .tmp 147]) rfl ?_); (try (refine gate_guard (by rfl) ?_; dsimp only)); at_builtin; refine Kd.R_append (Kd.int .i64) (w0 := w) w.heap.size rfl (.tmp 145) (.tmp 147) 56 3 (.int .i64 0) 8 rfl Try.underlying56 info3 rfl (by decide) (by omega) (.slice Ao77 x11_2.length co77) x11_2 t212 [.int .i64 t212] (fun _ => True) (fun _ => False) rfl rfl ?aP (fun _ hk => hk.elim) ?aF ?aO ?aB ?aS ?aL ?_; (case aP => exact rfl); (case aB => exact (by repeat (first | (with_reducible first | exact HB.out | apply ea | apply en | apply ed | refine es ?_ GE186.out | refine es ?_ GE187.out | refine es ?_ GE188.out | refine es ?_ GE207.out | refine es ?_ GE214.out) | exact HB.out))); (case aF => exact (fun _ _ => trivial)); (case aO => exact (ry HO_11.out)); (case aS => exact (bZ (by repeat (first | (with_reducible first | exact HB.out | apply ea | apply en | apply ed | refine es ?_ GE186.out | refine es ?_ GE187.out | refine es ?_ GE188.out | refine es ?_ GE207.out | refine es ?_ GE214.out) | exact HB.out)))); (case aL => have := LMc73.out; omega); intro v216 w92 ho hb hg hat; rw [← Ny215.out] at ho; have n0_ := aM (blk_grown (g := gb186) (qy BK186.out) hg (Kd.R_ne HO_11.out BK186.out (by decide))); have n1_ := aM (blk_grown (g := gb187) (qy BK187.out) hg (Kd.R_ne HO_11.out BK187.out (by decide))); have n2_ := aM (blk_grown (g := gb188) (qy BK188.out) hg (Kd.R_ne HO_11.out BK188.out (by decide))); have n3_ := aM (Kd.R_over' (ry HO205.out) (Kd.R_typed (ry HO_11.out)) (by decide) hg); have n4_ := aM (blk_grown (g := gb207) (qy BK207.out) hg (Kd.R_ne HO_11.out BK207.out (by decide))); have n5_ := aM (blk_grown (g := gb214) (qy BK214.out) hg (Kd.R_ne HO_11.out BK214.out (by decide))); have n6_ := aM (hb); have n7_ := aM (ho); clear BK186 BK187 BK188 HO205 BK207 BK214 HB HO_11; have BK186 := n0_; have BK187 := n1_; have BK188 := n2_; have HO205 := n3_; have BK207 := n4_; have BK214 := n5_; have HB := n6_; have HO217 := n7_; clear n0_ n1_ n2_ n3_ n4_ n5_ n6_ n7_; clear ho hb hg hat; obtain ⟨Ao93, co93, eo93⟩ := Kd.R_slice HO217.out; subst eo93))
          go_loopg [25, 150] k2 (fun kq v25 v150 w' => ∃ (x25_3 : Int) (x150_3 : Int) (x215000_3 : ByteArray) (x215001_3 : List (S51)) (u215001 : Value), v25 = .int .i64 x25_3 ∧ v150 = .int .i64 x150_3 ∧ Aside0 (subst_Do.l1 kq x11_2 t208 t212 x25_3 y215 (y215.length : Int) x150_3 a0_0 l0_1 a2_0 a2_1 a2_2 a2_3 a2_4 t202 t203 x215000_3 x215001_3 = some (r1, r2, r3, r4, r5, r6, r7)) ∧ Aside0 (kq ≤ k2) ∧ Aside0 (Kd.R (Kd.int .i64) 3 w' w.heap.size (fun _ => True) (.slice Ao93 y215.length co93) y215) ∧ Aside0 (Kd.R k51 51 w' w.heap.size (fun k_ => some k_ ≠ (u215001 : Value).ownBlock) (.slice Ao86 t203.length co86) t203) ∧ Aside0 (Kd.R k51 51 w' w.heap.size (fun k_ => some k_ ≠ ((.slice Ao86 t203.length co86) : Value).ownBlock) u215001 x215001_3) ∧ Aside0 (w'.heap[gb186]? = some (.cells #[.string a0_0, (.slice A0_1 l0_1.length c0_1)] 24 (0, 0))) ∧ Aside0 (w'.heap[gb187]? = some (.cells #[.int .i64 a2_0, .int .i64 a2_1, .string a2_2, .string a2_3, .bool a2_4] 28 (0, 0))) ∧ Aside0 (w'.heap[gb188]? = some (.cells #[.int .i64 0, .string (⟨#[]⟩ : ByteArray), (.slice none 0 0), .string (⟨#[]⟩ : ByteArray), (.slice none 0 0)] 32 (0, 0))) ∧ Aside0 (w'.heap[gb207]? = some (.cells #[.string t202, (.slice Ao86 t203.length co86)] 24 (0, 0))) ∧ Aside0 (w'.heap[gb214]? = some (.cells #[.string x215000_3, u215001] 24 (0, 0))) ∧ Aside0 (Below w.heap.size w w'))
          case atStart => exact ⟨(t208), (0), ((⟨#[]⟩ : ByteArray)), (([] : List (S51))), (.slice none 0 0), (by first | rfl | (simp; done) | (simp [*]; done)), (by first | rfl | (simp; done) | (simp [*]; done)), H', ⟨Nat.le_refl _⟩, ⟨by exact ry HO217.out⟩, ⟨by (with_reducible repeat (first | apply ra | apply rn | apply rd_)); exact rM HO205.out (fun _ hk => (by simp [Value.ownBlock]))⟩, ⟨by first | exact Kd.R_nil _ _ _ _ _ | exact Kd.N_nil _ _ _ _ _ | exact Kd.V_nil _ _ _ _ _ | exact Kd.Q_nil _ _ _ _ _ | exact Kd.S_nil _ _ _ _ _⟩, ⟨by exact qy BK186.out⟩, ⟨by exact qy BK187.out⟩, ⟨by exact qy BK188.out⟩, ⟨by exact qy BK207.out⟩, ⟨by exact qy BK214.out⟩, ⟨by repeat (first | (with_reducible first | exact HB.out | apply ea | apply en | apply ed | refine es ?_ GE186.out | refine es ?_ GE187.out | refine es ?_ GE188.out | refine es ?_ GE207.out | refine es ?_ GE214.out) | exact HB.out)⟩⟩
          case round =>
           clear H'
           try clear c1
           try clear c2
           try clear p2
           try clear c3
           try clear c4
           try clear c5
           try clear c6
           try clear p6
           try clear c7
           try clear c8
           try clear c13
           try clear c13b0
           try clear c13b1
           try clear c20
           try clear c21
           try clear c22
           try clear c23
           try clear c24
           try clear c26
           try clear c34
           try clear c35
           try clear c36
           try clear c38
           try clear c39
           try clear c41
           try clear c41b0
           try clear c44
           try clear c45
           try clear c46
           try clear c49
           try clear c55
           try clear c55b0
           try clear c55b1
           try clear c55b2
           try clear c56
           try clear c57
           try clear c60
           try clear c62
           try clear c62b0
           try clear c63
           try clear c64
           try clear p64
           try clear c67
           try clear c73
           try clear c74
           try clear c75
           try clear c78
           try clear c82
           try clear c83
           try clear c84
           try clear hcz37_0
           try clear hcz37_1
           try clear hcz37_2
           try clear hcz37_3
           try clear hcz37_4
           try clear hcz40_0
           try clear hcz40_1
           try clear hcz40_2
           try clear hcz40_3
           try clear hcz40_4
           try clear hcz47_0
           try clear hcz47_1
           try clear hcz47_2
           try clear hcz47_3
           try clear hcz47_4
           try clear hcz50_0
           try clear hcz50_1
           try clear hcz51_0
           try clear hcz51_1
           try clear hcz51_2
           try clear hcz51_3
           try clear hcz51_4
           try clear hcz58_0
           try clear hcz58_1
           try clear hcz58_2
           try clear hcz58_3
           try clear hcz58_4
           try clear hcz61_0
           try clear hcz61_1
           try clear hcz61_2
           try clear hcz61_3
           try clear hcz61_4
           try clear hcz65_0
           try clear hcz65_1
           try clear hcz65_2
           try clear hcz65_3
           try clear hcz65_4
           try clear hcz68_0
           try clear hcz68_1
           try clear hcz69_0
           try clear hcz69_1
           try clear hcz69_2
           try clear hcz69_3
           try clear hcz69_4
           try clear hcz76_0
           try clear hcz76_1
           try clear hcz76_2
           try clear hcz76_3
           try clear hcz76_4
           try clear hcz79_0
           try clear hcz79_1
           try clear hcz85_0
           try clear hcz85_1
           try clear hcz87_0
           try clear hcz87_1
           try clear hcz87_2
           try clear hcz87_3
           try clear hcz87_4
           try clear hcz89_0
           try clear hcz89_1
           try clear hcz89_2
           try clear hcz89_3
           try clear hcz89_4
           try clear hfz37_0
           try clear hfz37_1
           try clear hfz37_2
           try clear hfz37_3
           try clear hfz37_4
           try clear hfz40_0
           try clear hfz40_1
           try clear hfz40_2
           try clear hfz40_3
           try clear hfz40_4
           try clear hfz47_0
           try clear hfz47_1
           try clear hfz47_2
           try clear hfz47_3
           try clear hfz47_4
           try clear hfz50_0
           try clear hfz50_1
           try clear hfz51_0
           try clear hfz51_1
           try clear hfz51_2
           try clear hfz51_3
           try clear hfz51_4
           try clear hfz58_0
           try clear hfz58_1
           try clear hfz58_2
           try clear hfz58_3
           try clear hfz58_4
           try clear hfz61_0
           try clear hfz61_1
           try clear hfz61_2
           try clear hfz61_3
           try clear hfz61_4
           try clear hfz65_0
           try clear hfz65_1
           try clear hfz65_2
           try clear hfz65_3
           try clear hfz65_4
           try clear hfz68_0
           try clear hfz68_1
           try clear hfz69_0
           try clear hfz69_1
           try clear hfz69_2
           try clear hfz69_3
           try clear hfz69_4
           try clear hfz76_0
           try clear hfz76_1
           try clear hfz76_2
           try clear hfz76_3
           try clear hfz76_4
           try clear hfz79_0
           try clear hfz79_1
           try clear hfz85_0
           try clear hfz85_1
           try clear hfz87_0
           try clear hfz87_1
           try clear hfz87_2
           try clear hfz87_3
           try clear hfz87_4
           try clear hfz89_0
           try clear hfz89_1
           try clear hfz89_2
           try clear hfz89_3
           try clear hfz89_4
           try clear p2
           obtain ⟨x25_3, x150_3, x215000_3, x215001_3, u215001, rfl, rfl, HA, HK3, HO_148, HO_208001, HO_215001, BK186, BK187, BK188, BK207, BK214, HB⟩ := hrel
           cases gk with
           | zero => exact absurd HA.out (by simp [subst_Do.l1])
           | succ k3 =>
            have H := HA.out
            clear HA
            simp only [subst_Do.l1] at H
            by_cases c94 : x150_3 < (y215.length : Int)
            ·rw [if_pos c94] at H
             have c94b0 : decide (x150_3 < (y215.length : Int)) = true := decide_eq_true c94
             clear c94
             by_cases c95 : 0 ≤ x150_3
             ·rw [if_pos c95] at H
              have c95b0 : decide (0 ≤ x150_3) = true := decide_eq_true c95
              clear c95
              by_cases c96 : x150_3 < (y215.length : Int)
              ·rw [if_pos c96] at H
               have c96b0 : decide (x150_3 < (y215.length : Int)) = true := decide_eq_true c96
               clear c96
               replace H := Option.bind_eq_some_iff.mp H
               obtain ⟨⟨t230, t231, t234⟩, A970, H⟩ := H
               replace H : ((strip_Cat.f k3 x215000_3 x215001_3 t230 t231).bind fun bt236 => (if (rd y215 x150_3) < t212 then ((strip_Cat.f k3 bt236.1 bt236.2.1 t202 t203).bind fun bt241 => (subst_Do.l1 k3 x11_2 t208 t212 (wrap64 ((rd y215 x150_3) + (a2_2.size : Int))) y215 (y215.length : Int) (wrap64 (x150_3 + 1)) a0_0 l0_1 a2_0 a2_1 a2_2 a2_3 a2_4 t202 t203 bt241.1 bt241.2.1)) else (subst_Do.l1 k3 x11_2 t208 t212 (wrap64 ((rd y215 x150_3) + (a2_2.size : Int))) y215 (y215.length : Int) (wrap64 (x150_3 + 1)) a0_0 l0_1 a2_0 a2_1 a2_2 a2_3 a2_4 t202 t203 bt236.1 bt236.2.1))) = some (r1, r2, r3, r4, r5, r6, r7) := H
               have A97 := aM A970
               clear A970
               replace H := Option.bind_eq_some_iff.mp H
               obtain ⟨⟨t236, t237, t240⟩, A980, H⟩ := H
               replace H : (if (rd y215 x150_3) < t212 then ((strip_Cat.f k3 t236 t237 t202 t203).bind fun bt241 => (subst_Do.l1 k3 x11_2 t208 t212 (wrap64 ((rd y215 x150_3) + (a2_2.size : Int))) y215 (y215.length : Int) (wrap64 (x150_3 + 1)) a0_0 l0_1 a2_0 a2_1 a2_2 a2_3 a2_4 t202 t203 bt241.1 bt241.2.1)) else (subst_Do.l1 k3 x11_2 t208 t212 (wrap64 ((rd y215 x150_3) + (a2_2.size : Int))) y215 (y215.length : Int) (wrap64 (x150_3 + 1)) a0_0 l0_1 a2_0 a2_1 a2_2 a2_3 a2_4 t202 t203 t236 t237)) = some (r1, r2, r3, r4, r5, r6, r7) := H
               have A98 := aM A980
               clear A980
               by_cases c99 : (rd y215 x150_3) < t212
               ·rw [if_pos c99] at H
                have c99b0 : decide ((rd y215 x150_3) < t212) = true := decide_eq_true c99
                clear c99
                replace H := Option.bind_eq_some_iff.mp H
                obtain ⟨⟨t241, t242, t245⟩, A1000, H⟩ := H
                replace H : (subst_Do.l1 k3 x11_2 t208 t212 (wrap64 ((rd y215 x150_3) + (a2_2.size : Int))) y215 (y215.length : Int) (wrap64 (x150_3 + 1)) a0_0 l0_1 a2_0 a2_1 a2_2 a2_3 a2_4 t202 t203 t241 t242) = some (r1, r2, r3, r4, r5, r6, r7) := H
                have A100 := aM A1000
                clear A1000
                have H' := aM H
                clear H
                have p229 : 0 ≤ (x150_3 : Int) := of_decide_eq_true (by first | (with_reducible assumption) | assumption)
                have q229 : x150_3 < (y215.length : Int) := of_decide_eq_true (by first | (with_reducible assumption) | assumption)
                obtain ⟨ad229, e229, hx229_0⟩ := Kd.at_int (rR HO_148.out).2.2 x150_3 p229 q229
                cases e229
                replace p229 := eq_true p229
                replace q229 := eq_true q229
                have hnb101 := NB186_187.out
                have hnc101 := NB187_186.out
                have hnb102 := NB186_188.out
                have hnc102 := NB188_186.out
                have hnb103 := NB186_207.out
                have hnc103 := NB207_186.out
                have hnb104 := NB186_214.out
                have hnc104 := NB214_186.out
                have hcz105_0 := zC BK186.out 0 (.string a0_0)
                have hcz105_1 := zC BK186.out 1 (.slice A0_1 l0_1.length c0_1)
                have hfz105_0 := bF BK186.out 0
                have hfz105_1 := bF BK186.out 1
                go_wp2_with (first | ((with_reducible refine gate_callee (f := 25) rfl ?_); refine goesL_ (some 158) rfl rfl Try.func25 (by kernel_rfl) rfl #[.agg #[.string a0_0, .slice A0_1 l0_1.length c0_1], .int .i64 x25_3, .int .i64 (rd y215 x150_3)] rfl (by (try simp only [mT, mC, mN]); first | done | rfl | (simp only [lD, lT]; rfl)) ?_; (with_reducible refine (strip_Cut.calls k3 a0_0 _ _ l0_1 x25_3 (rd y215 x150_3) t230 t231 t234 _ ?side1 ?side2 A97.out).mono ?_); (case side1 => repeat (first | exact (cB_ HR0_1.out HB.out) | (with_reducible refine Kd.C_alloc ?_ _) | (with_reducible refine Kd.C_drewN ?_ _) | (with_reducible refine Kd.C_drew ?_))); (case side2 => exact HC0_1.out); rintro e w106 ⟨v232, rfl, ho0, hb⟩; refine ⟨_, rfl, ?_⟩; have n0_ := aM (Kd.R_below (ry HO_148.out) hb); have n1_ := aM (rE (ry HO_208001.out) (Kd.R_base ho0) hb); have n2_ := aM (rE (ry HO_215001.out) (Kd.R_base ho0) hb); have n3_ := aM (rL (Kd.R_new' (Kd.R_new' ho0 (Kd.R_lt (ry HO_208001.out))) (Kd.R_lt (ry HO_215001.out))) (bZ (by repeat (first | (with_reducible first | exact HB.out | apply ea | apply en | apply ed | refine es ?_ GE186.out | refine es ?_ GE187.out | refine es ?_ GE188.out | refine es ?_ GE207.out | refine es ?_ GE214.out) | exact HB.out)))); have n4_ := aM (bB (g := gb186) (qy BK186.out) hb); have n5_ := aM (bB (g := gb187) (qy BK187.out) hb); have n6_ := aM (bB (g := gb188) (qy BK188.out) hb); have n7_ := aM (bB (g := gb207) (qy BK207.out) hb); have n8_ := aM (bB (g := gb214) (qy BK214.out) hb); have n9_ := aM (bP (by repeat (first | (with_reducible first | exact HB.out | apply ea | apply en | apply ed | refine es ?_ GE186.out | refine es ?_ GE187.out | refine es ?_ GE188.out | refine es ?_ GE207.out | refine es ?_ GE214.out) | exact HB.out)) hb); clear HO_148 HO_208001 HO_215001 BK186 BK187 BK188 BK207 BK214 HB; have HO_148 := n0_; have HO_208001 := n1_; have HO_215001 := n2_; have HO233 := n3_; have BK186 := n4_; have BK187 := n5_; have BK188 := n6_; have BK207 := n7_; have BK214 := n8_; have HB := n9_; clear n0_ n1_ n2_ n3_ n4_ n5_ n6_ n7_ n8_ n9_; (try clear hb); (try clear hb2); (try clear hk); (try clear hi); (try clear ho0)) | ((with_reducible refine gate_dst (N := 28) rfl ?_); (try (refine gate_guard (by rfl) ?_; dsimp only)); refine box_event ?hg (N := 28) ?hd (cs := #[.string (⟨#[]⟩ : ByteArray), .slice none 0 0]) (t := 24) ?hr ?_; (case hd | hg => rfl); (case hr => first | (go_simp; done) | (go_simp; rfl)); intro gb235 hg w107 hbox hb; have n0_ := aM (Kd.R_below (ry HO_148.out) hb); have n1_ := aM (Kd.R_below (ry HO_208001.out) hb); have n2_ := aM (Kd.R_below (ry HO_215001.out) hb); have n3_ := aM (Kd.R_below (ry HO233.out) hb); have n4_ := aM (bB (g := gb186) (qy BK186.out) hb); have n5_ := aM (bB (g := gb187) (qy BK187.out) hb); have n6_ := aM (bB (g := gb188) (qy BK188.out) hb); have n7_ := aM (bB (g := gb207) (qy BK207.out) hb); have n8_ := aM (bB (g := gb214) (qy BK214.out) hb); have n9_ := aM (bP (by repeat (first | (with_reducible first | exact HB.out | apply ea | apply en | apply ed | refine es ?_ GE186.out | refine es ?_ GE187.out | refine es ?_ GE188.out | refine es ?_ GE207.out | refine es ?_ GE214.out) | exact HB.out)) hb); have n10_ := aM (hbox); have n11_ := aM ((by rw [hg]; exact (bZ (by repeat (first | (with_reducible first | exact HB.out | apply ea | apply en | apply ed | refine es ?_ GE186.out | refine es ?_ GE187.out | refine es ?_ GE188.out | refine es ?_ GE207.out | refine es ?_ GE214.out) | exact HB.out))) : w.heap.size ≤ gb235)); have n12_ := n11_; have n13_ := aM ((by rw [hg]; exact Nat.ne_of_lt (blk_lt (g := gb186) (qy BK186.out)) : gb186 ≠ gb235)); have n14_ := aM ((by rw [hg]; exact Nat.ne_of_gt (blk_lt (g := gb186) (qy BK186.out)) : gb235 ≠ gb186)); have n15_ := aM ((by rw [hg]; exact Nat.ne_of_lt (blk_lt (g := gb187) (qy BK187.out)) : gb187 ≠ gb235)); have n16_ := aM ((by rw [hg]; exact Nat.ne_of_gt (blk_lt (g := gb187) (qy BK187.out)) : gb235 ≠ gb187)); have n17_ := aM ((by rw [hg]; exact Nat.ne_of_lt (blk_lt (g := gb188) (qy BK188.out)) : gb188 ≠ gb235)); have n18_ := aM ((by rw [hg]; exact Nat.ne_of_gt (blk_lt (g := gb188) (qy BK188.out)) : gb235 ≠ gb188)); have n19_ := aM ((by rw [hg]; exact Nat.ne_of_lt (blk_lt (g := gb207) (qy BK207.out)) : gb207 ≠ gb235)); have n20_ := aM ((by rw [hg]; exact Nat.ne_of_gt (blk_lt (g := gb207) (qy BK207.out)) : gb235 ≠ gb207)); have n21_ := aM ((by rw [hg]; exact Nat.ne_of_lt (blk_lt (g := gb214) (qy BK214.out)) : gb214 ≠ gb235)); have n22_ := aM ((by rw [hg]; exact Nat.ne_of_gt (blk_lt (g := gb214) (qy BK214.out)) : gb235 ≠ gb214)); clear HO_148 HO_208001 HO_215001 HO233 BK186 BK187 BK188 BK207 BK214 HB; have HO_148 := n0_; have HO_208001 := n1_; have HO_215001 := n2_; have HO233 := n3_; have BK186 := n4_; have BK187 := n5_; have BK188 := n6_; have BK207 := n7_; have BK214 := n8_; have HB := n9_; have BK235 := n10_; have GW235 := n11_; have GE235 := n12_; have NB186_235 := n13_; have NB235_186 := n14_; have NB187_235 := n15_; have NB235_187 := n16_; have NB188_235 := n17_; have NB235_188 := n18_; have NB207_235 := n19_; have NB235_207 := n20_; have NB214_235 := n21_; have NB235_214 := n22_; clear n0_ n1_ n2_ n3_ n4_ n5_ n6_ n7_ n8_ n9_ n10_ n11_ n12_ n13_ n14_ n15_ n16_ n17_ n18_ n19_ n20_ n21_ n22_; clear hb hbox hg; have hnb108 := NB235_186.out; have hnc108 := NB186_235.out; have hnb109 := NB235_187.out; have hnc109 := NB187_235.out; have hnb110 := NB235_188.out; have hnc110 := NB188_235.out; have hnb111 := NB235_207.out; have hnc111 := NB207_235.out; have hnb112 := NB235_214.out; have hnc112 := NB214_235.out; have hcz113_0 := zC BK235.out 0 (.string (⟨#[]⟩ : ByteArray)); have hcz113_1 := zC BK235.out 1 (.slice none 0 0); have hfz113_0 := bF BK235.out 0; have hfz113_1 := bF BK235.out 1; obtain ⟨Ao114, co114, eo114⟩ := Kd.R_slice HO233.out; subst eo114; have hnb115 := NB214_187.out; have hnc115 := NB187_214.out; have hnb116 := NB214_188.out; have hnc116 := NB188_214.out; have hnb117 := NB214_207.out; have hnc117 := NB207_214.out; have hcz118_0 := zC BK214.out 0 (.string x215000_3); have hcz118_1 := zC BK214.out 1 (u215001); have hfz118_0 := bF BK214.out 0; have hfz118_1 := bF BK214.out 1; obtain ⟨Ao119, co119, eo119⟩ := Kd.R_slice HO_215001.out; subst eo119) | ((with_reducible refine gate_callee (f := 26) rfl ?_); refine goesL_ (some 164) rfl rfl Try.func26 (by kernel_rfl) rfl #[.agg #[.string x215000_3, .slice Ao119 x215001_3.length co119], .agg #[.string t230, .slice Ao114 t231.length co114]] rfl (by (try simp only [mT, mC, mN]); first | done | rfl | (simp only [lD, lT]; rfl)) ?_; (with_reducible refine (strip_Cat.calls k3 x215000_3 _ _ x215001_3 t230 _ _ t231 t236 t237 t240 _ ?side1 ?side2 ?side3 ?side4 A98.out).mono ?_); (case side1 => refine (rR (e := 51) (base := w.heap.size) (ok := fun k_ => (some k_ ≠ (.slice Ao86 t203.length co86 : Value).ownBlock ∧ some k_ ≠ (.slice Ao114 t231.length co114 : Value).ownBlock)) (n := x215001_3.length) (c := co119) ?_).2.2; exact (by (with_reducible repeat (first | apply ra | apply rn | apply rd_)); exact (rM (rF (p := ⟨gb235, 1, none⟩) (rF (p := ⟨gb235, 0, none⟩) (rT HO_215001.out BK235.out (by decide)) (fun _ hk => hk.2) (.string t230)) (fun _ hk => hk.2) (.slice Ao114 t231.length co114)) (fun _ h_ => h_.1)))); (case side2 => exact (rR HO_215001.out).2.1); (case side3 => refine (rR (e := 51) (base := w.heap.size) (ok := fun k_ => ((True ∧ some k_ ≠ (.slice Ao86 t203.length co86 : Value).ownBlock) ∧ some k_ ≠ (.slice Ao119 x215001_3.length co119 : Value).ownBlock)) (n := t231.length) (c := co114) ?_).2.2; exact (by (with_reducible repeat (first | apply ra | apply rn | apply rd_)); exact (rM (rF (p := ⟨gb235, 1, none⟩) (rF (p := ⟨gb235, 0, none⟩) (rT HO233.out BK235.out (by decide)) (fun _ hk => hk.2) (.string t230)) (fun _ hk => hk.2) (.slice Ao114 t231.length co114)) (fun _ h_ => h_.1)))); (case side4 => exact (rR HO233.out).2.1); rintro e w120 ⟨v238, rfl, ho0, hb⟩; refine ⟨_, rfl, ?_⟩; have n0_ := aM (Kd.R_below (by (with_reducible repeat (first | apply ra | apply rn | apply rd_)); exact (rM (rF (p := ⟨gb235, 1, none⟩) (rF (p := ⟨gb235, 0, none⟩) (rT HO_148.out BK235.out (by decide)) (fun _ hk => hk.2) (.string t230)) (fun _ hk => hk.2) (.slice Ao114 t231.length co114)) (fun _ h_ => h_.1))) hb); have n1_ := aM (rE (by (with_reducible repeat (first | apply ra | apply rn | apply rd_)); exact (rM (rF (p := ⟨gb235, 1, none⟩) (rF (p := ⟨gb235, 0, none⟩) (rT HO_208001.out BK235.out (by decide)) (fun _ hk => hk.2) (.string t230)) (fun _ hk => hk.2) (.slice Ao114 t231.length co114)) (fun _ h_ => h_.1))) (Kd.R_base ho0) hb); have n2_ := aM (rE (by (with_reducible repeat (first | apply ra | apply rn | apply rd_)); exact (rM (rF (p := ⟨gb235, 1, none⟩) (rF (p := ⟨gb235, 0, none⟩) (rT HO_215001.out BK235.out (by decide)) (fun _ hk => hk.2) (.string t230)) (fun _ hk => hk.2) (.slice Ao114 t231.length co114)) (fun _ h_ => h_.1))) (Kd.R_base ho0) hb); have n3_ := aM (rE (by (with_reducible repeat (first | apply ra | apply rn | apply rd_)); exact (rM (rF (p := ⟨gb235, 1, none⟩) (rF (p := ⟨gb235, 0, none⟩) (rT HO233.out BK235.out (by decide)) (fun _ hk => hk.2) (.string t230)) (fun _ hk => hk.2) (.slice Ao114 t231.length co114)) (fun _ h_ => h_.1))) (Kd.R_base ho0) hb); have n4_ := aM (rL (Kd.R_new' (Kd.R_new' (Kd.R_new' ho0 (Kd.R_lt (by (with_reducible repeat (first | apply ra | apply rn | apply rd_)); exact (rM (rF (p := ⟨gb235, 1, none⟩) (rF (p := ⟨gb235, 0, none⟩) (rT HO_208001.out BK235.out (by decide)) (fun _ hk => hk.2) (.string t230)) (fun _ hk => hk.2) (.slice Ao114 t231.length co114)) (fun _ h_ => h_.1))))) (Kd.R_lt (by (with_reducible repeat (first | apply ra | apply rn | apply rd_)); exact (rM (rF (p := ⟨gb235, 1, none⟩) (rF (p := ⟨gb235, 0, none⟩) (rT HO_215001.out BK235.out (by decide)) (fun _ hk => hk.2) (.string t230)) (fun _ hk => hk.2) (.slice Ao114 t231.length co114)) (fun _ h_ => h_.1))))) (Kd.R_lt (by (with_reducible repeat (first | apply ra | apply rn | apply rd_)); exact (rM (rF (p := ⟨gb235, 1, none⟩) (rF (p := ⟨gb235, 0, none⟩) (rT HO233.out BK235.out (by decide)) (fun _ hk => hk.2) (.string t230)) (fun _ hk => hk.2) (.slice Ao114 t231.length co114)) (fun _ h_ => h_.1))))) (bZ (by repeat (first | (with_reducible first | exact HB.out | apply ea | apply en | apply ed | refine es ?_ GE186.out | refine es ?_ GE187.out | refine es ?_ GE188.out | refine es ?_ GE207.out | refine es ?_ GE214.out | refine es ?_ GE235.out) | exact HB.out)))); have n5_ := aM (bB (g := gb186) (o := .cells #[.string a0_0, .slice A0_1 l0_1.length c0_1] 24 (0, 0)) (by (with_reducible repeat (first | apply qn | apply qd | apply qa)); refine bR ?_ NB186_235.out _; (with_reducible repeat (first | apply qn | apply qd | apply qa)); refine bR ?_ NB186_235.out _; exact qy BK186.out) hb); have n6_ := aM (bB (g := gb187) (o := .cells #[.int .i64 a2_0, .int .i64 a2_1, .string a2_2, .string a2_3, .bool a2_4] 28 (0, 0)) (by (with_reducible repeat (first | apply qn | apply qd | apply qa)); refine bR ?_ NB187_235.out _; (with_reducible repeat (first | apply qn | apply qd | apply qa)); refine bR ?_ NB187_235.out _; exact qy BK187.out) hb); have n7_ := aM (bB (g := gb188) (o := .cells #[.int .i64 0, .string (⟨#[]⟩ : ByteArray), .slice none 0 0, .string (⟨#[]⟩ : ByteArray), .slice none 0 0] 32 (0, 0)) (by (with_reducible repeat (first | apply qn | apply qd | apply qa)); refine bR ?_ NB188_235.out _; (with_reducible repeat (first | apply qn | apply qd | apply qa)); refine bR ?_ NB188_235.out _; exact qy BK188.out) hb); have n8_ := aM (bB (g := gb207) (o := .cells #[.string t202, .slice Ao86 t203.length co86] 24 (0, 0)) (by (with_reducible repeat (first | apply qn | apply qd | apply qa)); refine bR ?_ NB207_235.out _; (with_reducible repeat (first | apply qn | apply qd | apply qa)); refine bR ?_ NB207_235.out _; exact qy BK207.out) hb); have n9_ := aM (bB (g := gb214) (o := .cells #[.string x215000_3, .slice Ao119 x215001_3.length co119] 24 (0, 0)) (by (with_reducible repeat (first | apply qn | apply qd | apply qa)); refine bR ?_ NB214_235.out _; (with_reducible repeat (first | apply qn | apply qd | apply qa)); refine bR ?_ NB214_235.out _; exact qy BK214.out) hb); have n10_ := aM (bB (g := gb235) (o := .cells #[.string t230, .slice Ao114 t231.length co114] 24 (0, 0)) (by (with_reducible repeat (first | apply qn | apply qd | apply qa)); refine bU (cs := #[.string t230, .slice none 0 0]) ?_ 1 _ rfl; (with_reducible repeat (first | apply qn | apply qd | apply qa)); refine bU (cs := #[.string (⟨#[]⟩ : ByteArray), .slice none 0 0]) ?_ 0 _ rfl; exact qy BK235.out) hb); have n11_ := aM (bP (by repeat (first | (with_reducible first | exact HB.out | apply ea | apply en | apply ed | refine es ?_ GE186.out | refine es ?_ GE187.out | refine es ?_ GE188.out | refine es ?_ GE207.out | refine es ?_ GE214.out | refine es ?_ GE235.out) | exact HB.out)) hb); clear HO_148 HO_208001 HO_215001 HO233 BK186 BK187 BK188 BK207 BK214 BK235 HB; have HO_148 := n0_; have HO_208001 := n1_; have HO_215001 := n2_; have HO233 := n3_; have HO239 := n4_; have BK186 := n5_; have BK187 := n6_; have BK188 := n7_; have BK207 := n8_; have BK214 := n9_; have BK235 := n10_; have HB := n11_; clear n0_ n1_ n2_ n3_ n4_ n5_ n6_ n7_ n8_ n9_ n10_ n11_; (try clear hb); (try clear hb2); (try clear hk); (try clear hi); (try clear ho0); have hcz121_0 := zC BK214.out 0 (.string x215000_3); have hcz121_1 := zC BK214.out 1 (.slice Ao119 x215001_3.length co119); have hfz121_0 := bF BK214.out 0; have hfz121_1 := bF BK214.out 1; obtain ⟨Ao122, co122, eo122⟩ := Kd.R_slice HO239.out; subst eo122; have hnb123 := NB207_187.out; have hnc123 := NB187_207.out; have hnb124 := NB207_188.out; have hnc124 := NB188_207.out; have hcz125_0 := zC BK207.out 0 (.string t202); have hcz125_1 := zC BK207.out 1 (.slice Ao86 t203.length co86); have hfz125_0 := bF BK207.out 0; have hfz125_1 := bF BK207.out 1) | ((with_reducible refine gate_callee (f := 26) rfl ?_); refine goesL_ (some 173) rfl rfl Try.func26 (by kernel_rfl) rfl #[.agg #[.string t236, .slice Ao122 t237.length co122], .agg #[.string t202, .slice Ao86 t203.length co86]] rfl (by (try simp only [mT, mC, mN]); first | done | rfl | (simp only [lD, lT]; rfl)) ?_; (with_reducible refine (strip_Cat.calls k3 t236 _ _ t237 t202 _ _ t203 t241 t242 t245 _ ?side1 ?side2 ?side3 ?side4 A100.out).mono ?_); (case side1 => refine (rR (e := 51) (base := w.heap.size) (ok := fun k_ => (((True ∧ some k_ ≠ (.slice Ao86 t203.length co86 : Value).ownBlock) ∧ some k_ ≠ (.slice Ao119 x215001_3.length co119 : Value).ownBlock) ∧ some k_ ≠ (.slice Ao114 t231.length co114 : Value).ownBlock)) (n := t237.length) (c := co122) ?_).2.2; exact (by (with_reducible repeat (first | apply ra | apply rn | apply rd_)); exact (rM (rF (p := ⟨gb214, 1, none⟩) (rF (p := ⟨gb214, 0, none⟩) (rT HO239.out BK214.out (by decide)) (fun _ hk => hk.2) (.string t236)) (fun _ hk => hk.2) (.slice Ao122 t237.length co122)) (fun _ h_ => h_.1)))); (case side2 => exact (rR HO239.out).2.1); (case side3 => refine (rR (e := 51) (base := w.heap.size) (ok := fun k_ => ((some k_ ≠ (.slice Ao119 x215001_3.length co119 : Value).ownBlock ∧ some k_ ≠ (.slice Ao114 t231.length co114 : Value).ownBlock) ∧ some k_ ≠ (.slice Ao122 t237.length co122 : Value).ownBlock)) (n := t203.length) (c := co86) ?_).2.2; exact (by (with_reducible repeat (first | apply ra | apply rn | apply rd_)); exact (rM (rF (p := ⟨gb214, 1, none⟩) (rF (p := ⟨gb214, 0, none⟩) (rT HO_208001.out BK214.out (by decide)) (fun _ hk => hk.2) (.string t236)) (fun _ hk => hk.2) (.slice Ao122 t237.length co122)) (fun _ h_ => h_.1)))); (case side4 => exact (rR HO_208001.out).2.1); rintro e w126 ⟨v243, rfl, ho0, hb⟩; refine ⟨_, rfl, ?_⟩; have n0_ := aM (Kd.R_below (by (with_reducible repeat (first | apply ra | apply rn | apply rd_)); exact (rM (rF (p := ⟨gb214, 1, none⟩) (rF (p := ⟨gb214, 0, none⟩) (rT HO_148.out BK214.out (by decide)) (fun _ hk => hk.2) (.string t236)) (fun _ hk => hk.2) (.slice Ao122 t237.length co122)) (fun _ h_ => h_.1))) hb); have n1_ := aM (rE (by (with_reducible repeat (first | apply ra | apply rn | apply rd_)); exact (rM (rF (p := ⟨gb214, 1, none⟩) (rF (p := ⟨gb214, 0, none⟩) (rT HO_208001.out BK214.out (by decide)) (fun _ hk => hk.2) (.string t236)) (fun _ hk => hk.2) (.slice Ao122 t237.length co122)) (fun _ h_ => h_.1))) (Kd.R_base ho0) hb); have n2_ := aM (rE (by (with_reducible repeat (first | apply ra | apply rn | apply rd_)); exact (rM (rF (p := ⟨gb214, 1, none⟩) (rF (p := ⟨gb214, 0, none⟩) (rT HO_215001.out BK214.out (by decide)) (fun _ hk => hk.2) (.string t236)) (fun _ hk => hk.2) (.slice Ao122 t237.length co122)) (fun _ h_ => h_.1))) (Kd.R_base ho0) hb); have n3_ := aM (rE (by (with_reducible repeat (first | apply ra | apply rn | apply rd_)); exact (rM (rF (p := ⟨gb214, 1, none⟩) (rF (p := ⟨gb214, 0, none⟩) (rT HO233.out BK214.out (by decide)) (fun _ hk => hk.2) (.string t236)) (fun _ hk => hk.2) (.slice Ao122 t237.length co122)) (fun _ h_ => h_.1))) (Kd.R_base ho0) hb); have n4_ := aM (rE (by (with_reducible repeat (first | apply ra | apply rn | apply rd_)); exact (rM (rF (p := ⟨gb214, 1, none⟩) (rF (p := ⟨gb214, 0, none⟩) (rT HO239.out BK214.out (by decide)) (fun _ hk => hk.2) (.string t236)) (fun _ hk => hk.2) (.slice Ao122 t237.length co122)) (fun _ h_ => h_.1))) (Kd.R_base ho0) hb); have n5_ := aM (rL (Kd.R_new' (Kd.R_new' (Kd.R_new' (Kd.R_new' ho0 (Kd.R_lt (by (with_reducible repeat (first | apply ra | apply rn | apply rd_)); exact (rM (rF (p := ⟨gb214, 1, none⟩) (rF (p := ⟨gb214, 0, none⟩) (rT HO_208001.out BK214.out (by decide)) (fun _ hk => hk.2) (.string t236)) (fun _ hk => hk.2) (.slice Ao122 t237.length co122)) (fun _ h_ => h_.1))))) (Kd.R_lt (by (with_reducible repeat (first | apply ra | apply rn | apply rd_)); exact (rM (rF (p := ⟨gb214, 1, none⟩) (rF (p := ⟨gb214, 0, none⟩) (rT HO_215001.out BK214.out (by decide)) (fun _ hk => hk.2) (.string t236)) (fun _ hk => hk.2) (.slice Ao122 t237.length co122)) (fun _ h_ => h_.1))))) (Kd.R_lt (by (with_reducible repeat (first | apply ra | apply rn | apply rd_)); exact (rM (rF (p := ⟨gb214, 1, none⟩) (rF (p := ⟨gb214, 0, none⟩) (rT HO233.out BK214.out (by decide)) (fun _ hk => hk.2) (.string t236)) (fun _ hk => hk.2) (.slice Ao122 t237.length co122)) (fun _ h_ => h_.1))))) (Kd.R_lt (by (with_reducible repeat (first | apply ra | apply rn | apply rd_)); exact (rM (rF (p := ⟨gb214, 1, none⟩) (rF (p := ⟨gb214, 0, none⟩) (rT HO239.out BK214.out (by decide)) (fun _ hk => hk.2) (.string t236)) (fun _ hk => hk.2) (.slice Ao122 t237.length co122)) (fun _ h_ => h_.1))))) (bZ (by repeat (first | (with_reducible first | exact HB.out | apply ea | apply en | apply ed | refine es ?_ GE186.out | refine es ?_ GE187.out | refine es ?_ GE188.out | refine es ?_ GE207.out | refine es ?_ GE214.out | refine es ?_ GE235.out) | exact HB.out)))); have n6_ := aM (bB (g := gb186) (o := .cells #[.string a0_0, .slice A0_1 l0_1.length c0_1] 24 (0, 0)) (by (with_reducible repeat (first | apply qn | apply qd | apply qa)); refine bR ?_ NB186_214.out _; (with_reducible repeat (first | apply qn | apply qd | apply qa)); refine bR ?_ NB186_214.out _; exact qy BK186.out) hb); have n7_ := aM (bB (g := gb187) (o := .cells #[.int .i64 a2_0, .int .i64 a2_1, .string a2_2, .string a2_3, .bool a2_4] 28 (0, 0)) (by (with_reducible repeat (first | apply qn | apply qd | apply qa)); refine bR ?_ NB187_214.out _; (with_reducible repeat (first | apply qn | apply qd | apply qa)); refine bR ?_ NB187_214.out _; exact qy BK187.out) hb); have n8_ := aM (bB (g := gb188) (o := .cells #[.int .i64 0, .string (⟨#[]⟩ : ByteArray), .slice none 0 0, .string (⟨#[]⟩ : ByteArray), .slice none 0 0] 32 (0, 0)) (by (with_reducible repeat (first | apply qn | apply qd | apply qa)); refine bR ?_ NB188_214.out _; (with_reducible repeat (first | apply qn | apply qd | apply qa)); refine bR ?_ NB188_214.out _; exact qy BK188.out) hb); have n9_ := aM (bB (g := gb207) (o := .cells #[.string t202, .slice Ao86 t203.length co86] 24 (0, 0)) (by (with_reducible repeat (first | apply qn | apply qd | apply qa)); refine bR ?_ NB207_214.out _; (with_reducible repeat (first | apply qn | apply qd | apply qa)); refine bR ?_ NB207_214.out _; exact qy BK207.out) hb); have n10_ := aM (bB (g := gb214) (o := .cells #[.string t236, .slice Ao122 t237.length co122] 24 (0, 0)) (by (with_reducible repeat (first | apply qn | apply qd | apply qa)); refine bU (cs := #[.string t236, .slice Ao119 x215001_3.length co119]) ?_ 1 _ rfl; (with_reducible repeat (first | apply qn | apply qd | apply qa)); refine bU (cs := #[.string x215000_3, .slice Ao119 x215001_3.length co119]) ?_ 0 _ rfl; exact qy BK214.out) hb); have n11_ := aM (bB (g := gb235) (o := .cells #[.string t230, .slice Ao114 t231.length co114] 24 (0, 0)) (by (with_reducible repeat (first | apply qn | apply qd | apply qa)); refine bR ?_ NB235_214.out _; (with_reducible repeat (first | apply qn | apply qd | apply qa)); refine bR ?_ NB235_214.out _; exact qy BK235.out) hb); have n12_ := aM (bP (by repeat (first | (with_reducible first | exact HB.out | apply ea | apply en | apply ed | refine es ?_ GE186.out | refine es ?_ GE187.out | refine es ?_ GE188.out | refine es ?_ GE207.out | refine es ?_ GE214.out | refine es ?_ GE235.out) | exact HB.out)) hb); clear HO_148 HO_208001 HO_215001 HO233 HO239 BK186 BK187 BK188 BK207 BK214 BK235 HB; have HO_148 := n0_; have HO_208001 := n1_; have HO_215001 := n2_; have HO233 := n3_; have HO239 := n4_; have HO244 := n5_; have BK186 := n6_; have BK187 := n7_; have BK188 := n8_; have BK207 := n9_; have BK214 := n10_; have BK235 := n11_; have HB := n12_; clear n0_ n1_ n2_ n3_ n4_ n5_ n6_ n7_ n8_ n9_ n10_ n11_ n12_; (try clear hb); (try clear hb2); (try clear hk); (try clear hi); (try clear ho0); have hcz127_0 := zC BK214.out 0 (.string t236); have hcz127_1 := zC BK214.out 1 (.slice Ao122 t237.length co122); have hfz127_0 := bF BK214.out 0; have hfz127_1 := bF BK214.out 1; obtain ⟨Ao128, co128, eo128⟩ := Kd.R_slice HO244.out; subst eo128; have hnb129 := NB187_188.out; have hnc129 := NB188_187.out; have hcz130_0 := zC BK187.out 0 (.int .i64 a2_0); have hcz130_1 := zC BK187.out 1 (.int .i64 a2_1); have hcz130_2 := zC BK187.out 2 (.string a2_2); have hcz130_3 := zC BK187.out 3 (.string a2_3); have hcz130_4 := zC BK187.out 4 (.bool a2_4); have hfz130_0 := bF BK187.out 0; have hfz130_1 := bF BK187.out 1; have hfz130_2 := bF BK187.out 2; have hfz130_3 := bF BK187.out 3; have hfz130_4 := bF BK187.out 4))
                go_roundg k3
                case measure => have := HJ4.out; have := HK2.out; have := HK3.out; omega
                case rel => exact ⟨(wrap64 ((rd y215 x150_3) + (a2_2.size : Int))), (wrap64 (x150_3 + 1)), (t241), (t242), (.slice Ao128 t242.length co128), (by first | rfl | (simp; done) | (simp [*]; done)), (by first | rfl | (simp; done) | (simp [*]; done)), H', ⟨by have := HJ4.out; have := HK2.out; have := HK3.out; omega⟩, ⟨by (with_reducible repeat (first | apply ra | apply rn | apply rd_)); exact rM (rF (p := ⟨gb214, 1, none⟩) (rF (p := ⟨gb214, 0, none⟩) (rT HO_148.out BK214.out (by decide)) (fun _ hk => hk.2) (.string t241)) (fun _ hk => hk.2) (.slice Ao128 t242.length co128)) (fun _ hk => trivial)⟩, ⟨by (with_reducible repeat (first | apply ra | apply rn | apply rd_)); exact rM (rF (p := ⟨gb214, 1, none⟩) (rF (p := ⟨gb214, 0, none⟩) (rT HO_208001.out BK214.out (by decide)) (fun _ hk => hk.2) (.string t241)) (fun _ hk => hk.2) (.slice Ao128 t242.length co128)) (fun _ hk => hk.1.2)⟩, ⟨by (with_reducible repeat (first | apply ra | apply rn | apply rd_)); exact rM (rF (p := ⟨gb214, 1, none⟩) (rF (p := ⟨gb214, 0, none⟩) (rT HO244.out BK214.out (by decide)) (fun _ hk => hk.2) (.string t241)) (fun _ hk => hk.2) (.slice Ao128 t242.length co128)) (fun _ hk => hk.1.1.1.1.2)⟩, ⟨by (with_reducible repeat (first | apply qn | apply qd | apply qa)); refine bR ?_ NB186_214.out _; (with_reducible repeat (first | apply qn | apply qd | apply qa)); refine bR ?_ NB186_214.out _; exact qy BK186.out⟩, ⟨by (with_reducible repeat (first | apply qn | apply qd | apply qa)); refine bR ?_ NB187_214.out _; (with_reducible repeat (first | apply qn | apply qd | apply qa)); refine bR ?_ NB187_214.out _; exact qy BK187.out⟩, ⟨by (with_reducible repeat (first | apply qn | apply qd | apply qa)); refine bR ?_ NB188_214.out _; (with_reducible repeat (first | apply qn | apply qd | apply qa)); refine bR ?_ NB188_214.out _; exact qy BK188.out⟩, ⟨by (with_reducible repeat (first | apply qn | apply qd | apply qa)); refine bR ?_ NB207_214.out _; (with_reducible repeat (first | apply qn | apply qd | apply qa)); refine bR ?_ NB207_214.out _; exact qy BK207.out⟩, ⟨by (with_reducible repeat (first | apply qn | apply qd | apply qa)); refine bU (cs := #[.string t241, .slice Ao122 t237.length co122]) ?_ 1 _ rfl; (with_reducible repeat (first | apply qn | apply qd | apply qa)); refine bU (cs := #[.string t236, .slice Ao122 t237.length co122]) ?_ 0 _ rfl; exact qy BK214.out⟩, ⟨by repeat (first | (with_reducible first | exact HB.out | apply ea | apply en | apply ed | refine es ?_ GE186.out | refine es ?_ GE187.out | refine es ?_ GE188.out | refine es ?_ GE207.out | refine es ?_ GE214.out | refine es ?_ GE235.out) | exact HB.out)⟩⟩
               ·rw [if_neg c99] at H
                have c99b0 : decide ((rd y215 x150_3) < t212) = false := decide_eq_false c99
                clear c99
                have H' := aM H
                clear H
                have p229 : 0 ≤ (x150_3 : Int) := of_decide_eq_true (by first | (with_reducible assumption) | assumption)
                have q229 : x150_3 < (y215.length : Int) := of_decide_eq_true (by first | (with_reducible assumption) | assumption)
                obtain ⟨ad229, e229, hx229_0⟩ := Kd.at_int (rR HO_148.out).2.2 x150_3 p229 q229
                cases e229
                replace p229 := eq_true p229
                replace q229 := eq_true q229
                have hnb131 := NB186_187.out
                have hnc131 := NB187_186.out
                have hnb132 := NB186_188.out
                have hnc132 := NB188_186.out
                have hnb133 := NB186_207.out
                have hnc133 := NB207_186.out
                have hnb134 := NB186_214.out
                have hnc134 := NB214_186.out
                have hcz135_0 := zC BK186.out 0 (.string a0_0)
                have hcz135_1 := zC BK186.out 1 (.slice A0_1 l0_1.length c0_1)
                have hfz135_0 := bF BK186.out 0
                have hfz135_1 := bF BK186.out 1
                go_wp2_with (first | ((with_reducible refine gate_callee (f := 25) rfl ?_); refine goesL_ (some 158) rfl rfl Try.func25 (by kernel_rfl) rfl #[.agg #[.string a0_0, .slice A0_1 l0_1.length c0_1], .int .i64 x25_3, .int .i64 (rd y215 x150_3)] rfl (by (try simp only [mT, mC, mN]); first | done | rfl | (simp only [lD, lT]; rfl)) ?_; (with_reducible refine (strip_Cut.calls k3 a0_0 _ _ l0_1 x25_3 (rd y215 x150_3) t230 t231 t234 _ ?side1 ?side2 A97.out).mono ?_); (case side1 => repeat (first | exact (cB_ HR0_1.out HB.out) | (with_reducible refine Kd.C_alloc ?_ _) | (with_reducible refine Kd.C_drewN ?_ _) | (with_reducible refine Kd.C_drew ?_))); (case side2 => exact HC0_1.out); rintro e w136 ⟨v232, rfl, ho0, hb⟩; refine ⟨_, rfl, ?_⟩; have n0_ := aM (Kd.R_below (ry HO_148.out) hb); have n1_ := aM (rE (ry HO_208001.out) (Kd.R_base ho0) hb); have n2_ := aM (rE (ry HO_215001.out) (Kd.R_base ho0) hb); have n3_ := aM (rL (Kd.R_new' (Kd.R_new' ho0 (Kd.R_lt (ry HO_208001.out))) (Kd.R_lt (ry HO_215001.out))) (bZ (by repeat (first | (with_reducible first | exact HB.out | apply ea | apply en | apply ed | refine es ?_ GE186.out | refine es ?_ GE187.out | refine es ?_ GE188.out | refine es ?_ GE207.out | refine es ?_ GE214.out) | exact HB.out)))); have n4_ := aM (bB (g := gb186) (qy BK186.out) hb); have n5_ := aM (bB (g := gb187) (qy BK187.out) hb); have n6_ := aM (bB (g := gb188) (qy BK188.out) hb); have n7_ := aM (bB (g := gb207) (qy BK207.out) hb); have n8_ := aM (bB (g := gb214) (qy BK214.out) hb); have n9_ := aM (bP (by repeat (first | (with_reducible first | exact HB.out | apply ea | apply en | apply ed | refine es ?_ GE186.out | refine es ?_ GE187.out | refine es ?_ GE188.out | refine es ?_ GE207.out | refine es ?_ GE214.out) | exact HB.out)) hb); clear HO_148 HO_208001 HO_215001 BK186 BK187 BK188 BK207 BK214 HB; have HO_148 := n0_; have HO_208001 := n1_; have HO_215001 := n2_; have HO233 := n3_; have BK186 := n4_; have BK187 := n5_; have BK188 := n6_; have BK207 := n7_; have BK214 := n8_; have HB := n9_; clear n0_ n1_ n2_ n3_ n4_ n5_ n6_ n7_ n8_ n9_; (try clear hb); (try clear hb2); (try clear hk); (try clear hi); (try clear ho0)) | ((with_reducible refine gate_dst (N := 28) rfl ?_); (try (refine gate_guard (by rfl) ?_; dsimp only)); refine box_event ?hg (N := 28) ?hd (cs := #[.string (⟨#[]⟩ : ByteArray), .slice none 0 0]) (t := 24) ?hr ?_; (case hd | hg => rfl); (case hr => first | (go_simp; done) | (go_simp; rfl)); intro gb235 hg w137 hbox hb; have n0_ := aM (Kd.R_below (ry HO_148.out) hb); have n1_ := aM (Kd.R_below (ry HO_208001.out) hb); have n2_ := aM (Kd.R_below (ry HO_215001.out) hb); have n3_ := aM (Kd.R_below (ry HO233.out) hb); have n4_ := aM (bB (g := gb186) (qy BK186.out) hb); have n5_ := aM (bB (g := gb187) (qy BK187.out) hb); have n6_ := aM (bB (g := gb188) (qy BK188.out) hb); have n7_ := aM (bB (g := gb207) (qy BK207.out) hb); have n8_ := aM (bB (g := gb214) (qy BK214.out) hb); have n9_ := aM (bP (by repeat (first | (with_reducible first | exact HB.out | apply ea | apply en | apply ed | refine es ?_ GE186.out | refine es ?_ GE187.out | refine es ?_ GE188.out | refine es ?_ GE207.out | refine es ?_ GE214.out) | exact HB.out)) hb); have n10_ := aM (hbox); have n11_ := aM ((by rw [hg]; exact (bZ (by repeat (first | (with_reducible first | exact HB.out | apply ea | apply en | apply ed | refine es ?_ GE186.out | refine es ?_ GE187.out | refine es ?_ GE188.out | refine es ?_ GE207.out | refine es ?_ GE214.out) | exact HB.out))) : w.heap.size ≤ gb235)); have n12_ := n11_; have n13_ := aM ((by rw [hg]; exact Nat.ne_of_lt (blk_lt (g := gb186) (qy BK186.out)) : gb186 ≠ gb235)); have n14_ := aM ((by rw [hg]; exact Nat.ne_of_gt (blk_lt (g := gb186) (qy BK186.out)) : gb235 ≠ gb186)); have n15_ := aM ((by rw [hg]; exact Nat.ne_of_lt (blk_lt (g := gb187) (qy BK187.out)) : gb187 ≠ gb235)); have n16_ := aM ((by rw [hg]; exact Nat.ne_of_gt (blk_lt (g := gb187) (qy BK187.out)) : gb235 ≠ gb187)); have n17_ := aM ((by rw [hg]; exact Nat.ne_of_lt (blk_lt (g := gb188) (qy BK188.out)) : gb188 ≠ gb235)); have n18_ := aM ((by rw [hg]; exact Nat.ne_of_gt (blk_lt (g := gb188) (qy BK188.out)) : gb235 ≠ gb188)); have n19_ := aM ((by rw [hg]; exact Nat.ne_of_lt (blk_lt (g := gb207) (qy BK207.out)) : gb207 ≠ gb235)); have n20_ := aM ((by rw [hg]; exact Nat.ne_of_gt (blk_lt (g := gb207) (qy BK207.out)) : gb235 ≠ gb207)); have n21_ := aM ((by rw [hg]; exact Nat.ne_of_lt (blk_lt (g := gb214) (qy BK214.out)) : gb214 ≠ gb235)); have n22_ := aM ((by rw [hg]; exact Nat.ne_of_gt (blk_lt (g := gb214) (qy BK214.out)) : gb235 ≠ gb214)); clear HO_148 HO_208001 HO_215001 HO233 BK186 BK187 BK188 BK207 BK214 HB; have HO_148 := n0_; have HO_208001 := n1_; have HO_215001 := n2_; have HO233 := n3_; have BK186 := n4_; have BK187 := n5_; have BK188 := n6_; have BK207 := n7_; have BK214 := n8_; have HB := n9_; have BK235 := n10_; have GW235 := n11_; have GE235 := n12_; have NB186_235 := n13_; have NB235_186 := n14_; have NB187_235 := n15_; have NB235_187 := n16_; have NB188_235 := n17_; have NB235_188 := n18_; have NB207_235 := n19_; have NB235_207 := n20_; have NB214_235 := n21_; have NB235_214 := n22_; clear n0_ n1_ n2_ n3_ n4_ n5_ n6_ n7_ n8_ n9_ n10_ n11_ n12_ n13_ n14_ n15_ n16_ n17_ n18_ n19_ n20_ n21_ n22_; clear hb hbox hg; have hnb138 := NB235_186.out; have hnc138 := NB186_235.out; have hnb139 := NB235_187.out; have hnc139 := NB187_235.out; have hnb140 := NB235_188.out; have hnc140 := NB188_235.out; have hnb141 := NB235_207.out; have hnc141 := NB207_235.out; have hnb142 := NB235_214.out; have hnc142 := NB214_235.out; have hcz143_0 := zC BK235.out 0 (.string (⟨#[]⟩ : ByteArray)); have hcz143_1 := zC BK235.out 1 (.slice none 0 0); have hfz143_0 := bF BK235.out 0; have hfz143_1 := bF BK235.out 1; obtain ⟨Ao144, co144, eo144⟩ := Kd.R_slice HO233.out; subst eo144; have hnb145 := NB214_187.out; have hnc145 := NB187_214.out; have hnb146 := NB214_188.out; have hnc146 := NB188_214.out; have hnb147 := NB214_207.out; have hnc147 := NB207_214.out; have hcz148_0 := zC BK214.out 0 (.string x215000_3); have hcz148_1 := zC BK214.out 1 (u215001); have hfz148_0 := bF BK214.out 0; have hfz148_1 := bF BK214.out 1; obtain ⟨Ao149, co149, eo149⟩ := Kd.R_slice HO_215001.out; subst eo149) | ((with_reducible refine gate_callee (f := 26) rfl ?_); refine goesL_ (some 164) rfl rfl Try.func26 (by kernel_rfl) rfl #[.agg #[.string x215000_3, .slice Ao149 x215001_3.length co149], .agg #[.string t230, .slice Ao144 t231.length co144]] rfl (by (try simp only [mT, mC, mN]); first | done | rfl | (simp only [lD, lT]; rfl)) ?_; (with_reducible refine (strip_Cat.calls k3 x215000_3 _ _ x215001_3 t230 _ _ t231 t236 t237 t240 _ ?side1 ?side2 ?side3 ?side4 A98.out).mono ?_); (case side1 => refine (rR (e := 51) (base := w.heap.size) (ok := fun k_ => (some k_ ≠ (.slice Ao86 t203.length co86 : Value).ownBlock ∧ some k_ ≠ (.slice Ao144 t231.length co144 : Value).ownBlock)) (n := x215001_3.length) (c := co149) ?_).2.2; exact (by (with_reducible repeat (first | apply ra | apply rn | apply rd_)); exact (rM (rF (p := ⟨gb235, 1, none⟩) (rF (p := ⟨gb235, 0, none⟩) (rT HO_215001.out BK235.out (by decide)) (fun _ hk => hk.2) (.string t230)) (fun _ hk => hk.2) (.slice Ao144 t231.length co144)) (fun _ h_ => h_.1)))); (case side2 => exact (rR HO_215001.out).2.1); (case side3 => refine (rR (e := 51) (base := w.heap.size) (ok := fun k_ => ((True ∧ some k_ ≠ (.slice Ao86 t203.length co86 : Value).ownBlock) ∧ some k_ ≠ (.slice Ao149 x215001_3.length co149 : Value).ownBlock)) (n := t231.length) (c := co144) ?_).2.2; exact (by (with_reducible repeat (first | apply ra | apply rn | apply rd_)); exact (rM (rF (p := ⟨gb235, 1, none⟩) (rF (p := ⟨gb235, 0, none⟩) (rT HO233.out BK235.out (by decide)) (fun _ hk => hk.2) (.string t230)) (fun _ hk => hk.2) (.slice Ao144 t231.length co144)) (fun _ h_ => h_.1)))); (case side4 => exact (rR HO233.out).2.1); rintro e w150 ⟨v238, rfl, ho0, hb⟩; refine ⟨_, rfl, ?_⟩; have n0_ := aM (Kd.R_below (by (with_reducible repeat (first | apply ra | apply rn | apply rd_)); exact (rM (rF (p := ⟨gb235, 1, none⟩) (rF (p := ⟨gb235, 0, none⟩) (rT HO_148.out BK235.out (by decide)) (fun _ hk => hk.2) (.string t230)) (fun _ hk => hk.2) (.slice Ao144 t231.length co144)) (fun _ h_ => h_.1))) hb); have n1_ := aM (rE (by (with_reducible repeat (first | apply ra | apply rn | apply rd_)); exact (rM (rF (p := ⟨gb235, 1, none⟩) (rF (p := ⟨gb235, 0, none⟩) (rT HO_208001.out BK235.out (by decide)) (fun _ hk => hk.2) (.string t230)) (fun _ hk => hk.2) (.slice Ao144 t231.length co144)) (fun _ h_ => h_.1))) (Kd.R_base ho0) hb); have n2_ := aM (rE (by (with_reducible repeat (first | apply ra | apply rn | apply rd_)); exact (rM (rF (p := ⟨gb235, 1, none⟩) (rF (p := ⟨gb235, 0, none⟩) (rT HO_215001.out BK235.out (by decide)) (fun _ hk => hk.2) (.string t230)) (fun _ hk => hk.2) (.slice Ao144 t231.length co144)) (fun _ h_ => h_.1))) (Kd.R_base ho0) hb); have n3_ := aM (rE (by (with_reducible repeat (first | apply ra | apply rn | apply rd_)); exact (rM (rF (p := ⟨gb235, 1, none⟩) (rF (p := ⟨gb235, 0, none⟩) (rT HO233.out BK235.out (by decide)) (fun _ hk => hk.2) (.string t230)) (fun _ hk => hk.2) (.slice Ao144 t231.length co144)) (fun _ h_ => h_.1))) (Kd.R_base ho0) hb); have n4_ := aM (rL (Kd.R_new' (Kd.R_new' (Kd.R_new' ho0 (Kd.R_lt (by (with_reducible repeat (first | apply ra | apply rn | apply rd_)); exact (rM (rF (p := ⟨gb235, 1, none⟩) (rF (p := ⟨gb235, 0, none⟩) (rT HO_208001.out BK235.out (by decide)) (fun _ hk => hk.2) (.string t230)) (fun _ hk => hk.2) (.slice Ao144 t231.length co144)) (fun _ h_ => h_.1))))) (Kd.R_lt (by (with_reducible repeat (first | apply ra | apply rn | apply rd_)); exact (rM (rF (p := ⟨gb235, 1, none⟩) (rF (p := ⟨gb235, 0, none⟩) (rT HO_215001.out BK235.out (by decide)) (fun _ hk => hk.2) (.string t230)) (fun _ hk => hk.2) (.slice Ao144 t231.length co144)) (fun _ h_ => h_.1))))) (Kd.R_lt (by (with_reducible repeat (first | apply ra | apply rn | apply rd_)); exact (rM (rF (p := ⟨gb235, 1, none⟩) (rF (p := ⟨gb235, 0, none⟩) (rT HO233.out BK235.out (by decide)) (fun _ hk => hk.2) (.string t230)) (fun _ hk => hk.2) (.slice Ao144 t231.length co144)) (fun _ h_ => h_.1))))) (bZ (by repeat (first | (with_reducible first | exact HB.out | apply ea | apply en | apply ed | refine es ?_ GE186.out | refine es ?_ GE187.out | refine es ?_ GE188.out | refine es ?_ GE207.out | refine es ?_ GE214.out | refine es ?_ GE235.out) | exact HB.out)))); have n5_ := aM (bB (g := gb186) (o := .cells #[.string a0_0, .slice A0_1 l0_1.length c0_1] 24 (0, 0)) (by (with_reducible repeat (first | apply qn | apply qd | apply qa)); refine bR ?_ NB186_235.out _; (with_reducible repeat (first | apply qn | apply qd | apply qa)); refine bR ?_ NB186_235.out _; exact qy BK186.out) hb); have n6_ := aM (bB (g := gb187) (o := .cells #[.int .i64 a2_0, .int .i64 a2_1, .string a2_2, .string a2_3, .bool a2_4] 28 (0, 0)) (by (with_reducible repeat (first | apply qn | apply qd | apply qa)); refine bR ?_ NB187_235.out _; (with_reducible repeat (first | apply qn | apply qd | apply qa)); refine bR ?_ NB187_235.out _; exact qy BK187.out) hb); have n7_ := aM (bB (g := gb188) (o := .cells #[.int .i64 0, .string (⟨#[]⟩ : ByteArray), .slice none 0 0, .string (⟨#[]⟩ : ByteArray), .slice none 0 0] 32 (0, 0)) (by (with_reducible repeat (first | apply qn | apply qd | apply qa)); refine bR ?_ NB188_235.out _; (with_reducible repeat (first | apply qn | apply qd | apply qa)); refine bR ?_ NB188_235.out _; exact qy BK188.out) hb); have n8_ := aM (bB (g := gb207) (o := .cells #[.string t202, .slice Ao86 t203.length co86] 24 (0, 0)) (by (with_reducible repeat (first | apply qn | apply qd | apply qa)); refine bR ?_ NB207_235.out _; (with_reducible repeat (first | apply qn | apply qd | apply qa)); refine bR ?_ NB207_235.out _; exact qy BK207.out) hb); have n9_ := aM (bB (g := gb214) (o := .cells #[.string x215000_3, .slice Ao149 x215001_3.length co149] 24 (0, 0)) (by (with_reducible repeat (first | apply qn | apply qd | apply qa)); refine bR ?_ NB214_235.out _; (with_reducible repeat (first | apply qn | apply qd | apply qa)); refine bR ?_ NB214_235.out _; exact qy BK214.out) hb); have n10_ := aM (bB (g := gb235) (o := .cells #[.string t230, .slice Ao144 t231.length co144] 24 (0, 0)) (by (with_reducible repeat (first | apply qn | apply qd | apply qa)); refine bU (cs := #[.string t230, .slice none 0 0]) ?_ 1 _ rfl; (with_reducible repeat (first | apply qn | apply qd | apply qa)); refine bU (cs := #[.string (⟨#[]⟩ : ByteArray), .slice none 0 0]) ?_ 0 _ rfl; exact qy BK235.out) hb); have n11_ := aM (bP (by repeat (first | (with_reducible first | exact HB.out | apply ea | apply en | apply ed | refine es ?_ GE186.out | refine es ?_ GE187.out | refine es ?_ GE188.out | refine es ?_ GE207.out | refine es ?_ GE214.out | refine es ?_ GE235.out) | exact HB.out)) hb); clear HO_148 HO_208001 HO_215001 HO233 BK186 BK187 BK188 BK207 BK214 BK235 HB; have HO_148 := n0_; have HO_208001 := n1_; have HO_215001 := n2_; have HO233 := n3_; have HO239 := n4_; have BK186 := n5_; have BK187 := n6_; have BK188 := n7_; have BK207 := n8_; have BK214 := n9_; have BK235 := n10_; have HB := n11_; clear n0_ n1_ n2_ n3_ n4_ n5_ n6_ n7_ n8_ n9_ n10_ n11_; (try clear hb); (try clear hb2); (try clear hk); (try clear hi); (try clear ho0); have hcz151_0 := zC BK214.out 0 (.string x215000_3); have hcz151_1 := zC BK214.out 1 (.slice Ao149 x215001_3.length co149); have hfz151_0 := bF BK214.out 0; have hfz151_1 := bF BK214.out 1; obtain ⟨Ao152, co152, eo152⟩ := Kd.R_slice HO239.out; subst eo152; have hnb153 := NB187_188.out; have hnc153 := NB188_187.out; have hnb154 := NB187_207.out; have hnc154 := NB207_187.out; have hcz155_0 := zC BK187.out 0 (.int .i64 a2_0); have hcz155_1 := zC BK187.out 1 (.int .i64 a2_1); have hcz155_2 := zC BK187.out 2 (.string a2_2); have hcz155_3 := zC BK187.out 3 (.string a2_3); have hcz155_4 := zC BK187.out 4 (.bool a2_4); have hfz155_0 := bF BK187.out 0; have hfz155_1 := bF BK187.out 1; have hfz155_2 := bF BK187.out 2; have hfz155_3 := bF BK187.out 3; have hfz155_4 := bF BK187.out 4))
                go_roundg k3
                case measure => have := HJ4.out; have := HK2.out; have := HK3.out; omega
                case rel => exact ⟨(wrap64 ((rd y215 x150_3) + (a2_2.size : Int))), (wrap64 (x150_3 + 1)), (t236), (t237), (.slice Ao152 t237.length co152), (by first | rfl | (simp; done) | (simp [*]; done)), (by first | rfl | (simp; done) | (simp [*]; done)), H', ⟨by have := HJ4.out; have := HK2.out; have := HK3.out; omega⟩, ⟨by (with_reducible repeat (first | apply ra | apply rn | apply rd_)); exact rM (rF (p := ⟨gb214, 1, none⟩) (rF (p := ⟨gb214, 0, none⟩) (rT HO_148.out BK214.out (by decide)) (fun _ hk => hk.2) (.string t236)) (fun _ hk => hk.2) (.slice Ao152 t237.length co152)) (fun _ hk => trivial)⟩, ⟨by (with_reducible repeat (first | apply ra | apply rn | apply rd_)); exact rM (rF (p := ⟨gb214, 1, none⟩) (rF (p := ⟨gb214, 0, none⟩) (rT HO_208001.out BK214.out (by decide)) (fun _ hk => hk.2) (.string t236)) (fun _ hk => hk.2) (.slice Ao152 t237.length co152)) (fun _ hk => hk.1.2)⟩, ⟨by (with_reducible repeat (first | apply ra | apply rn | apply rd_)); exact rM (rF (p := ⟨gb214, 1, none⟩) (rF (p := ⟨gb214, 0, none⟩) (rT HO239.out BK214.out (by decide)) (fun _ hk => hk.2) (.string t236)) (fun _ hk => hk.2) (.slice Ao152 t237.length co152)) (fun _ hk => hk.1.1.1.2)⟩, ⟨by (with_reducible repeat (first | apply qn | apply qd | apply qa)); refine bR ?_ NB186_214.out _; (with_reducible repeat (first | apply qn | apply qd | apply qa)); refine bR ?_ NB186_214.out _; exact qy BK186.out⟩, ⟨by (with_reducible repeat (first | apply qn | apply qd | apply qa)); refine bR ?_ NB187_214.out _; (with_reducible repeat (first | apply qn | apply qd | apply qa)); refine bR ?_ NB187_214.out _; exact qy BK187.out⟩, ⟨by (with_reducible repeat (first | apply qn | apply qd | apply qa)); refine bR ?_ NB188_214.out _; (with_reducible repeat (first | apply qn | apply qd | apply qa)); refine bR ?_ NB188_214.out _; exact qy BK188.out⟩, ⟨by (with_reducible repeat (first | apply qn | apply qd | apply qa)); refine bR ?_ NB207_214.out _; (with_reducible repeat (first | apply qn | apply qd | apply qa)); refine bR ?_ NB207_214.out _; exact qy BK207.out⟩, ⟨by (with_reducible repeat (first | apply qn | apply qd | apply qa)); refine bU (cs := #[.string t236, .slice Ao149 x215001_3.length co149]) ?_ 1 _ rfl; (with_reducible repeat (first | apply qn | apply qd | apply qa)); refine bU (cs := #[.string x215000_3, .slice Ao149 x215001_3.length co149]) ?_ 0 _ rfl; exact qy BK214.out⟩, ⟨by repeat (first | (with_reducible first | exact HB.out | apply ea | apply en | apply ed | refine es ?_ GE186.out | refine es ?_ GE187.out | refine es ?_ GE188.out | refine es ?_ GE207.out | refine es ?_ GE214.out | refine es ?_ GE235.out) | exact HB.out)⟩⟩
              ·rw [if_neg c96] at H
               exact absurd H (by simp)
             ·rw [if_neg c95] at H
              exact absurd H (by simp)
            ·rw [if_neg c94] at H
             have c94b0 : decide (x150_3 < (y215.length : Int)) = false := decide_eq_false c94
             clear c94
             replace H := Option.bind_eq_some_iff.mp H
             obtain ⟨⟨t218, t219, t220, t223, t224, t227⟩, A1560, H⟩ := H
             replace H : (some (t218, t219, t220, t223, t224, (x11_2.length : Int), t227)) = some (r1, r2, r3, r4, r5, r6, r7) := H
             have A156 := aM A1560
             clear A1560
             simp only [Option.some.injEq, Prod.mk.injEq] at H
             obtain ⟨rfl, rfl, rfl, rfl, rfl, rfl, rfl⟩ := H
             have hnb157 := NB186_187.out
             have hnc157 := NB187_186.out
             have hnb158 := NB186_188.out
             have hnc158 := NB188_186.out
             have hnb159 := NB186_207.out
             have hnc159 := NB207_186.out
             have hnb160 := NB186_214.out
             have hnc160 := NB214_186.out
             have hcz161_0 := zC BK186.out 0 (.string a0_0)
             have hcz161_1 := zC BK186.out 1 (.slice A0_1 l0_1.length c0_1)
             have hfz161_0 := bF BK186.out 0
             have hfz161_1 := bF BK186.out 1
             have hnb162 := NB214_187.out
             have hnc162 := NB187_214.out
             have hnb163 := NB214_188.out
             have hnc163 := NB188_214.out
             have hnb164 := NB214_207.out
             have hnc164 := NB207_214.out
             have hcz165_0 := zC BK214.out 0 (.string x215000_3)
             have hcz165_1 := zC BK214.out 1 (u215001)
             have hfz165_0 := bF BK214.out 0
             have hfz165_1 := bF BK214.out 1
             obtain ⟨Ao166, co166, eo166⟩ := Kd.R_slice HO_215001.out
             subst eo166
             go_wp2_with (first | ((with_reducible refine gate_callee (f := 27) rfl ?_); refine goesL_ (some 187) rfl rfl Try.func27 (by kernel_rfl) rfl #[.agg #[.string a0_0, .slice A0_1 l0_1.length c0_1], .int .i64 t208, .int .i64 t212, .agg #[.string x215000_3, .slice Ao166 x215001_3.length co166]] rfl (by (try simp only [mT, mC, mN]); first | done | rfl | (simp only [lD, lT]; rfl)) ?_; (with_reducible refine (edit_Of.calls k3 a0_0 _ _ l0_1 t208 t212 x215000_3 _ _ x215001_3 t218 t219 t220 t223 t224 t227 _ ?side1 ?side2 ?side3 ?side4 A156.out).mono ?_); (case side1 => repeat (first | exact (cB_ HR0_1.out HB.out) | (with_reducible refine Kd.C_alloc ?_ _) | (with_reducible refine Kd.C_drewN ?_ _) | (with_reducible refine Kd.C_drew ?_))); (case side2 => exact HC0_1.out); (case side3 => repeat (first | exact (rR HO_215001.out).2.2 | (with_reducible refine Kd.C_alloc ?_ _) | (with_reducible refine Kd.C_drewN ?_ _) | (with_reducible refine Kd.C_drew ?_))); (case side4 => exact (rR HO_215001.out).2.1); rintro e w167 ⟨v221, v225, rfl, ho0, ho1, hb⟩; refine ⟨_, rfl, ?_⟩; have n0_ := aM (Kd.R_below (ry HO_148.out) hb); have n1_ := aM (rM (Kd.R_told (Kd.R_told (Kd.R_old (ry HO_208001.out) hb) (Kd.R_base ho0)) (Kd.R_base ho1)) (fun _ h_ => h_.1)); have n2_ := aM (rM (Kd.R_told (Kd.R_told (Kd.R_old (ry HO_215001.out) hb) (Kd.R_base ho0)) (Kd.R_base ho1)) (fun _ h_ => h_.1)); have n3_ := aM (rL (Kd.R_new' (Kd.R_new' ho0 (Kd.R_lt (ry HO_208001.out))) (Kd.R_lt (ry HO_215001.out))) (bZ (by repeat (first | (with_reducible first | exact HB.out | apply ea | apply en | apply ed | refine es ?_ GE186.out | refine es ?_ GE187.out | refine es ?_ GE188.out | refine es ?_ GE207.out | refine es ?_ GE214.out) | exact HB.out)))); have n4_ := aM (rL (Kd.R_new' (Kd.R_new' ho1 (Kd.R_lt (ry HO_208001.out))) (Kd.R_lt (ry HO_215001.out))) (bZ (by repeat (first | (with_reducible first | exact HB.out | apply ea | apply en | apply ed | refine es ?_ GE186.out | refine es ?_ GE187.out | refine es ?_ GE188.out | refine es ?_ GE207.out | refine es ?_ GE214.out) | exact HB.out)))); have n5_ := aM (bB (g := gb186) (qy BK186.out) hb); have n6_ := aM (bB (g := gb187) (qy BK187.out) hb); have n7_ := aM (bB (g := gb188) (qy BK188.out) hb); have n8_ := aM (bB (g := gb207) (qy BK207.out) hb); have n9_ := aM (bB (g := gb214) (qy BK214.out) hb); have n10_ := aM (bP (by repeat (first | (with_reducible first | exact HB.out | apply ea | apply en | apply ed | refine es ?_ GE186.out | refine es ?_ GE187.out | refine es ?_ GE188.out | refine es ?_ GE207.out | refine es ?_ GE214.out) | exact HB.out)) hb); clear HO_148 HO_208001 HO_215001 BK186 BK187 BK188 BK207 BK214 HB; have HO_148 := n0_; have HO_208001 := n1_; have HO_215001 := n2_; have HO222 := n3_; have HO226 := n4_; have BK186 := n5_; have BK187 := n6_; have BK188 := n7_; have BK207 := n8_; have BK214 := n9_; have HB := n10_; clear n0_ n1_ n2_ n3_ n4_ n5_ n6_ n7_ n8_ n9_ n10_; (try clear hb); (try clear hb2); (try clear hk); (try clear hi); (try clear ho0); (try clear ho1)) | ((with_reducible refine gate_dst (N := 30) rfl ?_); (try (refine gate_guard (by rfl) ?_; dsimp only)); refine box_event ?hg (N := 30) ?hd (cs := #[.int .i64 0, .string (⟨#[]⟩ : ByteArray), .slice none 0 0, .string (⟨#[]⟩ : ByteArray), .slice none 0 0]) (t := 32) ?hr ?_; (case hd | hg => rfl); (case hr => first | (go_simp; done) | (go_simp; rfl)); intro gb228 hg w168 hbox hb; have n0_ := aM (Kd.R_below (ry HO_148.out) hb); have n1_ := aM (Kd.R_below (ry HO_208001.out) hb); have n2_ := aM (Kd.R_below (ry HO_215001.out) hb); have n3_ := aM (Kd.R_below (ry HO222.out) hb); have n4_ := aM (Kd.R_below (ry HO226.out) hb); have n5_ := aM (bB (g := gb186) (qy BK186.out) hb); have n6_ := aM (bB (g := gb187) (qy BK187.out) hb); have n7_ := aM (bB (g := gb188) (qy BK188.out) hb); have n8_ := aM (bB (g := gb207) (qy BK207.out) hb); have n9_ := aM (bB (g := gb214) (qy BK214.out) hb); have n10_ := aM (bP (by repeat (first | (with_reducible first | exact HB.out | apply ea | apply en | apply ed | refine es ?_ GE186.out | refine es ?_ GE187.out | refine es ?_ GE188.out | refine es ?_ GE207.out | refine es ?_ GE214.out) | exact HB.out)) hb); have n11_ := aM (hbox); have n12_ := aM ((by rw [hg]; exact (bZ (by repeat (first | (with_reducible first | exact HB.out | apply ea | apply en | apply ed | refine es ?_ GE186.out | refine es ?_ GE187.out | refine es ?_ GE188.out | refine es ?_ GE207.out | refine es ?_ GE214.out) | exact HB.out))) : w.heap.size ≤ gb228)); have n13_ := n12_; have n14_ := aM ((by rw [hg]; exact Nat.ne_of_lt (blk_lt (g := gb186) (qy BK186.out)) : gb186 ≠ gb228)); have n15_ := aM ((by rw [hg]; exact Nat.ne_of_gt (blk_lt (g := gb186) (qy BK186.out)) : gb228 ≠ gb186)); have n16_ := aM ((by rw [hg]; exact Nat.ne_of_lt (blk_lt (g := gb187) (qy BK187.out)) : gb187 ≠ gb228)); have n17_ := aM ((by rw [hg]; exact Nat.ne_of_gt (blk_lt (g := gb187) (qy BK187.out)) : gb228 ≠ gb187)); have n18_ := aM ((by rw [hg]; exact Nat.ne_of_lt (blk_lt (g := gb188) (qy BK188.out)) : gb188 ≠ gb228)); have n19_ := aM ((by rw [hg]; exact Nat.ne_of_gt (blk_lt (g := gb188) (qy BK188.out)) : gb228 ≠ gb188)); have n20_ := aM ((by rw [hg]; exact Nat.ne_of_lt (blk_lt (g := gb207) (qy BK207.out)) : gb207 ≠ gb228)); have n21_ := aM ((by rw [hg]; exact Nat.ne_of_gt (blk_lt (g := gb207) (qy BK207.out)) : gb228 ≠ gb207)); have n22_ := aM ((by rw [hg]; exact Nat.ne_of_lt (blk_lt (g := gb214) (qy BK214.out)) : gb214 ≠ gb228)); have n23_ := aM ((by rw [hg]; exact Nat.ne_of_gt (blk_lt (g := gb214) (qy BK214.out)) : gb228 ≠ gb214)); clear HO_148 HO_208001 HO_215001 HO222 HO226 BK186 BK187 BK188 BK207 BK214 HB; have HO_148 := n0_; have HO_208001 := n1_; have HO_215001 := n2_; have HO222 := n3_; have HO226 := n4_; have BK186 := n5_; have BK187 := n6_; have BK188 := n7_; have BK207 := n8_; have BK214 := n9_; have HB := n10_; have BK228 := n11_; have GW228 := n12_; have GE228 := n13_; have NB186_228 := n14_; have NB228_186 := n15_; have NB187_228 := n16_; have NB228_187 := n17_; have NB188_228 := n18_; have NB228_188 := n19_; have NB207_228 := n20_; have NB228_207 := n21_; have NB214_228 := n22_; have NB228_214 := n23_; clear n0_ n1_ n2_ n3_ n4_ n5_ n6_ n7_ n8_ n9_ n10_ n11_ n12_ n13_ n14_ n15_ n16_ n17_ n18_ n19_ n20_ n21_ n22_ n23_; clear hb hbox hg; have hnb169 := NB228_186.out; have hnc169 := NB186_228.out; have hnb170 := NB228_187.out; have hnc170 := NB187_228.out; have hnb171 := NB228_188.out; have hnc171 := NB188_228.out; have hnb172 := NB228_207.out; have hnc172 := NB207_228.out; have hnb173 := NB228_214.out; have hnc173 := NB214_228.out; have hcz174_0 := zC BK228.out 0 (.int .i64 0); have hcz174_1 := zC BK228.out 1 (.string (⟨#[]⟩ : ByteArray)); have hcz174_2 := zC BK228.out 2 (.slice none 0 0); have hcz174_3 := zC BK228.out 3 (.string (⟨#[]⟩ : ByteArray)); have hcz174_4 := zC BK228.out 4 (.slice none 0 0); have hfz174_0 := bF BK228.out 0; have hfz174_1 := bF BK228.out 1; have hfz174_2 := bF BK228.out 2; have hfz174_3 := bF BK228.out 3; have hfz174_4 := bF BK228.out 4; obtain ⟨Ao175, co175, eo175⟩ := Kd.R_slice HO222.out; subst eo175; obtain ⟨Ao176, co176, eo176⟩ := Kd.R_slice HO226.out; subst eo176; have hnb177 := NB188_187.out; have hnc177 := NB187_188.out; have hnb178 := NB188_207.out; have hnc178 := NB207_188.out; have hcz179_0 := zC BK188.out 0 (.int .i64 0); have hcz179_1 := zC BK188.out 1 (.string (⟨#[]⟩ : ByteArray)); have hcz179_2 := zC BK188.out 2 (.slice none 0 0); have hcz179_3 := zC BK188.out 3 (.string (⟨#[]⟩ : ByteArray)); have hcz179_4 := zC BK188.out 4 (.slice none 0 0); have hfz179_0 := bF BK188.out 0; have hfz179_1 := bF BK188.out 1; have hfz179_2 := bF BK188.out 2; have hfz179_3 := bF BK188.out 3; have hfz179_4 := bF BK188.out 4))
             refine bodyPost_ret (results_ctt rfl _ _ gb188 32 #[.int .i64 t218, .string t219, .slice Ao175 t220.length co175, .string t223, .slice Ao176 t224.length co176] (0, 0) _ rfl (by (with_reducible repeat (first | apply qn | apply qd | apply qa)); refine bU (cs := #[.int .i64 t218, .string t219, .slice Ao175 t220.length co175, .string t223, .slice none 0 0]) ?_ 4 _ rfl; (with_reducible repeat (first | apply qn | apply qd | apply qa)); refine bU (cs := #[.int .i64 t218, .string t219, .slice Ao175 t220.length co175, .string (⟨#[]⟩ : ByteArray), .slice none 0 0]) ?_ 3 _ rfl; (with_reducible repeat (first | apply qn | apply qd | apply qa)); refine bU (cs := #[.int .i64 t218, .string t219, .slice none 0 0, .string (⟨#[]⟩ : ByteArray), .slice none 0 0]) ?_ 2 _ rfl; (with_reducible repeat (first | apply qn | apply qd | apply qa)); refine bU (cs := #[.int .i64 t218, .string (⟨#[]⟩ : ByteArray), .slice none 0 0, .string (⟨#[]⟩ : ByteArray), .slice none 0 0]) ?_ 1 _ rfl; (with_reducible repeat (first | apply qn | apply qd | apply qa)); refine bU (cs := #[.int .i64 0, .string (⟨#[]⟩ : ByteArray), .slice none 0 0, .string (⟨#[]⟩ : ByteArray), .slice none 0 0]) ?_ 0 _ rfl; (with_reducible repeat (first | apply qn | apply qd | apply qa)); refine bR ?_ NB188_228.out _; (with_reducible repeat (first | apply qn | apply qd | apply qa)); refine bR ?_ NB188_228.out _; (with_reducible repeat (first | apply qn | apply qd | apply qa)); refine bR ?_ NB188_228.out _; (with_reducible repeat (first | apply qn | apply qd | apply qa)); refine bR ?_ NB188_228.out _; (with_reducible repeat (first | apply qn | apply qd | apply qa)); refine bR ?_ NB188_228.out _; exact qy BK188.out) Try.underlying32 rfl (by kernel_rfl)) rfl ?_
             exact ⟨_, _, by first | rfl | (simp [errW_none, errW_some] <;> rfl) | (simp [*, errW_none, errW_some] <;> rfl), by (with_reducible repeat (first | apply ra | apply rn | apply rd_)); exact rM (rF (p := ⟨gb188, 4, none⟩) (rF (p := ⟨gb188, 3, none⟩) (rF (p := ⟨gb188, 2, none⟩) (rF (p := ⟨gb188, 1, none⟩) (rF (p := ⟨gb188, 0, none⟩) (rF (p := ⟨gb228, 4, none⟩) (rF (p := ⟨gb228, 3, none⟩) (rF (p := ⟨gb228, 2, none⟩) (rF (p := ⟨gb228, 1, none⟩) (rF (p := ⟨gb228, 0, none⟩) (rT (rT HO222.out BK228.out (by decide)) BK188.out (by decide)) (fun _ hk => hk.1.2) (.int .i64 t218)) (fun _ hk => hk.1.2) (.string t219)) (fun _ hk => hk.1.2) (.slice Ao175 t220.length co175)) (fun _ hk => hk.1.2) (.string t223)) (fun _ hk => hk.1.2) (.slice Ao176 t224.length co176)) (fun _ hk => hk.2) (.int .i64 t218)) (fun _ hk => hk.2) (.string t219)) (fun _ hk => hk.2) (.slice Ao175 t220.length co175)) (fun _ hk => hk.2) (.string t223)) (fun _ hk => hk.2) (.slice Ao176 t224.length co176)) (fun _ hk => hk.1.1.1.1), by (with_reducible repeat (first | apply ra | apply rn | apply rd_)); exact rM (rF (p := ⟨gb188, 4, none⟩) (rF (p := ⟨gb188, 3, none⟩) (rF (p := ⟨gb188, 2, none⟩) (rF (p := ⟨gb188, 1, none⟩) (rF (p := ⟨gb188, 0, none⟩) (rF (p := ⟨gb228, 4, none⟩) (rF (p := ⟨gb228, 3, none⟩) (rF (p := ⟨gb228, 2, none⟩) (rF (p := ⟨gb228, 1, none⟩) (rF (p := ⟨gb228, 0, none⟩) (rT (rT HO226.out BK228.out (by decide)) BK188.out (by decide)) (fun _ hk => hk.1.2) (.int .i64 t218)) (fun _ hk => hk.1.2) (.string t219)) (fun _ hk => hk.1.2) (.slice Ao175 t220.length co175)) (fun _ hk => hk.1.2) (.string t223)) (fun _ hk => hk.1.2) (.slice Ao176 t224.length co176)) (fun _ hk => hk.2) (.int .i64 t218)) (fun _ hk => hk.2) (.string t219)) (fun _ hk => hk.2) (.slice Ao175 t220.length co175)) (fun _ hk => hk.2) (.string t223)) (fun _ hk => hk.2) (.slice Ao176 t224.length co176)) (fun _ hk => hk.1.1.1.1), by repeat (first | (with_reducible first | exact HB.out | apply ea | apply en | apply ed | refine es ?_ GE186.out | refine es ?_ GE187.out | refine es ?_ GE188.out | refine es ?_ GE207.out | refine es ?_ GE214.out | refine es ?_ GE228.out) | exact HB.out)⟩
         ·rw [if_neg c73] at H
          exact absurd H (by simp)
end Go.Proofs.Ytnbdldpjiofafaa.PB
end

section
namespace Go.Proofs.Ytnbdldpjiofafaa.PB
open Go.RowKit Go.Proofs.YtnbdldpjiofafaaW.PrintWords Go.Proofs.YtnbdldpjiofafaaW.PrintLast Go.Proofs.YtnbdldpjiofafaaW.PrintMore
attribute [local go_sem] max2_int min2_int max_two min_two max_three min_three max_four min_four   
set_option linter.unusedVariables false
set_option linter.unusedSimpArgs false
def bureaulaw15_alive.f (k : Nat)  : Option (Bool) := (some (([(⟨1, 6⟩ : S51)] : List (S51)) : List (S51))).bind fun y246 => ((subst_Do.f k (⟨#[97, 97, 98, 10, 97, 97]⟩ : ByteArray) y246 1 0 1 (⟨#[97]⟩ : ByteArray) (⟨#[120, 121]⟩ : ByteArray) true).bind fun bt250 => ((subst_Do.f k (⟨#[97, 97, 98, 10, 97, 97]⟩ : ByteArray) y246 1 1 1 (⟨#[98]⟩ : ByteArray) (⟨#[]⟩ : ByteArray) false).bind fun bt262 => (if bt250.2.2.2.2.2.2 = 0 then (if bt250.2.2.2.2.2.1 = 4 then (if bt250.2.2.2.1.toList = ([120, 121, 120, 121, 98, 10, 120, 121, 120, 121] : List UInt8) then (some (bt262.2.2.2.2.2.2 == 6)) else (some false)) else (some false)) else (some false))))
theorem bureaulaw15_alive.mono : ∀ k, LeO (bureaulaw15_alive.f k ) (bureaulaw15_alive.f (k + 1) ) := by
 intro  k
 unfold bureaulaw15_alive.f
 repeat' first
   | (with_reducible exact subst_Do.mono _ _ _ _ _ _ _ _ _)
   | (with_reducible exact LeO.refl _)
   | (with_reducible exact LeO.none _)
   | (with_reducible refine LeO.ite ?_ ?_)
   | (with_reducible refine LeO.bind ?_ (fun _ => ?_))
   | exact subst_Do.mono _ _ _ _ _ _ _ _ _
   | exact LeO.none _
   | refine LeO.ite ?_ ?_
   | refine LeO.bind ?_ (fun _ => ?_)
set_option maxHeartbeats 8000000 in
set_option maxRecDepth 100000 in
theorem bureaulaw15_alive.calls (k : Nat)  (r : Bool) (w : World) (hMX : MaxOk w) (h : bureaulaw15_alive.f k  = some r) (hrt : r = true := by rfl) :
  Calls Try.prog 8 #[] w fun e w' => e = .returned (.bool r) ∧ Below w.heap.size w w' := by
 have HMX := aM hMX
 clear hMX
 have hu51 := Try.underlying51
 have hu24 := Try.underlying24
 have hu28 := Try.underlying28
 have hu32 := Try.underlying32
 have HB := aM (Below.refl w.heap.size w)
 have H : ((some (([(⟨1, 6⟩ : S51)] : List (S51)) : List (S51))).bind fun y246 => ((subst_Do.f k (⟨#[97, 97, 98, 10, 97, 97]⟩ : ByteArray) y246 1 0 1 (⟨#[97]⟩ : ByteArray) (⟨#[120, 121]⟩ : ByteArray) true).bind fun bt250 => ((subst_Do.f k (⟨#[97, 97, 98, 10, 97, 97]⟩ : ByteArray) y246 1 1 1 (⟨#[98]⟩ : ByteArray) (⟨#[]⟩ : ByteArray) false).bind fun bt262 => (if bt250.2.2.2.2.2.2 = 0 then (if bt250.2.2.2.2.2.1 = 4 then (if bt250.2.2.2.1.toList = ([120, 121, 120, 121, 98, 10, 120, 121, 120, 121] : List UInt8) then (some (bt262.2.2.2.2.2.2 == 6)) else (some false)) else (some false)) else (some false))))) = some r := h
 clear h
 obtain ⟨y246, hy246⟩ : ∃ y_ : List (S51), y_ = (([(⟨1, 6⟩ : S51)] : List (S51))) := ⟨_, rfl⟩
 replace H : ((subst_Do.f k (⟨#[97, 97, 98, 10, 97, 97]⟩ : ByteArray) y246 1 0 1 (⟨#[97]⟩ : ByteArray) (⟨#[120, 121]⟩ : ByteArray) true).bind fun bt250 => ((subst_Do.f k (⟨#[97, 97, 98, 10, 97, 97]⟩ : ByteArray) y246 1 1 1 (⟨#[98]⟩ : ByteArray) (⟨#[]⟩ : ByteArray) false).bind fun bt262 => (if bt250.2.2.2.2.2.2 = 0 then (if bt250.2.2.2.2.2.1 = 4 then (if bt250.2.2.2.1.toList = ([120, 121, 120, 121, 98, 10, 120, 121, 120, 121] : List UInt8) then (some (bt262.2.2.2.2.2.2 == 6)) else (some false)) else (some false)) else (some false)))) = some r := by first | (rw [hy246]; with_reducible exact H) | (have H2_ := (Option.bind_some _ _).symm.trans H; rw [hy246]; with_reducible exact H2_) | (have H2_ := (Option.bind_some _ _).symm.trans H; with_reducible exact H2_) | with_reducible exact H | (rw [hy246]; exact H) | exact H
 have Ny246 := aM hy246
 clear hy246
 replace H := Option.bind_eq_some_iff.mp H
 obtain ⟨⟨t250, t251, t252, t255, t256, t259, t260⟩, A10, H⟩ := H
 replace H : ((subst_Do.f k (⟨#[97, 97, 98, 10, 97, 97]⟩ : ByteArray) y246 1 1 1 (⟨#[98]⟩ : ByteArray) (⟨#[]⟩ : ByteArray) false).bind fun bt262 => (if t260 = 0 then (if t259 = 4 then (if t255.toList = ([120, 121, 120, 121, 98, 10, 120, 121, 120, 121] : List UInt8) then (some (bt262.2.2.2.2.2.2 == 6)) else (some false)) else (some false)) else (some false))) = some r := H
 have A1 := aM A10
 clear A10
 replace H := Option.bind_eq_some_iff.mp H
 obtain ⟨⟨t262, t263, t264, t267, t268, t271, t272⟩, A20, H⟩ := H
 replace H : (if t260 = 0 then (if t259 = 4 then (if t255.toList = ([120, 121, 120, 121, 98, 10, 120, 121, 120, 121] : List UInt8) then (some (t272 == 6)) else (some false)) else (some false)) else (some false)) = some r := H
 have A2 := aM A20
 clear A20
 by_cases c3 : t260 = 0
 ·rw [if_pos c3] at H
  have c3b0 : (t260 == 0) = true := beq_iff_eq.mpr c3
  have c3b1 : (t260 != 0) = false := bne_eq_false_iff_eq.mpr c3
  clear c3
  by_cases c4 : t259 = 4
  ·rw [if_pos c4] at H
   have c4b0 : (t259 == 4) = true := beq_iff_eq.mpr c4
   have c4b1 : (t259 != 4) = false := bne_eq_false_iff_eq.mpr c4
   clear c4
   by_cases c5 : t255.toList = ([120, 121, 120, 121, 98, 10, 120, 121, 120, 121] : List UInt8)
   ·rw [if_pos c5] at H
    have c5b0 : (t255.toList == ([120, 121, 120, 121, 98, 10, 120, 121, 120, 121] : List UInt8)) = true := beq_iff_eq.mpr c5
    have c5b1 : (t255.toList != ([120, 121, 120, 121, 98, 10, 120, 121, 120, 121] : List UInt8)) = false := bne_eq_false_iff_eq.mpr c5
    clear c5
    obtain rfl := Option.some.inj H
    go_enter Try.func8, Try.ntmps8
    go_wp2_with (first | ((with_reducible refine gate_dst (N := 9) rfl ?_); refine Kd.R_lit k51 _ 51 ?hg (N := 9) ?hd (xs := ([(⟨1, 6⟩ : S51)] : List (S51))) (inner := [.int .u64 1, .int .i64 6]) (ok := fun _ => True) (okp := fun _ => True) ?hr ?hp (fun _ hk => hk) trivial (Below.refl _ _) (Nat.le_refl _) (by simp) ?_; (case hd | hg => rfl); (case hr => first | (go_simp; done) | (go_simp; rfl)); (case hp => exact (Reps.c2 (show Kd.M k51 _ _ _ (⟨1, 6⟩ : S51) [.int .u64 1, .int .i64 6] from (k51_mkM _ _ _ (⟨1, 6⟩ : S51) )) (Reps.none _ _))); intro v247 w6 ho7 hb hg_ hnew_; clear hg_ hnew_; (first | rw [← Ny246.out] at ho7 | (simp only [Int.reduceToNat] at ho7; rw [← Ny246.out] at ho7)); have n0_ := aM (rL ho7 (bZ (ey HB.out))); have n1_ := aM (bP (ey HB.out) hb); clear HB; have HO248 := n0_; have HB := n1_; clear n0_ n1_; clear hb ho7; obtain ⟨Ao8, co8, eo8⟩ := Kd.R_slice HO248.out; subst eo8) | ((with_reducible refine gate_dst (N := 1) rfl ?_); refine box_event ?hg (N := 1) ?hd (cs := #[.string (⟨#[]⟩ : ByteArray), .slice none 0 0]) (t := 24) ?hr ?_; (case hd | hg => rfl); (case hr => first | (go_simp; done) | (go_simp; rfl)); intro gb249 hg w9 hbox hb; have n0_ := aM (Kd.R_below (ry HO248.out) hb); have n1_ := aM (bP (ey HB.out) hb); have n2_ := aM (hbox); have n3_ := aM ((by rw [hg]; exact (bZ (ey HB.out)) : w.heap.size ≤ gb249)); have n4_ := n3_; clear HO248 HB; have HO248 := n0_; have HB := n1_; have BK249 := n2_; have GW249 := n3_; have GE249 := n4_; clear n0_ n1_ n2_ n3_ n4_; clear hb hbox hg; have hcz10_0 := zC BK249.out 0 (.string (⟨#[]⟩ : ByteArray)); have hcz10_1 := zC BK249.out 1 (.slice none 0 0); have hfz10_0 := bF BK249.out 0; have hfz10_1 := bF BK249.out 1) | ((with_reducible refine gate_callee (f := 10) rfl ?_); refine goesL_ (some 14) rfl rfl Try.func10 (by kernel_rfl) rfl #[.agg #[.string (⟨#[97, 97, 98, 10, 97, 97]⟩ : ByteArray), .slice Ao8 y246.length co8], .int .u64 1, .agg #[.int .i64 0, .int .i64 1, .string (⟨#[97]⟩ : ByteArray), .string (⟨#[120, 121]⟩ : ByteArray), .bool true]] rfl (by (try simp only [mT, mC, mN]); first | done | rfl | (simp only [lD, lT]; rfl)) ?_; (with_reducible refine (subst_Do.calls k (⟨#[97, 97, 98, 10, 97, 97]⟩ : ByteArray) _ _ y246 1 0 1 (⟨#[97]⟩ : ByteArray) (⟨#[120, 121]⟩ : ByteArray) true t250 t251 t252 t255 t256 t259 t260 _ ?mx6 ?side1 ?side2 A1.out).mono ?_); (case mx6 => exact MaxOk.below HMX.out (by repeat (first | (with_reducible first | exact HB.out | apply ea | apply en | apply ed | refine es ?_ GE249.out) | exact HB.out))); (case side1 => refine (rR (e := 51) (base := w.heap.size) (ok := fun k_ => True) (n := y246.length) (c := co8) ?_).2.2; exact (by (with_reducible repeat (first | apply ra | apply rn | apply rd_)); exact (rM (rF (p := ⟨gb249, 1, none⟩) (rF (p := ⟨gb249, 0, none⟩) (rT HO248.out BK249.out (by decide)) (fun _ hk => hk.2) (.string (⟨#[97, 97, 98, 10, 97, 97]⟩ : ByteArray))) (fun _ hk => hk.2) (.slice Ao8 y246.length co8)) (fun _ h_ => h_.1)))); (case side2 => exact (rR HO248.out).2.1); rintro e w11 ⟨v253, v257, rfl, ho0, ho1, hb⟩; refine ⟨_, rfl, ?_⟩; have n0_ := aM (rM (Kd.R_told (Kd.R_told (Kd.R_old (by (with_reducible repeat (first | apply ra | apply rn | apply rd_)); exact (rM (rF (p := ⟨gb249, 1, none⟩) (rF (p := ⟨gb249, 0, none⟩) (rT HO248.out BK249.out (by decide)) (fun _ hk => hk.2) (.string (⟨#[97, 97, 98, 10, 97, 97]⟩ : ByteArray))) (fun _ hk => hk.2) (.slice Ao8 y246.length co8)) (fun _ h_ => h_.1))) hb) (Kd.R_base ho0)) (Kd.R_base ho1)) (fun _ h_ => h_.1)); have n1_ := aM (rL (Kd.R_new' ho0 (Kd.R_lt (by (with_reducible repeat (first | apply ra | apply rn | apply rd_)); exact (rM (rF (p := ⟨gb249, 1, none⟩) (rF (p := ⟨gb249, 0, none⟩) (rT HO248.out BK249.out (by decide)) (fun _ hk => hk.2) (.string (⟨#[97, 97, 98, 10, 97, 97]⟩ : ByteArray))) (fun _ hk => hk.2) (.slice Ao8 y246.length co8)) (fun _ h_ => h_.1))))) (bZ (by repeat (first | (with_reducible first | exact HB.out | apply ea | apply en | apply ed | refine es ?_ GE249.out) | exact HB.out)))); have n2_ := aM (rL (Kd.R_new' ho1 (Kd.R_lt (by (with_reducible repeat (first | apply ra | apply rn | apply rd_)); exact (rM (rF (p := ⟨gb249, 1, none⟩) (rF (p := ⟨gb249, 0, none⟩) (rT HO248.out BK249.out (by decide)) (fun _ hk => hk.2) (.string (⟨#[97, 97, 98, 10, 97, 97]⟩ : ByteArray))) (fun _ hk => hk.2) (.slice Ao8 y246.length co8)) (fun _ h_ => h_.1))))) (bZ (by repeat (first | (with_reducible first | exact HB.out | apply ea | apply en | apply ed | refine es ?_ GE249.out) | exact HB.out)))); have n3_ := aM (bB (g := gb249) (o := .cells #[.string (⟨#[97, 97, 98, 10, 97, 97]⟩ : ByteArray), .slice Ao8 y246.length co8] 24 (0, 0)) (by (with_reducible repeat (first | apply qn | apply qd | apply qa)); refine bU (cs := #[.string (⟨#[97, 97, 98, 10, 97, 97]⟩ : ByteArray), .slice none 0 0]) ?_ 1 _ rfl; (with_reducible repeat (first | apply qn | apply qd | apply qa)); refine bU (cs := #[.string (⟨#[]⟩ : ByteArray), .slice none 0 0]) ?_ 0 _ rfl; exact qy BK249.out) hb); have n4_ := aM (bP (by repeat (first | (with_reducible first | exact HB.out | apply ea | apply en | apply ed | refine es ?_ GE249.out) | exact HB.out)) hb); clear HO248 BK249 HB; have HO248 := n0_; have HO254 := n1_; have HO258 := n2_; have BK249 := n3_; have HB := n4_; clear n0_ n1_ n2_ n3_ n4_; (try clear hb); (try clear hb2); (try clear hk); (try clear hi); (try clear ho0); (try clear ho1)) | ((with_reducible refine gate_dst (N := 2) rfl ?_); refine box_event ?hg (N := 2) ?hd (cs := #[.int .i64 0, .string (⟨#[]⟩ : ByteArray), .slice none 0 0, .string (⟨#[]⟩ : ByteArray), .slice none 0 0]) (t := 32) ?hr ?_; (case hd | hg => rfl); (case hr => first | (go_simp; done) | (go_simp; rfl)); intro gb261 hg w12 hbox hb; have n0_ := aM (Kd.R_below (ry HO248.out) hb); have n1_ := aM (Kd.R_below (ry HO254.out) hb); have n2_ := aM (Kd.R_below (ry HO258.out) hb); have n3_ := aM (bB (g := gb249) (qy BK249.out) hb); have n4_ := aM (bP (by repeat (first | (with_reducible first | exact HB.out | apply ea | apply en | apply ed | refine es ?_ GE249.out) | exact HB.out)) hb); have n5_ := aM (hbox); have n6_ := aM ((by rw [hg]; exact (bZ (by repeat (first | (with_reducible first | exact HB.out | apply ea | apply en | apply ed | refine es ?_ GE249.out) | exact HB.out))) : w.heap.size ≤ gb261)); have n7_ := n6_; have n8_ := aM ((by rw [hg]; exact Nat.ne_of_lt (blk_lt (g := gb249) (qy BK249.out)) : gb249 ≠ gb261)); have n9_ := aM ((by rw [hg]; exact Nat.ne_of_gt (blk_lt (g := gb249) (qy BK249.out)) : gb261 ≠ gb249)); clear HO248 HO254 HO258 BK249 HB; have HO248 := n0_; have HO254 := n1_; have HO258 := n2_; have BK249 := n3_; have HB := n4_; have BK261 := n5_; have GW261 := n6_; have GE261 := n7_; have NB249_261 := n8_; have NB261_249 := n9_; clear n0_ n1_ n2_ n3_ n4_ n5_ n6_ n7_ n8_ n9_; clear hb hbox hg; have hnb13 := NB261_249.out; have hnc13 := NB249_261.out; have hcz14_0 := zC BK261.out 0 (.int .i64 0); have hcz14_1 := zC BK261.out 1 (.string (⟨#[]⟩ : ByteArray)); have hcz14_2 := zC BK261.out 2 (.slice none 0 0); have hcz14_3 := zC BK261.out 3 (.string (⟨#[]⟩ : ByteArray)); have hcz14_4 := zC BK261.out 4 (.slice none 0 0); have hfz14_0 := bF BK261.out 0; have hfz14_1 := bF BK261.out 1; have hfz14_2 := bF BK261.out 2; have hfz14_3 := bF BK261.out 3; have hfz14_4 := bF BK261.out 4; obtain ⟨Ao15, co15, eo15⟩ := Kd.R_slice HO254.out; subst eo15; obtain ⟨Ao16, co16, eo16⟩ := Kd.R_slice HO258.out; subst eo16; have hcz17_0 := zC BK249.out 0 (.string (⟨#[97, 97, 98, 10, 97, 97]⟩ : ByteArray)); have hcz17_1 := zC BK249.out 1 (.slice Ao8 y246.length co8); have hfz17_0 := bF BK249.out 0; have hfz17_1 := bF BK249.out 1) | ((with_reducible refine gate_callee (f := 10) rfl ?_); refine goesL_ (some 21) rfl rfl Try.func10 (by kernel_rfl) rfl #[.agg #[.string (⟨#[97, 97, 98, 10, 97, 97]⟩ : ByteArray), .slice Ao8 y246.length co8], .int .u64 1, .agg #[.int .i64 1, .int .i64 1, .string (⟨#[98]⟩ : ByteArray), .string (⟨#[]⟩ : ByteArray), .bool false]] rfl (by (try simp only [mT, mC, mN]); first | done | rfl | (simp only [lD, lT]; rfl)) ?_; (with_reducible refine (subst_Do.calls k (⟨#[97, 97, 98, 10, 97, 97]⟩ : ByteArray) _ _ y246 1 1 1 (⟨#[98]⟩ : ByteArray) (⟨#[]⟩ : ByteArray) false t262 t263 t264 t267 t268 t271 t272 _ ?mx7 ?side1 ?side2 A2.out).mono ?_); (case mx7 => exact MaxOk.below HMX.out (by repeat (first | (with_reducible first | exact HB.out | apply ea | apply en | apply ed | refine es ?_ GE249.out | refine es ?_ GE261.out) | exact HB.out))); (case side1 => refine (rR (e := 51) (base := w.heap.size) (ok := fun k_ => ((True ∧ some k_ ≠ (.slice Ao15 t252.length co15 : Value).ownBlock) ∧ some k_ ≠ (.slice Ao16 t256.length co16 : Value).ownBlock)) (n := y246.length) (c := co8) ?_).2.2; exact (by (with_reducible repeat (first | apply ra | apply rn | apply rd_)); exact (rM (rF (p := ⟨gb261, 4, none⟩) (rF (p := ⟨gb261, 3, none⟩) (rF (p := ⟨gb261, 2, none⟩) (rF (p := ⟨gb261, 1, none⟩) (rF (p := ⟨gb261, 0, none⟩) (rT HO248.out BK261.out (by decide)) (fun _ hk => hk.2) (.int .i64 t250)) (fun _ hk => hk.2) (.string t251)) (fun _ hk => hk.2) (.slice Ao15 t252.length co15)) (fun _ hk => hk.2) (.string t255)) (fun _ hk => hk.2) (.slice Ao16 t256.length co16)) (fun _ h_ => h_.1)))); (case side2 => exact (rR HO248.out).2.1); rintro e w18 ⟨v265, v269, rfl, ho0, ho1, hb⟩; refine ⟨_, rfl, ?_⟩; have n0_ := aM (rM (Kd.R_told (Kd.R_told (Kd.R_old (by (with_reducible repeat (first | apply ra | apply rn | apply rd_)); exact (rM (rF (p := ⟨gb261, 4, none⟩) (rF (p := ⟨gb261, 3, none⟩) (rF (p := ⟨gb261, 2, none⟩) (rF (p := ⟨gb261, 1, none⟩) (rF (p := ⟨gb261, 0, none⟩) (rT HO248.out BK261.out (by decide)) (fun _ hk => hk.2) (.int .i64 t250)) (fun _ hk => hk.2) (.string t251)) (fun _ hk => hk.2) (.slice Ao15 t252.length co15)) (fun _ hk => hk.2) (.string t255)) (fun _ hk => hk.2) (.slice Ao16 t256.length co16)) (fun _ h_ => h_.1))) hb) (Kd.R_base ho0)) (Kd.R_base ho1)) (fun _ h_ => h_.1)); have n1_ := aM (rM (Kd.R_told (Kd.R_told (Kd.R_old (by (with_reducible repeat (first | apply ra | apply rn | apply rd_)); exact (rM (rF (p := ⟨gb261, 4, none⟩) (rF (p := ⟨gb261, 3, none⟩) (rF (p := ⟨gb261, 2, none⟩) (rF (p := ⟨gb261, 1, none⟩) (rF (p := ⟨gb261, 0, none⟩) (rT HO254.out BK261.out (by decide)) (fun _ hk => hk.2) (.int .i64 t250)) (fun _ hk => hk.2) (.string t251)) (fun _ hk => hk.2) (.slice Ao15 t252.length co15)) (fun _ hk => hk.2) (.string t255)) (fun _ hk => hk.2) (.slice Ao16 t256.length co16)) (fun _ h_ => h_.1))) hb) (Kd.R_base ho0)) (Kd.R_base ho1)) (fun _ h_ => h_.1)); have n2_ := aM (rM (Kd.R_told (Kd.R_told (Kd.R_old (by (with_reducible repeat (first | apply ra | apply rn | apply rd_)); exact (rM (rF (p := ⟨gb261, 4, none⟩) (rF (p := ⟨gb261, 3, none⟩) (rF (p := ⟨gb261, 2, none⟩) (rF (p := ⟨gb261, 1, none⟩) (rF (p := ⟨gb261, 0, none⟩) (rT HO258.out BK261.out (by decide)) (fun _ hk => hk.2) (.int .i64 t250)) (fun _ hk => hk.2) (.string t251)) (fun _ hk => hk.2) (.slice Ao15 t252.length co15)) (fun _ hk => hk.2) (.string t255)) (fun _ hk => hk.2) (.slice Ao16 t256.length co16)) (fun _ h_ => h_.1))) hb) (Kd.R_base ho0)) (Kd.R_base ho1)) (fun _ h_ => h_.1)); have n3_ := aM (rL (Kd.R_new' (Kd.R_new' (Kd.R_new' ho0 (Kd.R_lt (by (with_reducible repeat (first | apply ra | apply rn | apply rd_)); exact (rM (rF (p := ⟨gb261, 4, none⟩) (rF (p := ⟨gb261, 3, none⟩) (rF (p := ⟨gb261, 2, none⟩) (rF (p := ⟨gb261, 1, none⟩) (rF (p := ⟨gb261, 0, none⟩) (rT HO248.out BK261.out (by decide)) (fun _ hk => hk.2) (.int .i64 t250)) (fun _ hk => hk.2) (.string t251)) (fun _ hk => hk.2) (.slice Ao15 t252.length co15)) (fun _ hk => hk.2) (.string t255)) (fun _ hk => hk.2) (.slice Ao16 t256.length co16)) (fun _ h_ => h_.1))))) (Kd.R_lt (by (with_reducible repeat (first | apply ra | apply rn | apply rd_)); exact (rM (rF (p := ⟨gb261, 4, none⟩) (rF (p := ⟨gb261, 3, none⟩) (rF (p := ⟨gb261, 2, none⟩) (rF (p := ⟨gb261, 1, none⟩) (rF (p := ⟨gb261, 0, none⟩) (rT HO254.out BK261.out (by decide)) (fun _ hk => hk.2) (.int .i64 t250)) (fun _ hk => hk.2) (.string t251)) (fun _ hk => hk.2) (.slice Ao15 t252.length co15)) (fun _ hk => hk.2) (.string t255)) (fun _ hk => hk.2) (.slice Ao16 t256.length co16)) (fun _ h_ => h_.1))))) (Kd.R_lt (by (with_reducible repeat (first | apply ra | apply rn | apply rd_)); exact (rM (rF (p := ⟨gb261, 4, none⟩) (rF (p := ⟨gb261, 3, none⟩) (rF (p := ⟨gb261, 2, none⟩) (rF (p := ⟨gb261, 1, none⟩) (rF (p := ⟨gb261, 0, none⟩) (rT HO258.out BK261.out (by decide)) (fun _ hk => hk.2) (.int .i64 t250)) (fun _ hk => hk.2) (.string t251)) (fun _ hk => hk.2) (.slice Ao15 t252.length co15)) (fun _ hk => hk.2) (.string t255)) (fun _ hk => hk.2) (.slice Ao16 t256.length co16)) (fun _ h_ => h_.1))))) (bZ (by repeat (first | (with_reducible first | exact HB.out | apply ea | apply en | apply ed | refine es ?_ GE249.out | refine es ?_ GE261.out) | exact HB.out)))); have n4_ := aM (rL (Kd.R_new' (Kd.R_new' (Kd.R_new' ho1 (Kd.R_lt (by (with_reducible repeat (first | apply ra | apply rn | apply rd_)); exact (rM (rF (p := ⟨gb261, 4, none⟩) (rF (p := ⟨gb261, 3, none⟩) (rF (p := ⟨gb261, 2, none⟩) (rF (p := ⟨gb261, 1, none⟩) (rF (p := ⟨gb261, 0, none⟩) (rT HO248.out BK261.out (by decide)) (fun _ hk => hk.2) (.int .i64 t250)) (fun _ hk => hk.2) (.string t251)) (fun _ hk => hk.2) (.slice Ao15 t252.length co15)) (fun _ hk => hk.2) (.string t255)) (fun _ hk => hk.2) (.slice Ao16 t256.length co16)) (fun _ h_ => h_.1))))) (Kd.R_lt (by (with_reducible repeat (first | apply ra | apply rn | apply rd_)); exact (rM (rF (p := ⟨gb261, 4, none⟩) (rF (p := ⟨gb261, 3, none⟩) (rF (p := ⟨gb261, 2, none⟩) (rF (p := ⟨gb261, 1, none⟩) (rF (p := ⟨gb261, 0, none⟩) (rT HO254.out BK261.out (by decide)) (fun _ hk => hk.2) (.int .i64 t250)) (fun _ hk => hk.2) (.string t251)) (fun _ hk => hk.2) (.slice Ao15 t252.length co15)) (fun _ hk => hk.2) (.string t255)) (fun _ hk => hk.2) (.slice Ao16 t256.length co16)) (fun _ h_ => h_.1))))) (Kd.R_lt (by (with_reducible repeat (first | apply ra | apply rn | apply rd_)); exact (rM (rF (p := ⟨gb261, 4, none⟩) (rF (p := ⟨gb261, 3, none⟩) (rF (p := ⟨gb261, 2, none⟩) (rF (p := ⟨gb261, 1, none⟩) (rF (p := ⟨gb261, 0, none⟩) (rT HO258.out BK261.out (by decide)) (fun _ hk => hk.2) (.int .i64 t250)) (fun _ hk => hk.2) (.string t251)) (fun _ hk => hk.2) (.slice Ao15 t252.length co15)) (fun _ hk => hk.2) (.string t255)) (fun _ hk => hk.2) (.slice Ao16 t256.length co16)) (fun _ h_ => h_.1))))) (bZ (by repeat (first | (with_reducible first | exact HB.out | apply ea | apply en | apply ed | refine es ?_ GE249.out | refine es ?_ GE261.out) | exact HB.out)))); have n5_ := aM (bB (g := gb249) (o := .cells #[.string (⟨#[97, 97, 98, 10, 97, 97]⟩ : ByteArray), .slice Ao8 y246.length co8] 24 (0, 0)) (by (with_reducible repeat (first | apply qn | apply qd | apply qa)); refine bR ?_ NB249_261.out _; (with_reducible repeat (first | apply qn | apply qd | apply qa)); refine bR ?_ NB249_261.out _; (with_reducible repeat (first | apply qn | apply qd | apply qa)); refine bR ?_ NB249_261.out _; (with_reducible repeat (first | apply qn | apply qd | apply qa)); refine bR ?_ NB249_261.out _; (with_reducible repeat (first | apply qn | apply qd | apply qa)); refine bR ?_ NB249_261.out _; exact qy BK249.out) hb); have n6_ := aM (bB (g := gb261) (o := .cells #[.int .i64 t250, .string t251, .slice Ao15 t252.length co15, .string t255, .slice Ao16 t256.length co16] 32 (0, 0)) (by (with_reducible repeat (first | apply qn | apply qd | apply qa)); refine bU (cs := #[.int .i64 t250, .string t251, .slice Ao15 t252.length co15, .string t255, .slice none 0 0]) ?_ 4 _ rfl; (with_reducible repeat (first | apply qn | apply qd | apply qa)); refine bU (cs := #[.int .i64 t250, .string t251, .slice Ao15 t252.length co15, .string (⟨#[]⟩ : ByteArray), .slice none 0 0]) ?_ 3 _ rfl; (with_reducible repeat (first | apply qn | apply qd | apply qa)); refine bU (cs := #[.int .i64 t250, .string t251, .slice none 0 0, .string (⟨#[]⟩ : ByteArray), .slice none 0 0]) ?_ 2 _ rfl; (with_reducible repeat (first | apply qn | apply qd | apply qa)); refine bU (cs := #[.int .i64 t250, .string (⟨#[]⟩ : ByteArray), .slice none 0 0, .string (⟨#[]⟩ : ByteArray), .slice none 0 0]) ?_ 1 _ rfl; (with_reducible repeat (first | apply qn | apply qd | apply qa)); refine bU (cs := #[.int .i64 0, .string (⟨#[]⟩ : ByteArray), .slice none 0 0, .string (⟨#[]⟩ : ByteArray), .slice none 0 0]) ?_ 0 _ rfl; exact qy BK261.out) hb); have n7_ := aM (bP (by repeat (first | (with_reducible first | exact HB.out | apply ea | apply en | apply ed | refine es ?_ GE249.out | refine es ?_ GE261.out) | exact HB.out)) hb); clear HO248 HO254 HO258 BK249 BK261 HB; have HO248 := n0_; have HO254 := n1_; have HO258 := n2_; have HO266 := n3_; have HO270 := n4_; have BK249 := n5_; have BK261 := n6_; have HB := n7_; clear n0_ n1_ n2_ n3_ n4_ n5_ n6_ n7_; (try clear hb); (try clear hb2); (try clear hk); (try clear hi); (try clear ho0); (try clear ho1)) | ((with_reducible refine gate_dst (N := 5) rfl ?_); refine box_event ?hg (N := 5) ?hd (cs := #[.int .i64 0, .string (⟨#[]⟩ : ByteArray), .slice none 0 0, .string (⟨#[]⟩ : ByteArray), .slice none 0 0]) (t := 32) ?hr ?_; (case hd | hg => rfl); (case hr => first | (go_simp; done) | (go_simp; rfl)); intro gb273 hg w19 hbox hb; have n0_ := aM (Kd.R_below (ry HO248.out) hb); have n1_ := aM (Kd.R_below (ry HO254.out) hb); have n2_ := aM (Kd.R_below (ry HO258.out) hb); have n3_ := aM (Kd.R_below (ry HO266.out) hb); have n4_ := aM (Kd.R_below (ry HO270.out) hb); have n5_ := aM (bB (g := gb249) (qy BK249.out) hb); have n6_ := aM (bB (g := gb261) (qy BK261.out) hb); have n7_ := aM (bP (by repeat (first | (with_reducible first | exact HB.out | apply ea | apply en | apply ed | refine es ?_ GE249.out | refine es ?_ GE261.out) | exact HB.out)) hb); have n8_ := aM (hbox); have n9_ := aM ((by rw [hg]; exact (bZ (by repeat (first | (with_reducible first | exact HB.out | apply ea | apply en | apply ed | refine es ?_ GE249.out | refine es ?_ GE261.out) | exact HB.out))) : w.heap.size ≤ gb273)); have n10_ := n9_; have n11_ := aM ((by rw [hg]; exact Nat.ne_of_lt (blk_lt (g := gb249) (qy BK249.out)) : gb249 ≠ gb273)); have n12_ := aM ((by rw [hg]; exact Nat.ne_of_gt (blk_lt (g := gb249) (qy BK249.out)) : gb273 ≠ gb249)); have n13_ := aM ((by rw [hg]; exact Nat.ne_of_lt (blk_lt (g := gb261) (qy BK261.out)) : gb261 ≠ gb273)); have n14_ := aM ((by rw [hg]; exact Nat.ne_of_gt (blk_lt (g := gb261) (qy BK261.out)) : gb273 ≠ gb261)); clear HO248 HO254 HO258 HO266 HO270 BK249 BK261 HB; have HO248 := n0_; have HO254 := n1_; have HO258 := n2_; have HO266 := n3_; have HO270 := n4_; have BK249 := n5_; have BK261 := n6_; have HB := n7_; have BK273 := n8_; have GW273 := n9_; have GE273 := n10_; have NB249_273 := n11_; have NB273_249 := n12_; have NB261_273 := n13_; have NB273_261 := n14_; clear n0_ n1_ n2_ n3_ n4_ n5_ n6_ n7_ n8_ n9_ n10_ n11_ n12_ n13_ n14_; clear hb hbox hg; have hnb20 := NB273_249.out; have hnc20 := NB249_273.out; have hnb21 := NB273_261.out; have hnc21 := NB261_273.out; have hcz22_0 := zC BK273.out 0 (.int .i64 0); have hcz22_1 := zC BK273.out 1 (.string (⟨#[]⟩ : ByteArray)); have hcz22_2 := zC BK273.out 2 (.slice none 0 0); have hcz22_3 := zC BK273.out 3 (.string (⟨#[]⟩ : ByteArray)); have hcz22_4 := zC BK273.out 4 (.slice none 0 0); have hfz22_0 := bF BK273.out 0; have hfz22_1 := bF BK273.out 1; have hfz22_2 := bF BK273.out 2; have hfz22_3 := bF BK273.out 3; have hfz22_4 := bF BK273.out 4; obtain ⟨Ao23, co23, eo23⟩ := Kd.R_slice HO266.out; subst eo23; obtain ⟨Ao24, co24, eo24⟩ := Kd.R_slice HO270.out; subst eo24; have hcz25_0 := zC BK261.out 0 (.int .i64 t250); have hcz25_1 := zC BK261.out 1 (.string t251); have hcz25_2 := zC BK261.out 2 (.slice Ao15 t252.length co15); have hcz25_3 := zC BK261.out 3 (.string t255); have hcz25_4 := zC BK261.out 4 (.slice Ao16 t256.length co16); have hfz25_0 := bF BK261.out 0; have hfz25_1 := bF BK261.out 1; have hfz25_2 := bF BK261.out 2; have hfz25_3 := bF BK261.out 3; have hfz25_4 := bF BK261.out 4))
    go_ret
    exact ⟨by first | rfl | (simp [errW_none, errW_some] <;> rfl) | (simp [*, errW_none, errW_some] <;> rfl), by repeat (first | (with_reducible first | exact HB.out | apply ea | apply en | apply ed | refine es ?_ GE249.out | refine es ?_ GE261.out | refine es ?_ GE273.out) | exact HB.out)⟩
   ·rw [if_neg c5] at H
    have c5b0 : (t255.toList == ([120, 121, 120, 121, 98, 10, 120, 121, 120, 121] : List UInt8)) = false := beq_eq_false_iff_ne.mpr c5
    have c5b1 : (t255.toList != ([120, 121, 120, 121, 98, 10, 120, 121, 120, 121] : List UInt8)) = true := bne_iff_ne.mpr c5
    exact absurd (Option.some.inj H) (by rw [hrt]; decide)
  ·rw [if_neg c4] at H
   have c4b0 : (t259 == 4) = false := beq_eq_false_iff_ne.mpr c4
   have c4b1 : (t259 != 4) = true := bne_iff_ne.mpr c4
   exact absurd (Option.some.inj H) (by rw [hrt]; decide)
 ·rw [if_neg c3] at H
  have c3b0 : (t260 == 0) = false := beq_eq_false_iff_ne.mpr c3
  have c3b1 : (t260 != 0) = true := bne_iff_ne.mpr c3
  exact absurd (Option.some.inj H) (by rw [hrt]; decide)
end Go.Proofs.Ytnbdldpjiofafaa.PB
end

section
namespace Go.Proofs.Ytnbdldpjiofafaa.PB
open Go.RowKit Go.Proofs.YtnbdldpjiofafaaW.PrintWords Go.Proofs.YtnbdldpjiofafaaW.PrintLast Go.Proofs.YtnbdldpjiofafaaW.PrintMore
attribute [local go_sem] max2_int min2_int max_two min_two max_three min_three max_four min_four   
set_option linter.unusedVariables false
set_option linter.unusedSimpArgs false
def bureauref06_Ends.l0 : Nat → ByteArray → List Int → Int → Option (List Int)
 | 0, _, _, _ => none
 | k + 1, x0, x3, x4 => if x4 < (x0.size : Int) then (if 0 ≤ x4 then (if (bt x0 x4) = 10 then (if x3.length < 17592186044416 then (bureauref06_Ends.l0 k x0 (x3 ++ [x4]) (wrap64 (x4 + 1))) else (none)) else (bureauref06_Ends.l0 k x0 x3 (wrap64 (x4 + 1)))) else (none)) else (if x3.length < 17592186044416 then (some (x3 ++ [(x0.size : Int)])) else (none))
def bureauref06_Ends.f (k : Nat) (a0 : ByteArray) : Option (List Int) := bureauref06_Ends.l0 k a0 ([] : List Int) 0
set_option maxHeartbeats 8000000 in
set_option maxRecDepth 100000 in
theorem bureauref06_Ends.calls (k : Nat) (a0 : ByteArray) (r : List Int) (w : World) (h : bureauref06_Ends.f k a0 = some r) :
  Calls Try.prog 56 #[.string a0] w fun e w' => ∃ v0_ : Value, e = .returned (v0_) ∧ Kd.R (Kd.int .i64) 3 w' w.heap.size (fun _ => True) v0_ r ∧ Below w.heap.size w w' := by
 have HB := aM (Below.refl w.heap.size w)
 have H : (bureauref06_Ends.l0 k a0 ([] : List Int) 0) = some r := h
 clear h
 have H' := aM H
 clear H
 go_enter Try.func56, Try.ntmps56
 go_wp2
 go_loopg [3, 4] k (fun kq v3 v4 w' => ∃ (x3_1 : List Int) (x4_1 : Int), v4 = .int .i64 x4_1 ∧ Aside0 (bureauref06_Ends.l0 kq a0 x3_1 x4_1 = some r) ∧ Aside0 (kq ≤ k) ∧ Aside0 (Kd.R (Kd.int .i64) 3 w' w.heap.size (fun _ => True) v3 x3_1) ∧ Aside0 (Below w.heap.size w w'))
 case atStart => exact ⟨(([] : List Int)), (0), (by first | rfl | (simp; done) | (simp [*]; done)), H', ⟨Nat.le_refl _⟩, ⟨by first | exact Kd.R_nil _ _ _ _ _ | exact Kd.N_nil _ _ _ _ _ | exact Kd.V_nil _ _ _ _ _ | exact Kd.Q_nil _ _ _ _ _ | exact Kd.S_nil _ _ _ _ _⟩, ⟨by exact ey HB.out⟩⟩
 case round =>
  clear H'
  obtain ⟨x3_1, x4_1, rfl, HA, HK1, HO_3, HB⟩ := hrel
  cases gk with
  | zero => exact absurd HA.out (by simp [bureauref06_Ends.l0])
  | succ k1 =>
   have H := HA.out
   clear HA
   simp only [bureauref06_Ends.l0] at H
   by_cases c2 : x4_1 < (a0.size : Int)
   ·rw [if_pos c2] at H
    have c2b0 : decide (x4_1 < (a0.size : Int)) = true := decide_eq_true c2
    clear c2
    by_cases c3 : 0 ≤ x4_1
    ·rw [if_pos c3] at H
     have c3b0 : decide (0 ≤ x4_1) = true := decide_eq_true c3
     clear c3
     by_cases c5 : (bt a0 x4_1) = 10
     ·rw [if_pos c5] at H
      have c5b0 : ((bt a0 x4_1) == 10) = true := beq_iff_eq.mpr c5
      have c5b1 : ((bt a0 x4_1) != 10) = false := bne_eq_false_iff_eq.mpr c5
      clear c5
      by_cases c6 : x3_1.length < 17592186044416
      ·rw [if_pos c6] at H
       have LMc6 := aM c6
       clear c6
       obtain ⟨y324, hy324⟩ : ∃ y_ : List Int, y_ = (x3_1 ++ [x4_1]) := ⟨_, rfl⟩
       replace H : (bureauref06_Ends.l0 k1 a0 y324 (wrap64 (x4_1 + 1))) = some r := by first | (rw [hy324]; with_reducible exact H) | (have H2_ := (Option.bind_some _ _).symm.trans H; rw [hy324]; with_reducible exact H2_) | (have H2_ := (Option.bind_some _ _).symm.trans H; with_reducible exact H2_) | with_reducible exact H | (rw [hy324]; exact H) | exact H
       have Ny324 := aM hy324
       clear hy324
       have H' := aM H
       clear H
       have p4 : 0 ≤ (x4_1 : Int) := of_decide_eq_true (by first | (with_reducible assumption) | assumption)
       have q4 : x4_1 < (a0.size : Int) := of_decide_eq_true (by first | (with_reducible assumption) | assumption)
       have hx4 := bt_at a0 x4_1
       replace p4 := eq_true p4
       replace q4 := eq_true q4
       go_wp2_with (first | ((with_reducible refine gate_builtin (b := .append) (xs := #[.tmp 15, .tmp 17]) rfl ?_); at_builtin; refine Kd.R_append (Kd.int .i64) (w0 := w) w.heap.size rfl (.tmp 15) (.tmp 17) 56 3 (.int .i64 0) 8 rfl Try.underlying56 info3 rfl (by decide) (by omega) u3 x3_1 x4_1 [.int .i64 x4_1] (fun _ => True) (fun _ => False) rfl rfl ?aP (fun _ hk => hk.elim) ?aF ?aO ?aB ?aS ?aL ?_; (case aP => exact rfl); (case aB => exact (ey HB.out)); (case aF => exact (fun _ _ => trivial)); (case aO => exact (ry HO_3.out)); (case aS => exact (bZ (ey HB.out))); (case aL => have := LMc6.out; omega); intro v325 w7 ho hb hg hat; rw [← Ny324.out] at ho; have n0_ := aM (hb); have n1_ := aM (ho); clear HB HO_3; have HB := n0_; have HO326 := n1_; clear n0_ n1_; clear ho hb hg hat))
       go_roundg k1
       case measure => have := HK1.out; omega
       case rel => exact ⟨(y324), (wrap64 (x4_1 + 1)), (by first | rfl | (simp; done) | (simp [*]; done)), H', ⟨by have := HK1.out; omega⟩, ⟨by exact ry HO326.out⟩, ⟨by exact ey HB.out⟩⟩
      ·rw [if_neg c6] at H
       exact absurd H (by simp)
     ·rw [if_neg c5] at H
      have c5b0 : ((bt a0 x4_1) == 10) = false := beq_eq_false_iff_ne.mpr c5
      have c5b1 : ((bt a0 x4_1) != 10) = true := bne_iff_ne.mpr c5
      have H' := aM H
      clear H
      have p4 : 0 ≤ (x4_1 : Int) := of_decide_eq_true (by first | (with_reducible assumption) | assumption)
      have q4 : x4_1 < (a0.size : Int) := of_decide_eq_true (by first | (with_reducible assumption) | assumption)
      have hx4 := bt_at a0 x4_1
      replace p4 := eq_true p4
      replace q4 := eq_true q4
      go_wp2
      go_roundg k1
      case measure => have := HK1.out; omega
      case rel => exact ⟨(x3_1), (wrap64 (x4_1 + 1)), (by first | rfl | (simp; done) | (simp [*]; done)), H', ⟨by have := HK1.out; omega⟩, ⟨by exact ry HO_3.out⟩, ⟨by exact ey HB.out⟩⟩
    ·rw [if_neg c3] at H
     exact absurd H (by simp)
   ·rw [if_neg c2] at H
    have c2b0 : decide (x4_1 < (a0.size : Int)) = false := decide_eq_false c2
    clear c2
    by_cases c8 : x3_1.length < 17592186044416
    ·rw [if_pos c8] at H
     have LMc8 := aM c8
     clear c8
     obtain ⟨y327, hy327⟩ : ∃ y_ : List Int, y_ = (x3_1 ++ [(a0.size : Int)]) := ⟨_, rfl⟩
     replace H : (some y327) = some r := by first | (rw [hy327]; with_reducible exact H) | (have H2_ := (Option.bind_some _ _).symm.trans H; rw [hy327]; with_reducible exact H2_) | (have H2_ := (Option.bind_some _ _).symm.trans H; with_reducible exact H2_) | with_reducible exact H | (rw [hy327]; exact H) | exact H
     have Ny327 := aM hy327
     clear hy327
     obtain rfl := Option.some.inj H
     go_wp2_with (first | ((with_reducible refine gate_builtin (b := .append) (xs := #[.tmp 19, .tmp 22]) rfl ?_); at_builtin; refine Kd.R_append (Kd.int .i64) (w0 := w) w.heap.size rfl (.tmp 19) (.tmp 22) 56 3 (.int .i64 0) 8 rfl Try.underlying56 info3 rfl (by decide) (by omega) u3 x3_1 (a0.size : Int) [.int .i64 (a0.size : Int)] (fun _ => True) (fun _ => False) rfl rfl ?aP (fun _ hk => hk.elim) ?aF ?aO ?aB ?aS ?aL ?_; (case aP => exact rfl); (case aB => exact (ey HB.out)); (case aF => exact (fun _ _ => trivial)); (case aO => exact (ry HO_3.out)); (case aS => exact (bZ (ey HB.out))); (case aL => have := LMc8.out; omega); intro v328 w9 ho hb hg hat; rw [← Ny327.out] at ho; have n0_ := aM (hb); have n1_ := aM (ho); clear HB HO_3; have HB := n0_; have HO329 := n1_; clear n0_ n1_; clear ho hb hg hat))
     go_ret
     exact ⟨_, by first | rfl | (simp [errW_none, errW_some] <;> rfl) | (simp [*, errW_none, errW_some] <;> rfl), by exact ry HO329.out, by exact ey HB.out⟩
    ·rw [if_neg c8] at H
     exact absurd H (by simp)
end Go.Proofs.Ytnbdldpjiofafaa.PB
end

section
namespace Go.Proofs.Ytnbdldpjiofafaa.PB
open Go.RowKit Go.Proofs.YtnbdldpjiofafaaW.PrintWords Go.Proofs.YtnbdldpjiofafaaW.PrintLast Go.Proofs.YtnbdldpjiofafaaW.PrintMore
attribute [local go_sem] max2_int min2_int max_two min_two max_three min_three max_four min_four   
set_option linter.unusedVariables false
set_option linter.unusedSimpArgs false
def bureauref06_Count.f (k : Nat) (a0 : ByteArray) : Option (Int) := (bureauref06_Ends.f k a0).bind fun t330 => (some (t330.length : Int))
set_option maxHeartbeats 8000000 in
set_option maxRecDepth 100000 in
theorem bureauref06_Count.calls (k : Nat) (a0 : ByteArray) (r : Int) (w : World) (h : bureauref06_Count.f k a0 = some r) :
  Calls Try.prog 54 #[.string a0] w fun e w' => e = .returned (.int .i64 r) ∧ Below w.heap.size w w' := by
 have HB := aM (Below.refl w.heap.size w)
 have H : ((bureauref06_Ends.f k a0).bind fun t330 => (some (t330.length : Int))) = some r := h
 clear h
 replace H := Option.bind_eq_some_iff.mp H
 obtain ⟨t330, A20, H⟩ := H
 replace H : (some (t330.length : Int)) = some r := H
 have A2 := aM A20
 clear A20
 obtain rfl := Option.some.inj H
 go_enter Try.func54, Try.ntmps54
 go_wp2_with (first | ((with_reducible refine gate_callee (f := 56) rfl ?_); refine goesL_ (some 4) rfl rfl Try.func56 (by kernel_rfl) rfl #[.string a0] rfl (by (try simp only [mT, mC, mN]); first | done | rfl | (simp only [lD, lT]; rfl)) ?_; (with_reducible refine (bureauref06_Ends.calls k a0 t330 _ A2.out).mono ?_); rintro e w3 ⟨v331, rfl, ho0, hb⟩; refine ⟨_, rfl, ?_⟩; have n0_ := aM (rL ho0 (bZ (ey HB.out))); have n1_ := aM (bP (ey HB.out) hb); clear HB; have HO332 := n0_; have HB := n1_; clear n0_ n1_; (try clear hb); (try clear hb2); (try clear hk); (try clear hi); (try clear ho0); obtain ⟨Ao4, co4, eo4⟩ := Kd.R_slice HO332.out; subst eo4))
 go_ret
 exact ⟨by first | rfl | (simp [errW_none, errW_some] <;> rfl) | (simp [*, errW_none, errW_some] <;> rfl), by exact ey HB.out⟩
end Go.Proofs.Ytnbdldpjiofafaa.PB
end

section
namespace Go.Proofs.Ytnbdldpjiofafaa.PB
open Go.RowKit Go.Proofs.YtnbdldpjiofafaaW.PrintWords Go.Proofs.YtnbdldpjiofafaaW.PrintLast Go.Proofs.YtnbdldpjiofafaaW.PrintMore
attribute [local go_sem] max2_int min2_int max_two min_two max_three min_three max_four min_four   
set_option linter.unusedVariables false
set_option linter.unusedSimpArgs false
def bureauref15_may.f (k : Nat) (a0 : ByteArray) (a1_0 : Int) (a1_1 : Int) (a1_2 : ByteArray) (a1_3 : ByteArray) (a1_4 : Bool) : Option (Bool) := if a1_0 < 0 then (some false) else (if a1_1 < a1_0 then (some false) else ((bureauref06_Count.f k a0).bind fun t334 => (if a1_1 ≥ t334 then (some false) else (if (a1_2.size : Int) = 0 then (some false) else (if (a1_3.size : Int) > 4096 then (some false) else ((bureauref06_Count.f k a1_2).bind fun t335 => (some (t335 == 1))))))))
def bureauref15_may.T1 : Bool × List (List Nat × List Nat) := (true, [([], []), ([0], [0]), ([1], [1]), ([2], [2]), ([3], [3]), ([4, 3], [3, 4]), ([3], [3]), ([6, 3], [3, 6]), ([5, 7, 3], [3, 5, 7]), ([3, 8], [3, 8]), ([9, 3], [9]), ([10], [10]), ([11, 10], [10, 11]), ([10], [10]), ([13, 10, 10], [10, 13]), ([12, 14, 10], [10, 12, 14]), ([10, 15], [10, 15]), ([16, 14], [16]), ([17], [17]), ([18, 17], [17, 18]), ([19, 17], [17, 19]), ([20, 17], [17, 20]), ([17, 21], [17, 21]), ([22, 17], [22]), ([23], [23]), ([24, 23], [23, 24]), ([25, 23], [23, 25]), ([26, 23], [23, 26]), ([23, 27], [23, 27])])
def bureauref15_may.B1 : List Nat := [0, 1, 3, 7, 15, 31, 15, 79, 255, 511, 1023, 2047, 4095, 2047, 10239, 32767, 65535, 131071, 262143, 524287, 1048575, 2097151, 4194303, 8388607, 16777215, 33554431, 67108863, 134217727, 268435455]
theorem bureauref15_may.tab1 : rtab .any (opsOf Try.f29 1) = bureauref15_may.T1 := by kernel_rfl
theorem bureauref15_may.bits1 : waitsOk bureauref15_may.T1.2 bureauref15_may.B1 = true := by kernel_rfl
set_option maxHeartbeats 8000000 in
set_option maxRecDepth 100000 in
theorem bureauref15_may.calls (k : Nat) (a0 : ByteArray) (a1_0 : Int) (a1_1 : Int) (a1_2 : ByteArray) (a1_3 : ByteArray) (a1_4 : Bool) (r : Bool) (w : World) (h : bureauref15_may.f k a0 a1_0 a1_1 a1_2 a1_3 a1_4 = some r) :
  Calls Try.prog 29 #[.string a0, .agg #[.int .i64 a1_0, .int .i64 a1_1, .string a1_2, .string a1_3, .bool a1_4]] w fun e w' => e = .returned (.bool r) ∧ Below w.heap.size w w' := by
 have hu38 := Try.underlying38
 have HB := aM (Below.refl w.heap.size w)
 have H : (if a1_0 < 0 then (some false) else (if a1_1 < a1_0 then (some false) else ((bureauref06_Count.f k a0).bind fun t334 => (if a1_1 ≥ t334 then (some false) else (if (a1_2.size : Int) = 0 then (some false) else (if (a1_3.size : Int) > 4096 then (some false) else ((bureauref06_Count.f k a1_2).bind fun t335 => (some (t335 == 1))))))))) = some r := h
 clear h
 by_cases c3 : a1_0 < 0
 ·rw [if_pos c3] at H
  have c3b0 : decide (a1_0 < 0) = true := decide_eq_true c3
  clear c3
  obtain rfl := Option.some.inj H
  go_enter Try.func29, Try.ntmps29
  try go_wp2_with (first | ((with_reducible refine gate_dst (N := 3) rfl ?_); (try (refine gate_guard (by rfl) ?_; dsimp only)); refine box_event ?hg (N := 3) ?hd (cs := #[.int .i64 a1_0, .int .i64 a1_1, .string a1_2, .string a1_3, .bool a1_4]) (t := 38) ?hr ?_; (case hd | hg => rfl); (case hr => first | (go_simp; done) | (go_simp; rfl)); intro gb333 hg w4 hbox hb; have n0_ := aM (bP (ey HB.out) hb); have n1_ := aM (hbox); have n2_ := aM ((by rw [hg]; exact (bZ (ey HB.out)) : w.heap.size ≤ gb333)); have n3_ := n2_; clear HB; have HB := n0_; have BK333 := n1_; have GW333 := n2_; have GE333 := n3_; clear n0_ n1_ n2_ n3_; clear hb hbox hg))
  have n0_ := aM (blk_drew BK333.out)
  have n1_ := aM (below_drew1 HB.out)
  clear BK333
  clear HB
  have BK333 := n0_
  have HB := n1_
  clear n0_ n1_
  refine start_ (n := 29) (S := fun w' => w'.cell? ⟨gb333, 0, none⟩ = some (.int .i64 a1_0) ∧ w'.cell? ⟨gb333, 1, none⟩ = some (.int .i64 a1_1) ∧ w'.cell? ⟨gb333, 2, none⟩ = some (.string a1_2) ∧ w'.cell? ⟨gb333, 3, none⟩ = some (.string a1_3) ∧ w'.cell? ⟨gb333, 4, none⟩ = some (.bool a1_4)) (ds := []) b94_ (by kernel_rfl) rfl rfl ⟨(bC BK333.out 0).trans rfl, (bC BK333.out 1).trans rfl, (bC BK333.out 2).trans rfl, (bC BK333.out 3).trans rfl, (bC BK333.out 4).trans rfl⟩ (fun hHeld => ?_); refine with_tabW bureauref15_may.tab1 bureauref15_may.bits1 (fun HT_ HW_ => ?_)
  generalize w4.drew = w5 at BK333 HB hHeld ⊢
  refine pv 0 5 b95_ HT_ ?_
  refine pt 1 6 b96_ HT_ HW_ hHeld ?_
  refine pv 2 7 b97_ HT_ ?_
  refine pv 3 8 b98_ HT_ ?_
  refine pu 4 9 b99_ HT_ ?_
  refine pu 5 10 b100_ HT_ ?_
  refine pu 6 11 b101_ HT_ ?_
  refine pu 7 12 b102_ HT_ ?_
  refine pu 8 13 b103_ HT_ ?_
  refine pv 9 14 b104_ HT_ ?_
  refine pv 10 15 b105_ HT_ ?_
  refine pu 11 16 b106_ HT_ ?_
  refine pu 12 17 b107_ HT_ ?_
  refine pu 13 18 b108_ HT_ ?_
  refine pu 14 19 b109_ HT_ ?_
  refine pu 15 20 b110_ HT_ ?_
  refine pv 16 21 b111_ HT_ ?_
  refine pv 17 22 b112_ HT_ ?_
  refine pu 18 23 b113_ HT_ ?_
  refine pu 19 24 b114_ HT_ ?_
  refine pu 20 25 b115_ HT_ ?_
  refine pu 21 26 b116_ HT_ ?_
  refine pv 22 27 b117_ HT_ ?_
  refine pv 23 28 b118_ HT_ ?_
  refine pu 24 29 b119_ HT_ ?_
  refine pu 25 30 b120_ HT_ ?_
  refine pu 26 31 b121_ HT_ ?_
  refine pu 27 32 b122_ HT_ ?_
  refine pv 28 33 b123_ HT_ ?_
  refine done_ (done_of HT_.out (by kernel_rfl)) ?_
  try go_wp2
  go_ret
  exact ⟨by first | rfl | (simp [errW_none, errW_some] <;> rfl) | (simp [*, errW_none, errW_some] <;> rfl), by repeat (first | (with_reducible first | exact HB.out | apply ea | apply en | apply ed | refine es ?_ GE333.out) | exact HB.out)⟩
 ·rw [if_neg c3] at H
  have c3b0 : decide (a1_0 < 0) = false := decide_eq_false c3
  clear c3
  by_cases c6 : a1_1 < a1_0
  ·rw [if_pos c6] at H
   have c6b0 : decide (a1_1 < a1_0) = true := decide_eq_true c6
   clear c6
   obtain rfl := Option.some.inj H
   go_enter Try.func29, Try.ntmps29
   try go_wp2_with (first | ((with_reducible refine gate_dst (N := 3) rfl ?_); (try (refine gate_guard (by rfl) ?_; dsimp only)); refine box_event ?hg (N := 3) ?hd (cs := #[.int .i64 a1_0, .int .i64 a1_1, .string a1_2, .string a1_3, .bool a1_4]) (t := 38) ?hr ?_; (case hd | hg => rfl); (case hr => first | (go_simp; done) | (go_simp; rfl)); intro gb333 hg w7 hbox hb; have n0_ := aM (bP (ey HB.out) hb); have n1_ := aM (hbox); have n2_ := aM ((by rw [hg]; exact (bZ (ey HB.out)) : w.heap.size ≤ gb333)); have n3_ := n2_; clear HB; have HB := n0_; have BK333 := n1_; have GW333 := n2_; have GE333 := n3_; clear n0_ n1_ n2_ n3_; clear hb hbox hg))
   have n0_ := aM (blk_drew BK333.out)
   have n1_ := aM (below_drew1 HB.out)
   clear BK333
   clear HB
   have BK333 := n0_
   have HB := n1_
   clear n0_ n1_
   refine start_ (n := 29) (S := fun w' => w'.cell? ⟨gb333, 0, none⟩ = some (.int .i64 a1_0) ∧ w'.cell? ⟨gb333, 1, none⟩ = some (.int .i64 a1_1) ∧ w'.cell? ⟨gb333, 2, none⟩ = some (.string a1_2) ∧ w'.cell? ⟨gb333, 3, none⟩ = some (.string a1_3) ∧ w'.cell? ⟨gb333, 4, none⟩ = some (.bool a1_4)) (ds := []) b94_ (by kernel_rfl) rfl rfl ⟨(bC BK333.out 0).trans rfl, (bC BK333.out 1).trans rfl, (bC BK333.out 2).trans rfl, (bC BK333.out 3).trans rfl, (bC BK333.out 4).trans rfl⟩ (fun hHeld => ?_); refine with_tabW bureauref15_may.tab1 bureauref15_may.bits1 (fun HT_ HW_ => ?_)
   generalize w7.drew = w8 at BK333 HB hHeld ⊢
   refine pv 0 5 b95_ HT_ ?_
   refine pt 1 6 b96_ HT_ HW_ hHeld ?_
   refine pv 2 7 b97_ HT_ ?_
   refine pv 3 8 b98_ HT_ ?_
   refine pv 4 9 b99_ HT_ ?_
   refine pv 6 11 b124_ HT_ ?_
   refine pt 5 10 b101_ HT_ HW_ hHeld ?_
   refine pt 7 12 b102_ HT_ HW_ hHeld ?_
   refine pv 8 13 b103_ HT_ ?_
   refine pv 9 14 b104_ HT_ ?_
   refine pv 10 15 b105_ HT_ ?_
   refine pu 11 16 b106_ HT_ ?_
   refine pu 12 17 b107_ HT_ ?_
   refine pu 13 18 b108_ HT_ ?_
   refine pu 14 19 b109_ HT_ ?_
   refine pu 15 20 b110_ HT_ ?_
   refine pv 16 21 b111_ HT_ ?_
   refine pv 17 22 b112_ HT_ ?_
   refine pu 18 23 b113_ HT_ ?_
   refine pu 19 24 b114_ HT_ ?_
   refine pu 20 25 b115_ HT_ ?_
   refine pu 21 26 b116_ HT_ ?_
   refine pv 22 27 b117_ HT_ ?_
   refine pv 23 28 b118_ HT_ ?_
   refine pu 24 29 b119_ HT_ ?_
   refine pu 25 30 b120_ HT_ ?_
   refine pu 26 31 b121_ HT_ ?_
   refine pu 27 32 b122_ HT_ ?_
   refine pv 28 33 b123_ HT_ ?_
   refine done_ (done_of HT_.out (by kernel_rfl)) ?_
   try go_wp2
   go_ret
   exact ⟨by first | rfl | (simp [errW_none, errW_some] <;> rfl) | (simp [*, errW_none, errW_some] <;> rfl), by repeat (first | (with_reducible first | exact HB.out | apply ea | apply en | apply ed | refine es ?_ GE333.out) | exact HB.out)⟩
  ·rw [if_neg c6] at H
   have c6b0 : decide (a1_1 < a1_0) = false := decide_eq_false c6
   clear c6
   replace H := Option.bind_eq_some_iff.mp H
   obtain ⟨t334, A90, H⟩ := H
   replace H : (if a1_1 ≥ t334 then (some false) else (if (a1_2.size : Int) = 0 then (some false) else (if (a1_3.size : Int) > 4096 then (some false) else ((bureauref06_Count.f k a1_2).bind fun t335 => (some (t335 == 1)))))) = some r := H
   have A9 := aM A90
   clear A90
   by_cases c10 : a1_1 ≥ t334
   ·rw [if_pos c10] at H
    have c10b0 : decide (t334 ≤ a1_1) = true := decide_eq_true c10
    clear c10
    obtain rfl := Option.some.inj H
    go_enter Try.func29, Try.ntmps29
    try go_wp2_with (first | ((with_reducible refine gate_dst (N := 3) rfl ?_); (try (refine gate_guard (by rfl) ?_; dsimp only)); refine box_event ?hg (N := 3) ?hd (cs := #[.int .i64 a1_0, .int .i64 a1_1, .string a1_2, .string a1_3, .bool a1_4]) (t := 38) ?hr ?_; (case hd | hg => rfl); (case hr => first | (go_simp; done) | (go_simp; rfl)); intro gb333 hg w11 hbox hb; have n0_ := aM (bP (ey HB.out) hb); have n1_ := aM (hbox); have n2_ := aM ((by rw [hg]; exact (bZ (ey HB.out)) : w.heap.size ≤ gb333)); have n3_ := n2_; clear HB; have HB := n0_; have BK333 := n1_; have GW333 := n2_; have GE333 := n3_; clear n0_ n1_ n2_ n3_; clear hb hbox hg))
    have n0_ := aM (blk_drew BK333.out)
    have n1_ := aM (below_drew1 HB.out)
    clear BK333
    clear HB
    have BK333 := n0_
    have HB := n1_
    clear n0_ n1_
    refine start_ (n := 29) (S := fun w' => w'.cell? ⟨gb333, 0, none⟩ = some (.int .i64 a1_0) ∧ w'.cell? ⟨gb333, 1, none⟩ = some (.int .i64 a1_1) ∧ w'.cell? ⟨gb333, 2, none⟩ = some (.string a1_2) ∧ w'.cell? ⟨gb333, 3, none⟩ = some (.string a1_3) ∧ w'.cell? ⟨gb333, 4, none⟩ = some (.bool a1_4)) (ds := []) b94_ (by kernel_rfl) rfl rfl ⟨(bC BK333.out 0).trans rfl, (bC BK333.out 1).trans rfl, (bC BK333.out 2).trans rfl, (bC BK333.out 3).trans rfl, (bC BK333.out 4).trans rfl⟩ (fun hHeld => ?_); refine with_tabW bureauref15_may.tab1 bureauref15_may.bits1 (fun HT_ HW_ => ?_)
    generalize w11.drew = w12 at BK333 HB hHeld ⊢
    refine pv 0 5 b95_ HT_ ?_
    refine pt 1 6 b96_ HT_ HW_ hHeld ?_
    refine pv 2 7 b97_ HT_ ?_
    refine pv 3 8 b98_ HT_ ?_
    refine pv 4 9 b99_ HT_ ?_
    refine pv 6 11 b124_ HT_ ?_
    refine pt 5 10 b101_ HT_ HW_ hHeld ?_
    refine pt 7 12 b102_ HT_ HW_ hHeld ?_
    refine pv 8 13 b103_ HT_ ?_
    refine pv 9 14 b104_ HT_ ?_
    refine pv 10 15 b105_ HT_ ?_
    refine pv 11 16 b106_ HT_ ?_
    refine pv 13 18 b125_ HT_ ?_
    refine pt 12 17 b108_ HT_ HW_ hHeld ?_
    refine one_ (i := 14) (N := some 19) b109_ rfl rfl (one_of HT_.out (by kernel_rfl)) (by decide) (fun K hK => ?_)
    refine goes_ Try.func54 (by kernel_rfl) rfl #[.string a0] (by rfl) rfl rfl (by (try simp only [mT, mC, mN]); first | done | rfl | (simp only [lD, lT]; rfl)) ?_
    with_reducible refine (bureauref06_Count.calls k a0 t334 _ A9.out).mono ?_
    rintro e w13 ⟨rfl, hb⟩
    refine ⟨_, rfl, ?_⟩
    have n0_ := aM (bB (g := gb333) (qy BK333.out) hb)
    have n1_ := aM (bP (by repeat (first | (with_reducible first | exact HB.out | apply ea | apply en | apply ed | refine es ?_ GE333.out) | exact HB.out)) hb)
    clear BK333
    clear HB
    have BK333 := n0_
    have HB := n1_
    clear n0_ n1_
    (try clear hb)
    (try clear hb2)
    (try clear hk)
    (try clear hi)
    refine hK.out _ _ ⟨(bC BK333.out 0).trans rfl, (bC BK333.out 1).trans rfl, (bC BK333.out 2).trans rfl, (bC BK333.out 3).trans rfl, (bC BK333.out 4).trans rfl⟩ (fun hHeld => ?_)
    clear hK K
    refine norm_ (a' := ?_) ?_ ?_
    rotate_left
    ·show Act.put _ (some 19) _ = _
     simp only [Act.put, sA, sZ, sS, i64_w, i32_w]
     rfl
    refine pv 15 20 b110_ HT_ ?_
    refine pv 16 21 b111_ HT_ ?_
    refine pv 17 22 b112_ HT_ ?_
    refine pu 18 23 b113_ HT_ ?_
    refine pu 19 24 b114_ HT_ ?_
    refine pu 20 25 b115_ HT_ ?_
    refine pu 21 26 b116_ HT_ ?_
    refine pv 22 27 b117_ HT_ ?_
    refine pv 23 28 b118_ HT_ ?_
    refine pu 24 29 b119_ HT_ ?_
    refine pu 25 30 b120_ HT_ ?_
    refine pu 26 31 b121_ HT_ ?_
    refine pu 27 32 b122_ HT_ ?_
    refine pv 28 33 b123_ HT_ ?_
    refine done_ (done_of HT_.out (by kernel_rfl)) ?_
    try go_wp2
    go_ret
    exact ⟨by first | rfl | (simp [errW_none, errW_some] <;> rfl) | (simp [*, errW_none, errW_some] <;> rfl), by repeat (first | (with_reducible first | exact HB.out | apply ea | apply en | apply ed | refine es ?_ GE333.out) | exact HB.out)⟩
   ·rw [if_neg c10] at H
    have c10b0 : decide (t334 ≤ a1_1) = false := decide_eq_false c10
    clear c10
    by_cases c14 : (a1_2.size : Int) = 0
    ·rw [if_pos c14] at H
     have c14b0 : ((a1_2.size : Int) == 0) = true := beq_iff_eq.mpr c14
     have c14b1 : ((a1_2.size : Int) != 0) = false := bne_eq_false_iff_eq.mpr c14
     clear c14
     obtain rfl := Option.some.inj H
     go_enter Try.func29, Try.ntmps29
     try go_wp2_with (first | ((with_reducible refine gate_dst (N := 3) rfl ?_); (try (refine gate_guard (by rfl) ?_; dsimp only)); refine box_event ?hg (N := 3) ?hd (cs := #[.int .i64 a1_0, .int .i64 a1_1, .string a1_2, .string a1_3, .bool a1_4]) (t := 38) ?hr ?_; (case hd | hg => rfl); (case hr => first | (go_simp; done) | (go_simp; rfl)); intro gb333 hg w15 hbox hb; have n0_ := aM (bP (ey HB.out) hb); have n1_ := aM (hbox); have n2_ := aM ((by rw [hg]; exact (bZ (ey HB.out)) : w.heap.size ≤ gb333)); have n3_ := n2_; clear HB; have HB := n0_; have BK333 := n1_; have GW333 := n2_; have GE333 := n3_; clear n0_ n1_ n2_ n3_; clear hb hbox hg))
     have n0_ := aM (blk_drew BK333.out)
     have n1_ := aM (below_drew1 HB.out)
     clear BK333
     clear HB
     have BK333 := n0_
     have HB := n1_
     clear n0_ n1_
     refine start_ (n := 29) (S := fun w' => w'.cell? ⟨gb333, 0, none⟩ = some (.int .i64 a1_0) ∧ w'.cell? ⟨gb333, 1, none⟩ = some (.int .i64 a1_1) ∧ w'.cell? ⟨gb333, 2, none⟩ = some (.string a1_2) ∧ w'.cell? ⟨gb333, 3, none⟩ = some (.string a1_3) ∧ w'.cell? ⟨gb333, 4, none⟩ = some (.bool a1_4)) (ds := []) b94_ (by kernel_rfl) rfl rfl ⟨(bC BK333.out 0).trans rfl, (bC BK333.out 1).trans rfl, (bC BK333.out 2).trans rfl, (bC BK333.out 3).trans rfl, (bC BK333.out 4).trans rfl⟩ (fun hHeld => ?_); refine with_tabW bureauref15_may.tab1 bureauref15_may.bits1 (fun HT_ HW_ => ?_)
     generalize w15.drew = w16 at BK333 HB hHeld ⊢
     refine pv 0 5 b95_ HT_ ?_
     refine pt 1 6 b96_ HT_ HW_ hHeld ?_
     refine pv 2 7 b97_ HT_ ?_
     refine pv 3 8 b98_ HT_ ?_
     refine pv 4 9 b99_ HT_ ?_
     refine pv 6 11 b124_ HT_ ?_
     refine pt 5 10 b101_ HT_ HW_ hHeld ?_
     refine pt 7 12 b102_ HT_ HW_ hHeld ?_
     refine pv 8 13 b103_ HT_ ?_
     refine pv 9 14 b104_ HT_ ?_
     refine pv 10 15 b105_ HT_ ?_
     refine pv 11 16 b106_ HT_ ?_
     refine pv 13 18 b125_ HT_ ?_
     refine pt 12 17 b108_ HT_ HW_ hHeld ?_
     refine one_ (i := 14) (N := some 19) b109_ rfl rfl (one_of HT_.out (by kernel_rfl)) (by decide) (fun K hK => ?_)
     refine goes_ Try.func54 (by kernel_rfl) rfl #[.string a0] (by rfl) rfl rfl (by (try simp only [mT, mC, mN]); first | done | rfl | (simp only [lD, lT]; rfl)) ?_
     with_reducible refine (bureauref06_Count.calls k a0 t334 _ A9.out).mono ?_
     rintro e w17 ⟨rfl, hb⟩
     refine ⟨_, rfl, ?_⟩
     have n0_ := aM (bB (g := gb333) (qy BK333.out) hb)
     have n1_ := aM (bP (by repeat (first | (with_reducible first | exact HB.out | apply ea | apply en | apply ed | refine es ?_ GE333.out) | exact HB.out)) hb)
     clear BK333
     clear HB
     have BK333 := n0_
     have HB := n1_
     clear n0_ n1_
     (try clear hb)
     (try clear hb2)
     (try clear hk)
     (try clear hi)
     refine hK.out _ _ ⟨(bC BK333.out 0).trans rfl, (bC BK333.out 1).trans rfl, (bC BK333.out 2).trans rfl, (bC BK333.out 3).trans rfl, (bC BK333.out 4).trans rfl⟩ (fun hHeld => ?_)
     clear hK K
     refine norm_ (a' := ?_) ?_ ?_
     rotate_left
     ·show Act.put _ (some 19) _ = _
      simp only [Act.put, sA, sZ, sS, i64_w, i32_w]
      rfl
     refine pv 15 20 b110_ HT_ ?_
     refine pv 16 21 b111_ HT_ ?_
     refine pv 17 22 b112_ HT_ ?_
     refine pv 18 23 b113_ HT_ ?_
     refine pt 19 24 b114_ HT_ HW_ hHeld ?_
     refine pv 20 25 b115_ HT_ ?_
     refine pv 21 26 b116_ HT_ ?_
     refine pv 22 27 b117_ HT_ ?_
     refine pv 23 28 b118_ HT_ ?_
     refine pu 24 29 b119_ HT_ ?_
     refine pu 25 30 b120_ HT_ ?_
     refine pu 26 31 b121_ HT_ ?_
     refine pu 27 32 b122_ HT_ ?_
     refine pv 28 33 b123_ HT_ ?_
     refine done_ (done_of HT_.out (by kernel_rfl)) ?_
     try go_wp2
     go_ret
     exact ⟨by first | rfl | (simp [errW_none, errW_some] <;> rfl) | (simp [*, errW_none, errW_some] <;> rfl), by repeat (first | (with_reducible first | exact HB.out | apply ea | apply en | apply ed | refine es ?_ GE333.out) | exact HB.out)⟩
    ·rw [if_neg c14] at H
     have c14b0 : ((a1_2.size : Int) == 0) = false := beq_eq_false_iff_ne.mpr c14
     have c14b1 : ((a1_2.size : Int) != 0) = true := bne_iff_ne.mpr c14
     by_cases c18 : (a1_3.size : Int) > 4096
     ·rw [if_pos c18] at H
      have c18b0 : decide (4096 < (a1_3.size : Int)) = true := decide_eq_true c18
      have c18b1 : decide (4096 < a1_3.size) = true := decide_eq_true (by omega)
      clear c18
      obtain rfl := Option.some.inj H
      go_enter Try.func29, Try.ntmps29
      try go_wp2_with (first | ((with_reducible refine gate_dst (N := 3) rfl ?_); (try (refine gate_guard (by rfl) ?_; dsimp only)); refine box_event ?hg (N := 3) ?hd (cs := #[.int .i64 a1_0, .int .i64 a1_1, .string a1_2, .string a1_3, .bool a1_4]) (t := 38) ?hr ?_; (case hd | hg => rfl); (case hr => first | (go_simp; done) | (go_simp; rfl)); intro gb333 hg w19 hbox hb; have n0_ := aM (bP (ey HB.out) hb); have n1_ := aM (hbox); have n2_ := aM ((by rw [hg]; exact (bZ (ey HB.out)) : w.heap.size ≤ gb333)); have n3_ := n2_; clear HB; have HB := n0_; have BK333 := n1_; have GW333 := n2_; have GE333 := n3_; clear n0_ n1_ n2_ n3_; clear hb hbox hg))
      have n0_ := aM (blk_drew BK333.out)
      have n1_ := aM (below_drew1 HB.out)
      clear BK333
      clear HB
      have BK333 := n0_
      have HB := n1_
      clear n0_ n1_
      refine start_ (n := 29) (S := fun w' => w'.cell? ⟨gb333, 0, none⟩ = some (.int .i64 a1_0) ∧ w'.cell? ⟨gb333, 1, none⟩ = some (.int .i64 a1_1) ∧ w'.cell? ⟨gb333, 2, none⟩ = some (.string a1_2) ∧ w'.cell? ⟨gb333, 3, none⟩ = some (.string a1_3) ∧ w'.cell? ⟨gb333, 4, none⟩ = some (.bool a1_4)) (ds := []) b94_ (by kernel_rfl) rfl rfl ⟨(bC BK333.out 0).trans rfl, (bC BK333.out 1).trans rfl, (bC BK333.out 2).trans rfl, (bC BK333.out 3).trans rfl, (bC BK333.out 4).trans rfl⟩ (fun hHeld => ?_); refine with_tabW bureauref15_may.tab1 bureauref15_may.bits1 (fun HT_ HW_ => ?_)
      generalize w19.drew = w20 at BK333 HB hHeld ⊢
      refine pv 0 5 b95_ HT_ ?_
      refine pt 1 6 b96_ HT_ HW_ hHeld ?_
      refine pv 2 7 b97_ HT_ ?_
      refine pv 3 8 b98_ HT_ ?_
      refine pv 4 9 b99_ HT_ ?_
      refine pv 6 11 b124_ HT_ ?_
      refine pt 5 10 b101_ HT_ HW_ hHeld ?_
      refine pt 7 12 b102_ HT_ HW_ hHeld ?_
      refine pv 8 13 b103_ HT_ ?_
      refine pv 9 14 b104_ HT_ ?_
      refine pv 10 15 b105_ HT_ ?_
      refine pv 11 16 b106_ HT_ ?_
      refine pv 13 18 b125_ HT_ ?_
      refine pt 12 17 b108_ HT_ HW_ hHeld ?_
      refine one_ (i := 14) (N := some 19) b109_ rfl rfl (one_of HT_.out (by kernel_rfl)) (by decide) (fun K hK => ?_)
      refine goes_ Try.func54 (by kernel_rfl) rfl #[.string a0] (by rfl) rfl rfl (by (try simp only [mT, mC, mN]); first | done | rfl | (simp only [lD, lT]; rfl)) ?_
      with_reducible refine (bureauref06_Count.calls k a0 t334 _ A9.out).mono ?_
      rintro e w21 ⟨rfl, hb⟩
      refine ⟨_, rfl, ?_⟩
      have n0_ := aM (bB (g := gb333) (qy BK333.out) hb)
      have n1_ := aM (bP (by repeat (first | (with_reducible first | exact HB.out | apply ea | apply en | apply ed | refine es ?_ GE333.out) | exact HB.out)) hb)
      clear BK333
      clear HB
      have BK333 := n0_
      have HB := n1_
      clear n0_ n1_
      (try clear hb)
      (try clear hb2)
      (try clear hk)
      (try clear hi)
      refine hK.out _ _ ⟨(bC BK333.out 0).trans rfl, (bC BK333.out 1).trans rfl, (bC BK333.out 2).trans rfl, (bC BK333.out 3).trans rfl, (bC BK333.out 4).trans rfl⟩ (fun hHeld => ?_)
      clear hK K
      refine norm_ (a' := ?_) ?_ ?_
      rotate_left
      ·show Act.put _ (some 19) _ = _
       simp only [Act.put, sA, sZ, sS, i64_w, i32_w]
       rfl
      refine pv 15 20 b110_ HT_ ?_
      refine pv 16 21 b111_ HT_ ?_
      refine pv 17 22 b112_ HT_ ?_
      refine pv 18 23 b113_ HT_ ?_
      refine pt 19 24 b114_ HT_ HW_ hHeld ?_
      refine pv 20 25 b115_ HT_ ?_
      refine pv 21 26 b116_ HT_ ?_
      refine pv 22 27 b117_ HT_ ?_
      refine pv 23 28 b118_ HT_ ?_
      refine pv 24 29 b119_ HT_ ?_
      refine pt 25 30 b120_ HT_ HW_ hHeld ?_
      refine pv 26 31 b121_ HT_ ?_
      refine pv 27 32 b122_ HT_ ?_
      refine pv 28 33 b123_ HT_ ?_
      refine done_ (done_of HT_.out (by kernel_rfl)) ?_
      try go_wp2
      go_ret
      exact ⟨by first | rfl | (simp [errW_none, errW_some] <;> rfl) | (simp [*, errW_none, errW_some] <;> rfl), by repeat (first | (with_reducible first | exact HB.out | apply ea | apply en | apply ed | refine es ?_ GE333.out) | exact HB.out)⟩
     ·rw [if_neg c18] at H
      have c18b0 : decide (4096 < (a1_3.size : Int)) = false := decide_eq_false c18
      have c18b1 : decide (4096 < a1_3.size) = false := decide_eq_false (by omega)
      clear c18
      replace H := Option.bind_eq_some_iff.mp H
      obtain ⟨t335, A220, H⟩ := H
      replace H : (some (t335 == 1)) = some r := H
      have A22 := aM A220
      clear A220
      obtain rfl := Option.some.inj H
      go_enter Try.func29, Try.ntmps29
      try go_wp2_with (first | ((with_reducible refine gate_dst (N := 3) rfl ?_); (try (refine gate_guard (by rfl) ?_; dsimp only)); refine box_event ?hg (N := 3) ?hd (cs := #[.int .i64 a1_0, .int .i64 a1_1, .string a1_2, .string a1_3, .bool a1_4]) (t := 38) ?hr ?_; (case hd | hg => rfl); (case hr => first | (go_simp; done) | (go_simp; rfl)); intro gb333 hg w23 hbox hb; have n0_ := aM (bP (ey HB.out) hb); have n1_ := aM (hbox); have n2_ := aM ((by rw [hg]; exact (bZ (ey HB.out)) : w.heap.size ≤ gb333)); have n3_ := n2_; clear HB; have HB := n0_; have BK333 := n1_; have GW333 := n2_; have GE333 := n3_; clear n0_ n1_ n2_ n3_; clear hb hbox hg))
      have n0_ := aM (blk_drew BK333.out)
      have n1_ := aM (below_drew1 HB.out)
      clear BK333
      clear HB
      have BK333 := n0_
      have HB := n1_
      clear n0_ n1_
      refine start_ (n := 29) (S := fun w' => w'.cell? ⟨gb333, 0, none⟩ = some (.int .i64 a1_0) ∧ w'.cell? ⟨gb333, 1, none⟩ = some (.int .i64 a1_1) ∧ w'.cell? ⟨gb333, 2, none⟩ = some (.string a1_2) ∧ w'.cell? ⟨gb333, 3, none⟩ = some (.string a1_3) ∧ w'.cell? ⟨gb333, 4, none⟩ = some (.bool a1_4)) (ds := []) b94_ (by kernel_rfl) rfl rfl ⟨(bC BK333.out 0).trans rfl, (bC BK333.out 1).trans rfl, (bC BK333.out 2).trans rfl, (bC BK333.out 3).trans rfl, (bC BK333.out 4).trans rfl⟩ (fun hHeld => ?_); refine with_tabW bureauref15_may.tab1 bureauref15_may.bits1 (fun HT_ HW_ => ?_)
      generalize w23.drew = w24 at BK333 HB hHeld ⊢
      refine pv 0 5 b95_ HT_ ?_
      refine pt 1 6 b96_ HT_ HW_ hHeld ?_
      refine pv 2 7 b97_ HT_ ?_
      refine pv 3 8 b98_ HT_ ?_
      refine pv 4 9 b99_ HT_ ?_
      refine pv 6 11 b124_ HT_ ?_
      refine pt 5 10 b101_ HT_ HW_ hHeld ?_
      refine pt 7 12 b102_ HT_ HW_ hHeld ?_
      refine pv 8 13 b103_ HT_ ?_
      refine pv 9 14 b104_ HT_ ?_
      refine pv 10 15 b105_ HT_ ?_
      refine pv 11 16 b106_ HT_ ?_
      refine pv 13 18 b125_ HT_ ?_
      refine pt 12 17 b108_ HT_ HW_ hHeld ?_
      refine one_ (i := 14) (N := some 19) b109_ rfl rfl (one_of HT_.out (by kernel_rfl)) (by decide) (fun K hK => ?_)
      refine goes_ Try.func54 (by kernel_rfl) rfl #[.string a0] (by rfl) rfl rfl (by (try simp only [mT, mC, mN]); first | done | rfl | (simp only [lD, lT]; rfl)) ?_
      with_reducible refine (bureauref06_Count.calls k a0 t334 _ A9.out).mono ?_
      rintro e w25 ⟨rfl, hb⟩
      refine ⟨_, rfl, ?_⟩
      have n0_ := aM (bB (g := gb333) (qy BK333.out) hb)
      have n1_ := aM (bP (by repeat (first | (with_reducible first | exact HB.out | apply ea | apply en | apply ed | refine es ?_ GE333.out) | exact HB.out)) hb)
      clear BK333
      clear HB
      have BK333 := n0_
      have HB := n1_
      clear n0_ n1_
      (try clear hb)
      (try clear hb2)
      (try clear hk)
      (try clear hi)
      refine hK.out _ _ ⟨(bC BK333.out 0).trans rfl, (bC BK333.out 1).trans rfl, (bC BK333.out 2).trans rfl, (bC BK333.out 3).trans rfl, (bC BK333.out 4).trans rfl⟩ (fun hHeld => ?_)
      clear hK K
      refine norm_ (a' := ?_) ?_ ?_
      rotate_left
      ·show Act.put _ (some 19) _ = _
       simp only [Act.put, sA, sZ, sS, i64_w, i32_w]
       rfl
      refine pv 15 20 b110_ HT_ ?_
      refine pv 16 21 b111_ HT_ ?_
      refine pv 17 22 b112_ HT_ ?_
      refine pv 18 23 b113_ HT_ ?_
      refine pt 19 24 b114_ HT_ HW_ hHeld ?_
      refine pv 20 25 b115_ HT_ ?_
      refine pv 21 26 b116_ HT_ ?_
      refine pv 22 27 b117_ HT_ ?_
      refine pv 23 28 b118_ HT_ ?_
      refine pv 24 29 b119_ HT_ ?_
      refine pt 25 30 b120_ HT_ HW_ hHeld ?_
      refine pv 26 31 b121_ HT_ ?_
      refine pv 27 32 b122_ HT_ ?_
      refine pv 28 33 b123_ HT_ ?_
      refine done_ (done_of HT_.out (by kernel_rfl)) ?_
      have hcz26_0 := zC BK333.out 0 (.int .i64 a1_0)
      have hcz26_1 := zC BK333.out 1 (.int .i64 a1_1)
      have hcz26_2 := zC BK333.out 2 (.string a1_2)
      have hcz26_3 := zC BK333.out 3 (.string a1_3)
      have hcz26_4 := zC BK333.out 4 (.bool a1_4)
      have hfz26_0 := bF BK333.out 0
      have hfz26_1 := bF BK333.out 1
      have hfz26_2 := bF BK333.out 2
      have hfz26_3 := bF BK333.out 3
      have hfz26_4 := bF BK333.out 4
      try go_wp2_with (first | ((with_reducible refine gate_callee (f := 54) rfl ?_); refine goesL_ (some 36) rfl rfl Try.func54 (by kernel_rfl) rfl #[.string a1_2] rfl (by (try simp only [mT, mC, mN]); first | done | rfl | (simp only [lD, lT]; rfl)) ?_; (with_reducible refine (bureauref06_Count.calls k a1_2 t335 _ A22.out).mono ?_); rintro e w27 ⟨rfl, hb⟩; refine ⟨_, rfl, ?_⟩; have n0_ := aM (bB (g := gb333) (qy BK333.out) hb); have n1_ := aM (bP (by repeat (first | (with_reducible first | exact HB.out | apply ea | apply en | apply ed | refine es ?_ GE333.out) | exact HB.out)) hb); clear BK333 HB; have BK333 := n0_; have HB := n1_; clear n0_ n1_; (try clear hb); (try clear hb2); (try clear hk); (try clear hi)))
      go_ret
      exact ⟨by first | rfl | (simp [errW_none, errW_some] <;> rfl) | (simp [*, errW_none, errW_some] <;> rfl), by repeat (first | (with_reducible first | exact HB.out | apply ea | apply en | apply ed | refine es ?_ GE333.out) | exact HB.out)⟩
end Go.Proofs.Ytnbdldpjiofafaa.PB
end

section
namespace Go.Proofs.Ytnbdldpjiofafaa.PB
open Go.RowKit Go.Proofs.YtnbdldpjiofafaaW.PrintWords Go.Proofs.YtnbdldpjiofafaaW.PrintLast Go.Proofs.YtnbdldpjiofafaaW.PrintMore
attribute [local go_sem] max2_int min2_int max_two min_two max_three min_three max_four min_four   
set_option linter.unusedVariables false
set_option linter.unusedSimpArgs false
def bureauref06_Bounds.j0 : Nat → Int → List Int → Bool → Option (Int × Int × Int)
 | 0, _, _, _ => none
 | k + 1, x1, x7, x17 => if x17 = true then (some (0, 0, 2)) else (if x1 = 0 then (if 0 < (x7.length : Int) then (some (0, rd x7 0, 0)) else (none)) else (if 0 ≤ (wrap64 (x1 - 1)) then (if (wrap64 (x1 - 1)) < (x7.length : Int) then (if 0 ≤ x1 then (if x1 < (x7.length : Int) then (some (wrap64 ((rd x7 (wrap64 (x1 - 1))) + 1), rd x7 x1, 0)) else (none)) else (none)) else (none)) else (none)))
def bureauref06_Bounds.f (k : Nat) (a0 : ByteArray) (a1 : Int) : Option (Int × Int × Int) := (bureauref06_Ends.f k a0).bind fun t336 => (if a1 < 0 then (bureauref06_Bounds.j0 k a1 t336 true) else (bureauref06_Bounds.j0 k a1 t336 (decide (a1 ≥ (t336.length : Int)))))
set_option maxHeartbeats 8000000 in
set_option maxRecDepth 100000 in
theorem bureauref06_Bounds.calls (k : Nat) (a0 : ByteArray) (a1 : Int) (r1 : Int) (r2 : Int) (r3 : Int) (w : World) (h : bureauref06_Bounds.f k a0 a1 = some (r1, r2, r3)) :
  Calls Try.prog 31 #[.string a0, .int .i64 a1] w fun e w' => e = .returned (.tuple #[.int .i64 r1, .int .i64 r2, .int .i64 r3]) ∧ Below w.heap.size w w' := by
 have HB := aM (Below.refl w.heap.size w)
 have H : ((bureauref06_Ends.f k a0).bind fun t336 => (if a1 < 0 then (bureauref06_Bounds.j0 k a1 t336 true) else (bureauref06_Bounds.j0 k a1 t336 (decide (a1 ≥ (t336.length : Int)))))) = some (r1, r2, r3) := h
 clear h
 replace H := Option.bind_eq_some_iff.mp H
 obtain ⟨t336, A30, H⟩ := H
 replace H : (if a1 < 0 then (bureauref06_Bounds.j0 k a1 t336 true) else (bureauref06_Bounds.j0 k a1 t336 (decide (a1 ≥ (t336.length : Int))))) = some (r1, r2, r3) := H
 have A3 := aM A30
 clear A30
 have HC4 := aM H
 clear H
 go_enter Try.func31, Try.ntmps31
 go_upto_region 2 with (first | (go_at_call 56; (with_reducible refine (bureauref06_Ends.calls k a0 t336 _ A3.out).mono ?_); rintro e w5 ⟨v337, rfl, ho0, hb⟩; have n0_ := aM (rL ho0 (bZ (ey HB.out))); have n1_ := aM (bP (ey HB.out) hb); clear HB; have HO338 := n0_; have HB := n1_; clear n0_ n1_; (try clear hb); (try clear hb2); (try clear hk); (try clear hi); (try clear ho0)))
 repeat (go_quiet (first | (go_at_call 56; (with_reducible refine (bureauref06_Ends.calls k a0 t336 _ A3.out).mono ?_); rintro e w5 ⟨v337, rfl, ho0, hb⟩; have n0_ := aM (rL ho0 (bZ (ey HB.out))); have n1_ := aM (bP (ey HB.out) hb); clear HB; have HO338 := n0_; have HB := n1_; clear n0_ n1_; (try clear hb); (try clear hb2); (try clear hk); (try clear hi); (try clear ho0))); go_upto_region 2 with (first | (go_at_call 56; (with_reducible refine (bureauref06_Ends.calls k a0 t336 _ A3.out).mono ?_); rintro e w5 ⟨v337, rfl, ho0, hb⟩; have n0_ := aM (rL ho0 (bZ (ey HB.out))); have n1_ := aM (bP (ey HB.out) hb); clear HB; have HO338 := n0_; have HB := n1_; clear n0_ n1_; (try clear hb); (try clear hb2); (try clear hk); (try clear hi); (try clear ho0))))
 (try simp only [Act.put, sA, sZ, sS])
 go_cut [17] (fun v17 wc => ∃ (kq : Nat) (x17_3 : Bool), v17 = .bool x17_3 ∧ Aside0 (bureauref06_Bounds.j0 kq a1 t336 x17_3 = some (r1, r2, r3)) ∧ Aside0 (kq ≤ k) ∧ Aside0 (Kd.R (Kd.int .i64) 3 wc w.heap.size (fun _ => True) v337 t336) ∧ Aside0 (Below w.heap.size w wc))
 case first =>
  have H := HC4.out
  clear HC4
  by_cases c6 : a1 < 0
  ·rw [if_pos c6] at H
   have c6b0 : decide (a1 < 0) = true := decide_eq_true c6
   clear c6
   (first | rw [c6b0] | (simp only [i64_w, i32_w]; rw [c6b0]) | skip)
   have H' := aM H
   clear H
   go_wp2
   repeat (go_quiet (fail); try go_wp2)
   go_meet
   case rel => exact ⟨_, (true), (by first | rfl | (simp; done) | (simp [*]; done)), H', ⟨by first | omega | exact Nat.le_refl _⟩, ⟨by exact ry HO338.out⟩, ⟨by exact ey HB.out⟩⟩
  ·rw [if_neg c6] at H
   have c6b0 : decide (a1 < 0) = false := decide_eq_false c6
   clear c6
   (first | rw [c6b0] | (simp only [i64_w, i32_w]; rw [c6b0]) | skip)
   have H' := aM H
   clear H
   obtain ⟨Ao7, co7, eo7⟩ := Kd.R_slice HO338.out
   subst eo7
   go_wp2
   repeat (go_quiet (fail); try go_wp2)
   go_meet
   case rel => exact ⟨_, (decide (a1 ≥ (t336.length : Int))), (by first | rfl | (simp; done) | (simp [*]; done)), H', ⟨by first | omega | exact Nat.le_refl _⟩, ⟨by exact ry HO338.out⟩, ⟨by exact ey HB.out⟩⟩
 case rest =>
  clear HC4
  try clear p2
  try clear c3
  try clear c6
  try clear c6b0
  obtain ⟨kq, x17_3, rfl, HA, HJ3, HO_7, HB⟩ := hcut
  cases kq with
  | zero => exact absurd HA.out (by simp [bureauref06_Bounds.j0])
  | succ kj3 =>
   have H := HA.out
   clear HA
   simp only [bureauref06_Bounds.j0] at H
   by_cases c8 : x17_3 = true
   ·subst c8
    have H1 : (some (0, 0, 2)) = some (r1, r2, r3) := by rw [if_pos rfl] at H; exact H
    clear H
    have H := H1
    clear H1
    simp only [Option.some.injEq, Prod.mk.injEq] at H
    obtain ⟨rfl, rfl, rfl⟩ := H
    go_wp2
    repeat (go_quiet (fail); try go_wp2)
    go_ret3
    exact ⟨by first | rfl | (simp [errW_none, errW_some] <;> rfl) | (simp [*, errW_none, errW_some] <;> rfl), by exact ey HB.out⟩
   ·replace c8 := Bool.eq_false_iff.mpr c8
    subst c8
    have H1 : (if a1 = 0 then (if 0 < (t336.length : Int) then (some (0, rd t336 0, 0)) else (none)) else (if 0 ≤ (wrap64 (a1 - 1)) then (if (wrap64 (a1 - 1)) < (t336.length : Int) then (if 0 ≤ a1 then (if a1 < (t336.length : Int) then (some (wrap64 ((rd t336 (wrap64 (a1 - 1))) + 1), rd t336 a1, 0)) else (none)) else (none)) else (none)) else (none))) = some (r1, r2, r3) := by rw [if_neg (show ¬ (false = true) by decide)] at H; exact H
    clear H
    have H := H1
    clear H1
    by_cases c9 : a1 = 0
    ·rw [if_pos c9] at H
     have c9b0 : (a1 == 0) = true := beq_iff_eq.mpr c9
     have c9b1 : (a1 != 0) = false := bne_eq_false_iff_eq.mpr c9
     clear c9
     by_cases c10 : 0 < (t336.length : Int)
     ·rw [if_pos c10] at H
      have c10b0 : decide (0 < (t336.length : Int)) = true := decide_eq_true c10
      have c10b1 : decide (0 < t336.length) = true := decide_eq_true (by omega)
      clear c10
      simp only [Option.some.injEq, Prod.mk.injEq] at H
      obtain ⟨rfl, rfl, rfl⟩ := H
      obtain ⟨Ao11, co11, eo11⟩ := Kd.R_slice HO_7.out
      subst eo11
      have p339 : 0 ≤ (0 : Int) := (by omega)
      have q339 : 0 < (t336.length : Int) := of_decide_eq_true (by first | (with_reducible assumption) | assumption)
      obtain ⟨ad339, e339, hx339_0⟩ := Kd.at_int (rR HO_7.out).2.2 0 p339 q339
      cases e339
      have qi339 : (0 < t336.length) = True := eq_true (by omega)
      (try rw [show ((0 : Int)).toNat = 0 from rfl] at hx339_0)
      (try rw [Addr.add_zero'] at hx339_0)
      replace p339 := eq_true p339
      replace q339 := eq_true q339
      go_wp2
      repeat (go_quiet (fail); try go_wp2)
      go_ret3
      exact ⟨by first | rfl | (simp [errW_none, errW_some] <;> rfl) | (simp [*, errW_none, errW_some] <;> rfl), by exact ey HB.out⟩
     ·rw [if_neg c10] at H
      exact absurd H (by simp)
    ·rw [if_neg c9] at H
     have c9b0 : (a1 == 0) = false := beq_eq_false_iff_ne.mpr c9
     have c9b1 : (a1 != 0) = true := bne_iff_ne.mpr c9
     obtain ⟨ji12, hji12⟩ : ∃ j_ : Int, (wrap64 (a1 - 1)) = j_ := ⟨_, rfl⟩
     replace H : (if 0 ≤ (ji12) then (if (ji12) < (t336.length : Int) then (if 0 ≤ a1 then (if a1 < (t336.length : Int) then (some (wrap64 ((rd t336 (ji12)) + 1), rd t336 a1, 0)) else (none)) else (none)) else (none)) else (none)) = some (r1, r2, r3) := by first | (rw [hji12] at H; exact H) | (simp only [hji12] at H ⊢; exact H)
     have hji12w : (IntKind.i64.wrap (a1 - 1)) = ji12 := (i64_w _).trans hji12
     by_cases c13 : 0 ≤ (ji12)
     ·rw [if_pos c13] at H
      have c13b0 : decide (0 ≤ (ji12)) = true := decide_eq_true c13
      clear c13
      by_cases c14 : (ji12) < (t336.length : Int)
      ·rw [if_pos c14] at H
       have c14b0 : decide ((ji12) < (t336.length : Int)) = true := decide_eq_true c14
       clear c14
       by_cases c15 : 0 ≤ a1
       ·rw [if_pos c15] at H
        have c15b0 : decide (0 ≤ a1) = true := decide_eq_true c15
        clear c15
        by_cases c16 : a1 < (t336.length : Int)
        ·rw [if_pos c16] at H
         have c16b0 : decide (a1 < (t336.length : Int)) = true := decide_eq_true c16
         clear c16
         simp only [Option.some.injEq, Prod.mk.injEq] at H
         obtain ⟨rfl, rfl, rfl⟩ := H
         obtain ⟨Ao17, co17, eo17⟩ := Kd.R_slice HO_7.out
         subst eo17
         have p340 : 0 ≤ ((ji12) : Int) := of_decide_eq_true (by first | (with_reducible assumption) | assumption)
         have q340 : (ji12) < (t336.length : Int) := of_decide_eq_true (by first | (with_reducible assumption) | assumption)
         obtain ⟨ad340, e340, hx340_0⟩ := Kd.at_int (rR HO_7.out).2.2 (ji12) p340 q340
         cases e340
         replace p340 := eq_true p340
         replace q340 := eq_true q340
         have p341 : 0 ≤ (a1 : Int) := of_decide_eq_true (by first | (with_reducible assumption) | assumption)
         have q341 : a1 < (t336.length : Int) := of_decide_eq_true (by first | (with_reducible assumption) | assumption)
         obtain ⟨ad341, e341, hx341_0⟩ := Kd.at_int (rR HO_7.out).2.2 a1 p341 q341
         obtain rfl : ad340 = ad341 := (by injection e341)
         replace p341 := eq_true p341
         replace q341 := eq_true q341
         go_wp2
         repeat (go_quiet (fail); try go_wp2)
         go_ret3
         exact ⟨by first | rfl | (simp [errW_none, errW_some] <;> rfl) | (simp only [← hji12]; first | rfl | (simp [errW_none, errW_some] <;> rfl)) | (simp [*, errW_none, errW_some] <;> rfl), by exact ey HB.out⟩
        ·rw [if_neg c16] at H
         exact absurd H (by simp)
       ·rw [if_neg c15] at H
        exact absurd H (by simp)
      ·rw [if_neg c14] at H
       exact absurd H (by simp)
     ·rw [if_neg c13] at H
      exact absurd H (by simp)
end Go.Proofs.Ytnbdldpjiofafaa.PB
end

section
namespace Go.Proofs.Ytnbdldpjiofafaa.PB
open Go.RowKit Go.Proofs.YtnbdldpjiofafaaW.PrintWords Go.Proofs.YtnbdldpjiofafaaW.PrintLast Go.Proofs.YtnbdldpjiofafaaW.PrintMore
attribute [local go_sem] max2_int min2_int max_two min_two max_three min_three max_four min_four   
set_option linter.unusedVariables false
set_option linter.unusedSimpArgs false
def bureauref03_Pack.l0 : Nat → List Int → List (S51) → Int → Option ((List (S51)))
 | 0, _, _, _ => none
 | k + 1, x0, x3, x4 => if x4 < (x0.length : Int) then (if (x3.length : Int) > 0 then (if 0 ≤ (wrap64 ((x3.length : Int) - 1)) then (if (wrap64 ((x3.length : Int) - 1)) < (x3.length : Int) then (if 0 ≤ x4 then (if ((rd_T51 x3 (wrap64 ((x3.length : Int) - 1))).f0) = (rd x0 x4) then (bureauref03_Pack.l0 k x0 (x3.set ((wrap64 ((x3.length : Int) - 1)) : Int).toNat (⟨(rd_T51 x3 (wrap64 ((x3.length : Int) - 1))).f0, wrap64 (((rd_T51 x3 (wrap64 ((x3.length : Int) - 1))).f1) + 1)⟩ : S51)) (wrap64 (x4 + 1))) else (if x3.length < 8796093022208 then (bureauref03_Pack.l0 k x0 (x3 ++ [(⟨rd x0 x4, 1⟩ : S51)]) (wrap64 (x4 + 1))) else (none))) else (none)) else (none)) else (none)) else (if 0 ≤ x4 then (if x3.length < 8796093022208 then (bureauref03_Pack.l0 k x0 (x3 ++ [(⟨rd x0 x4, 1⟩ : S51)]) (wrap64 (x4 + 1))) else (none)) else (none))) else (some x3)
def bureauref03_Pack.f (k : Nat) (l0 : List Int) : Option ((List (S51))) := bureauref03_Pack.l0 k l0 ([] : List (S51)) 0
set_option maxHeartbeats 8000000 in
set_option maxRecDepth 100000 in
theorem bureauref03_Pack.calls (k : Nat) (A0 : Option Addr) (c0 : Nat) (l0 : List Int) (r : List (S51)) (w : World) (hr0 : Kd.C (Kd.int .u64) w A0 l0.length l0) (hc0 : l0.length ≤ c0) (h : bureauref03_Pack.f k l0 = some r) :
  Calls Try.prog 57 #[.slice A0 l0.length c0] w fun e w' => ∃ v0_ : Value, e = .returned (v0_) ∧ Kd.R k51 51 w' w.heap.size (fun _ => True) v0_ r ∧ Below w.heap.size w w' := by
 have hu51 := Try.underlying51
 have HR0 := aM hr0
 have HC0 := aM hc0
 clear hr0 hc0
 have HB := aM (Below.refl w.heap.size w)
 have H : (bureauref03_Pack.l0 k l0 ([] : List (S51)) 0) = some r := h
 clear h
 have H' := aM H
 clear H
 go_enter Try.func57, Try.ntmps57
 go_wp2
 repeat (go_quiet (fail); try go_wp2)
 go_loopg [3, 4] k (fun kq v3 v4 w' => ∃ (x3_1 : List (S51)) (x4_1 : Int), v4 = .int .i64 x4_1 ∧ Aside0 (bureauref03_Pack.l0 kq l0 x3_1 x4_1 = some r) ∧ Aside0 (kq ≤ k) ∧ Aside0 (Kd.R k51 51 w' w.heap.size (fun _ => True) v3 x3_1) ∧ Aside0 (Below w.heap.size w w'))
 case atStart => exact ⟨(([] : List (S51))), (0), (by first | rfl | (simp; done) | (simp [*]; done)), H', ⟨Nat.le_refl _⟩, ⟨by first | exact Kd.R_nil _ _ _ _ _ | exact Kd.N_nil _ _ _ _ _ | exact Kd.V_nil _ _ _ _ _ | exact Kd.Q_nil _ _ _ _ _ | exact Kd.S_nil _ _ _ _ _⟩, ⟨by exact ey HB.out⟩⟩
 case round =>
  clear H'
  obtain ⟨x3_1, x4_1, rfl, HA, HK1, HO_3, HB⟩ := hrel
  cases gk with
  | zero => exact absurd HA.out (by simp [bureauref03_Pack.l0])
  | succ k1 =>
   have H := HA.out
   clear HA
   simp only [bureauref03_Pack.l0] at H
   by_cases c2 : x4_1 < (l0.length : Int)
   ·rw [if_pos c2] at H
    have c2b0 : decide (x4_1 < (l0.length : Int)) = true := decide_eq_true c2
    clear c2
    by_cases c3 : (x3_1.length : Int) > 0
    ·rw [if_pos c3] at H
     have c3b0 : decide (0 < (x3_1.length : Int)) = true := decide_eq_true c3
     have c3b1 : decide (0 < x3_1.length) = true := decide_eq_true (by omega)
     clear c3
     obtain ⟨ji4, hji4⟩ : ∃ j_ : Int, (wrap64 ((x3_1.length : Int) - 1)) = j_ := ⟨_, rfl⟩
     replace H : (if 0 ≤ (ji4) then (if (ji4) < (x3_1.length : Int) then (if 0 ≤ x4_1 then (if ((rd_T51 x3_1 (ji4)).f0) = (rd l0 x4_1) then (bureauref03_Pack.l0 k1 l0 (x3_1.set ((ji4) : Int).toNat (⟨(rd_T51 x3_1 (ji4)).f0, wrap64 (((rd_T51 x3_1 (ji4)).f1) + 1)⟩ : S51)) (wrap64 (x4_1 + 1))) else (if x3_1.length < 8796093022208 then (bureauref03_Pack.l0 k1 l0 (x3_1 ++ [(⟨rd l0 x4_1, 1⟩ : S51)]) (wrap64 (x4_1 + 1))) else (none))) else (none)) else (none)) else (none)) = some r := by first | (rw [hji4] at H; exact H) | (simp only [hji4] at H ⊢; exact H)
     have hji4w : (IntKind.i64.wrap ((x3_1.length : Int) - 1)) = ji4 := (i64_w _).trans hji4
     by_cases c5 : 0 ≤ (ji4)
     ·rw [if_pos c5] at H
      have c5b0 : decide (0 ≤ (ji4)) = true := decide_eq_true c5
      clear c5
      by_cases c6 : (ji4) < (x3_1.length : Int)
      ·rw [if_pos c6] at H
       have c6b0 : decide ((ji4) < (x3_1.length : Int)) = true := decide_eq_true c6
       clear c6
       by_cases c7 : 0 ≤ x4_1
       ·rw [if_pos c7] at H
        have c7b0 : decide (0 ≤ x4_1) = true := decide_eq_true c7
        clear c7
        by_cases c8 : ((rd_T51 x3_1 (ji4)).f0) = (rd l0 x4_1)
        ·rw [if_pos c8] at H
         have c8b0 : (((rd_T51 x3_1 (ji4)).f0) == (rd l0 x4_1)) = true := beq_iff_eq.mpr c8
         have c8b1 : (((rd_T51 x3_1 (ji4)).f0) != (rd l0 x4_1)) = false := bne_eq_false_iff_eq.mpr c8
         clear c8
         obtain ⟨y288, hy288⟩ : ∃ y_ : List (S51), y_ = (x3_1.set ((ji4) : Int).toNat (⟨(rd_T51 x3_1 (ji4)).f0, wrap64 (((rd_T51 x3_1 (ji4)).f1) + 1)⟩ : S51)) := ⟨_, rfl⟩
         replace H : (bureauref03_Pack.l0 k1 l0 y288 (wrap64 (x4_1 + 1))) = some r := by first | (rw [hy288]; with_reducible exact H) | (have H2_ := (Option.bind_some _ _).symm.trans H; rw [hy288]; with_reducible exact H2_) | (have H2_ := (Option.bind_some _ _).symm.trans H; with_reducible exact H2_) | with_reducible exact H | (rw [hy288]; exact H) | exact H
         have Ny288 := aM hy288
         clear hy288
         have H' := aM H
         clear H
         obtain ⟨Ao10, co10, eo10⟩ := Kd.R_slice HO_3.out
         subst eo10
         have p285 : 0 ≤ ((ji4) : Int) := of_decide_eq_true (by first | (with_reducible assumption) | assumption)
         have q285 : (ji4) < (x3_1.length : Int) := of_decide_eq_true (by first | (with_reducible assumption) | assumption)
         obtain ⟨ad285, e285, hx285_0, hx285_1⟩ := at_T51 (rR HO_3.out).2.2 (ji4) p285 q285
         cases e285
         replace p285 := eq_true p285
         replace q285 := eq_true q285
         have p286 : 0 ≤ (x4_1 : Int) := of_decide_eq_true (by first | (with_reducible assumption) | assumption)
         have q286 : x4_1 < (l0.length : Int) := of_decide_eq_true (by first | (with_reducible assumption) | assumption)
         obtain ⟨ad286, e286, hx286_0⟩ := Kd.at_int HR0.out x4_1 p286 q286
         cases e286
         replace hx286_0 := (HB.out.cell (World.block_lt_of_cell? w _ hx286_0)).trans hx286_0
         replace p286 := eq_true p286
         replace q286 := eq_true q286
         have p287 : 0 ≤ ((ji4) : Int) := of_decide_eq_true (by first | (with_reducible assumption) | assumption)
         have q287 : (ji4) < (x3_1.length : Int) := of_decide_eq_true (by first | (with_reducible assumption) | assumption)
         obtain ⟨ad287, e287, hx287_0, hx287_1⟩ := at_T51 (rR HO_3.out).2.2 (ji4) p287 q287
         obtain rfl : ad285 = ad287 := (by injection e287)
         replace p287 := eq_true p287
         replace q287 := eq_true q287
         have p9 : 0 ≤ ((ji4) : Int) := of_decide_eq_true (by first | (with_reducible assumption) | assumption)
         have q9 : ((ji4) : Int) < ((x3_1.length : Int) : Int) := of_decide_eq_true (by first | (with_reducible assumption) | assumption)
         obtain ⟨go9, co9, eo9, gb9, gl9, cl9, HG9⟩ := Kd.R_form HO_3.out (by omega)
         (first | cases eo9 | (injection eo9 with ea_ en_ ec_; (first | subst ea_ | (injection ea_ with ea_; subst ea_)); subst ec_; clear en_))
         have GB9 := aM gb9
         have GG9 := aM HG9
         clear gb9 gl9 HG9
         (first | simp only [add_plain] at hx285_0 | skip)
         (first | simp only [add_plain] at hx285_1 | skip)
         (first | simp only [add_plain] at hx287_0 | skip)
         (first | simp only [add_plain] at hx287_1 | skip)
         obtain ⟨ce9, hcl9, hM9, hcc9, hfr9⟩ := Kd.R_elem HO_3.out z51 ((ji4) : Int) p9 q9
         obtain rfl := k51_openM hM9
         have hx9_0 : wr.cell? ⟨go9, ((ji4) : Int).toNat * 2, none⟩ = some (.int .u64 ((rd_T51 x3_1 (ji4)).f0)) := hcc9 0 _ rfl
         have hx9_1 : wr.cell? ⟨go9, ((ji4) : Int).toNat * 2 + 1, none⟩ = some (.int .i64 ((rd_T51 x3_1 (ji4)).f1)) := hcc9 1 _ rfl
         have hf9_0 : wr.frozen? ⟨go9, ((ji4) : Int).toNat * 2, none⟩ = false := hfr9 0
         have hf9_1 : wr.frozen? ⟨go9, ((ji4) : Int).toNat * 2 + 1, none⟩ = false := hfr9 1
         clear hcl9 hcc9 hfr9 hM9
         replace p9 := eq_true p9
         replace q9 := eq_true q9
         have HX11 := aM (show Kd.R k51 51 wr w.heap.size (fun _ => True) (.slice (some ⟨go9, 0, none⟩) x3_1.length co10) x3_1 from (ry HO_3.out))
         obtain ⟨ce11, hcl11, hM11, hcc11, hfr11⟩ := Kd.R_elem HX11.out z51 ((ji4) : Int) (of_decide_eq_true (by first | (with_reducible assumption) | assumption)) (by have h_ : ((ji4) : Int) < ((x3_1.length : Int) : Int) := of_decide_eq_true (by first | (with_reducible assumption) | assumption); first | exact h_ | (have e_ := (rR HO_3.out).1; omega) | simpa using h_)
         obtain rfl := k51_openM hM11
         have HP11 := Kd.R_seg HX11.out ((ji4) : Int) (of_decide_eq_true (by first | (with_reducible assumption) | assumption)) (by have h_ : ((ji4) : Int) < ((x3_1.length : Int) : Int) := of_decide_eq_true (by first | (with_reducible assumption) | assumption); first | exact h_ | (have e_ := (rR HO_3.out).1; omega) | simpa using h_) (seg := [.int .i64 (wrap64 (((rd_T51 x3_1 (ji4)).f1) + 1))]) (j := 1) hcl11 hcc11 (show 2 ≤ 2 from by decide) (x' := (⟨(rd_T51 x3_1 (ji4)).f0, wrap64 (((rd_T51 x3_1 (ji4)).f1) + 1)⟩ : S51)) (k51_mkM _ _ _ (⟨(rd_T51 x3_1 (ji4)).f0, wrap64 (((rd_T51 x3_1 (ji4)).f1) + 1)⟩ : S51) ) (fun _ hk => hk)
         have hx11_1 := hcc11 1 _ rfl
         (try simp only [show (k51).sz = 2 from rfl, Nat.mul_one, Nat.add_zero] at hx11_1)
         have hf11_1 := hfr11 1
         (try simp only [show (k51).sz = 2 from rfl, Nat.mul_one, Nat.add_zero] at hf11_1)
         clear hcl11 hcc11 hfr11 hM11
         go_wp2_with (first | ((with_reducible refine gate_store (t := 3) (p := 37) rfl ?_); (try (rw [drewN_self wr]; generalize hq_ : World.drewN wr _ = wr; have n0_ := aM (Kd.R_at hq_ HO_3.out); have n1_ := aM (below_at hq_ HB.out); clear hq_ HO_3 HB; have HO_3 := n0_; have HB := n1_; clear n0_ n1_; (try (have HX11 := aM (show Kd.R k51 51 wr w.heap.size (fun _ => True) (.slice (some ⟨go9, 0, none⟩) x3_1.length co10) x3_1 from (ry HO_3.out)))); (try (obtain ⟨ce11, hcl11, hM11, hcc11, hfr11⟩ := Kd.R_elem HX11.out z51 ((ji4) : Int) (of_decide_eq_true (by first | (with_reducible assumption) | assumption)) (by have h_ : ((ji4) : Int) < ((x3_1.length : Int) : Int) := of_decide_eq_true (by first | (with_reducible assumption) | assumption); first | exact h_ | (have e_ := (rR HO_3.out).1; omega) | simpa using h_))); (try (obtain rfl := k51_openM hM11)); (try (have HP11 := Kd.R_seg HX11.out ((ji4) : Int) (of_decide_eq_true (by first | (with_reducible assumption) | assumption)) (by have h_ : ((ji4) : Int) < ((x3_1.length : Int) : Int) := of_decide_eq_true (by first | (with_reducible assumption) | assumption); first | exact h_ | (have e_ := (rR HO_3.out).1; omega) | simpa using h_) (seg := [.int .i64 (wrap64 (((rd_T51 x3_1 (ji4)).f1) + 1))]) (j := 1) hcl11 hcc11 (show 2 ≤ 2 from by decide) (x' := (⟨(rd_T51 x3_1 (ji4)).f0, wrap64 (((rd_T51 x3_1 (ji4)).f1) + 1)⟩ : S51)) (k51_mkM _ _ _ (⟨(rd_T51 x3_1 (ji4)).f0, wrap64 (((rd_T51 x3_1 (ji4)).f1) + 1)⟩ : S51) ) (fun _ hk => hk))); (try (have hx11_1 := hcc11 1 _ rfl)); (try (try simp only [show (k51).sz = 2 from rfl, Nat.mul_one, Nat.add_zero] at hx11_1)); (try (have hf11_1 := hfr11 1)); (try (try simp only [show (k51).sz = 2 from rfl, Nat.mul_one, Nat.add_zero] at hf11_1)); (try (clear hcl11 hcc11 hfr11 hM11)))); refine store_event (t := 3) (p := 37) (v := ?vo_w12) (w1 := (wr.setCell ⟨go9, ((ji4) : Int).toNat * 2 + 1, none⟩ (.int .i64 (wrap64 (((rd_T51 x3_1 (ji4)).f1) + 1))))) ?hg ?ho ?hn ?hr ?_; (case ho => rfl); (case hg => rfl); (case hn => rfl); (case hr => first | (go_simp; done) | (go_simp; rfl)); intro w12 hw; have hg : wr.grownBy w12 (some go9) := (by rw [hw]; exact HP11.2); have hp_ : Kd.R k51 51 w12 w.heap.size (fun _ => True) (.slice (some ⟨go9, 0, none⟩) x3_1.length co10) y288 := (by rw [hw, Ny288.out]; exact HP11.1); clear HP11; have n0_ := aM (hp_); have n1_ := aM ((by rw [hw]; exact below_set (HB.out) GB9.out : Below w.heap.size w w12)); clear HO_3 HB; have HO_3 := n0_; have HB := n1_; clear n0_ n1_; clear hg hw hp_))
         repeat (go_quiet (first | ((with_reducible refine gate_store (t := 3) (p := 37) rfl ?_); (try (rw [drewN_self wr]; generalize hq_ : World.drewN wr _ = wr; have n0_ := aM (Kd.R_at hq_ HO_3.out); have n1_ := aM (below_at hq_ HB.out); clear hq_ HO_3 HB; have HO_3 := n0_; have HB := n1_; clear n0_ n1_; (try (have HX11 := aM (show Kd.R k51 51 wr w.heap.size (fun _ => True) (.slice (some ⟨go9, 0, none⟩) x3_1.length co10) x3_1 from (ry HO_3.out)))); (try (obtain ⟨ce11, hcl11, hM11, hcc11, hfr11⟩ := Kd.R_elem HX11.out z51 ((ji4) : Int) (of_decide_eq_true (by first | (with_reducible assumption) | assumption)) (by have h_ : ((ji4) : Int) < ((x3_1.length : Int) : Int) := of_decide_eq_true (by first | (with_reducible assumption) | assumption); first | exact h_ | (have e_ := (rR HO_3.out).1; omega) | simpa using h_))); (try (obtain rfl := k51_openM hM11)); (try (have HP11 := Kd.R_seg HX11.out ((ji4) : Int) (of_decide_eq_true (by first | (with_reducible assumption) | assumption)) (by have h_ : ((ji4) : Int) < ((x3_1.length : Int) : Int) := of_decide_eq_true (by first | (with_reducible assumption) | assumption); first | exact h_ | (have e_ := (rR HO_3.out).1; omega) | simpa using h_) (seg := [.int .i64 (wrap64 (((rd_T51 x3_1 (ji4)).f1) + 1))]) (j := 1) hcl11 hcc11 (show 2 ≤ 2 from by decide) (x' := (⟨(rd_T51 x3_1 (ji4)).f0, wrap64 (((rd_T51 x3_1 (ji4)).f1) + 1)⟩ : S51)) (k51_mkM _ _ _ (⟨(rd_T51 x3_1 (ji4)).f0, wrap64 (((rd_T51 x3_1 (ji4)).f1) + 1)⟩ : S51) ) (fun _ hk => hk))); (try (have hx11_1 := hcc11 1 _ rfl)); (try (try simp only [show (k51).sz = 2 from rfl, Nat.mul_one, Nat.add_zero] at hx11_1)); (try (have hf11_1 := hfr11 1)); (try (try simp only [show (k51).sz = 2 from rfl, Nat.mul_one, Nat.add_zero] at hf11_1)); (try (clear hcl11 hcc11 hfr11 hM11)))); refine store_event (t := 3) (p := 37) (v := ?vo_w12) (w1 := (wr.setCell ⟨go9, ((ji4) : Int).toNat * 2 + 1, none⟩ (.int .i64 (wrap64 (((rd_T51 x3_1 (ji4)).f1) + 1))))) ?hg ?ho ?hn ?hr ?_; (case ho => rfl); (case hg => rfl); (case hn => rfl); (case hr => first | (go_simp; done) | (go_simp; rfl)); intro w12 hw; have hg : wr.grownBy w12 (some go9) := (by rw [hw]; exact HP11.2); have hp_ : Kd.R k51 51 w12 w.heap.size (fun _ => True) (.slice (some ⟨go9, 0, none⟩) x3_1.length co10) y288 := (by rw [hw, Ny288.out]; exact HP11.1); clear HP11; have n0_ := aM (hp_); have n1_ := aM ((by rw [hw]; exact below_set (HB.out) GB9.out : Below w.heap.size w w12)); clear HO_3 HB; have HO_3 := n0_; have HB := n1_; clear n0_ n1_; clear hg hw hp_)); try go_wp2_with (first | ((with_reducible refine gate_store (t := 3) (p := 37) rfl ?_); (try (rw [drewN_self wr]; generalize hq_ : World.drewN wr _ = wr; have n0_ := aM (Kd.R_at hq_ HO_3.out); have n1_ := aM (below_at hq_ HB.out); clear hq_ HO_3 HB; have HO_3 := n0_; have HB := n1_; clear n0_ n1_; (try (have HX11 := aM (show Kd.R k51 51 wr w.heap.size (fun _ => True) (.slice (some ⟨go9, 0, none⟩) x3_1.length co10) x3_1 from (ry HO_3.out)))); (try (obtain ⟨ce11, hcl11, hM11, hcc11, hfr11⟩ := Kd.R_elem HX11.out z51 ((ji4) : Int) (of_decide_eq_true (by first | (with_reducible assumption) | assumption)) (by have h_ : ((ji4) : Int) < ((x3_1.length : Int) : Int) := of_decide_eq_true (by first | (with_reducible assumption) | assumption); first | exact h_ | (have e_ := (rR HO_3.out).1; omega) | simpa using h_))); (try (obtain rfl := k51_openM hM11)); (try (have HP11 := Kd.R_seg HX11.out ((ji4) : Int) (of_decide_eq_true (by first | (with_reducible assumption) | assumption)) (by have h_ : ((ji4) : Int) < ((x3_1.length : Int) : Int) := of_decide_eq_true (by first | (with_reducible assumption) | assumption); first | exact h_ | (have e_ := (rR HO_3.out).1; omega) | simpa using h_) (seg := [.int .i64 (wrap64 (((rd_T51 x3_1 (ji4)).f1) + 1))]) (j := 1) hcl11 hcc11 (show 2 ≤ 2 from by decide) (x' := (⟨(rd_T51 x3_1 (ji4)).f0, wrap64 (((rd_T51 x3_1 (ji4)).f1) + 1)⟩ : S51)) (k51_mkM _ _ _ (⟨(rd_T51 x3_1 (ji4)).f0, wrap64 (((rd_T51 x3_1 (ji4)).f1) + 1)⟩ : S51) ) (fun _ hk => hk))); (try (have hx11_1 := hcc11 1 _ rfl)); (try (try simp only [show (k51).sz = 2 from rfl, Nat.mul_one, Nat.add_zero] at hx11_1)); (try (have hf11_1 := hfr11 1)); (try (try simp only [show (k51).sz = 2 from rfl, Nat.mul_one, Nat.add_zero] at hf11_1)); (try (clear hcl11 hcc11 hfr11 hM11)))); refine store_event (t := 3) (p := 37) (v := ?vo_w12) (w1 := (wr.setCell ⟨go9, ((ji4) : Int).toNat * 2 + 1, none⟩ (.int .i64 (wrap64 (((rd_T51 x3_1 (ji4)).f1) + 1))))) ?hg ?ho ?hn ?hr ?_; (case ho => rfl); (case hg => rfl); (case hn => rfl); (case hr => first | (go_simp; done) | (go_simp; rfl)); intro w12 hw; have hg : wr.grownBy w12 (some go9) := (by rw [hw]; exact HP11.2); have hp_ : Kd.R k51 51 w12 w.heap.size (fun _ => True) (.slice (some ⟨go9, 0, none⟩) x3_1.length co10) y288 := (by rw [hw, Ny288.out]; exact HP11.1); clear HP11; have n0_ := aM (hp_); have n1_ := aM ((by rw [hw]; exact below_set (HB.out) GB9.out : Below w.heap.size w w12)); clear HO_3 HB; have HO_3 := n0_; have HB := n1_; clear n0_ n1_; clear hg hw hp_)))
         go_roundg k1
         case measure => have := HK1.out; omega
         case rel => exact ⟨(y288), (wrap64 (x4_1 + 1)), (by first | rfl | (simp; done) | (simp [*]; done)), H', ⟨by have := HK1.out; omega⟩, ⟨by exact ry HO_3.out⟩, ⟨by exact ey HB.out⟩⟩
        ·rw [if_neg c8] at H
         have c8b0 : (((rd_T51 x3_1 (ji4)).f0) == (rd l0 x4_1)) = false := beq_eq_false_iff_ne.mpr c8
         have c8b1 : (((rd_T51 x3_1 (ji4)).f0) != (rd l0 x4_1)) = true := bne_iff_ne.mpr c8
         by_cases c13 : x3_1.length < 8796093022208
         ·rw [if_pos c13] at H
          have LMc13 := aM c13
          clear c13
          obtain ⟨y290, hy290⟩ : ∃ y_ : List (S51), y_ = (x3_1 ++ [(⟨rd l0 x4_1, 1⟩ : S51)]) := ⟨_, rfl⟩
          replace H : (bureauref03_Pack.l0 k1 l0 y290 (wrap64 (x4_1 + 1))) = some r := by first | (rw [hy290]; with_reducible exact H) | (have H2_ := (Option.bind_some _ _).symm.trans H; rw [hy290]; with_reducible exact H2_) | (have H2_ := (Option.bind_some _ _).symm.trans H; with_reducible exact H2_) | with_reducible exact H | (rw [hy290]; exact H) | exact H
          have Ny290 := aM hy290
          clear hy290
          have H' := aM H
          clear H
          obtain ⟨Ao14, co14, eo14⟩ := Kd.R_slice HO_3.out
          subst eo14
          have p285 : 0 ≤ ((ji4) : Int) := of_decide_eq_true (by first | (with_reducible assumption) | assumption)
          have q285 : (ji4) < (x3_1.length : Int) := of_decide_eq_true (by first | (with_reducible assumption) | assumption)
          obtain ⟨ad285, e285, hx285_0, hx285_1⟩ := at_T51 (rR HO_3.out).2.2 (ji4) p285 q285
          cases e285
          replace p285 := eq_true p285
          replace q285 := eq_true q285
          have p286 : 0 ≤ (x4_1 : Int) := of_decide_eq_true (by first | (with_reducible assumption) | assumption)
          have q286 : x4_1 < (l0.length : Int) := of_decide_eq_true (by first | (with_reducible assumption) | assumption)
          obtain ⟨ad286, e286, hx286_0⟩ := Kd.at_int HR0.out x4_1 p286 q286
          cases e286
          replace hx286_0 := (HB.out.cell (World.block_lt_of_cell? w _ hx286_0)).trans hx286_0
          replace p286 := eq_true p286
          replace q286 := eq_true q286
          have p289 : 0 ≤ (x4_1 : Int) := of_decide_eq_true (by first | (with_reducible assumption) | assumption)
          have q289 : x4_1 < (l0.length : Int) := of_decide_eq_true (by first | (with_reducible assumption) | assumption)
          obtain ⟨ad289, e289, hx289_0⟩ := Kd.at_int HR0.out x4_1 p289 q289
          obtain rfl : ad286 = ad289 := (by injection e289)
          replace hx289_0 := (HB.out.cell (World.block_lt_of_cell? w _ hx289_0)).trans hx289_0
          replace p289 := eq_true p289
          replace q289 := eq_true q289
          go_wp2_with (first | ((with_reducible refine gate_builtin (b := .append) (xs := #[.tmp 38, .tmp 44]) rfl ?_); at_builtin; refine Kd.R_append k51 (w0 := w) w.heap.size rfl (.tmp 38) (.tmp 44) 22 51 (.agg #[(.int .u64 0), (.int .i64 0)]) 16 rfl Try.underlying22 info51 rfl (by decide) (by omega) (.slice (some ad285) x3_1.length co14) x3_1 (⟨rd l0 x4_1, 1⟩ : S51) [.int .u64 (rd l0 x4_1), .int .i64 1] (fun _ => True) (fun _ => False) rfl rfl ?aP (fun _ hk => hk.elim) ?aF ?aO ?aB ?aS ?aL ?_; (case aP => exact k51_mkM _ _ _ (⟨rd l0 x4_1, 1⟩ : S51)); (case aB => exact (ey HB.out)); (case aF => exact (fun _ _ => trivial)); (case aO => exact (ry HO_3.out)); (case aS => exact (bZ (ey HB.out))); (case aL => have := LMc13.out; omega); intro v291 w15 ho hb hg hat; rw [← Ny290.out] at ho; have n0_ := aM (hb); have n1_ := aM (ho); clear HB HO_3; have HB := n0_; have HO292 := n1_; clear n0_ n1_; clear ho hb hg hat))
          repeat (go_quiet (first | ((with_reducible refine gate_builtin (b := .append) (xs := #[.tmp 38, .tmp 44]) rfl ?_); at_builtin; refine Kd.R_append k51 (w0 := w) w.heap.size rfl (.tmp 38) (.tmp 44) 22 51 (.agg #[(.int .u64 0), (.int .i64 0)]) 16 rfl Try.underlying22 info51 rfl (by decide) (by omega) (.slice (some ad285) x3_1.length co14) x3_1 (⟨rd l0 x4_1, 1⟩ : S51) [.int .u64 (rd l0 x4_1), .int .i64 1] (fun _ => True) (fun _ => False) rfl rfl ?aP (fun _ hk => hk.elim) ?aF ?aO ?aB ?aS ?aL ?_; (case aP => exact k51_mkM _ _ _ (⟨rd l0 x4_1, 1⟩ : S51)); (case aB => exact (ey HB.out)); (case aF => exact (fun _ _ => trivial)); (case aO => exact (ry HO_3.out)); (case aS => exact (bZ (ey HB.out))); (case aL => have := LMc13.out; omega); intro v291 w15 ho hb hg hat; rw [← Ny290.out] at ho; have n0_ := aM (hb); have n1_ := aM (ho); clear HB HO_3; have HB := n0_; have HO292 := n1_; clear n0_ n1_; clear ho hb hg hat)); try go_wp2_with (first | ((with_reducible refine gate_builtin (b := .append) (xs := #[.tmp 38, .tmp 44]) rfl ?_); at_builtin; refine Kd.R_append k51 (w0 := w) w.heap.size rfl (.tmp 38) (.tmp 44) 22 51 (.agg #[(.int .u64 0), (.int .i64 0)]) 16 rfl Try.underlying22 info51 rfl (by decide) (by omega) (.slice (some ad285) x3_1.length co14) x3_1 (⟨rd l0 x4_1, 1⟩ : S51) [.int .u64 (rd l0 x4_1), .int .i64 1] (fun _ => True) (fun _ => False) rfl rfl ?aP (fun _ hk => hk.elim) ?aF ?aO ?aB ?aS ?aL ?_; (case aP => exact k51_mkM _ _ _ (⟨rd l0 x4_1, 1⟩ : S51)); (case aB => exact (ey HB.out)); (case aF => exact (fun _ _ => trivial)); (case aO => exact (ry HO_3.out)); (case aS => exact (bZ (ey HB.out))); (case aL => have := LMc13.out; omega); intro v291 w15 ho hb hg hat; rw [← Ny290.out] at ho; have n0_ := aM (hb); have n1_ := aM (ho); clear HB HO_3; have HB := n0_; have HO292 := n1_; clear n0_ n1_; clear ho hb hg hat)))
          go_roundg k1
          case measure => have := HK1.out; omega
          case rel => exact ⟨(y290), (wrap64 (x4_1 + 1)), (by first | rfl | (simp; done) | (simp [*]; done)), H', ⟨by have := HK1.out; omega⟩, ⟨by exact ry HO292.out⟩, ⟨by exact ey HB.out⟩⟩
         ·rw [if_neg c13] at H
          exact absurd H (by simp)
       ·rw [if_neg c7] at H
        exact absurd H (by simp)
      ·rw [if_neg c6] at H
       exact absurd H (by simp)
     ·rw [if_neg c5] at H
      exact absurd H (by simp)
    ·rw [if_neg c3] at H
     have c3b0 : decide (0 < (x3_1.length : Int)) = false := decide_eq_false c3
     have c3b1 : decide (0 < x3_1.length) = false := decide_eq_false (by omega)
     clear c3
     by_cases c16 : 0 ≤ x4_1
     ·rw [if_pos c16] at H
      have c16b0 : decide (0 ≤ x4_1) = true := decide_eq_true c16
      clear c16
      by_cases c17 : x3_1.length < 8796093022208
      ·rw [if_pos c17] at H
       have LMc17 := aM c17
       clear c17
       obtain ⟨y294, hy294⟩ : ∃ y_ : List (S51), y_ = (x3_1 ++ [(⟨rd l0 x4_1, 1⟩ : S51)]) := ⟨_, rfl⟩
       replace H : (bureauref03_Pack.l0 k1 l0 y294 (wrap64 (x4_1 + 1))) = some r := by first | (rw [hy294]; with_reducible exact H) | (have H2_ := (Option.bind_some _ _).symm.trans H; rw [hy294]; with_reducible exact H2_) | (have H2_ := (Option.bind_some _ _).symm.trans H; with_reducible exact H2_) | with_reducible exact H | (rw [hy294]; exact H) | exact H
       have Ny294 := aM hy294
       clear hy294
       have H' := aM H
       clear H
       obtain ⟨Ao18, co18, eo18⟩ := Kd.R_slice HO_3.out
       subst eo18
       have p293 : 0 ≤ (x4_1 : Int) := of_decide_eq_true (by first | (with_reducible assumption) | assumption)
       have q293 : x4_1 < (l0.length : Int) := of_decide_eq_true (by first | (with_reducible assumption) | assumption)
       obtain ⟨ad293, e293, hx293_0⟩ := Kd.at_int HR0.out x4_1 p293 q293
       cases e293
       replace hx293_0 := (HB.out.cell (World.block_lt_of_cell? w _ hx293_0)).trans hx293_0
       replace p293 := eq_true p293
       replace q293 := eq_true q293
       go_wp2_with (first | ((with_reducible refine gate_builtin (b := .append) (xs := #[.tmp 38, .tmp 44]) rfl ?_); at_builtin; refine Kd.R_append k51 (w0 := w) w.heap.size rfl (.tmp 38) (.tmp 44) 22 51 (.agg #[(.int .u64 0), (.int .i64 0)]) 16 rfl Try.underlying22 info51 rfl (by decide) (by omega) (.slice Ao18 x3_1.length co18) x3_1 (⟨rd l0 x4_1, 1⟩ : S51) [.int .u64 (rd l0 x4_1), .int .i64 1] (fun _ => True) (fun _ => False) rfl rfl ?aP (fun _ hk => hk.elim) ?aF ?aO ?aB ?aS ?aL ?_; (case aP => exact k51_mkM _ _ _ (⟨rd l0 x4_1, 1⟩ : S51)); (case aB => exact (ey HB.out)); (case aF => exact (fun _ _ => trivial)); (case aO => exact (ry HO_3.out)); (case aS => exact (bZ (ey HB.out))); (case aL => have := LMc17.out; omega); intro v295 w19 ho hb hg hat; rw [← Ny294.out] at ho; have n0_ := aM (hb); have n1_ := aM (ho); clear HB HO_3; have HB := n0_; have HO296 := n1_; clear n0_ n1_; clear ho hb hg hat))
       repeat (go_quiet (first | ((with_reducible refine gate_builtin (b := .append) (xs := #[.tmp 38, .tmp 44]) rfl ?_); at_builtin; refine Kd.R_append k51 (w0 := w) w.heap.size rfl (.tmp 38) (.tmp 44) 22 51 (.agg #[(.int .u64 0), (.int .i64 0)]) 16 rfl Try.underlying22 info51 rfl (by decide) (by omega) (.slice Ao18 x3_1.length co18) x3_1 (⟨rd l0 x4_1, 1⟩ : S51) [.int .u64 (rd l0 x4_1), .int .i64 1] (fun _ => True) (fun _ => False) rfl rfl ?aP (fun _ hk => hk.elim) ?aF ?aO ?aB ?aS ?aL ?_; (case aP => exact k51_mkM _ _ _ (⟨rd l0 x4_1, 1⟩ : S51)); (case aB => exact (ey HB.out)); (case aF => exact (fun _ _ => trivial)); (case aO => exact (ry HO_3.out)); (case aS => exact (bZ (ey HB.out))); (case aL => have := LMc17.out; omega); intro v295 w19 ho hb hg hat; rw [← Ny294.out] at ho; have n0_ := aM (hb); have n1_ := aM (ho); clear HB HO_3; have HB := n0_; have HO296 := n1_; clear n0_ n1_; clear ho hb hg hat)); try go_wp2_with (first | ((with_reducible refine gate_builtin (b := .append) (xs := #[.tmp 38, .tmp 44]) rfl ?_); at_builtin; refine Kd.R_append k51 (w0 := w) w.heap.size rfl (.tmp 38) (.tmp 44) 22 51 (.agg #[(.int .u64 0), (.int .i64 0)]) 16 rfl Try.underlying22 info51 rfl (by decide) (by omega) (.slice Ao18 x3_1.length co18) x3_1 (⟨rd l0 x4_1, 1⟩ : S51) [.int .u64 (rd l0 x4_1), .int .i64 1] (fun _ => True) (fun _ => False) rfl rfl ?aP (fun _ hk => hk.elim) ?aF ?aO ?aB ?aS ?aL ?_; (case aP => exact k51_mkM _ _ _ (⟨rd l0 x4_1, 1⟩ : S51)); (case aB => exact (ey HB.out)); (case aF => exact (fun _ _ => trivial)); (case aO => exact (ry HO_3.out)); (case aS => exact (bZ (ey HB.out))); (case aL => have := LMc17.out; omega); intro v295 w19 ho hb hg hat; rw [← Ny294.out] at ho; have n0_ := aM (hb); have n1_ := aM (ho); clear HB HO_3; have HB := n0_; have HO296 := n1_; clear n0_ n1_; clear ho hb hg hat)))
       go_roundg k1
       case measure => have := HK1.out; omega
       case rel => exact ⟨(y294), (wrap64 (x4_1 + 1)), (by first | rfl | (simp; done) | (simp [*]; done)), H', ⟨by have := HK1.out; omega⟩, ⟨by exact ry HO296.out⟩, ⟨by exact ey HB.out⟩⟩
      ·rw [if_neg c17] at H
       exact absurd H (by simp)
     ·rw [if_neg c16] at H
      exact absurd H (by simp)
   ·rw [if_neg c2] at H
    have c2b0 : decide (x4_1 < (l0.length : Int)) = false := decide_eq_false c2
    clear c2
    obtain rfl := Option.some.inj H
    go_wp2
    repeat (go_quiet (fail); try go_wp2)
    go_ret
    exact ⟨_, by first | rfl | (simp [errW_none, errW_some] <;> rfl) | (simp [*, errW_none, errW_some] <;> rfl), by exact ry HO_3.out, by exact ey HB.out⟩
end Go.Proofs.Ytnbdldpjiofafaa.PB
end

section
namespace Go.Proofs.Ytnbdldpjiofafaa.PB
open Go.RowKit Go.Proofs.YtnbdldpjiofafaaW.PrintWords Go.Proofs.YtnbdldpjiofafaaW.PrintLast Go.Proofs.YtnbdldpjiofafaaW.PrintMore
attribute [local go_sem] max2_int min2_int max_two min_two max_three min_three max_four min_four   
set_option linter.unusedVariables false
set_option linter.unusedSimpArgs false
def bureauref04_Make.l0 : Nat → ByteArray → Int → List Int → Int → Option (ByteArray × (List (S51)) × Int)
 | 0, _, _, _, _ => none
 | k + 1, x0, x1, x6, x7 => if x7 < (x0.size : Int) then (if x6.length < 17592186044416 then (bureauref04_Make.l0 k x0 x1 (x6 ++ [x1]) (wrap64 (x7 + 1))) else (none)) else ((bureauref03_Pack.f k x6).bind fun t361 => (some (x0, t361, 0)))
def bureauref04_Make.f (k : Nat) (a0 : ByteArray) (a1 : Int) : Option (ByteArray × (List (S51)) × Int) := if (a0.size : Int) > 4096 then (some ((⟨#[]⟩ : ByteArray), ([] : List (S51)), 3)) else (bureauref04_Make.l0 k a0 a1 ([] : List Int) 0)
set_option maxHeartbeats 8000000 in
set_option maxRecDepth 100000 in
theorem bureauref04_Make.calls (k : Nat) (a0 : ByteArray) (a1 : Int) (r1 : ByteArray) (r2 : List (S51)) (r3 : Int) (w : World) (h : bureauref04_Make.f k a0 a1 = some (r1, r2, r3)) :
  Calls Try.prog 32 #[.string a0, .int .u64 a1] w fun e w' => ∃ v1_ : Value, e = .returned (.tuple #[.agg #[.string r1, v1_], .int .i64 r3]) ∧ Kd.R k51 51 w' w.heap.size (fun _ => True) v1_ r2 ∧ Below w.heap.size w w' := by
 have hu24 := Try.underlying24
 have HB := aM (Below.refl w.heap.size w)
 have H : (if (a0.size : Int) > 4096 then (some ((⟨#[]⟩ : ByteArray), ([] : List (S51)), 3)) else (bureauref04_Make.l0 k a0 a1 ([] : List Int) 0)) = some (r1, r2, r3) := h
 clear h
 by_cases c3 : (a0.size : Int) > 4096
 ·rw [if_pos c3] at H
  have c3b0 : decide (4096 < (a0.size : Int)) = true := decide_eq_true c3
  have c3b1 : decide (4096 < a0.size) = true := decide_eq_true (by omega)
  clear c3
  simp only [Option.some.injEq, Prod.mk.injEq] at H
  obtain ⟨rfl, rfl, rfl⟩ := H
  go_enter Try.func32, Try.ntmps32
  go_wp2_with (first | ((with_reducible refine gate_dst (N := 4) rfl ?_); refine box_event ?hg (N := 4) ?hd (cs := #[.string (⟨#[]⟩ : ByteArray), .slice none 0 0]) (t := 24) ?hr ?_; (case hd | hg => rfl); (case hr => first | (go_simp; done) | (go_simp; rfl)); intro gb357 hg w4 hbox hb; have n0_ := aM (bP (ey HB.out) hb); have n1_ := aM (hbox); have n2_ := aM ((by rw [hg]; exact (bZ (ey HB.out)) : w.heap.size ≤ gb357)); have n3_ := n2_; clear HB; have HB := n0_; have BK357 := n1_; have GW357 := n2_; have GE357 := n3_; clear n0_ n1_ n2_ n3_; clear hb hbox hg; have hcz5_0 := zC BK357.out 0 (.string (⟨#[]⟩ : ByteArray)); have hcz5_1 := zC BK357.out 1 (.slice none 0 0); have hfz5_0 := bF BK357.out 0; have hfz5_1 := bF BK357.out 1))
  refine bodyPost_ret (results_ct rfl _ _ gb357 24 #[.string (⟨#[]⟩ : ByteArray), .slice none 0 0] (0, 0) _ rfl (by (with_reducible repeat (first | apply qn | apply qd | apply qa)); refine bU (cs := #[.string (⟨#[]⟩ : ByteArray), .slice none 0 0]) ?_ 1 _ rfl; (with_reducible repeat (first | apply qn | apply qd | apply qa)); refine bU (cs := #[.string (⟨#[]⟩ : ByteArray), .slice none 0 0]) ?_ 0 _ rfl; exact qy BK357.out) Try.underlying24 rfl (by kernel_rfl)) rfl ?_
  exact ⟨_, by first | rfl | (simp [errW_none, errW_some] <;> rfl) | (simp [*, errW_none, errW_some] <;> rfl), by first | exact Kd.R_nil _ _ _ _ _ | exact Kd.N_nil _ _ _ _ _ | exact Kd.V_nil _ _ _ _ _ | exact Kd.Q_nil _ _ _ _ _ | exact Kd.S_nil _ _ _ _ _, by repeat (first | (with_reducible first | exact HB.out | apply ea | apply en | apply ed | refine es ?_ GE357.out) | exact HB.out)⟩
 ·rw [if_neg c3] at H
  have c3b0 : decide (4096 < (a0.size : Int)) = false := decide_eq_false c3
  have c3b1 : decide (4096 < a0.size) = false := decide_eq_false (by omega)
  clear c3
  have H' := aM H
  clear H
  go_enter Try.func32, Try.ntmps32
  go_wp2_with (first | ((with_reducible refine gate_dst (N := 4) rfl ?_); refine box_event ?hg (N := 4) ?hd (cs := #[.string (⟨#[]⟩ : ByteArray), .slice none 0 0]) (t := 24) ?hr ?_; (case hd | hg => rfl); (case hr => first | (go_simp; done) | (go_simp; rfl)); intro gb357 hg w6 hbox hb; have n0_ := aM (bP (ey HB.out) hb); have n1_ := aM (hbox); have n2_ := aM ((by rw [hg]; exact (bZ (ey HB.out)) : w.heap.size ≤ gb357)); have n3_ := n2_; clear HB; have HB := n0_; have BK357 := n1_; have GW357 := n2_; have GE357 := n3_; clear n0_ n1_ n2_ n3_; clear hb hbox hg))
  go_loopg [6, 7] k (fun kq v6 v7 w' => ∃ (x6_1 : List Int) (x7_1 : Int), v7 = .int .i64 x7_1 ∧ Aside0 (bureauref04_Make.l0 kq a0 a1 x6_1 x7_1 = some (r1, r2, r3)) ∧ Aside0 (kq ≤ k) ∧ Aside0 (Kd.R (Kd.int .u64) 26 w' w.heap.size (fun _ => True) v6 x6_1) ∧ Aside0 (w'.heap[gb357]? = some (.cells #[.string (⟨#[]⟩ : ByteArray), (.slice none 0 0)] 24 (0, 0))) ∧ Aside0 (Below w.heap.size w w'))
  case atStart => exact ⟨(([] : List Int)), (0), (by first | rfl | (simp; done) | (simp [*]; done)), H', ⟨Nat.le_refl _⟩, ⟨by first | exact Kd.R_nil _ _ _ _ _ | exact Kd.N_nil _ _ _ _ _ | exact Kd.V_nil _ _ _ _ _ | exact Kd.Q_nil _ _ _ _ _ | exact Kd.S_nil _ _ _ _ _⟩, ⟨by exact qy BK357.out⟩, ⟨by repeat (first | (with_reducible first | exact HB.out | apply ea | apply en | apply ed | refine es ?_ GE357.out) | exact HB.out)⟩⟩
  case round =>
   clear H'
   try clear p2
   try clear c3
   try clear c3b0
   try clear c3b1
   try clear hcz5_0
   try clear hcz5_1
   try clear hfz5_0
   try clear hfz5_1
   obtain ⟨x6_1, x7_1, rfl, HA, HK1, HO_6, BK357, HB⟩ := hrel
   cases gk with
   | zero => exact absurd HA.out (by simp [bureauref04_Make.l0])
   | succ k1 =>
    have H := HA.out
    clear HA
    simp only [bureauref04_Make.l0] at H
    by_cases c7 : x7_1 < (a0.size : Int)
    ·rw [if_pos c7] at H
     have c7b0 : decide (x7_1 < (a0.size : Int)) = true := decide_eq_true c7
     clear c7
     by_cases c8 : x6_1.length < 17592186044416
     ·rw [if_pos c8] at H
      have LMc8 := aM c8
      clear c8
      obtain ⟨y358, hy358⟩ : ∃ y_ : List Int, y_ = (x6_1 ++ [a1]) := ⟨_, rfl⟩
      replace H : (bureauref04_Make.l0 k1 a0 a1 y358 (wrap64 (x7_1 + 1))) = some (r1, r2, r3) := by first | (rw [hy358]; with_reducible exact H) | (have H2_ := (Option.bind_some _ _).symm.trans H; rw [hy358]; with_reducible exact H2_) | (have H2_ := (Option.bind_some _ _).symm.trans H; with_reducible exact H2_) | with_reducible exact H | (rw [hy358]; exact H) | exact H
      have Ny358 := aM hy358
      clear hy358
      have H' := aM H
      clear H
      go_wp2_with (first | ((with_reducible refine gate_builtin (b := .append) (xs := #[.tmp 18, .tmp 20]) rfl ?_); at_builtin; refine Kd.R_append (Kd.int .u64) (w0 := w) w.heap.size rfl (.tmp 18) (.tmp 20) 80 26 (.int .u64 0) 8 rfl Try.underlying80 info26 rfl (by decide) (by omega) u6 x6_1 a1 [.int .u64 a1] (fun _ => True) (fun _ => False) rfl rfl ?aP (fun _ hk => hk.elim) ?aF ?aO ?aB ?aS ?aL ?_; (case aP => exact rfl); (case aB => exact (by repeat (first | (with_reducible first | exact HB.out | apply ea | apply en | apply ed | refine es ?_ GE357.out) | exact HB.out))); (case aF => exact (fun _ _ => trivial)); (case aO => exact (ry HO_6.out)); (case aS => exact (bZ (by repeat (first | (with_reducible first | exact HB.out | apply ea | apply en | apply ed | refine es ?_ GE357.out) | exact HB.out)))); (case aL => have := LMc8.out; omega); intro v359 w9 ho hb hg hat; rw [← Ny358.out] at ho; have n0_ := aM (blk_grown (g := gb357) (qy BK357.out) hg (Kd.R_ne HO_6.out BK357.out (by decide))); have n1_ := aM (hb); have n2_ := aM (ho); clear BK357 HB HO_6; have BK357 := n0_; have HB := n1_; have HO360 := n2_; clear n0_ n1_ n2_; clear ho hb hg hat))
      go_roundg k1
      case measure => have := HK1.out; omega
      case rel => exact ⟨(y358), (wrap64 (x7_1 + 1)), (by first | rfl | (simp; done) | (simp [*]; done)), H', ⟨by have := HK1.out; omega⟩, ⟨by exact ry HO360.out⟩, ⟨by exact qy BK357.out⟩, ⟨by repeat (first | (with_reducible first | exact HB.out | apply ea | apply en | apply ed | refine es ?_ GE357.out) | exact HB.out)⟩⟩
     ·rw [if_neg c8] at H
      exact absurd H (by simp)
    ·rw [if_neg c7] at H
     have c7b0 : decide (x7_1 < (a0.size : Int)) = false := decide_eq_false c7
     clear c7
     replace H := Option.bind_eq_some_iff.mp H
     obtain ⟨t361, A100, H⟩ := H
     replace H : (some (a0, t361, 0)) = some (r1, r2, r3) := H
     have A10 := aM A100
     clear A100
     simp only [Option.some.injEq, Prod.mk.injEq] at H
     obtain ⟨rfl, rfl, rfl⟩ := H
     obtain ⟨Ao11, co11, eo11⟩ := Kd.R_slice HO_6.out
     subst eo11
     go_wp2_with (first | ((with_reducible refine gate_callee (f := 57) rfl ?_); refine goesL_ (some 24) rfl rfl Try.func57 (by kernel_rfl) rfl #[.slice Ao11 x6_1.length co11] rfl (by (try simp only [mT, mC, mN]); first | done | rfl | (simp only [lD, lT]; rfl)) ?_; (with_reducible refine (bureauref03_Pack.calls k1 _ _ x6_1 t361 _ ?side1 ?side2 A10.out).mono ?_); (case side1 => repeat (first | exact (rR HO_6.out).2.2 | (with_reducible refine Kd.C_alloc ?_ _) | (with_reducible refine Kd.C_drewN ?_ _) | (with_reducible refine Kd.C_drew ?_))); (case side2 => exact (rR HO_6.out).2.1); rintro e w12 ⟨v362, rfl, ho0, hb⟩; refine ⟨_, rfl, ?_⟩; have n0_ := aM (Kd.R_below (ry HO_6.out) hb); have n1_ := aM (rL ho0 (bZ (by repeat (first | (with_reducible first | exact HB.out | apply ea | apply en | apply ed | refine es ?_ GE357.out) | exact HB.out)))); have n2_ := aM (bB (g := gb357) (qy BK357.out) hb); have n3_ := aM (bP (by repeat (first | (with_reducible first | exact HB.out | apply ea | apply en | apply ed | refine es ?_ GE357.out) | exact HB.out)) hb); clear HO_6 BK357 HB; have HO_6 := n0_; have HO363 := n1_; have BK357 := n2_; have HB := n3_; clear n0_ n1_ n2_ n3_; (try clear hb); (try clear hb2); (try clear hk); (try clear hi); (try clear ho0); obtain ⟨Ao13, co13, eo13⟩ := Kd.R_slice HO363.out; subst eo13; have hcz14_0 := zC BK357.out 0 (.string (⟨#[]⟩ : ByteArray)); have hcz14_1 := zC BK357.out 1 (.slice none 0 0); have hfz14_0 := bF BK357.out 0; have hfz14_1 := bF BK357.out 1))
     refine bodyPost_ret (results_ct rfl _ _ gb357 24 #[.string a0, .slice Ao13 t361.length co13] (0, 0) _ rfl (by (with_reducible repeat (first | apply qn | apply qd | apply qa)); refine bU (cs := #[.string a0, .slice none 0 0]) ?_ 1 _ rfl; (with_reducible repeat (first | apply qn | apply qd | apply qa)); refine bU (cs := #[.string (⟨#[]⟩ : ByteArray), .slice none 0 0]) ?_ 0 _ rfl; exact qy BK357.out) Try.underlying24 rfl (by kernel_rfl)) rfl ?_
     exact ⟨_, by first | rfl | (simp [errW_none, errW_some] <;> rfl) | (simp [*, errW_none, errW_some] <;> rfl), by (with_reducible repeat (first | apply ra | apply rn | apply rd_)); exact rM (rF (p := ⟨gb357, 1, none⟩) (rF (p := ⟨gb357, 0, none⟩) (rT HO363.out BK357.out (by decide)) (fun _ hk => hk.2) (.string a0)) (fun _ hk => hk.2) (.slice Ao13 t361.length co13)) (fun _ hk => trivial), by repeat (first | (with_reducible first | exact HB.out | apply ea | apply en | apply ed | refine es ?_ GE357.out) | exact HB.out)⟩
end Go.Proofs.Ytnbdldpjiofafaa.PB
end
