/- What the row hangs on, part 6. -/
import Derived.Lib.CountLaws
import Derived.Lib.SplitLaws
import Derived.Lib.IndexMore
import Derived.OpenShut
import Derived.ChangeArms
import Derived.Deep.Slices
import Derived.SizedLaws
import Derived.Test.YtnbdldpjiofafaaQSubstDoes5
section
namespace Go.Proofs.Ytnbdldpjiofafaa.PB
open Go.RowKit Go.Proofs.YtnbdldpjiofafaaW.PrintWords Go.Proofs.YtnbdldpjiofafaaW.PrintLast Go.Proofs.YtnbdldpjiofafaaW.PrintMore
attribute [local go_sem] max2_int min2_int max_two min_two max_three min_three max_four min_four   
set_option linter.unusedVariables false
set_option linter.unusedSimpArgs false
mutual
def bureauref15_Do.j0 : Nat → Int → ByteArray → Bool → ByteArray → List (S51) → Int → Int → ByteArray → ByteArray → Bool → Option (Int × ByteArray × (List (S51)) × ByteArray × (List (S51)) × Int × Int)
 | 0, _, _, _, _, _, _, _, _, _, _ => none
 | k + 1, x1, x9, x39, x414000, x414001, x415000, x415001, x415002, x415003, x415004 => if x39 = true then (some (0, (⟨#[]⟩ : ByteArray), ([] : List (S51)), (⟨#[]⟩ : ByteArray), ([] : List (S51)), 0, 2)) else ((bureauref15_Places.f k x414000 x414001 x9 x1 x415000 x415001 x415002 x415003 x415004).bind fun t419 => (if (t419.length : Int) = 0 then (some (0, (⟨#[]⟩ : ByteArray), ([] : List (S51)), (⟨#[]⟩ : ByteArray), ([] : List (S51)), 0, 6)) else (if (wrap64 ((x414000.size : Int) + (wrap64 ((t419.length : Int) * (wrap64 ((x415003.size : Int) - (x415002.size : Int))))))) > 4096 then (some (0, (⟨#[]⟩ : ByteArray), ([] : List (S51)), (⟨#[]⟩ : ByteArray), ([] : List (S51)), 0, 3)) else ((bureauref06_Bounds.f k x9 x415000).bind fun bt422 => ((bureauref06_Bounds.f k x9 x415001).bind fun bt425 => ((bureauref04_Make.f k x415003 x1).bind fun bt428 => ((bureauref04_Cut.f k x414000 x414001 bt422.1 bt425.2.1).bind fun bt434 => (bureauref15_Do.l0 k t419 bt422.1 bt425.2.1 (wrap64 ((t419.length : Int) - 1)) x414000 x414001 x415000 x415001 x415002 x415003 x415004 bt428.1 bt428.2.1 bt434.1 bt434.2.1))))))))
def bureauref15_Do.l0 : Nat → List Int → Int → Int → Int → ByteArray → List (S51) → Int → Int → ByteArray → ByteArray → Bool → ByteArray → List (S51) → ByteArray → List (S51) → Option (Int × ByteArray × (List (S51)) × ByteArray × (List (S51)) × Int × Int)
 | 0, _, _, _, _, _, _, _, _, _, _, _, _, _, _, _ => none
 | k + 1, x11, x12, x16, x22, x414000, x414001, x415000, x415001, x415002, x415003, x415004, x434000, x434001, x440000, x440001 => if x22 ≥ 0 then (if 0 ≤ x22 then (if x22 < (x11.length : Int) then ((bureauref15_put.f k x440000 x440001 (wrap64 ((rd x11 x22) - x12)) (wrap64 ((wrap64 ((rd x11 x22) - x12)) + (x415002.size : Int))) x434000 x434001).bind fun bt441 => (bureauref15_Do.l0 k x11 x12 x16 (wrap64 (x22 - 1)) x414000 x414001 x415000 x415001 x415002 x415003 x415004 x434000 x434001 bt441.1 bt441.2)) else (none)) else (none)) else ((bureauref07_Of.f k x414000 x414001 x12 x16 x440000 x440001).bind fun bt445 => (if bt445.2.2.2.2.2 = 0 then (some (bt445.1, bt445.2.1, bt445.2.2.1, bt445.2.2.2.1, bt445.2.2.2.2.1, (x11.length : Int), 0)) else (some (0, (⟨#[]⟩ : ByteArray), ([] : List (S51)), (⟨#[]⟩ : ByteArray), ([] : List (S51)), 0, bt445.2.2.2.2.2))))
end
def bureauref15_Do.f (k : Nat) (a0_0 : ByteArray) (l0_1 : List (S51)) (a1 : Int) (a2_0 : Int) (a2_1 : Int) (a2_2 : ByteArray) (a2_3 : ByteArray) (a2_4 : Bool) : Option (Int × ByteArray × (List (S51)) × ByteArray × (List (S51)) × Int × Int) := (bureauref04_View.f k a0_0 l0_1 a1).bind fun bt416 => (if bt416.2 = 0 then ((bureauref15_may.f k bt416.1 a2_0 a2_1 a2_2 a2_3 a2_4).bind fun t418 => (bureauref15_Do.j0 k a1 bt416.1 (!t418) a0_0 l0_1 a2_0 a2_1 a2_2 a2_3 a2_4)) else (bureauref15_Do.j0 k a1 bt416.1 true a0_0 l0_1 a2_0 a2_1 a2_2 a2_3 a2_4))
set_option maxHeartbeats 8000000 in
set_option maxRecDepth 100000 in
theorem bureauref15_Do.calls (k : Nat) (a0_0 : ByteArray) (A0_1 : Option Addr) (c0_1 : Nat) (l0_1 : List (S51)) (a1 : Int) (a2_0 : Int) (a2_1 : Int) (a2_2 : ByteArray) (a2_3 : ByteArray) (a2_4 : Bool) (r1 : Int) (r2 : ByteArray) (r3 : List (S51)) (r4 : ByteArray) (r5 : List (S51)) (r6 : Int) (r7 : Int) (w : World) (hr0_1 : Kd.C k51 w A0_1 l0_1.length l0_1) (hc0_1 : l0_1.length ≤ c0_1) (h : bureauref15_Do.f k a0_0 l0_1 a1 a2_0 a2_1 a2_2 a2_3 a2_4 = some (r1, r2, r3, r4, r5, r6, r7)) :
  Calls Try.prog 11 #[.agg #[.string a0_0, .slice A0_1 l0_1.length c0_1], .int .u64 a1, .agg #[.int .i64 a2_0, .int .i64 a2_1, .string a2_2, .string a2_3, .bool a2_4]] w fun e w' => ∃ v2_ v4_ : Value, e = .returned (.tuple #[.agg #[.int .i64 r1, .string r2, v2_, .string r4, v4_], .int .i64 r6, .int .i64 r7]) ∧ Kd.R k51 51 w' w.heap.size (fun k_ => (w.heap.size ≤ k_)) v2_ r3 ∧ Kd.V k51 51 w' w.heap.size (fun k_ => (w.heap.size ≤ k_) ∧ some k_ ≠ (v2_ : Value).ownBlock) v4_ r5 ∧ Below w.heap.size w w' := by
 have hu24 := Try.underlying24
 have hu38 := Try.underlying38
 have hu32 := Try.underlying32
 have HR0_1 := aM hr0_1
 have HC0_1 := aM hc0_1
 clear hr0_1 hc0_1
 have HB := aM (Below.refl w.heap.size w)
 have H : ((bureauref04_View.f k a0_0 l0_1 a1).bind fun bt416 => (if bt416.2 = 0 then ((bureauref15_may.f k bt416.1 a2_0 a2_1 a2_2 a2_3 a2_4).bind fun t418 => (bureauref15_Do.j0 k a1 bt416.1 (!t418) a0_0 l0_1 a2_0 a2_1 a2_2 a2_3 a2_4)) else (bureauref15_Do.j0 k a1 bt416.1 true a0_0 l0_1 a2_0 a2_1 a2_2 a2_3 a2_4))) = some (r1, r2, r3, r4, r5, r6, r7) := h
 clear h
 replace H := Option.bind_eq_some_iff.mp H
 obtain ⟨⟨t416, t417⟩, A40, H⟩ := H
 replace H : (if t417 = 0 then ((bureauref15_may.f k t416 a2_0 a2_1 a2_2 a2_3 a2_4).bind fun t418 => (bureauref15_Do.j0 k a1 t416 (!t418) a0_0 l0_1 a2_0 a2_1 a2_2 a2_3 a2_4)) else (bureauref15_Do.j0 k a1 t416 true a0_0 l0_1 a2_0 a2_1 a2_2 a2_3 a2_4)) = some (r1, r2, r3, r4, r5, r6, r7) := H
 have A4 := aM A40
 clear A40
 have HC5 := aM H
 clear H
 go_enter Try.func11, Try.ntmps11
 go_upto_region 2 with (first | ((with_reducible refine gate_dst (N := 3) rfl ?_); refine box_event ?hg (N := 3) ?hd (cs := #[.string a0_0, .slice A0_1 l0_1.length c0_1]) (t := 24) ?hr ?_; (case hd | hg => rfl); (case hr => first | (go_simp; done) | (go_simp; rfl)); intro gb413 hg w6 hbox hb; have n0_ := aM (bP (ey HB.out) hb); have n1_ := aM (hbox); have n2_ := aM ((by rw [hg]; exact (bZ (ey HB.out)) : w.heap.size ≤ gb413)); have n3_ := n2_; clear HB; have HB := n0_; have BK413 := n1_; have GW413 := n2_; have GE413 := n3_; clear n0_ n1_ n2_ n3_; clear hb hbox hg) | ((with_reducible refine gate_dst (N := 5) rfl ?_); refine box_event ?hg (N := 5) ?hd (cs := #[.int .i64 a2_0, .int .i64 a2_1, .string a2_2, .string a2_3, .bool a2_4]) (t := 38) ?hr ?_; (case hd | hg => rfl); (case hr => first | (go_simp; done) | (go_simp; rfl)); intro gb414 hg w7 hbox hb; have n0_ := aM (bB (g := gb413) (qy BK413.out) hb); have n1_ := aM (bP (by repeat (first | (with_reducible first | exact HB.out | apply ea | apply en | apply ed | refine es ?_ GE413.out) | exact HB.out)) hb); have n2_ := aM (hbox); have n3_ := aM ((by rw [hg]; exact (bZ (by repeat (first | (with_reducible first | exact HB.out | apply ea | apply en | apply ed | refine es ?_ GE413.out) | exact HB.out))) : w.heap.size ≤ gb414)); have n4_ := n3_; have n5_ := aM ((by rw [hg]; exact Nat.ne_of_lt (blk_lt (g := gb413) (qy BK413.out)) : gb413 ≠ gb414)); have n6_ := aM ((by rw [hg]; exact Nat.ne_of_gt (blk_lt (g := gb413) (qy BK413.out)) : gb414 ≠ gb413)); clear BK413 HB; have BK413 := n0_; have HB := n1_; have BK414 := n2_; have GW414 := n3_; have GE414 := n4_; have NB413_414 := n5_; have NB414_413 := n6_; clear n0_ n1_ n2_ n3_ n4_ n5_ n6_; clear hb hbox hg) | ((with_reducible refine gate_dst (N := 6) rfl ?_); refine box_event ?hg (N := 6) ?hd (cs := #[.int .i64 0, .string (⟨#[]⟩ : ByteArray), .slice none 0 0, .string (⟨#[]⟩ : ByteArray), .slice none 0 0]) (t := 32) ?hr ?_; (case hd | hg => rfl); (case hr => first | (go_simp; done) | (go_simp; rfl)); intro gb415 hg w8 hbox hb; have n0_ := aM (bB (g := gb413) (qy BK413.out) hb); have n1_ := aM (bB (g := gb414) (qy BK414.out) hb); have n2_ := aM (bP (by repeat (first | (with_reducible first | exact HB.out | apply ea | apply en | apply ed | refine es ?_ GE413.out | refine es ?_ GE414.out) | exact HB.out)) hb); have n3_ := aM (hbox); have n4_ := aM ((by rw [hg]; exact (bZ (by repeat (first | (with_reducible first | exact HB.out | apply ea | apply en | apply ed | refine es ?_ GE413.out | refine es ?_ GE414.out) | exact HB.out))) : w.heap.size ≤ gb415)); have n5_ := n4_; have n6_ := aM ((by rw [hg]; exact Nat.ne_of_lt (blk_lt (g := gb413) (qy BK413.out)) : gb413 ≠ gb415)); have n7_ := aM ((by rw [hg]; exact Nat.ne_of_gt (blk_lt (g := gb413) (qy BK413.out)) : gb415 ≠ gb413)); have n8_ := aM ((by rw [hg]; exact Nat.ne_of_lt (blk_lt (g := gb414) (qy BK414.out)) : gb414 ≠ gb415)); have n9_ := aM ((by rw [hg]; exact Nat.ne_of_gt (blk_lt (g := gb414) (qy BK414.out)) : gb415 ≠ gb414)); clear BK413 BK414 HB; have BK413 := n0_; have BK414 := n1_; have HB := n2_; have BK415 := n3_; have GW415 := n4_; have GE415 := n5_; have NB413_415 := n6_; have NB415_413 := n7_; have NB414_415 := n8_; have NB415_414 := n9_; clear n0_ n1_ n2_ n3_ n4_ n5_ n6_ n7_ n8_ n9_; clear hb hbox hg; have hnb9 := NB413_414.out; have hnc9 := NB414_413.out; have hnb10 := NB413_415.out; have hnc10 := NB415_413.out; have hcz11_0 := zC BK413.out 0 (.string a0_0); have hcz11_1 := zC BK413.out 1 (.slice A0_1 l0_1.length c0_1); have hfz11_0 := bF BK413.out 0; have hfz11_1 := bF BK413.out 1) | ((with_reducible refine gate_callee (f := 28) rfl ?_); refine goesL_ (some 29) rfl rfl Try.func28 (by kernel_rfl) rfl #[.agg #[.string a0_0, .slice A0_1 l0_1.length c0_1], .int .u64 a1] rfl (by (try simp only [mT, mC, mN]); first | done | rfl | (simp only [lD, lT]; rfl)) ?_; (with_reducible refine (bureauref04_View.calls k a0_0 _ _ l0_1 a1 t416 t417 _ ?side1 ?side2 A4.out).mono ?_); (case side1 => repeat (first | exact (cB_ HR0_1.out HB.out) | (with_reducible refine Kd.C_alloc ?_ _) | (with_reducible refine Kd.C_drewN ?_ _) | (with_reducible refine Kd.C_drew ?_))); (case side2 => exact HC0_1.out); rintro e w12 ⟨rfl, hb⟩; refine ⟨_, rfl, ?_⟩; have n0_ := aM (bB (g := gb413) (qy BK413.out) hb); have n1_ := aM (bB (g := gb414) (qy BK414.out) hb); have n2_ := aM (bB (g := gb415) (qy BK415.out) hb); have n3_ := aM (bP (by repeat (first | (with_reducible first | exact HB.out | apply ea | apply en | apply ed | refine es ?_ GE413.out | refine es ?_ GE414.out | refine es ?_ GE415.out) | exact HB.out)) hb); clear BK413 BK414 BK415 HB; have BK413 := n0_; have BK414 := n1_; have BK415 := n2_; have HB := n3_; clear n0_ n1_ n2_ n3_; (try clear hb); (try clear hb2); (try clear hk); (try clear hi)))
 (try simp only [Act.put, sA, sZ, sS])
 go_cut [39] (fun v39 wc => ∃ (kq : Nat) (x39_4 : Bool), v39 = .bool x39_4 ∧ Aside0 (bureauref15_Do.j0 kq a1 t416 x39_4 a0_0 l0_1 a2_0 a2_1 a2_2 a2_3 a2_4 = some (r1, r2, r3, r4, r5, r6, r7)) ∧ Aside0 (kq ≤ k) ∧ Aside0 (wc.heap[gb413]? = some (.cells #[.string a0_0, (.slice A0_1 l0_1.length c0_1)] 24 (0, 0))) ∧ Aside0 (wc.heap[gb414]? = some (.cells #[.int .i64 a2_0, .int .i64 a2_1, .string a2_2, .string a2_3, .bool a2_4] 38 (0, 0))) ∧ Aside0 (wc.heap[gb415]? = some (.cells #[.int .i64 0, .string (⟨#[]⟩ : ByteArray), (.slice none 0 0), .string (⟨#[]⟩ : ByteArray), (.slice none 0 0)] 32 (0, 0))) ∧ Aside0 (Below w.heap.size w wc))
 case first =>
  have H := HC5.out
  clear HC5
  by_cases c13 : t417 = 0
  ·rw [if_pos c13] at H
   have c13b0 : (t417 == 0) = true := beq_iff_eq.mpr c13
   have c13b1 : (t417 != 0) = false := bne_eq_false_iff_eq.mpr c13
   clear c13
   (first | rw [c13b0] | (simp only [i64_w, i32_w]; rw [c13b0]) | skip)
   replace H := Option.bind_eq_some_iff.mp H
   obtain ⟨t418, A140, H⟩ := H
   replace H : (bureauref15_Do.j0 k a1 t416 (!t418) a0_0 l0_1 a2_0 a2_1 a2_2 a2_3 a2_4) = some (r1, r2, r3, r4, r5, r6, r7) := H
   have A14 := aM A140
   clear A140
   have H' := aM H
   clear H
   have hnb15 := NB414_413.out
   have hnc15 := NB413_414.out
   have hnb16 := NB414_415.out
   have hnc16 := NB415_414.out
   have hcz17_0 := zC BK414.out 0 (.int .i64 a2_0)
   have hcz17_1 := zC BK414.out 1 (.int .i64 a2_1)
   have hcz17_2 := zC BK414.out 2 (.string a2_2)
   have hcz17_3 := zC BK414.out 3 (.string a2_3)
   have hcz17_4 := zC BK414.out 4 (.bool a2_4)
   have hfz17_0 := bF BK414.out 0
   have hfz17_1 := bF BK414.out 1
   have hfz17_2 := bF BK414.out 2
   have hfz17_3 := bF BK414.out 3
   have hfz17_4 := bF BK414.out 4
   go_wp2_with (first | (go_at_call 29; (with_reducible refine (bureauref15_may.calls k t416 a2_0 a2_1 a2_2 a2_3 a2_4 t418 _ A14.out).mono ?_); rintro e w18 ⟨rfl, hb⟩; have n0_ := aM (bB (g := gb413) (qy BK413.out) hb); have n1_ := aM (bB (g := gb414) (qy BK414.out) hb); have n2_ := aM (bB (g := gb415) (qy BK415.out) hb); have n3_ := aM (bP (by repeat (first | (with_reducible first | exact HB.out | apply ea | apply en | apply ed | refine es ?_ GE413.out | refine es ?_ GE414.out | refine es ?_ GE415.out) | exact HB.out)) hb); clear BK413 BK414 BK415 HB; have BK413 := n0_; have BK414 := n1_; have BK415 := n2_; have HB := n3_; clear n0_ n1_ n2_ n3_; (try clear hb); (try clear hb2); (try clear hk); (try clear hi)))
   go_meet
   case rel => exact ⟨_, (!t418), (by first | rfl | (simp; done) | (simp [*]; done)), H', ⟨by first | omega | exact Nat.le_refl _⟩, ⟨by exact qy BK413.out⟩, ⟨by exact qy BK414.out⟩, ⟨by exact qy BK415.out⟩, ⟨by repeat (first | (with_reducible first | exact HB.out | apply ea | apply en | apply ed | refine es ?_ GE413.out | refine es ?_ GE414.out | refine es ?_ GE415.out) | exact HB.out)⟩⟩
  ·rw [if_neg c13] at H
   have c13b0 : (t417 == 0) = false := beq_eq_false_iff_ne.mpr c13
   have c13b1 : (t417 != 0) = true := bne_iff_ne.mpr c13
   (first | rw [c13b0] | (simp only [i64_w, i32_w]; rw [c13b0]) | skip)
   have H' := aM H
   clear H
   go_wp2
   go_meet
   case rel => exact ⟨_, (true), (by first | rfl | (simp; done) | (simp [*]; done)), H', ⟨by first | omega | exact Nat.le_refl _⟩, ⟨by exact qy BK413.out⟩, ⟨by exact qy BK414.out⟩, ⟨by exact qy BK415.out⟩, ⟨by repeat (first | (with_reducible first | exact HB.out | apply ea | apply en | apply ed | refine es ?_ GE413.out | refine es ?_ GE414.out | refine es ?_ GE415.out) | exact HB.out)⟩⟩
 case rest =>
  clear HC5
  try clear c1
  try clear c2
  try clear p2
  try clear c9
  try clear c10
  try clear c11
  try clear c13
  try clear c13b0
  try clear c13b1
  try clear c15
  try clear c16
  try clear hcz11_0
  try clear hcz11_1
  try clear hcz17_0
  try clear hcz17_1
  try clear hcz17_2
  try clear hcz17_3
  try clear hcz17_4
  try clear hfz11_0
  try clear hfz11_1
  try clear hfz17_0
  try clear hfz17_1
  try clear hfz17_2
  try clear hfz17_3
  try clear hfz17_4
  obtain ⟨kq, x39_4, rfl, HA, HJ4, BK413, BK414, BK415, HB⟩ := hcut
  cases kq with
  | zero => exact absurd HA.out (by simp [bureauref15_Do.j0])
  | succ kj4 =>
   have H := HA.out
   clear HA
   simp only [bureauref15_Do.j0] at H
   by_cases c19 : x39_4 = true
   ·subst c19
    have H1 : (some (0, (⟨#[]⟩ : ByteArray), ([] : List (S51)), (⟨#[]⟩ : ByteArray), ([] : List (S51)), 0, 2)) = some (r1, r2, r3, r4, r5, r6, r7) := by rw [if_pos rfl] at H; exact H
    clear H
    have H := H1
    clear H1
    simp only [Option.some.injEq, Prod.mk.injEq] at H
    obtain ⟨rfl, rfl, rfl, rfl, rfl, rfl, rfl⟩ := H
    have hnb20 := NB415_413.out
    have hnc20 := NB413_415.out
    have hnb21 := NB415_414.out
    have hnc21 := NB414_415.out
    have hcz22_0 := zC BK415.out 0 (.int .i64 0)
    have hcz22_1 := zC BK415.out 1 (.string (⟨#[]⟩ : ByteArray))
    have hcz22_2 := zC BK415.out 2 (.slice none 0 0)
    have hcz22_3 := zC BK415.out 3 (.string (⟨#[]⟩ : ByteArray))
    have hcz22_4 := zC BK415.out 4 (.slice none 0 0)
    have hfz22_0 := bF BK415.out 0
    have hfz22_1 := bF BK415.out 1
    have hfz22_2 := bF BK415.out 2
    have hfz22_3 := bF BK415.out 3
    have hfz22_4 := bF BK415.out 4
    go_wp2
    refine bodyPost_ret (results_ctt rfl _ _ gb415 32 #[.int .i64 0, .string (⟨#[]⟩ : ByteArray), .slice none 0 0, .string (⟨#[]⟩ : ByteArray), .slice none 0 0] (0, 0) _ rfl (by (with_reducible repeat (first | apply qn | apply qd | apply qa)); refine bU (cs := #[.int .i64 0, .string (⟨#[]⟩ : ByteArray), .slice none 0 0, .string (⟨#[]⟩ : ByteArray), .slice none 0 0]) ?_ 4 _ rfl; (with_reducible repeat (first | apply qn | apply qd | apply qa)); refine bU (cs := #[.int .i64 0, .string (⟨#[]⟩ : ByteArray), .slice none 0 0, .string (⟨#[]⟩ : ByteArray), .slice none 0 0]) ?_ 3 _ rfl; (with_reducible repeat (first | apply qn | apply qd | apply qa)); refine bU (cs := #[.int .i64 0, .string (⟨#[]⟩ : ByteArray), .slice none 0 0, .string (⟨#[]⟩ : ByteArray), .slice none 0 0]) ?_ 2 _ rfl; (with_reducible repeat (first | apply qn | apply qd | apply qa)); refine bU (cs := #[.int .i64 0, .string (⟨#[]⟩ : ByteArray), .slice none 0 0, .string (⟨#[]⟩ : ByteArray), .slice none 0 0]) ?_ 1 _ rfl; (with_reducible repeat (first | apply qn | apply qd | apply qa)); refine bU (cs := #[.int .i64 0, .string (⟨#[]⟩ : ByteArray), .slice none 0 0, .string (⟨#[]⟩ : ByteArray), .slice none 0 0]) ?_ 0 _ rfl; exact qy BK415.out) Try.underlying32 rfl (by kernel_rfl)) rfl ?_
    exact ⟨_, _, by first | rfl | (simp [errW_none, errW_some] <;> rfl) | (simp [*, errW_none, errW_some] <;> rfl), by first | exact Kd.R_nil _ _ _ _ _ | exact Kd.N_nil _ _ _ _ _ | exact Kd.V_nil _ _ _ _ _ | exact Kd.Q_nil _ _ _ _ _ | exact Kd.S_nil _ _ _ _ _, (by first | exact Kd.V_nil _ _ _ _ _ | exact Kd.R_V (Kd.R_nil _ _ _ _ _)), by repeat (first | (with_reducible first | exact HB.out | apply ea | apply en | apply ed | refine es ?_ GE413.out | refine es ?_ GE414.out | refine es ?_ GE415.out) | exact HB.out)⟩
   ·replace c19 := Bool.eq_false_iff.mpr c19
    subst c19
    have H1 : ((bureauref15_Places.f kj4 a0_0 l0_1 t416 a1 a2_0 a2_1 a2_2 a2_3 a2_4).bind fun t419 => (if (t419.length : Int) = 0 then (some (0, (⟨#[]⟩ : ByteArray), ([] : List (S51)), (⟨#[]⟩ : ByteArray), ([] : List (S51)), 0, 6)) else (if (wrap64 ((a0_0.size : Int) + (wrap64 ((t419.length : Int) * (wrap64 ((a2_3.size : Int) - (a2_2.size : Int))))))) > 4096 then (some (0, (⟨#[]⟩ : ByteArray), ([] : List (S51)), (⟨#[]⟩ : ByteArray), ([] : List (S51)), 0, 3)) else ((bureauref06_Bounds.f kj4 t416 a2_0).bind fun bt422 => ((bureauref06_Bounds.f kj4 t416 a2_1).bind fun bt425 => ((bureauref04_Make.f kj4 a2_3 a1).bind fun bt428 => ((bureauref04_Cut.f kj4 a0_0 l0_1 bt422.1 bt425.2.1).bind fun bt434 => (bureauref15_Do.l0 kj4 t419 bt422.1 bt425.2.1 (wrap64 ((t419.length : Int) - 1)) a0_0 l0_1 a2_0 a2_1 a2_2 a2_3 a2_4 bt428.1 bt428.2.1 bt434.1 bt434.2.1)))))))) = some (r1, r2, r3, r4, r5, r6, r7) := by rw [if_neg (show ¬ (false = true) by decide)] at H; exact H
    clear H
    have H := H1
    clear H1
    replace H := Option.bind_eq_some_iff.mp H
    obtain ⟨t419, A230, H⟩ := H
    replace H : (if (t419.length : Int) = 0 then (some (0, (⟨#[]⟩ : ByteArray), ([] : List (S51)), (⟨#[]⟩ : ByteArray), ([] : List (S51)), 0, 6)) else (if (wrap64 ((a0_0.size : Int) + (wrap64 ((t419.length : Int) * (wrap64 ((a2_3.size : Int) - (a2_2.size : Int))))))) > 4096 then (some (0, (⟨#[]⟩ : ByteArray), ([] : List (S51)), (⟨#[]⟩ : ByteArray), ([] : List (S51)), 0, 3)) else ((bureauref06_Bounds.f kj4 t416 a2_0).bind fun bt422 => ((bureauref06_Bounds.f kj4 t416 a2_1).bind fun bt425 => ((bureauref04_Make.f kj4 a2_3 a1).bind fun bt428 => ((bureauref04_Cut.f kj4 a0_0 l0_1 bt422.1 bt425.2.1).bind fun bt434 => (bureauref15_Do.l0 kj4 t419 bt422.1 bt425.2.1 (wrap64 ((t419.length : Int) - 1)) a0_0 l0_1 a2_0 a2_1 a2_2 a2_3 a2_4 bt428.1 bt428.2.1 bt434.1 bt434.2.1))))))) = some (r1, r2, r3, r4, r5, r6, r7) := H
    have A23 := aM A230
    clear A230
    by_cases c24 : (t419.length : Int) = 0
    ·rw [if_pos c24] at H
     have c24b0 : ((t419.length : Int) == 0) = true := beq_iff_eq.mpr c24
     have c24b1 : ((t419.length : Int) != 0) = false := bne_eq_false_iff_eq.mpr c24
     clear c24
     simp only [Option.some.injEq, Prod.mk.injEq] at H
     obtain ⟨rfl, rfl, rfl, rfl, rfl, rfl, rfl⟩ := H
     have hnb25 := NB413_414.out
     have hnc25 := NB414_413.out
     have hnb26 := NB413_415.out
     have hnc26 := NB415_413.out
     have hcz27_0 := zC BK413.out 0 (.string a0_0)
     have hcz27_1 := zC BK413.out 1 (.slice A0_1 l0_1.length c0_1)
     have hfz27_0 := bF BK413.out 0
     have hfz27_1 := bF BK413.out 1
     have hnb28 := NB414_415.out
     have hnc28 := NB415_414.out
     have hcz29_0 := zC BK414.out 0 (.int .i64 a2_0)
     have hcz29_1 := zC BK414.out 1 (.int .i64 a2_1)
     have hcz29_2 := zC BK414.out 2 (.string a2_2)
     have hcz29_3 := zC BK414.out 3 (.string a2_3)
     have hcz29_4 := zC BK414.out 4 (.bool a2_4)
     have hfz29_0 := bF BK414.out 0
     have hfz29_1 := bF BK414.out 1
     have hfz29_2 := bF BK414.out 2
     have hfz29_3 := bF BK414.out 3
     have hfz29_4 := bF BK414.out 4
     go_wp2_with (first | ((with_reducible refine gate_callee (f := 30) rfl ?_); refine goesL_ (some 45) rfl rfl Try.func30 (by kernel_rfl) rfl #[.agg #[.string a0_0, .slice A0_1 l0_1.length c0_1], .string t416, .int .u64 a1, .agg #[.int .i64 a2_0, .int .i64 a2_1, .string a2_2, .string a2_3, .bool a2_4]] rfl (by (try simp only [mT, mC, mN]); first | done | rfl | (simp only [lD, lT]; rfl)) ?_; (with_reducible refine (bureauref15_Places.calls kj4 a0_0 _ _ l0_1 t416 a1 a2_0 a2_1 a2_2 a2_3 a2_4 t419 _ ?side1 ?side2 A23.out).mono ?_); (case side1 => repeat (first | exact (cB_ HR0_1.out HB.out) | (with_reducible refine Kd.C_alloc ?_ _) | (with_reducible refine Kd.C_drewN ?_ _) | (with_reducible refine Kd.C_drew ?_))); (case side2 => exact HC0_1.out); rintro e w30 ⟨v420, rfl, ho0, hb⟩; refine ⟨_, rfl, ?_⟩; have n0_ := aM (rL (Kd.R_newM (M := fun k_ => (w.heap.size ≤ k_)) ho0 (bZ (by repeat (first | (with_reducible first | exact HB.out | apply ea | apply en | apply ed | refine es ?_ GE413.out | refine es ?_ GE414.out | refine es ?_ GE415.out) | exact HB.out))) (fun k_ h_ => h_)) (bZ (by repeat (first | (with_reducible first | exact HB.out | apply ea | apply en | apply ed | refine es ?_ GE413.out | refine es ?_ GE414.out | refine es ?_ GE415.out) | exact HB.out)))); have n1_ := aM (bB (g := gb413) (qy BK413.out) hb); have n2_ := aM (bB (g := gb414) (qy BK414.out) hb); have n3_ := aM (bB (g := gb415) (qy BK415.out) hb); have n4_ := aM (bP (by repeat (first | (with_reducible first | exact HB.out | apply ea | apply en | apply ed | refine es ?_ GE413.out | refine es ?_ GE414.out | refine es ?_ GE415.out) | exact HB.out)) hb); clear BK413 BK414 BK415 HB; have HO421 := n0_; have BK413 := n1_; have BK414 := n2_; have BK415 := n3_; have HB := n4_; clear n0_ n1_ n2_ n3_ n4_; (try clear hb); (try clear hb2); (try clear hk); (try clear hi); (try clear ho0); obtain ⟨Ao31, co31, eo31⟩ := Kd.R_slice HO421.out; subst eo31; have hcz32_0 := zC BK415.out 0 (.int .i64 0); have hcz32_1 := zC BK415.out 1 (.string (⟨#[]⟩ : ByteArray)); have hcz32_2 := zC BK415.out 2 (.slice none 0 0); have hcz32_3 := zC BK415.out 3 (.string (⟨#[]⟩ : ByteArray)); have hcz32_4 := zC BK415.out 4 (.slice none 0 0); have hfz32_0 := bF BK415.out 0; have hfz32_1 := bF BK415.out 1; have hfz32_2 := bF BK415.out 2; have hfz32_3 := bF BK415.out 3; have hfz32_4 := bF BK415.out 4))
     refine bodyPost_ret (results_ctt rfl _ _ gb415 32 #[.int .i64 0, .string (⟨#[]⟩ : ByteArray), .slice none 0 0, .string (⟨#[]⟩ : ByteArray), .slice none 0 0] (0, 0) _ rfl (by (with_reducible repeat (first | apply qn | apply qd | apply qa)); refine bU (cs := #[.int .i64 0, .string (⟨#[]⟩ : ByteArray), .slice none 0 0, .string (⟨#[]⟩ : ByteArray), .slice none 0 0]) ?_ 4 _ rfl; (with_reducible repeat (first | apply qn | apply qd | apply qa)); refine bU (cs := #[.int .i64 0, .string (⟨#[]⟩ : ByteArray), .slice none 0 0, .string (⟨#[]⟩ : ByteArray), .slice none 0 0]) ?_ 3 _ rfl; (with_reducible repeat (first | apply qn | apply qd | apply qa)); refine bU (cs := #[.int .i64 0, .string (⟨#[]⟩ : ByteArray), .slice none 0 0, .string (⟨#[]⟩ : ByteArray), .slice none 0 0]) ?_ 2 _ rfl; (with_reducible repeat (first | apply qn | apply qd | apply qa)); refine bU (cs := #[.int .i64 0, .string (⟨#[]⟩ : ByteArray), .slice none 0 0, .string (⟨#[]⟩ : ByteArray), .slice none 0 0]) ?_ 1 _ rfl; (with_reducible repeat (first | apply qn | apply qd | apply qa)); refine bU (cs := #[.int .i64 0, .string (⟨#[]⟩ : ByteArray), .slice none 0 0, .string (⟨#[]⟩ : ByteArray), .slice none 0 0]) ?_ 0 _ rfl; exact qy BK415.out) Try.underlying32 rfl (by kernel_rfl)) rfl ?_
     exact ⟨_, _, by first | rfl | (simp [errW_none, errW_some] <;> rfl) | (simp [*, errW_none, errW_some] <;> rfl), by first | exact Kd.R_nil _ _ _ _ _ | exact Kd.N_nil _ _ _ _ _ | exact Kd.V_nil _ _ _ _ _ | exact Kd.Q_nil _ _ _ _ _ | exact Kd.S_nil _ _ _ _ _, (by first | exact Kd.V_nil _ _ _ _ _ | exact Kd.R_V (Kd.R_nil _ _ _ _ _)), by repeat (first | (with_reducible first | exact HB.out | apply ea | apply en | apply ed | refine es ?_ GE413.out | refine es ?_ GE414.out | refine es ?_ GE415.out) | exact HB.out)⟩
    ·rw [if_neg c24] at H
     have c24b0 : ((t419.length : Int) == 0) = false := beq_eq_false_iff_ne.mpr c24
     have c24b1 : ((t419.length : Int) != 0) = true := bne_iff_ne.mpr c24
     have c24b2 : ¬ (t419 = []) := fun h_ => c24 (by rw [h_]; rfl)
     by_cases c33 : (wrap64 ((a0_0.size : Int) + (wrap64 ((t419.length : Int) * (wrap64 ((a2_3.size : Int) - (a2_2.size : Int))))))) > 4096
     ·rw [if_pos c33] at H
      have c33b0 : decide (4096 < (wrap64 ((a0_0.size : Int) + (wrap64 ((t419.length : Int) * (wrap64 ((a2_3.size : Int) - (a2_2.size : Int)))))))) = true := decide_eq_true c33
      clear c33
      simp only [Option.some.injEq, Prod.mk.injEq] at H
      obtain ⟨rfl, rfl, rfl, rfl, rfl, rfl, rfl⟩ := H
      have hnb34 := NB413_414.out
      have hnc34 := NB414_413.out
      have hnb35 := NB413_415.out
      have hnc35 := NB415_413.out
      have hcz36_0 := zC BK413.out 0 (.string a0_0)
      have hcz36_1 := zC BK413.out 1 (.slice A0_1 l0_1.length c0_1)
      have hfz36_0 := bF BK413.out 0
      have hfz36_1 := bF BK413.out 1
      have hnb37 := NB414_415.out
      have hnc37 := NB415_414.out
      have hcz38_0 := zC BK414.out 0 (.int .i64 a2_0)
      have hcz38_1 := zC BK414.out 1 (.int .i64 a2_1)
      have hcz38_2 := zC BK414.out 2 (.string a2_2)
      have hcz38_3 := zC BK414.out 3 (.string a2_3)
      have hcz38_4 := zC BK414.out 4 (.bool a2_4)
      have hfz38_0 := bF BK414.out 0
      have hfz38_1 := bF BK414.out 1
      have hfz38_2 := bF BK414.out 2
      have hfz38_3 := bF BK414.out 3
      have hfz38_4 := bF BK414.out 4
      go_wp2_with (first | ((with_reducible refine gate_callee (f := 30) rfl ?_); refine goesL_ (some 45) rfl rfl Try.func30 (by kernel_rfl) rfl #[.agg #[.string a0_0, .slice A0_1 l0_1.length c0_1], .string t416, .int .u64 a1, .agg #[.int .i64 a2_0, .int .i64 a2_1, .string a2_2, .string a2_3, .bool a2_4]] rfl (by (try simp only [mT, mC, mN]); first | done | rfl | (simp only [lD, lT]; rfl)) ?_; (with_reducible refine (bureauref15_Places.calls kj4 a0_0 _ _ l0_1 t416 a1 a2_0 a2_1 a2_2 a2_3 a2_4 t419 _ ?side1 ?side2 A23.out).mono ?_); (case side1 => repeat (first | exact (cB_ HR0_1.out HB.out) | (with_reducible refine Kd.C_alloc ?_ _) | (with_reducible refine Kd.C_drewN ?_ _) | (with_reducible refine Kd.C_drew ?_))); (case side2 => exact HC0_1.out); rintro e w39 ⟨v420, rfl, ho0, hb⟩; refine ⟨_, rfl, ?_⟩; have n0_ := aM (rL (Kd.R_newM (M := fun k_ => (w.heap.size ≤ k_)) ho0 (bZ (by repeat (first | (with_reducible first | exact HB.out | apply ea | apply en | apply ed | refine es ?_ GE413.out | refine es ?_ GE414.out | refine es ?_ GE415.out) | exact HB.out))) (fun k_ h_ => h_)) (bZ (by repeat (first | (with_reducible first | exact HB.out | apply ea | apply en | apply ed | refine es ?_ GE413.out | refine es ?_ GE414.out | refine es ?_ GE415.out) | exact HB.out)))); have n1_ := aM (bB (g := gb413) (qy BK413.out) hb); have n2_ := aM (bB (g := gb414) (qy BK414.out) hb); have n3_ := aM (bB (g := gb415) (qy BK415.out) hb); have n4_ := aM (bP (by repeat (first | (with_reducible first | exact HB.out | apply ea | apply en | apply ed | refine es ?_ GE413.out | refine es ?_ GE414.out | refine es ?_ GE415.out) | exact HB.out)) hb); clear BK413 BK414 BK415 HB; have HO421 := n0_; have BK413 := n1_; have BK414 := n2_; have BK415 := n3_; have HB := n4_; clear n0_ n1_ n2_ n3_ n4_; (try clear hb); (try clear hb2); (try clear hk); (try clear hi); (try clear ho0); obtain ⟨Ao40, co40, eo40⟩ := Kd.R_slice HO421.out; subst eo40; have hcz41_0 := zC BK413.out 0 (.string a0_0); have hcz41_1 := zC BK413.out 1 (.slice A0_1 l0_1.length c0_1); have hfz41_0 := bF BK413.out 0; have hfz41_1 := bF BK413.out 1; have hcz42_0 := zC BK414.out 0 (.int .i64 a2_0); have hcz42_1 := zC BK414.out 1 (.int .i64 a2_1); have hcz42_2 := zC BK414.out 2 (.string a2_2); have hcz42_3 := zC BK414.out 3 (.string a2_3); have hcz42_4 := zC BK414.out 4 (.bool a2_4); have hfz42_0 := bF BK414.out 0; have hfz42_1 := bF BK414.out 1; have hfz42_2 := bF BK414.out 2; have hfz42_3 := bF BK414.out 3; have hfz42_4 := bF BK414.out 4; have hcz43_0 := zC BK415.out 0 (.int .i64 0); have hcz43_1 := zC BK415.out 1 (.string (⟨#[]⟩ : ByteArray)); have hcz43_2 := zC BK415.out 2 (.slice none 0 0); have hcz43_3 := zC BK415.out 3 (.string (⟨#[]⟩ : ByteArray)); have hcz43_4 := zC BK415.out 4 (.slice none 0 0); have hfz43_0 := bF BK415.out 0; have hfz43_1 := bF BK415.out 1; have hfz43_2 := bF BK415.out 2; have hfz43_3 := bF BK415.out 3; have hfz43_4 := bF BK415.out 4))
      refine bodyPost_ret (results_ctt rfl _ _ gb415 32 #[.int .i64 0, .string (⟨#[]⟩ : ByteArray), .slice none 0 0, .string (⟨#[]⟩ : ByteArray), .slice none 0 0] (0, 0) _ rfl (by (with_reducible repeat (first | apply qn | apply qd | apply qa)); refine bU (cs := #[.int .i64 0, .string (⟨#[]⟩ : ByteArray), .slice none 0 0, .string (⟨#[]⟩ : ByteArray), .slice none 0 0]) ?_ 4 _ rfl; (with_reducible repeat (first | apply qn | apply qd | apply qa)); refine bU (cs := #[.int .i64 0, .string (⟨#[]⟩ : ByteArray), .slice none 0 0, .string (⟨#[]⟩ : ByteArray), .slice none 0 0]) ?_ 3 _ rfl; (with_reducible repeat (first | apply qn | apply qd | apply qa)); refine bU (cs := #[.int .i64 0, .string (⟨#[]⟩ : ByteArray), .slice none 0 0, .string (⟨#[]⟩ : ByteArray), .slice none 0 0]) ?_ 2 _ rfl; (with_reducible repeat (first | apply qn | apply qd | apply qa)); refine bU (cs := #[.int .i64 0, .string (⟨#[]⟩ : ByteArray), .slice none 0 0, .string (⟨#[]⟩ : ByteArray), .slice none 0 0]) ?_ 1 _ rfl; (with_reducible repeat (first | apply qn | apply qd | apply qa)); refine bU (cs := #[.int .i64 0, .string (⟨#[]⟩ : ByteArray), .slice none 0 0, .string (⟨#[]⟩ : ByteArray), .slice none 0 0]) ?_ 0 _ rfl; exact qy BK415.out) Try.underlying32 rfl (by kernel_rfl)) rfl ?_
      exact ⟨_, _, by first | rfl | (simp [errW_none, errW_some] <;> rfl) | (simp [*, errW_none, errW_some] <;> rfl), by first | exact Kd.R_nil _ _ _ _ _ | exact Kd.N_nil _ _ _ _ _ | exact Kd.V_nil _ _ _ _ _ | exact Kd.Q_nil _ _ _ _ _ | exact Kd.S_nil _ _ _ _ _, (by first | exact Kd.V_nil _ _ _ _ _ | exact Kd.R_V (Kd.R_nil _ _ _ _ _)), by repeat (first | (with_reducible first | exact HB.out | apply ea | apply en | apply ed | refine es ?_ GE413.out | refine es ?_ GE414.out | refine es ?_ GE415.out) | exact HB.out)⟩
     ·rw [if_neg c33] at H
      have c33b0 : decide (4096 < (wrap64 ((a0_0.size : Int) + (wrap64 ((t419.length : Int) * (wrap64 ((a2_3.size : Int) - (a2_2.size : Int)))))))) = false := decide_eq_false c33
      clear c33
      replace H := Option.bind_eq_some_iff.mp H
      obtain ⟨⟨t422, t423, t424⟩, A440, H⟩ := H
      replace H : ((bureauref06_Bounds.f kj4 t416 a2_1).bind fun bt425 => ((bureauref04_Make.f kj4 a2_3 a1).bind fun bt428 => ((bureauref04_Cut.f kj4 a0_0 l0_1 t422 bt425.2.1).bind fun bt434 => (bureauref15_Do.l0 kj4 t419 t422 bt425.2.1 (wrap64 ((t419.length : Int) - 1)) a0_0 l0_1 a2_0 a2_1 a2_2 a2_3 a2_4 bt428.1 bt428.2.1 bt434.1 bt434.2.1)))) = some (r1, r2, r3, r4, r5, r6, r7) := H
      have A44 := aM A440
      clear A440
      replace H := Option.bind_eq_some_iff.mp H
      obtain ⟨⟨t425, t426, t427⟩, A450, H⟩ := H
      replace H : ((bureauref04_Make.f kj4 a2_3 a1).bind fun bt428 => ((bureauref04_Cut.f kj4 a0_0 l0_1 t422 t426).bind fun bt434 => (bureauref15_Do.l0 kj4 t419 t422 t426 (wrap64 ((t419.length : Int) - 1)) a0_0 l0_1 a2_0 a2_1 a2_2 a2_3 a2_4 bt428.1 bt428.2.1 bt434.1 bt434.2.1))) = some (r1, r2, r3, r4, r5, r6, r7) := H
      have A45 := aM A450
      clear A450
      replace H := Option.bind_eq_some_iff.mp H
      obtain ⟨⟨t428, t429, t432⟩, A460, H⟩ := H
      replace H : ((bureauref04_Cut.f kj4 a0_0 l0_1 t422 t426).bind fun bt434 => (bureauref15_Do.l0 kj4 t419 t422 t426 (wrap64 ((t419.length : Int) - 1)) a0_0 l0_1 a2_0 a2_1 a2_2 a2_3 a2_4 t428 t429 bt434.1 bt434.2.1)) = some (r1, r2, r3, r4, r5, r6, r7) := H
      have A46 := aM A460
      clear A460
      replace H := Option.bind_eq_some_iff.mp H
      obtain ⟨⟨t434, t435, t438⟩, A470, H⟩ := H
      replace H : (bureauref15_Do.l0 kj4 t419 t422 t426 (wrap64 ((t419.length : Int) - 1)) a0_0 l0_1 a2_0 a2_1 a2_2 a2_3 a2_4 t428 t429 t434 t435) = some (r1, r2, r3, r4, r5, r6, r7) := H
      have A47 := aM A470
      clear A470
      have H' := aM H
      clear H
      have hnb48 := NB413_414.out
      have hnc48 := NB414_413.out
      have hnb49 := NB413_415.out
      have hnc49 := NB415_413.out
      have hcz50_0 := zC BK413.out 0 (.string a0_0)
      have hcz50_1 := zC BK413.out 1 (.slice A0_1 l0_1.length c0_1)
      have hfz50_0 := bF BK413.out 0
      have hfz50_1 := bF BK413.out 1
      have hnb51 := NB414_415.out
      have hnc51 := NB415_414.out
      have hcz52_0 := zC BK414.out 0 (.int .i64 a2_0)
      have hcz52_1 := zC BK414.out 1 (.int .i64 a2_1)
      have hcz52_2 := zC BK414.out 2 (.string a2_2)
      have hcz52_3 := zC BK414.out 3 (.string a2_3)
      have hcz52_4 := zC BK414.out 4 (.bool a2_4)
      have hfz52_0 := bF BK414.out 0
      have hfz52_1 := bF BK414.out 1
      have hfz52_2 := bF BK414.out 2
      have hfz52_3 := bF BK414.out 3
      have hfz52_4 := bF BK414.out 4
      go_wp2_with (first | ((with_reducible refine gate_callee (f := 30) rfl ?_); refine goesL_ (some 45) rfl rfl Try.func30 (by kernel_rfl) rfl #[.agg #[.string a0_0, .slice A0_1 l0_1.length c0_1], .string t416, .int .u64 a1, .agg #[.int .i64 a2_0, .int .i64 a2_1, .string a2_2, .string a2_3, .bool a2_4]] rfl (by (try simp only [mT, mC, mN]); first | done | rfl | (simp only [lD, lT]; rfl)) ?_; (with_reducible refine (bureauref15_Places.calls kj4 a0_0 _ _ l0_1 t416 a1 a2_0 a2_1 a2_2 a2_3 a2_4 t419 _ ?side1 ?side2 A23.out).mono ?_); (case side1 => repeat (first | exact (cB_ HR0_1.out HB.out) | (with_reducible refine Kd.C_alloc ?_ _) | (with_reducible refine Kd.C_drewN ?_ _) | (with_reducible refine Kd.C_drew ?_))); (case side2 => exact HC0_1.out); rintro e w53 ⟨v420, rfl, ho0, hb⟩; refine ⟨_, rfl, ?_⟩; have n0_ := aM (rL (Kd.R_newM (M := fun k_ => (w.heap.size ≤ k_)) ho0 (bZ (by repeat (first | (with_reducible first | exact HB.out | apply ea | apply en | apply ed | refine es ?_ GE413.out | refine es ?_ GE414.out | refine es ?_ GE415.out) | exact HB.out))) (fun k_ h_ => h_)) (bZ (by repeat (first | (with_reducible first | exact HB.out | apply ea | apply en | apply ed | refine es ?_ GE413.out | refine es ?_ GE414.out | refine es ?_ GE415.out) | exact HB.out)))); have n1_ := aM (bB (g := gb413) (qy BK413.out) hb); have n2_ := aM (bB (g := gb414) (qy BK414.out) hb); have n3_ := aM (bB (g := gb415) (qy BK415.out) hb); have n4_ := aM (bP (by repeat (first | (with_reducible first | exact HB.out | apply ea | apply en | apply ed | refine es ?_ GE413.out | refine es ?_ GE414.out | refine es ?_ GE415.out) | exact HB.out)) hb); clear BK413 BK414 BK415 HB; have HO421 := n0_; have BK413 := n1_; have BK414 := n2_; have BK415 := n3_; have HB := n4_; clear n0_ n1_ n2_ n3_ n4_; (try clear hb); (try clear hb2); (try clear hk); (try clear hi); (try clear ho0); obtain ⟨Ao54, co54, eo54⟩ := Kd.R_slice HO421.out; subst eo54; have hcz55_0 := zC BK413.out 0 (.string a0_0); have hcz55_1 := zC BK413.out 1 (.slice A0_1 l0_1.length c0_1); have hfz55_0 := bF BK413.out 0; have hfz55_1 := bF BK413.out 1; have hcz56_0 := zC BK414.out 0 (.int .i64 a2_0); have hcz56_1 := zC BK414.out 1 (.int .i64 a2_1); have hcz56_2 := zC BK414.out 2 (.string a2_2); have hcz56_3 := zC BK414.out 3 (.string a2_3); have hcz56_4 := zC BK414.out 4 (.bool a2_4); have hfz56_0 := bF BK414.out 0; have hfz56_1 := bF BK414.out 1; have hfz56_2 := bF BK414.out 2; have hfz56_3 := bF BK414.out 3; have hfz56_4 := bF BK414.out 4) | ((with_reducible refine gate_callee (f := 31) rfl ?_); refine goesL_ (some 70) rfl rfl Try.func31 (by kernel_rfl) rfl #[.string t416, .int .i64 a2_0] rfl (by (try simp only [mT, mC, mN]); first | done | rfl | (simp only [lD, lT]; rfl)) ?_; (with_reducible refine (bureauref06_Bounds.calls kj4 t416 a2_0 t422 t423 t424 _ A44.out).mono ?_); rintro e w57 ⟨rfl, hb⟩; refine ⟨_, rfl, ?_⟩; have n0_ := aM (Kd.R_below (ry HO421.out) hb); have n1_ := aM (bB (g := gb413) (qy BK413.out) hb); have n2_ := aM (bB (g := gb414) (qy BK414.out) hb); have n3_ := aM (bB (g := gb415) (qy BK415.out) hb); have n4_ := aM (bP (by repeat (first | (with_reducible first | exact HB.out | apply ea | apply en | apply ed | refine es ?_ GE413.out | refine es ?_ GE414.out | refine es ?_ GE415.out) | exact HB.out)) hb); clear HO421 BK413 BK414 BK415 HB; have HO421 := n0_; have BK413 := n1_; have BK414 := n2_; have BK415 := n3_; have HB := n4_; clear n0_ n1_ n2_ n3_ n4_; (try clear hb); (try clear hb2); (try clear hk); (try clear hi); have hcz58_0 := zC BK414.out 0 (.int .i64 a2_0); have hcz58_1 := zC BK414.out 1 (.int .i64 a2_1); have hcz58_2 := zC BK414.out 2 (.string a2_2); have hcz58_3 := zC BK414.out 3 (.string a2_3); have hcz58_4 := zC BK414.out 4 (.bool a2_4); have hfz58_0 := bF BK414.out 0; have hfz58_1 := bF BK414.out 1; have hfz58_2 := bF BK414.out 2; have hfz58_3 := bF BK414.out 3; have hfz58_4 := bF BK414.out 4) | ((with_reducible refine gate_callee (f := 31) rfl ?_); refine goesL_ (some 78) rfl rfl Try.func31 (by kernel_rfl) rfl #[.string t416, .int .i64 a2_1] rfl (by (try simp only [mT, mC, mN]); first | done | rfl | (simp only [lD, lT]; rfl)) ?_; (with_reducible refine (bureauref06_Bounds.calls kj4 t416 a2_1 t425 t426 t427 _ A45.out).mono ?_); rintro e w59 ⟨rfl, hb⟩; refine ⟨_, rfl, ?_⟩; have n0_ := aM (Kd.R_below (ry HO421.out) hb); have n1_ := aM (bB (g := gb413) (qy BK413.out) hb); have n2_ := aM (bB (g := gb414) (qy BK414.out) hb); have n3_ := aM (bB (g := gb415) (qy BK415.out) hb); have n4_ := aM (bP (by repeat (first | (with_reducible first | exact HB.out | apply ea | apply en | apply ed | refine es ?_ GE413.out | refine es ?_ GE414.out | refine es ?_ GE415.out) | exact HB.out)) hb); clear HO421 BK413 BK414 BK415 HB; have HO421 := n0_; have BK413 := n1_; have BK414 := n2_; have BK415 := n3_; have HB := n4_; clear n0_ n1_ n2_ n3_ n4_; (try clear hb); (try clear hb2); (try clear hk); (try clear hi); have hcz60_0 := zC BK414.out 0 (.int .i64 a2_0); have hcz60_1 := zC BK414.out 1 (.int .i64 a2_1); have hcz60_2 := zC BK414.out 2 (.string a2_2); have hcz60_3 := zC BK414.out 3 (.string a2_3); have hcz60_4 := zC BK414.out 4 (.bool a2_4); have hfz60_0 := bF BK414.out 0; have hfz60_1 := bF BK414.out 1; have hfz60_2 := bF BK414.out 2; have hfz60_3 := bF BK414.out 3; have hfz60_4 := bF BK414.out 4) | ((with_reducible refine gate_callee (f := 32) rfl ?_); refine goesL_ (some 86) rfl rfl Try.func32 (by kernel_rfl) rfl #[.string a2_3, .int .u64 a1] rfl (by (try simp only [mT, mC, mN]); first | done | rfl | (simp only [lD, lT]; rfl)) ?_; (with_reducible refine (bureauref04_Make.calls kj4 a2_3 a1 t428 t429 t432 _ A46.out).mono ?_); rintro e w61 ⟨v430, rfl, ho0, hb⟩; refine ⟨_, rfl, ?_⟩; have n0_ := aM (Kd.R_below (ry HO421.out) hb); have n1_ := aM (rL (Kd.R_newM (M := fun k_ => (w.heap.size ≤ k_)) ho0 (bZ (by repeat (first | (with_reducible first | exact HB.out | apply ea | apply en | apply ed | refine es ?_ GE413.out | refine es ?_ GE414.out | refine es ?_ GE415.out) | exact HB.out))) (fun k_ h_ => h_)) (bZ (by repeat (first | (with_reducible first | exact HB.out | apply ea | apply en | apply ed | refine es ?_ GE413.out | refine es ?_ GE414.out | refine es ?_ GE415.out) | exact HB.out)))); have n2_ := aM (bB (g := gb413) (qy BK413.out) hb); have n3_ := aM (bB (g := gb414) (qy BK414.out) hb); have n4_ := aM (bB (g := gb415) (qy BK415.out) hb); have n5_ := aM (bP (by repeat (first | (with_reducible first | exact HB.out | apply ea | apply en | apply ed | refine es ?_ GE413.out | refine es ?_ GE414.out | refine es ?_ GE415.out) | exact HB.out)) hb); clear HO421 BK413 BK414 BK415 HB; have HO421 := n0_; have HO431 := n1_; have BK413 := n2_; have BK414 := n3_; have BK415 := n4_; have HB := n5_; clear n0_ n1_ n2_ n3_ n4_ n5_; (try clear hb); (try clear hb2); (try clear hk); (try clear hi); (try clear ho0)) | ((with_reducible refine gate_dst (N := 18) rfl ?_); refine box_event ?hg (N := 18) ?hd (cs := #[.string (⟨#[]⟩ : ByteArray), .slice none 0 0]) (t := 24) ?hr ?_; (case hd | hg => rfl); (case hr => first | (go_simp; done) | (go_simp; rfl)); intro gb433 hg w62 hbox hb; have n0_ := aM (Kd.R_below (ry HO421.out) hb); have n1_ := aM (Kd.R_below (ry HO431.out) hb); have n2_ := aM (bB (g := gb413) (qy BK413.out) hb); have n3_ := aM (bB (g := gb414) (qy BK414.out) hb); have n4_ := aM (bB (g := gb415) (qy BK415.out) hb); have n5_ := aM (bP (by repeat (first | (with_reducible first | exact HB.out | apply ea | apply en | apply ed | refine es ?_ GE413.out | refine es ?_ GE414.out | refine es ?_ GE415.out) | exact HB.out)) hb); have n6_ := aM (hbox); have n7_ := aM ((by rw [hg]; exact (bZ (by repeat (first | (with_reducible first | exact HB.out | apply ea | apply en | apply ed | refine es ?_ GE413.out | refine es ?_ GE414.out | refine es ?_ GE415.out) | exact HB.out))) : w.heap.size ≤ gb433)); have n8_ := n7_; have n9_ := aM ((by rw [hg]; exact Nat.ne_of_lt (blk_lt (g := gb413) (qy BK413.out)) : gb413 ≠ gb433)); have n10_ := aM ((by rw [hg]; exact Nat.ne_of_gt (blk_lt (g := gb413) (qy BK413.out)) : gb433 ≠ gb413)); have n11_ := aM ((by rw [hg]; exact Nat.ne_of_lt (blk_lt (g := gb414) (qy BK414.out)) : gb414 ≠ gb433)); have n12_ := aM ((by rw [hg]; exact Nat.ne_of_gt (blk_lt (g := gb414) (qy BK414.out)) : gb433 ≠ gb414)); have n13_ := aM ((by rw [hg]; exact Nat.ne_of_lt (blk_lt (g := gb415) (qy BK415.out)) : gb415 ≠ gb433)); have n14_ := aM ((by rw [hg]; exact Nat.ne_of_gt (blk_lt (g := gb415) (qy BK415.out)) : gb433 ≠ gb415)); clear HO421 HO431 BK413 BK414 BK415 HB; have HO421 := n0_; have HO431 := n1_; have BK413 := n2_; have BK414 := n3_; have BK415 := n4_; have HB := n5_; have BK433 := n6_; have GW433 := n7_; have GE433 := n8_; have NB413_433 := n9_; have NB433_413 := n10_; have NB414_433 := n11_; have NB433_414 := n12_; have NB415_433 := n13_; have NB433_415 := n14_; clear n0_ n1_ n2_ n3_ n4_ n5_ n6_ n7_ n8_ n9_ n10_ n11_ n12_ n13_ n14_; clear hb hbox hg; have hnb63 := NB433_413.out; have hnc63 := NB413_433.out; have hnb64 := NB433_414.out; have hnc64 := NB414_433.out; have hnb65 := NB433_415.out; have hnc65 := NB415_433.out; have hcz66_0 := zC BK433.out 0 (.string (⟨#[]⟩ : ByteArray)); have hcz66_1 := zC BK433.out 1 (.slice none 0 0); have hfz66_0 := bF BK433.out 0; have hfz66_1 := bF BK433.out 1; obtain ⟨Ao67, co67, eo67⟩ := Kd.R_slice HO431.out; subst eo67; have hcz68_0 := zC BK413.out 0 (.string a0_0); have hcz68_1 := zC BK413.out 1 (.slice A0_1 l0_1.length c0_1); have hfz68_0 := bF BK413.out 0; have hfz68_1 := bF BK413.out 1) | ((with_reducible refine gate_callee (f := 33) rfl ?_); refine goesL_ (some 93) rfl rfl Try.func33 (by kernel_rfl) rfl #[.agg #[.string a0_0, .slice A0_1 l0_1.length c0_1], .int .i64 t422, .int .i64 t426] rfl (by (try simp only [mT, mC, mN]); first | done | rfl | (simp only [lD, lT]; rfl)) ?_; (with_reducible refine (bureauref04_Cut.calls kj4 a0_0 _ _ l0_1 t422 t426 t434 t435 t438 _ ?side1 ?side2 A47.out).mono ?_); (case side1 => exact cB_ HR0_1.out (by repeat (first | (with_reducible first | exact HB.out | apply ea | apply en | apply ed | refine es ?_ GE413.out | refine es ?_ GE414.out | refine es ?_ GE415.out | refine es ?_ GE433.out) | exact HB.out))); (case side2 => exact HC0_1.out); rintro e w69 ⟨v436, rfl, ho0, hb⟩; refine ⟨_, rfl, ?_⟩; have n0_ := aM (Kd.R_below (by (with_reducible repeat (first | apply ra | apply rn | apply rd_)); exact (rM (rF (p := ⟨gb433, 1, none⟩) (rF (p := ⟨gb433, 0, none⟩) (rT HO421.out BK433.out (by decide)) (fun _ hk => hk.2) (.string t428)) (fun _ hk => hk.2) (.slice Ao67 t429.length co67)) (fun _ h_ => h_.1))) hb); have n1_ := aM (rE (by (with_reducible repeat (first | apply ra | apply rn | apply rd_)); exact (rM (rF (p := ⟨gb433, 1, none⟩) (rF (p := ⟨gb433, 0, none⟩) (rT HO431.out BK433.out (by decide)) (fun _ hk => hk.2) (.string t428)) (fun _ hk => hk.2) (.slice Ao67 t429.length co67)) (fun _ h_ => h_.1))) (Kd.R_base ho0) hb); have n2_ := aM (rL (Kd.R_new' (Kd.R_newM (M := fun k_ => (w.heap.size ≤ k_)) ho0 (bZ (by repeat (first | (with_reducible first | exact HB.out | apply ea | apply en | apply ed | refine es ?_ GE413.out | refine es ?_ GE414.out | refine es ?_ GE415.out | refine es ?_ GE433.out) | exact HB.out))) (fun k_ h_ => h_)) (Kd.R_lt (by (with_reducible repeat (first | apply ra | apply rn | apply rd_)); exact (rM (rF (p := ⟨gb433, 1, none⟩) (rF (p := ⟨gb433, 0, none⟩) (rT HO431.out BK433.out (by decide)) (fun _ hk => hk.2) (.string t428)) (fun _ hk => hk.2) (.slice Ao67 t429.length co67)) (fun _ h_ => h_.1))))) (bZ (by repeat (first | (with_reducible first | exact HB.out | apply ea | apply en | apply ed | refine es ?_ GE413.out | refine es ?_ GE414.out | refine es ?_ GE415.out | refine es ?_ GE433.out) | exact HB.out)))); have n3_ := aM (bB (g := gb413) (o := .cells #[.string a0_0, .slice A0_1 l0_1.length c0_1] 24 (0, 0)) (by (with_reducible repeat (first | apply qn | apply qd | apply qa)); refine bR ?_ NB413_433.out _; (with_reducible repeat (first | apply qn | apply qd | apply qa)); refine bR ?_ NB413_433.out _; exact qy BK413.out) hb); have n4_ := aM (bB (g := gb414) (o := .cells #[.int .i64 a2_0, .int .i64 a2_1, .string a2_2, .string a2_3, .bool a2_4] 38 (0, 0)) (by (with_reducible repeat (first | apply qn | apply qd | apply qa)); refine bR ?_ NB414_433.out _; (with_reducible repeat (first | apply qn | apply qd | apply qa)); refine bR ?_ NB414_433.out _; exact qy BK414.out) hb); have n5_ := aM (bB (g := gb415) (o := .cells #[.int .i64 0, .string (⟨#[]⟩ : ByteArray), .slice none 0 0, .string (⟨#[]⟩ : ByteArray), .slice none 0 0] 32 (0, 0)) (by (with_reducible repeat (first | apply qn | apply qd | apply qa)); refine bR ?_ NB415_433.out _; (with_reducible repeat (first | apply qn | apply qd | apply qa)); refine bR ?_ NB415_433.out _; exact qy BK415.out) hb); have n6_ := aM (bB (g := gb433) (o := .cells #[.string t428, .slice Ao67 t429.length co67] 24 (0, 0)) (by (with_reducible repeat (first | apply qn | apply qd | apply qa)); refine bU (cs := #[.string t428, .slice none 0 0]) ?_ 1 _ rfl; (with_reducible repeat (first | apply qn | apply qd | apply qa)); refine bU (cs := #[.string (⟨#[]⟩ : ByteArray), .slice none 0 0]) ?_ 0 _ rfl; exact qy BK433.out) hb); have n7_ := aM (bP (by repeat (first | (with_reducible first | exact HB.out | apply ea | apply en | apply ed | refine es ?_ GE413.out | refine es ?_ GE414.out | refine es ?_ GE415.out | refine es ?_ GE433.out) | exact HB.out)) hb); clear HO421 HO431 BK413 BK414 BK415 BK433 HB; have HO421 := n0_; have HO431 := n1_; have HO437 := n2_; have BK413 := n3_; have BK414 := n4_; have BK415 := n5_; have BK433 := n6_; have HB := n7_; clear n0_ n1_ n2_ n3_ n4_ n5_ n6_ n7_; (try clear hb); (try clear hb2); (try clear hk); (try clear hi); (try clear ho0)) | ((with_reducible refine gate_dst (N := 20) rfl ?_); refine box_event ?hg (N := 20) ?hd (cs := #[.string (⟨#[]⟩ : ByteArray), .slice none 0 0]) (t := 24) ?hr ?_; (case hd | hg => rfl); (case hr => first | (go_simp; done) | (go_simp; rfl)); intro gb439 hg w70 hbox hb; have n0_ := aM (Kd.R_below (ry HO421.out) hb); have n1_ := aM (Kd.R_below (ry HO431.out) hb); have n2_ := aM (Kd.R_below (ry HO437.out) hb); have n3_ := aM (bB (g := gb413) (qy BK413.out) hb); have n4_ := aM (bB (g := gb414) (qy BK414.out) hb); have n5_ := aM (bB (g := gb415) (qy BK415.out) hb); have n6_ := aM (bB (g := gb433) (qy BK433.out) hb); have n7_ := aM (bP (by repeat (first | (with_reducible first | exact HB.out | apply ea | apply en | apply ed | refine es ?_ GE413.out | refine es ?_ GE414.out | refine es ?_ GE415.out | refine es ?_ GE433.out) | exact HB.out)) hb); have n8_ := aM (hbox); have n9_ := aM ((by rw [hg]; exact (bZ (by repeat (first | (with_reducible first | exact HB.out | apply ea | apply en | apply ed | refine es ?_ GE413.out | refine es ?_ GE414.out | refine es ?_ GE415.out | refine es ?_ GE433.out) | exact HB.out))) : w.heap.size ≤ gb439)); have n10_ := n9_; have n11_ := aM ((by rw [hg]; exact Nat.ne_of_lt (blk_lt (g := gb413) (qy BK413.out)) : gb413 ≠ gb439)); have n12_ := aM ((by rw [hg]; exact Nat.ne_of_gt (blk_lt (g := gb413) (qy BK413.out)) : gb439 ≠ gb413)); have n13_ := aM ((by rw [hg]; exact Nat.ne_of_lt (blk_lt (g := gb414) (qy BK414.out)) : gb414 ≠ gb439)); have n14_ := aM ((by rw [hg]; exact Nat.ne_of_gt (blk_lt (g := gb414) (qy BK414.out)) : gb439 ≠ gb414)); have n15_ := aM ((by rw [hg]; exact Nat.ne_of_lt (blk_lt (g := gb415) (qy BK415.out)) : gb415 ≠ gb439)); have n16_ := aM ((by rw [hg]; exact Nat.ne_of_gt (blk_lt (g := gb415) (qy BK415.out)) : gb439 ≠ gb415)); have n17_ := aM ((by rw [hg]; exact Nat.ne_of_lt (blk_lt (g := gb433) (qy BK433.out)) : gb433 ≠ gb439)); have n18_ := aM ((by rw [hg]; exact Nat.ne_of_gt (blk_lt (g := gb433) (qy BK433.out)) : gb439 ≠ gb433)); clear HO421 HO431 HO437 BK413 BK414 BK415 BK433 HB; have HO421 := n0_; have HO431 := n1_; have HO437 := n2_; have BK413 := n3_; have BK414 := n4_; have BK415 := n5_; have BK433 := n6_; have HB := n7_; have BK439 := n8_; have GW439 := n9_; have GE439 := n10_; have NB413_439 := n11_; have NB439_413 := n12_; have NB414_439 := n13_; have NB439_414 := n14_; have NB415_439 := n15_; have NB439_415 := n16_; have NB433_439 := n17_; have NB439_433 := n18_; clear n0_ n1_ n2_ n3_ n4_ n5_ n6_ n7_ n8_ n9_ n10_ n11_ n12_ n13_ n14_ n15_ n16_ n17_ n18_; clear hb hbox hg; have hnb71 := NB439_413.out; have hnc71 := NB413_439.out; have hnb72 := NB439_414.out; have hnc72 := NB414_439.out; have hnb73 := NB439_415.out; have hnc73 := NB415_439.out; have hnb74 := NB439_433.out; have hnc74 := NB433_439.out; have hcz75_0 := zC BK439.out 0 (.string (⟨#[]⟩ : ByteArray)); have hcz75_1 := zC BK439.out 1 (.slice none 0 0); have hfz75_0 := bF BK439.out 0; have hfz75_1 := bF BK439.out 1; obtain ⟨Ao76, co76, eo76⟩ := Kd.R_slice HO437.out; subst eo76))
      go_loopg [22] kj4 (fun kq v22 w' => ∃ (x22_2 : Int) (x440000_2 : ByteArray) (x440001_2 : List (S51)) (u440001 : Value), v22 = .int .i64 x22_2 ∧ Aside0 (bureauref15_Do.l0 kq t419 t422 t426 x22_2 a0_0 l0_1 a2_0 a2_1 a2_2 a2_3 a2_4 t428 t429 x440000_2 x440001_2 = some (r1, r2, r3, r4, r5, r6, r7)) ∧ Aside0 (kq ≤ kj4) ∧ Aside0 (Kd.R (Kd.int .i64) 3 w' w.heap.size (fun k_ => (w.heap.size ≤ k_)) (.slice Ao54 t419.length co54) t419) ∧ Aside0 (Kd.R k51 51 w' w.heap.size (fun k_ => (w.heap.size ≤ k_) ∧ some k_ ≠ (u440001 : Value).ownBlock) (.slice Ao67 t429.length co67) t429) ∧ Aside0 (Kd.R k51 51 w' w.heap.size (fun k_ => (w.heap.size ≤ k_) ∧ some k_ ≠ ((.slice Ao67 t429.length co67) : Value).ownBlock) u440001 x440001_2) ∧ Aside0 (w'.heap[gb413]? = some (.cells #[.string a0_0, (.slice A0_1 l0_1.length c0_1)] 24 (0, 0))) ∧ Aside0 (w'.heap[gb414]? = some (.cells #[.int .i64 a2_0, .int .i64 a2_1, .string a2_2, .string a2_3, .bool a2_4] 38 (0, 0))) ∧ Aside0 (w'.heap[gb415]? = some (.cells #[.int .i64 0, .string (⟨#[]⟩ : ByteArray), (.slice none 0 0), .string (⟨#[]⟩ : ByteArray), (.slice none 0 0)] 32 (0, 0))) ∧ Aside0 (w'.heap[gb433]? = some (.cells #[.string t428, (.slice Ao67 t429.length co67)] 24 (0, 0))) ∧ Aside0 (w'.heap[gb439]? = some (.cells #[.string x440000_2, u440001] 24 (0, 0))) ∧ Aside0 (Below w.heap.size w w'))
      case atStart => exact ⟨(wrap64 ((t419.length : Int) - 1)), (t434), (t435), (.slice Ao76 t435.length co76), (by first | rfl | (simp; done) | (simp [*]; done)), H', ⟨Nat.le_refl _⟩, ⟨by (with_reducible repeat (first | apply ra | apply rn | apply rd_)); exact rM (rF (p := ⟨gb439, 1, none⟩) (rF (p := ⟨gb439, 0, none⟩) (rT HO421.out BK439.out (by decide)) (fun _ hk => hk.2) (.string t434)) (fun _ hk => hk.2) (.slice Ao76 t435.length co76)) (fun _ hk => hk.1.1)⟩, ⟨by (with_reducible repeat (first | apply ra | apply rn | apply rd_)); exact rM (rF (p := ⟨gb439, 1, none⟩) (rF (p := ⟨gb439, 0, none⟩) (rT HO431.out BK439.out (by decide)) (fun _ hk => hk.2) (.string t434)) (fun _ hk => hk.2) (.slice Ao76 t435.length co76)) (fun _ hk => ⟨hk.1.1.1, hk.1.2⟩)⟩, ⟨by (with_reducible repeat (first | apply ra | apply rn | apply rd_)); exact rM (rF (p := ⟨gb439, 1, none⟩) (rF (p := ⟨gb439, 0, none⟩) (rT HO437.out BK439.out (by decide)) (fun _ hk => hk.2) (.string t434)) (fun _ hk => hk.2) (.slice Ao76 t435.length co76)) (fun _ hk => ⟨hk.1.1.1, hk.1.2⟩)⟩, ⟨by (with_reducible repeat (first | apply qn | apply qd | apply qa)); refine bR ?_ NB413_439.out _; (with_reducible repeat (first | apply qn | apply qd | apply qa)); refine bR ?_ NB413_439.out _; exact qy BK413.out⟩, ⟨by (with_reducible repeat (first | apply qn | apply qd | apply qa)); refine bR ?_ NB414_439.out _; (with_reducible repeat (first | apply qn | apply qd | apply qa)); refine bR ?_ NB414_439.out _; exact qy BK414.out⟩, ⟨by (with_reducible repeat (first | apply qn | apply qd | apply qa)); refine bR ?_ NB415_439.out _; (with_reducible repeat (first | apply qn | apply qd | apply qa)); refine bR ?_ NB415_439.out _; exact qy BK415.out⟩, ⟨by (with_reducible repeat (first | apply qn | apply qd | apply qa)); refine bR ?_ NB433_439.out _; (with_reducible repeat (first | apply qn | apply qd | apply qa)); refine bR ?_ NB433_439.out _; exact qy BK433.out⟩, ⟨by (with_reducible repeat (first | apply qn | apply qd | apply qa)); refine bU (cs := #[.string t434, .slice none 0 0]) ?_ 1 _ rfl; (with_reducible repeat (first | apply qn | apply qd | apply qa)); refine bU (cs := #[.string (⟨#[]⟩ : ByteArray), .slice none 0 0]) ?_ 0 _ rfl; exact qy BK439.out⟩, ⟨by repeat (first | (with_reducible first | exact HB.out | apply ea | apply en | apply ed | refine es ?_ GE413.out | refine es ?_ GE414.out | refine es ?_ GE415.out | refine es ?_ GE433.out | refine es ?_ GE439.out) | exact HB.out)⟩⟩
      case round =>
       clear H'
       try clear c1
       try clear c2
       try clear p2
       try clear c3
       try clear c4
       try clear c5
       try clear c6
       try clear p6
       try clear c7
       try clear c9
       try clear c10
       try clear c11
       try clear c13
       try clear c13b0
       try clear c13b1
       try clear c15
       try clear c16
       try clear c19
       try clear c20
       try clear c21
       try clear c24
       try clear c24b0
       try clear c24b1
       try clear c24b2
       try clear c25
       try clear c26
       try clear c28
       try clear c30
       try clear c31
       try clear c32
       try clear c33
       try clear c33b0
       try clear c34
       try clear c35
       try clear c37
       try clear c48
       try clear c49
       try clear c51
       try clear c63
       try clear c64
       try clear p64
       try clear c65
       try clear c71
       try clear c72
       try clear c73
       try clear c74
       try clear hcz11_0
       try clear hcz11_1
       try clear hcz17_0
       try clear hcz17_1
       try clear hcz17_2
       try clear hcz17_3
       try clear hcz17_4
       try clear hcz22_0
       try clear hcz22_1
       try clear hcz22_2
       try clear hcz22_3
       try clear hcz22_4
       try clear hcz27_0
       try clear hcz27_1
       try clear hcz29_0
       try clear hcz29_1
       try clear hcz29_2
       try clear hcz29_3
       try clear hcz29_4
       try clear hcz32_0
       try clear hcz32_1
       try clear hcz32_2
       try clear hcz32_3
       try clear hcz32_4
       try clear hcz36_0
       try clear hcz36_1
       try clear hcz38_0
       try clear hcz38_1
       try clear hcz38_2
       try clear hcz38_3
       try clear hcz38_4
       try clear hcz41_0
       try clear hcz41_1
       try clear hcz42_0
       try clear hcz42_1
       try clear hcz42_2
       try clear hcz42_3
       try clear hcz42_4
       try clear hcz43_0
       try clear hcz43_1
       try clear hcz43_2
       try clear hcz43_3
       try clear hcz43_4
       try clear hcz50_0
       try clear hcz50_1
       try clear hcz52_0
       try clear hcz52_1
       try clear hcz52_2
       try clear hcz52_3
       try clear hcz52_4
       try clear hcz55_0
       try clear hcz55_1
       try clear hcz56_0
       try clear hcz56_1
       try clear hcz56_2
       try clear hcz56_3
       try clear hcz56_4
       try clear hcz58_0
       try clear hcz58_1
       try clear hcz58_2
       try clear hcz58_3
       try clear hcz58_4
       try clear hcz60_0
       try clear hcz60_1
       try clear hcz60_2
       try clear hcz60_3
       try clear hcz60_4
       try clear hcz66_0
       try clear hcz66_1
       try clear hcz68_0
       try clear hcz68_1
       try clear hcz75_0
       try clear hcz75_1
       try clear hfz11_0
       try clear hfz11_1
       try clear hfz17_0
       try clear hfz17_1
       try clear hfz17_2
       try clear hfz17_3
       try clear hfz17_4
       try clear hfz22_0
       try clear hfz22_1
       try clear hfz22_2
       try clear hfz22_3
       try clear hfz22_4
       try clear hfz27_0
       try clear hfz27_1
       try clear hfz29_0
       try clear hfz29_1
       try clear hfz29_2
       try clear hfz29_3
       try clear hfz29_4
       try clear hfz32_0
       try clear hfz32_1
       try clear hfz32_2
       try clear hfz32_3
       try clear hfz32_4
       try clear hfz36_0
       try clear hfz36_1
       try clear hfz38_0
       try clear hfz38_1
       try clear hfz38_2
       try clear hfz38_3
       try clear hfz38_4
       try clear hfz41_0
       try clear hfz41_1
       try clear hfz42_0
       try clear hfz42_1
       try clear hfz42_2
       try clear hfz42_3
       try clear hfz42_4
       try clear hfz43_0
       try clear hfz43_1
       try clear hfz43_2
       try clear hfz43_3
       try clear hfz43_4
       try clear hfz50_0
       try clear hfz50_1
       try clear hfz52_0
       try clear hfz52_1
       try clear hfz52_2
       try clear hfz52_3
       try clear hfz52_4
       try clear hfz55_0
       try clear hfz55_1
       try clear hfz56_0
       try clear hfz56_1
       try clear hfz56_2
       try clear hfz56_3
       try clear hfz56_4
       try clear hfz58_0
       try clear hfz58_1
       try clear hfz58_2
       try clear hfz58_3
       try clear hfz58_4
       try clear hfz60_0
       try clear hfz60_1
       try clear hfz60_2
       try clear hfz60_3
       try clear hfz60_4
       try clear hfz66_0
       try clear hfz66_1
       try clear hfz68_0
       try clear hfz68_1
       try clear hfz75_0
       try clear hfz75_1
       try clear p2
       obtain ⟨x22_2, x440000_2, x440001_2, u440001, rfl, HA, HK2, HO_11, HO_434001, HO_440001, BK413, BK414, BK415, BK433, BK439, HB⟩ := hrel
       cases gk with
       | zero => exact absurd HA.out (by simp [bureauref15_Do.l0])
       | succ k2 =>
        have H := HA.out
        clear HA
        simp only [bureauref15_Do.l0] at H
        by_cases c77 : x22_2 ≥ 0
        ·rw [if_pos c77] at H
         have c77b0 : decide (0 ≤ x22_2) = true := decide_eq_true c77
         clear c77
         by_cases c78 : 0 ≤ x22_2
         ·rw [if_pos c78] at H
          have c78b0 : decide (0 ≤ x22_2) = true := decide_eq_true c78
          clear c78
          by_cases c79 : x22_2 < (t419.length : Int)
          ·rw [if_pos c79] at H
           have c79b0 : decide (x22_2 < (t419.length : Int)) = true := decide_eq_true c79
           clear c79
           replace H := Option.bind_eq_some_iff.mp H
           obtain ⟨⟨t441, t442⟩, A800, H⟩ := H
           replace H : (bureauref15_Do.l0 k2 t419 t422 t426 (wrap64 (x22_2 - 1)) a0_0 l0_1 a2_0 a2_1 a2_2 a2_3 a2_4 t428 t429 t441 t442) = some (r1, r2, r3, r4, r5, r6, r7) := H
           have A80 := aM A800
           clear A800
           have H' := aM H
           clear H
           have p440 : 0 ≤ (x22_2 : Int) := of_decide_eq_true (by first | (with_reducible assumption) | assumption)
           have q440 : x22_2 < (t419.length : Int) := of_decide_eq_true (by first | (with_reducible assumption) | assumption)
           obtain ⟨ad440, e440, hx440_0⟩ := Kd.at_int (rR HO_11.out).2.2 x22_2 p440 q440
           cases e440
           replace p440 := eq_true p440
           replace q440 := eq_true q440
           have hnb81 := NB439_413.out
           have hnc81 := NB413_439.out
           have hnb82 := NB439_414.out
           have hnc82 := NB414_439.out
           have hnb83 := NB439_415.out
           have hnc83 := NB415_439.out
           have hnb84 := NB439_433.out
           have hnc84 := NB433_439.out
           have hcz85_0 := zC BK439.out 0 (.string x440000_2)
           have hcz85_1 := zC BK439.out 1 (u440001)
           have hfz85_0 := bF BK439.out 0
           have hfz85_1 := bF BK439.out 1
           have hnb86 := NB414_413.out
           have hnc86 := NB413_414.out
           have hnb87 := NB414_415.out
           have hnc87 := NB415_414.out
           have hnb88 := NB414_433.out
           have hnc88 := NB433_414.out
           have hcz89_0 := zC BK414.out 0 (.int .i64 a2_0)
           have hcz89_1 := zC BK414.out 1 (.int .i64 a2_1)
           have hcz89_2 := zC BK414.out 2 (.string a2_2)
           have hcz89_3 := zC BK414.out 3 (.string a2_3)
           have hcz89_4 := zC BK414.out 4 (.bool a2_4)
           have hfz89_0 := bF BK414.out 0
           have hfz89_1 := bF BK414.out 1
           have hfz89_2 := bF BK414.out 2
           have hfz89_3 := bF BK414.out 3
           have hfz89_4 := bF BK414.out 4
           have hnb90 := NB433_413.out
           have hnc90 := NB413_433.out
           have hnb91 := NB433_415.out
           have hnc91 := NB415_433.out
           have hcz92_0 := zC BK433.out 0 (.string t428)
           have hcz92_1 := zC BK433.out 1 (.slice Ao67 t429.length co67)
           have hfz92_0 := bF BK433.out 0
           have hfz92_1 := bF BK433.out 1
           obtain ⟨Ao93, co93, eo93⟩ := Kd.R_slice HO_440001.out
           subst eo93
           go_wp2_with (first | ((with_reducible refine gate_callee (f := 34) rfl ?_); refine goesL_ (some 117) rfl rfl Try.func34 (by kernel_rfl) rfl #[.agg #[.string x440000_2, .slice Ao93 x440001_2.length co93], .int .i64 (wrap64 ((rd t419 x22_2) - t422)), .int .i64 (wrap64 ((wrap64 ((rd t419 x22_2) - t422)) + (a2_2.size : Int))), .agg #[.string t428, .slice Ao67 t429.length co67]] rfl (by (try simp only [mT, mC, mN]); first | done | rfl | (simp only [lD, lT]; rfl)) ?_; (with_reducible refine (bureauref15_put.calls k2 x440000_2 _ _ x440001_2 (wrap64 ((rd t419 x22_2) - t422)) (wrap64 ((wrap64 ((rd t419 x22_2) - t422)) + (a2_2.size : Int))) t428 _ _ t429 t441 t442 _ ?side1 ?side2 ?side3 ?side4 A80.out).mono ?_); (case side1 => repeat (first | exact (rR HO_440001.out).2.2 | (with_reducible refine Kd.C_alloc ?_ _) | (with_reducible refine Kd.C_drewN ?_ _) | (with_reducible refine Kd.C_drew ?_))); (case side2 => exact (rR HO_440001.out).2.1); (case side3 => repeat (first | exact (rR HO_434001.out).2.2 | (with_reducible refine Kd.C_alloc ?_ _) | (with_reducible refine Kd.C_drewN ?_ _) | (with_reducible refine Kd.C_drew ?_))); (case side4 => exact (rR HO_434001.out).2.1); rintro e w94 ⟨v443, rfl, ho0, hb⟩; refine ⟨_, rfl, ?_⟩; have n0_ := aM (Kd.R_below (ry HO_11.out) hb); have n1_ := aM (rE (ry HO_434001.out) (Kd.R_base ho0) hb); have n2_ := aM (rE (ry HO_440001.out) (Kd.R_base ho0) hb); have n3_ := aM (rL (Kd.R_new' (Kd.R_new' (Kd.R_newM (M := fun k_ => (w.heap.size ≤ k_)) ho0 (bZ (by repeat (first | (with_reducible first | exact HB.out | apply ea | apply en | apply ed | refine es ?_ GE413.out | refine es ?_ GE414.out | refine es ?_ GE415.out | refine es ?_ GE433.out | refine es ?_ GE439.out) | exact HB.out))) (fun k_ h_ => h_)) (Kd.R_lt (ry HO_434001.out))) (Kd.R_lt (ry HO_440001.out))) (bZ (by repeat (first | (with_reducible first | exact HB.out | apply ea | apply en | apply ed | refine es ?_ GE413.out | refine es ?_ GE414.out | refine es ?_ GE415.out | refine es ?_ GE433.out | refine es ?_ GE439.out) | exact HB.out)))); have n4_ := aM (bB (g := gb413) (qy BK413.out) hb); have n5_ := aM (bB (g := gb414) (qy BK414.out) hb); have n6_ := aM (bB (g := gb415) (qy BK415.out) hb); have n7_ := aM (bB (g := gb433) (qy BK433.out) hb); have n8_ := aM (bB (g := gb439) (qy BK439.out) hb); have n9_ := aM (bP (by repeat (first | (with_reducible first | exact HB.out | apply ea | apply en | apply ed | refine es ?_ GE413.out | refine es ?_ GE414.out | refine es ?_ GE415.out | refine es ?_ GE433.out | refine es ?_ GE439.out) | exact HB.out)) hb); clear HO_11 HO_434001 HO_440001 BK413 BK414 BK415 BK433 BK439 HB; have HO_11 := n0_; have HO_434001 := n1_; have HO_440001 := n2_; have HO444 := n3_; have BK413 := n4_; have BK414 := n5_; have BK415 := n6_; have BK433 := n7_; have BK439 := n8_; have HB := n9_; clear n0_ n1_ n2_ n3_ n4_ n5_ n6_ n7_ n8_ n9_; (try clear hb); (try clear hb2); (try clear hk); (try clear hi); (try clear ho0); have hcz95_0 := zC BK439.out 0 (.string x440000_2); have hcz95_1 := zC BK439.out 1 (.slice Ao93 x440001_2.length co93); have hfz95_0 := bF BK439.out 0; have hfz95_1 := bF BK439.out 1; obtain ⟨Ao96, co96, eo96⟩ := Kd.R_slice HO444.out; subst eo96))
           go_roundg k2
           case measure => have := HJ4.out; have := HK2.out; omega
           case rel => exact ⟨(wrap64 (x22_2 - 1)), (t441), (t442), (.slice Ao96 t442.length co96), (by first | rfl | (simp; done) | (simp [*]; done)), H', ⟨by have := HJ4.out; have := HK2.out; omega⟩, ⟨by (with_reducible repeat (first | apply ra | apply rn | apply rd_)); exact rM (rF (p := ⟨gb439, 1, none⟩) (rF (p := ⟨gb439, 0, none⟩) (rT HO_11.out BK439.out (by decide)) (fun _ hk => hk.2) (.string t441)) (fun _ hk => hk.2) (.slice Ao96 t442.length co96)) (fun _ hk => hk.1)⟩, ⟨by (with_reducible repeat (first | apply ra | apply rn | apply rd_)); exact rM (rF (p := ⟨gb439, 1, none⟩) (rF (p := ⟨gb439, 0, none⟩) (rT HO_434001.out BK439.out (by decide)) (fun _ hk => hk.2) (.string t441)) (fun _ hk => hk.2) (.slice Ao96 t442.length co96)) (fun _ hk => ⟨hk.1.1.1, hk.1.2⟩)⟩, ⟨by (with_reducible repeat (first | apply ra | apply rn | apply rd_)); exact rM (rF (p := ⟨gb439, 1, none⟩) (rF (p := ⟨gb439, 0, none⟩) (rT HO444.out BK439.out (by decide)) (fun _ hk => hk.2) (.string t441)) (fun _ hk => hk.2) (.slice Ao96 t442.length co96)) (fun _ hk => ⟨hk.1.1.1.1, hk.1.1.2⟩)⟩, ⟨by (with_reducible repeat (first | apply qn | apply qd | apply qa)); refine bR ?_ NB413_439.out _; (with_reducible repeat (first | apply qn | apply qd | apply qa)); refine bR ?_ NB413_439.out _; exact qy BK413.out⟩, ⟨by (with_reducible repeat (first | apply qn | apply qd | apply qa)); refine bR ?_ NB414_439.out _; (with_reducible repeat (first | apply qn | apply qd | apply qa)); refine bR ?_ NB414_439.out _; exact qy BK414.out⟩, ⟨by (with_reducible repeat (first | apply qn | apply qd | apply qa)); refine bR ?_ NB415_439.out _; (with_reducible repeat (first | apply qn | apply qd | apply qa)); refine bR ?_ NB415_439.out _; exact qy BK415.out⟩, ⟨by (with_reducible repeat (first | apply qn | apply qd | apply qa)); refine bR ?_ NB433_439.out _; (with_reducible repeat (first | apply qn | apply qd | apply qa)); refine bR ?_ NB433_439.out _; exact qy BK433.out⟩, ⟨by (with_reducible repeat (first | apply qn | apply qd | apply qa)); refine bU (cs := #[.string t441, .slice Ao93 x440001_2.length co93]) ?_ 1 _ rfl; (with_reducible repeat (first | apply qn | apply qd | apply qa)); refine bU (cs := #[.string x440000_2, .slice Ao93 x440001_2.length co93]) ?_ 0 _ rfl; exact qy BK439.out⟩, ⟨by repeat (first | (with_reducible first | exact HB.out | apply ea | apply en | apply ed | refine es ?_ GE413.out | refine es ?_ GE414.out | refine es ?_ GE415.out | refine es ?_ GE433.out | refine es ?_ GE439.out) | exact HB.out)⟩⟩
          ·rw [if_neg c79] at H
           exact absurd H (by simp)
         ·rw [if_neg c78] at H
          exact absurd H (by simp)
        ·rw [if_neg c77] at H
         have c77b0 : decide (0 ≤ x22_2) = false := decide_eq_false c77
         clear c77
         replace H := Option.bind_eq_some_iff.mp H
         obtain ⟨⟨t445, t446, t447, t450, t451, t454⟩, A970, H⟩ := H
         replace H : (if t454 = 0 then (some (t445, t446, t447, t450, t451, (t419.length : Int), 0)) else (some (0, (⟨#[]⟩ : ByteArray), ([] : List (S51)), (⟨#[]⟩ : ByteArray), ([] : List (S51)), 0, t454))) = some (r1, r2, r3, r4, r5, r6, r7) := H
         have A97 := aM A970
         clear A970
         by_cases c98 : t454 = 0
         ·rw [if_pos c98] at H
          have c98b0 : (t454 == 0) = true := beq_iff_eq.mpr c98
          have c98b1 : (t454 != 0) = false := bne_eq_false_iff_eq.mpr c98
          clear c98
          simp only [Option.some.injEq, Prod.mk.injEq] at H
          obtain ⟨rfl, rfl, rfl, rfl, rfl, rfl, rfl⟩ := H
          have hnb99 := NB413_414.out
          have hnc99 := NB414_413.out
          have hnb100 := NB413_415.out
          have hnc100 := NB415_413.out
          have hnb101 := NB413_433.out
          have hnc101 := NB433_413.out
          have hnb102 := NB413_439.out
          have hnc102 := NB439_413.out
          have hcz103_0 := zC BK413.out 0 (.string a0_0)
          have hcz103_1 := zC BK413.out 1 (.slice A0_1 l0_1.length c0_1)
          have hfz103_0 := bF BK413.out 0
          have hfz103_1 := bF BK413.out 1
          have hnb104 := NB439_414.out
          have hnc104 := NB414_439.out
          have hnb105 := NB439_415.out
          have hnc105 := NB415_439.out
          have hnb106 := NB439_433.out
          have hnc106 := NB433_439.out
          have hcz107_0 := zC BK439.out 0 (.string x440000_2)
          have hcz107_1 := zC BK439.out 1 (u440001)
          have hfz107_0 := bF BK439.out 0
          have hfz107_1 := bF BK439.out 1
          obtain ⟨Ao108, co108, eo108⟩ := Kd.R_slice HO_440001.out
          subst eo108
          go_wp2_with (first | ((with_reducible refine gate_callee (f := 35) rfl ?_); refine goesL_ (some 123) rfl rfl Try.func35 (by kernel_rfl) rfl #[.agg #[.string a0_0, .slice A0_1 l0_1.length c0_1], .int .i64 t422, .int .i64 t426, .agg #[.string x440000_2, .slice Ao108 x440001_2.length co108]] rfl (by (try simp only [mT, mC, mN]); first | done | rfl | (simp only [lD, lT]; rfl)) ?_; (with_reducible refine (bureauref07_Of.calls k2 a0_0 _ _ l0_1 t422 t426 x440000_2 (fun k_ => some k_ = (.slice Ao108 x440001_2.length co108 : Value).ownBlock) _ _ x440001_2 t445 t446 t447 t450 t451 t454 _ ?side1 ?side2 ?side3 A97.out).mono ?_); (case side1 => repeat (first | exact (cB_ HR0_1.out HB.out) | (with_reducible refine Kd.C_alloc ?_ _) | (with_reducible refine Kd.C_drewN ?_ _) | (with_reducible refine Kd.C_drew ?_))); (case side2 => exact HC0_1.out); (case side3 => exact Kd.R_V (Kd.R_tight rfl (rT (rT (rT (rT (rT (Kd.R_apart' (HO_440001.out) (Kd.R_typed HO_11.out) (by decide)) BK413.out (by decide)) BK414.out (by decide)) BK415.out (by decide)) BK433.out (by decide)) BK439.out (by decide)))); rintro e w109 ⟨v448, v452, rfl, ho0, ho1, hb⟩; refine ⟨_, rfl, ?_⟩; have n0_ := aM (Kd.R_below (ry HO_11.out) hb); have n1_ := aM (rE (ry HO_434001.out) (Kd.R_base ho0) hb); have n2_ := aM (rE (ry HO_440001.out) (Kd.R_base ho0) hb); have n3_ := aM (rL (Kd.R_new' (Kd.R_new' (Kd.R_newM (M := fun k_ => (w.heap.size ≤ k_)) (rM (ok' := fun k_ => True) ho0 (fun _ hk_ => trivial)) (bZ (by repeat (first | (with_reducible first | exact HB.out | apply ea | apply en | apply ed | refine es ?_ GE413.out | refine es ?_ GE414.out | refine es ?_ GE415.out | refine es ?_ GE433.out | refine es ?_ GE439.out) | exact HB.out))) (fun k_ h_ => h_)) (Kd.R_lt (ry HO_434001.out))) (Kd.R_lt (ry HO_440001.out))) (bZ (by repeat (first | (with_reducible first | exact HB.out | apply ea | apply en | apply ed | refine es ?_ GE413.out | refine es ?_ GE414.out | refine es ?_ GE415.out | refine es ?_ GE433.out | refine es ?_ GE439.out) | exact HB.out)))); have n4_ := aM (Kd.V_lower (Kd.V_mono (ok' := fun k_ => (w.heap.size ≤ k_) ∧ some k_ ≠ (v448 : Value).ownBlock ∧ some k_ ≠ (.slice Ao54 t419.length co54 : Value).ownBlock ∧ some k_ ≠ (.slice Ao67 t429.length co67 : Value).ownBlock ∧ k_ ≠ gb413 ∧ k_ ≠ gb414 ∧ k_ ≠ gb415 ∧ k_ ≠ gb433 ∧ k_ ≠ gb439) ho1 (fun k_ hk_ => ⟨Or.elim hk_.1 (fun hs_ => ((rT (rT (rT (rT (rT (Kd.R_apart' (HO_440001.out) (Kd.R_typed HO_11.out) (by decide)) BK413.out (by decide)) BK414.out (by decide)) BK415.out (by decide)) BK433.out (by decide)) BK439.out (by decide)).1 k_ hs_.symm).1.1.1.1.1.1.1) (fun hn_ => (Nat.le_trans (bZ (by repeat (first | (with_reducible first | exact HB.out | apply ea | apply en | apply ed | refine es ?_ GE413.out | refine es ?_ GE414.out | refine es ?_ GE415.out | refine es ?_ GE433.out | refine es ?_ GE439.out) | exact HB.out))) hn_)), hk_.2, Or.elim hk_.1 (fun hs_ => ((rT (rT (rT (rT (rT (Kd.R_apart' (HO_440001.out) (Kd.R_typed HO_11.out) (by decide)) BK413.out (by decide)) BK414.out (by decide)) BK415.out (by decide)) BK433.out (by decide)) BK439.out (by decide)).1 k_ hs_.symm).1.1.1.1.1.2) (fun hn_ => (Kd.fresh' (Kd.R_lt (ry HO_11.out)) k_ hn_)), Or.elim hk_.1 (fun hs_ => ((rT (rT (rT (rT (rT (Kd.R_apart' (HO_440001.out) (Kd.R_typed HO_11.out) (by decide)) BK413.out (by decide)) BK414.out (by decide)) BK415.out (by decide)) BK433.out (by decide)) BK439.out (by decide)).1 k_ hs_.symm).1.1.1.1.1.1.2) (fun hn_ => (Kd.fresh' (Kd.R_lt (ry HO_434001.out)) k_ hn_)), Or.elim hk_.1 (fun hs_ => ((rT (rT (rT (rT (rT (Kd.R_apart' (HO_440001.out) (Kd.R_typed HO_11.out) (by decide)) BK413.out (by decide)) BK414.out (by decide)) BK415.out (by decide)) BK433.out (by decide)) BK439.out (by decide)).1 k_ hs_.symm).1.1.1.1.2) (fun hn_ => (Kd.freshB (g := gb413) (qy BK413.out) k_ hn_)), Or.elim hk_.1 (fun hs_ => ((rT (rT (rT (rT (rT (Kd.R_apart' (HO_440001.out) (Kd.R_typed HO_11.out) (by decide)) BK413.out (by decide)) BK414.out (by decide)) BK415.out (by decide)) BK433.out (by decide)) BK439.out (by decide)).1 k_ hs_.symm).1.1.1.2) (fun hn_ => (Kd.freshB (g := gb414) (qy BK414.out) k_ hn_)), Or.elim hk_.1 (fun hs_ => ((rT (rT (rT (rT (rT (Kd.R_apart' (HO_440001.out) (Kd.R_typed HO_11.out) (by decide)) BK413.out (by decide)) BK414.out (by decide)) BK415.out (by decide)) BK433.out (by decide)) BK439.out (by decide)).1 k_ hs_.symm).1.1.2) (fun hn_ => (Kd.freshB (g := gb415) (qy BK415.out) k_ hn_)), Or.elim hk_.1 (fun hs_ => ((rT (rT (rT (rT (rT (Kd.R_apart' (HO_440001.out) (Kd.R_typed HO_11.out) (by decide)) BK413.out (by decide)) BK414.out (by decide)) BK415.out (by decide)) BK433.out (by decide)) BK439.out (by decide)).1 k_ hs_.symm).1.2) (fun hn_ => (Kd.freshB (g := gb433) (qy BK433.out) k_ hn_)), Or.elim hk_.1 (fun hs_ => ((rT (rT (rT (rT (rT (Kd.R_apart' (HO_440001.out) (Kd.R_typed HO_11.out) (by decide)) BK413.out (by decide)) BK414.out (by decide)) BK415.out (by decide)) BK433.out (by decide)) BK439.out (by decide)).1 k_ hs_.symm).2) (fun hn_ => (Kd.freshB (g := gb439) (qy BK439.out) k_ hn_))⟩)) (bZ (by repeat (first | (with_reducible first | exact HB.out | apply ea | apply en | apply ed | refine es ?_ GE413.out | refine es ?_ GE414.out | refine es ?_ GE415.out | refine es ?_ GE433.out | refine es ?_ GE439.out) | exact HB.out)))); have n5_ := aM (bB (g := gb413) (qy BK413.out) hb); have n6_ := aM (bB (g := gb414) (qy BK414.out) hb); have n7_ := aM (bB (g := gb415) (qy BK415.out) hb); have n8_ := aM (bB (g := gb433) (qy BK433.out) hb); have n9_ := aM (bB (g := gb439) (qy BK439.out) hb); have n10_ := aM (bP (by repeat (first | (with_reducible first | exact HB.out | apply ea | apply en | apply ed | refine es ?_ GE413.out | refine es ?_ GE414.out | refine es ?_ GE415.out | refine es ?_ GE433.out | refine es ?_ GE439.out) | exact HB.out)) hb); clear HO_11 HO_434001 HO_440001 BK413 BK414 BK415 BK433 BK439 HB; have HO_11 := n0_; have HO_434001 := n1_; have HO_440001 := n2_; have HO449 := n3_; have HO453 := n4_; have BK413 := n5_; have BK414 := n6_; have BK415 := n7_; have BK433 := n8_; have BK439 := n9_; have HB := n10_; clear n0_ n1_ n2_ n3_ n4_ n5_ n6_ n7_ n8_ n9_ n10_; (try clear hb); (try clear hb2); (try clear hk); (try clear hi); (try clear ho0); (try clear ho1)) | ((with_reducible refine gate_dst (N := 24) rfl ?_); refine box_event ?hg (N := 24) ?hd (cs := #[.int .i64 0, .string (⟨#[]⟩ : ByteArray), .slice none 0 0, .string (⟨#[]⟩ : ByteArray), .slice none 0 0]) (t := 32) ?hr ?_; (case hd | hg => rfl); (case hr => first | (go_simp; done) | (go_simp; rfl)); intro gb455 hg w110 hbox hb; have n0_ := aM (Kd.R_below (ry HO_11.out) hb); have n1_ := aM (Kd.R_below (ry HO_434001.out) hb); have n2_ := aM (Kd.R_below (ry HO_440001.out) hb); have n3_ := aM (Kd.R_below (ry HO449.out) hb); have n4_ := aM (Kd.V_below (Kd.V_elderB (by (with_reducible repeat (first | apply va | apply vn | apply vd)); exact HO453.out) gb455 (Nat.le_of_eq hg.symm)) hb); have n5_ := aM (bB (g := gb413) (qy BK413.out) hb); have n6_ := aM (bB (g := gb414) (qy BK414.out) hb); have n7_ := aM (bB (g := gb415) (qy BK415.out) hb); have n8_ := aM (bB (g := gb433) (qy BK433.out) hb); have n9_ := aM (bB (g := gb439) (qy BK439.out) hb); have n10_ := aM (bP (by repeat (first | (with_reducible first | exact HB.out | apply ea | apply en | apply ed | refine es ?_ GE413.out | refine es ?_ GE414.out | refine es ?_ GE415.out | refine es ?_ GE433.out | refine es ?_ GE439.out) | exact HB.out)) hb); have n11_ := aM (hbox); have n12_ := aM ((by rw [hg]; exact (bZ (by repeat (first | (with_reducible first | exact HB.out | apply ea | apply en | apply ed | refine es ?_ GE413.out | refine es ?_ GE414.out | refine es ?_ GE415.out | refine es ?_ GE433.out | refine es ?_ GE439.out) | exact HB.out))) : w.heap.size ≤ gb455)); have n13_ := n12_; have n14_ := aM ((by rw [hg]; exact Nat.ne_of_lt (blk_lt (g := gb413) (qy BK413.out)) : gb413 ≠ gb455)); have n15_ := aM ((by rw [hg]; exact Nat.ne_of_gt (blk_lt (g := gb413) (qy BK413.out)) : gb455 ≠ gb413)); have n16_ := aM ((by rw [hg]; exact Nat.ne_of_lt (blk_lt (g := gb414) (qy BK414.out)) : gb414 ≠ gb455)); have n17_ := aM ((by rw [hg]; exact Nat.ne_of_gt (blk_lt (g := gb414) (qy BK414.out)) : gb455 ≠ gb414)); have n18_ := aM ((by rw [hg]; exact Nat.ne_of_lt (blk_lt (g := gb415) (qy BK415.out)) : gb415 ≠ gb455)); have n19_ := aM ((by rw [hg]; exact Nat.ne_of_gt (blk_lt (g := gb415) (qy BK415.out)) : gb455 ≠ gb415)); have n20_ := aM ((by rw [hg]; exact Nat.ne_of_lt (blk_lt (g := gb433) (qy BK433.out)) : gb433 ≠ gb455)); have n21_ := aM ((by rw [hg]; exact Nat.ne_of_gt (blk_lt (g := gb433) (qy BK433.out)) : gb455 ≠ gb433)); have n22_ := aM ((by rw [hg]; exact Nat.ne_of_lt (blk_lt (g := gb439) (qy BK439.out)) : gb439 ≠ gb455)); have n23_ := aM ((by rw [hg]; exact Nat.ne_of_gt (blk_lt (g := gb439) (qy BK439.out)) : gb455 ≠ gb439)); clear HO_11 HO_434001 HO_440001 HO449 HO453 BK413 BK414 BK415 BK433 BK439 HB; have HO_11 := n0_; have HO_434001 := n1_; have HO_440001 := n2_; have HO449 := n3_; have HO453 := n4_; have BK413 := n5_; have BK414 := n6_; have BK415 := n7_; have BK433 := n8_; have BK439 := n9_; have HB := n10_; have BK455 := n11_; have GW455 := n12_; have GE455 := n13_; have NB413_455 := n14_; have NB455_413 := n15_; have NB414_455 := n16_; have NB455_414 := n17_; have NB415_455 := n18_; have NB455_415 := n19_; have NB433_455 := n20_; have NB455_433 := n21_; have NB439_455 := n22_; have NB455_439 := n23_; clear n0_ n1_ n2_ n3_ n4_ n5_ n6_ n7_ n8_ n9_ n10_ n11_ n12_ n13_ n14_ n15_ n16_ n17_ n18_ n19_ n20_ n21_ n22_ n23_; clear hb hbox hg; have hnb111 := NB455_413.out; have hnc111 := NB413_455.out; have hnb112 := NB455_414.out; have hnc112 := NB414_455.out; have hnb113 := NB455_415.out; have hnc113 := NB415_455.out; have hnb114 := NB455_433.out; have hnc114 := NB433_455.out; have hnb115 := NB455_439.out; have hnc115 := NB439_455.out; have hcz116_0 := zC BK455.out 0 (.int .i64 0); have hcz116_1 := zC BK455.out 1 (.string (⟨#[]⟩ : ByteArray)); have hcz116_2 := zC BK455.out 2 (.slice none 0 0); have hcz116_3 := zC BK455.out 3 (.string (⟨#[]⟩ : ByteArray)); have hcz116_4 := zC BK455.out 4 (.slice none 0 0); have hfz116_0 := bF BK455.out 0; have hfz116_1 := bF BK455.out 1; have hfz116_2 := bF BK455.out 2; have hfz116_3 := bF BK455.out 3; have hfz116_4 := bF BK455.out 4; obtain ⟨Ao117, co117, eo117⟩ := Kd.R_slice HO449.out; subst eo117; obtain ⟨Ao118, co118, eo118⟩ := Kd.V_slice HO453.out; subst eo118; have hnb119 := NB415_414.out; have hnc119 := NB414_415.out; have hnb120 := NB415_433.out; have hnc120 := NB433_415.out; have hcz121_0 := zC BK415.out 0 (.int .i64 0); have hcz121_1 := zC BK415.out 1 (.string (⟨#[]⟩ : ByteArray)); have hcz121_2 := zC BK415.out 2 (.slice none 0 0); have hcz121_3 := zC BK415.out 3 (.string (⟨#[]⟩ : ByteArray)); have hcz121_4 := zC BK415.out 4 (.slice none 0 0); have hfz121_0 := bF BK415.out 0; have hfz121_1 := bF BK415.out 1; have hfz121_2 := bF BK415.out 2; have hfz121_3 := bF BK415.out 3; have hfz121_4 := bF BK415.out 4))
          refine bodyPost_ret (results_ctt rfl _ _ gb415 32 #[.int .i64 t445, .string t446, .slice Ao117 t447.length co117, .string t450, .slice Ao118 t451.length co118] (0, 0) _ rfl (by (with_reducible repeat (first | apply qn | apply qd | apply qa)); refine bU (cs := #[.int .i64 t445, .string t446, .slice Ao117 t447.length co117, .string t450, .slice none 0 0]) ?_ 4 _ rfl; (with_reducible repeat (first | apply qn | apply qd | apply qa)); refine bU (cs := #[.int .i64 t445, .string t446, .slice Ao117 t447.length co117, .string (⟨#[]⟩ : ByteArray), .slice none 0 0]) ?_ 3 _ rfl; (with_reducible repeat (first | apply qn | apply qd | apply qa)); refine bU (cs := #[.int .i64 t445, .string t446, .slice none 0 0, .string (⟨#[]⟩ : ByteArray), .slice none 0 0]) ?_ 2 _ rfl; (with_reducible repeat (first | apply qn | apply qd | apply qa)); refine bU (cs := #[.int .i64 t445, .string (⟨#[]⟩ : ByteArray), .slice none 0 0, .string (⟨#[]⟩ : ByteArray), .slice none 0 0]) ?_ 1 _ rfl; (with_reducible repeat (first | apply qn | apply qd | apply qa)); refine bU (cs := #[.int .i64 0, .string (⟨#[]⟩ : ByteArray), .slice none 0 0, .string (⟨#[]⟩ : ByteArray), .slice none 0 0]) ?_ 0 _ rfl; (with_reducible repeat (first | apply qn | apply qd | apply qa)); refine bR ?_ NB415_455.out _; (with_reducible repeat (first | apply qn | apply qd | apply qa)); refine bR ?_ NB415_455.out _; (with_reducible repeat (first | apply qn | apply qd | apply qa)); refine bR ?_ NB415_455.out _; (with_reducible repeat (first | apply qn | apply qd | apply qa)); refine bR ?_ NB415_455.out _; (with_reducible repeat (first | apply qn | apply qd | apply qa)); refine bR ?_ NB415_455.out _; exact qy BK415.out) Try.underlying32 rfl (by kernel_rfl)) rfl ?_
          exact ⟨_, _, by first | rfl | (simp [errW_none, errW_some] <;> rfl) | (simp [*, errW_none, errW_some] <;> rfl), by (with_reducible repeat (first | apply ra | apply rn | apply rd_)); exact rM (rF (p := ⟨gb415, 4, none⟩) (rF (p := ⟨gb415, 3, none⟩) (rF (p := ⟨gb415, 2, none⟩) (rF (p := ⟨gb415, 1, none⟩) (rF (p := ⟨gb415, 0, none⟩) (rF (p := ⟨gb455, 4, none⟩) (rF (p := ⟨gb455, 3, none⟩) (rF (p := ⟨gb455, 2, none⟩) (rF (p := ⟨gb455, 1, none⟩) (rF (p := ⟨gb455, 0, none⟩) (rT (rT HO449.out BK455.out (by decide)) BK415.out (by decide)) (fun _ hk => hk.1.2) (.int .i64 t445)) (fun _ hk => hk.1.2) (.string t446)) (fun _ hk => hk.1.2) (.slice Ao117 t447.length co117)) (fun _ hk => hk.1.2) (.string t450)) (fun _ hk => hk.1.2) (.slice Ao118 t451.length co118)) (fun _ hk => hk.2) (.int .i64 t445)) (fun _ hk => hk.2) (.string t446)) (fun _ hk => hk.2) (.slice Ao117 t447.length co117)) (fun _ hk => hk.2) (.string t450)) (fun _ hk => hk.2) (.slice Ao118 t451.length co118)) (fun _ hk => hk.1.1.1.1.1), by (with_reducible repeat (first | apply va | apply vn | apply vd)); exact Kd.V_mono (Kd.V_far (p := ⟨gb415, 4, none⟩) (Kd.V_far (p := ⟨gb415, 3, none⟩) (Kd.V_far (p := ⟨gb415, 2, none⟩) (Kd.V_far (p := ⟨gb415, 1, none⟩) (Kd.V_far (p := ⟨gb415, 0, none⟩) (Kd.V_far (p := ⟨gb455, 4, none⟩) (Kd.V_far (p := ⟨gb455, 3, none⟩) (Kd.V_far (p := ⟨gb455, 2, none⟩) (Kd.V_far (p := ⟨gb455, 1, none⟩) (Kd.V_far (p := ⟨gb455, 0, none⟩) (Kd.V_mono (Kd.V_mono HO453.out (fun k_ hk => (⟨hk, hk.2⟩ : _ ∧ k_ ≠ gb455))) (fun k_ hk => (⟨hk, hk.1.1.2.2.2.2.2.2.1⟩ : _ ∧ k_ ≠ gb415))) (fun _ hk => hk.1.2) (.int .i64 t445)) (fun _ hk => hk.1.2) (.string t446)) (fun _ hk => hk.1.2) (.slice Ao117 t447.length co117)) (fun _ hk => hk.1.2) (.string t450)) (fun _ hk => hk.1.2) (.slice Ao118 t451.length co118)) (fun _ hk => hk.2) (.int .i64 t445)) (fun _ hk => hk.2) (.string t446)) (fun _ hk => hk.2) (.slice Ao117 t447.length co117)) (fun _ hk => hk.2) (.string t450)) (fun _ hk => hk.2) (.slice Ao118 t451.length co118)) (fun _ hk => ⟨hk.1.1.1.1, hk.1.1.1.2.1⟩), by repeat (first | (with_reducible first | exact HB.out | apply ea | apply en | apply ed | refine es ?_ GE413.out | refine es ?_ GE414.out | refine es ?_ GE415.out | refine es ?_ GE433.out | refine es ?_ GE439.out | refine es ?_ GE455.out) | exact HB.out)⟩
         ·rw [if_neg c98] at H
          have c98b0 : (t454 == 0) = false := beq_eq_false_iff_ne.mpr c98
          have c98b1 : (t454 != 0) = true := bne_iff_ne.mpr c98
          simp only [Option.some.injEq, Prod.mk.injEq] at H
          obtain ⟨rfl, rfl, rfl, rfl, rfl, rfl, rfl⟩ := H
          have hnb122 := NB413_414.out
          have hnc122 := NB414_413.out
          have hnb123 := NB413_415.out
          have hnc123 := NB415_413.out
          have hnb124 := NB413_433.out
          have hnc124 := NB433_413.out
          have hnb125 := NB413_439.out
          have hnc125 := NB439_413.out
          have hcz126_0 := zC BK413.out 0 (.string a0_0)
          have hcz126_1 := zC BK413.out 1 (.slice A0_1 l0_1.length c0_1)
          have hfz126_0 := bF BK413.out 0
          have hfz126_1 := bF BK413.out 1
          have hnb127 := NB439_414.out
          have hnc127 := NB414_439.out
          have hnb128 := NB439_415.out
          have hnc128 := NB415_439.out
          have hnb129 := NB439_433.out
          have hnc129 := NB433_439.out
          have hcz130_0 := zC BK439.out 0 (.string x440000_2)
          have hcz130_1 := zC BK439.out 1 (u440001)
          have hfz130_0 := bF BK439.out 0
          have hfz130_1 := bF BK439.out 1
          obtain ⟨Ao131, co131, eo131⟩ := Kd.R_slice HO_440001.out
          subst eo131
          go_wp2_with (first | ((with_reducible refine gate_callee (f := 35) rfl ?_); refine goesL_ (some 123) rfl rfl Try.func35 (by kernel_rfl) rfl #[.agg #[.string a0_0, .slice A0_1 l0_1.length c0_1], .int .i64 t422, .int .i64 t426, .agg #[.string x440000_2, .slice Ao131 x440001_2.length co131]] rfl (by (try simp only [mT, mC, mN]); first | done | rfl | (simp only [lD, lT]; rfl)) ?_; (with_reducible refine (bureauref07_Of.calls k2 a0_0 _ _ l0_1 t422 t426 x440000_2 (fun k_ => some k_ = (.slice Ao131 x440001_2.length co131 : Value).ownBlock) _ _ x440001_2 t445 t446 t447 t450 t451 t454 _ ?side1 ?side2 ?side3 A97.out).mono ?_); (case side1 => repeat (first | exact (cB_ HR0_1.out HB.out) | (with_reducible refine Kd.C_alloc ?_ _) | (with_reducible refine Kd.C_drewN ?_ _) | (with_reducible refine Kd.C_drew ?_))); (case side2 => exact HC0_1.out); (case side3 => exact Kd.R_V (Kd.R_tight rfl (rT (rT (rT (rT (rT (Kd.R_apart' (HO_440001.out) (Kd.R_typed HO_11.out) (by decide)) BK413.out (by decide)) BK414.out (by decide)) BK415.out (by decide)) BK433.out (by decide)) BK439.out (by decide)))); rintro e w132 ⟨v448, v452, rfl, ho0, ho1, hb⟩; refine ⟨_, rfl, ?_⟩; have n0_ := aM (Kd.R_below (ry HO_11.out) hb); have n1_ := aM (rE (ry HO_434001.out) (Kd.R_base ho0) hb); have n2_ := aM (rE (ry HO_440001.out) (Kd.R_base ho0) hb); have n3_ := aM (rL (Kd.R_new' (Kd.R_new' (Kd.R_newM (M := fun k_ => (w.heap.size ≤ k_)) (rM (ok' := fun k_ => True) ho0 (fun _ hk_ => trivial)) (bZ (by repeat (first | (with_reducible first | exact HB.out | apply ea | apply en | apply ed | refine es ?_ GE413.out | refine es ?_ GE414.out | refine es ?_ GE415.out | refine es ?_ GE433.out | refine es ?_ GE439.out) | exact HB.out))) (fun k_ h_ => h_)) (Kd.R_lt (ry HO_434001.out))) (Kd.R_lt (ry HO_440001.out))) (bZ (by repeat (first | (with_reducible first | exact HB.out | apply ea | apply en | apply ed | refine es ?_ GE413.out | refine es ?_ GE414.out | refine es ?_ GE415.out | refine es ?_ GE433.out | refine es ?_ GE439.out) | exact HB.out)))); have n4_ := aM (Kd.V_lower (Kd.V_mono (ok' := fun k_ => (w.heap.size ≤ k_) ∧ some k_ ≠ (v448 : Value).ownBlock ∧ some k_ ≠ (.slice Ao54 t419.length co54 : Value).ownBlock ∧ some k_ ≠ (.slice Ao67 t429.length co67 : Value).ownBlock ∧ k_ ≠ gb413 ∧ k_ ≠ gb414 ∧ k_ ≠ gb415 ∧ k_ ≠ gb433 ∧ k_ ≠ gb439) ho1 (fun k_ hk_ => ⟨Or.elim hk_.1 (fun hs_ => ((rT (rT (rT (rT (rT (Kd.R_apart' (HO_440001.out) (Kd.R_typed HO_11.out) (by decide)) BK413.out (by decide)) BK414.out (by decide)) BK415.out (by decide)) BK433.out (by decide)) BK439.out (by decide)).1 k_ hs_.symm).1.1.1.1.1.1.1) (fun hn_ => (Nat.le_trans (bZ (by repeat (first | (with_reducible first | exact HB.out | apply ea | apply en | apply ed | refine es ?_ GE413.out | refine es ?_ GE414.out | refine es ?_ GE415.out | refine es ?_ GE433.out | refine es ?_ GE439.out) | exact HB.out))) hn_)), hk_.2, Or.elim hk_.1 (fun hs_ => ((rT (rT (rT (rT (rT (Kd.R_apart' (HO_440001.out) (Kd.R_typed HO_11.out) (by decide)) BK413.out (by decide)) BK414.out (by decide)) BK415.out (by decide)) BK433.out (by decide)) BK439.out (by decide)).1 k_ hs_.symm).1.1.1.1.1.2) (fun hn_ => (Kd.fresh' (Kd.R_lt (ry HO_11.out)) k_ hn_)), Or.elim hk_.1 (fun hs_ => ((rT (rT (rT (rT (rT (Kd.R_apart' (HO_440001.out) (Kd.R_typed HO_11.out) (by decide)) BK413.out (by decide)) BK414.out (by decide)) BK415.out (by decide)) BK433.out (by decide)) BK439.out (by decide)).1 k_ hs_.symm).1.1.1.1.1.1.2) (fun hn_ => (Kd.fresh' (Kd.R_lt (ry HO_434001.out)) k_ hn_)), Or.elim hk_.1 (fun hs_ => ((rT (rT (rT (rT (rT (Kd.R_apart' (HO_440001.out) (Kd.R_typed HO_11.out) (by decide)) BK413.out (by decide)) BK414.out (by decide)) BK415.out (by decide)) BK433.out (by decide)) BK439.out (by decide)).1 k_ hs_.symm).1.1.1.1.2) (fun hn_ => (Kd.freshB (g := gb413) (qy BK413.out) k_ hn_)), Or.elim hk_.1 (fun hs_ => ((rT (rT (rT (rT (rT (Kd.R_apart' (HO_440001.out) (Kd.R_typed HO_11.out) (by decide)) BK413.out (by decide)) BK414.out (by decide)) BK415.out (by decide)) BK433.out (by decide)) BK439.out (by decide)).1 k_ hs_.symm).1.1.1.2) (fun hn_ => (Kd.freshB (g := gb414) (qy BK414.out) k_ hn_)), Or.elim hk_.1 (fun hs_ => ((rT (rT (rT (rT (rT (Kd.R_apart' (HO_440001.out) (Kd.R_typed HO_11.out) (by decide)) BK413.out (by decide)) BK414.out (by decide)) BK415.out (by decide)) BK433.out (by decide)) BK439.out (by decide)).1 k_ hs_.symm).1.1.2) (fun hn_ => (Kd.freshB (g := gb415) (qy BK415.out) k_ hn_)), Or.elim hk_.1 (fun hs_ => ((rT (rT (rT (rT (rT (Kd.R_apart' (HO_440001.out) (Kd.R_typed HO_11.out) (by decide)) BK413.out (by decide)) BK414.out (by decide)) BK415.out (by decide)) BK433.out (by decide)) BK439.out (by decide)).1 k_ hs_.symm).1.2) (fun hn_ => (Kd.freshB (g := gb433) (qy BK433.out) k_ hn_)), Or.elim hk_.1 (fun hs_ => ((rT (rT (rT (rT (rT (Kd.R_apart' (HO_440001.out) (Kd.R_typed HO_11.out) (by decide)) BK413.out (by decide)) BK414.out (by decide)) BK415.out (by decide)) BK433.out (by decide)) BK439.out (by decide)).1 k_ hs_.symm).2) (fun hn_ => (Kd.freshB (g := gb439) (qy BK439.out) k_ hn_))⟩)) (bZ (by repeat (first | (with_reducible first | exact HB.out | apply ea | apply en | apply ed | refine es ?_ GE413.out | refine es ?_ GE414.out | refine es ?_ GE415.out | refine es ?_ GE433.out | refine es ?_ GE439.out) | exact HB.out)))); have n5_ := aM (bB (g := gb413) (qy BK413.out) hb); have n6_ := aM (bB (g := gb414) (qy BK414.out) hb); have n7_ := aM (bB (g := gb415) (qy BK415.out) hb); have n8_ := aM (bB (g := gb433) (qy BK433.out) hb); have n9_ := aM (bB (g := gb439) (qy BK439.out) hb); have n10_ := aM (bP (by repeat (first | (with_reducible first | exact HB.out | apply ea | apply en | apply ed | refine es ?_ GE413.out | refine es ?_ GE414.out | refine es ?_ GE415.out | refine es ?_ GE433.out | refine es ?_ GE439.out) | exact HB.out)) hb); clear HO_11 HO_434001 HO_440001 BK413 BK414 BK415 BK433 BK439 HB; have HO_11 := n0_; have HO_434001 := n1_; have HO_440001 := n2_; have HO449 := n3_; have HO453 := n4_; have BK413 := n5_; have BK414 := n6_; have BK415 := n7_; have BK433 := n8_; have BK439 := n9_; have HB := n10_; clear n0_ n1_ n2_ n3_ n4_ n5_ n6_ n7_ n8_ n9_ n10_; (try clear hb); (try clear hb2); (try clear hk); (try clear hi); (try clear ho0); (try clear ho1)) | ((with_reducible refine gate_dst (N := 24) rfl ?_); refine box_event ?hg (N := 24) ?hd (cs := #[.int .i64 0, .string (⟨#[]⟩ : ByteArray), .slice none 0 0, .string (⟨#[]⟩ : ByteArray), .slice none 0 0]) (t := 32) ?hr ?_; (case hd | hg => rfl); (case hr => first | (go_simp; done) | (go_simp; rfl)); intro gb455 hg w133 hbox hb; have n0_ := aM (Kd.R_below (ry HO_11.out) hb); have n1_ := aM (Kd.R_below (ry HO_434001.out) hb); have n2_ := aM (Kd.R_below (ry HO_440001.out) hb); have n3_ := aM (Kd.R_below (ry HO449.out) hb); have n4_ := aM (Kd.V_below (Kd.V_elderB (by (with_reducible repeat (first | apply va | apply vn | apply vd)); exact HO453.out) gb455 (Nat.le_of_eq hg.symm)) hb); have n5_ := aM (bB (g := gb413) (qy BK413.out) hb); have n6_ := aM (bB (g := gb414) (qy BK414.out) hb); have n7_ := aM (bB (g := gb415) (qy BK415.out) hb); have n8_ := aM (bB (g := gb433) (qy BK433.out) hb); have n9_ := aM (bB (g := gb439) (qy BK439.out) hb); have n10_ := aM (bP (by repeat (first | (with_reducible first | exact HB.out | apply ea | apply en | apply ed | refine es ?_ GE413.out | refine es ?_ GE414.out | refine es ?_ GE415.out | refine es ?_ GE433.out | refine es ?_ GE439.out) | exact HB.out)) hb); have n11_ := aM (hbox); have n12_ := aM ((by rw [hg]; exact (bZ (by repeat (first | (with_reducible first | exact HB.out | apply ea | apply en | apply ed | refine es ?_ GE413.out | refine es ?_ GE414.out | refine es ?_ GE415.out | refine es ?_ GE433.out | refine es ?_ GE439.out) | exact HB.out))) : w.heap.size ≤ gb455)); have n13_ := n12_; have n14_ := aM ((by rw [hg]; exact Nat.ne_of_lt (blk_lt (g := gb413) (qy BK413.out)) : gb413 ≠ gb455)); have n15_ := aM ((by rw [hg]; exact Nat.ne_of_gt (blk_lt (g := gb413) (qy BK413.out)) : gb455 ≠ gb413)); have n16_ := aM ((by rw [hg]; exact Nat.ne_of_lt (blk_lt (g := gb414) (qy BK414.out)) : gb414 ≠ gb455)); have n17_ := aM ((by rw [hg]; exact Nat.ne_of_gt (blk_lt (g := gb414) (qy BK414.out)) : gb455 ≠ gb414)); have n18_ := aM ((by rw [hg]; exact Nat.ne_of_lt (blk_lt (g := gb415) (qy BK415.out)) : gb415 ≠ gb455)); have n19_ := aM ((by rw [hg]; exact Nat.ne_of_gt (blk_lt (g := gb415) (qy BK415.out)) : gb455 ≠ gb415)); have n20_ := aM ((by rw [hg]; exact Nat.ne_of_lt (blk_lt (g := gb433) (qy BK433.out)) : gb433 ≠ gb455)); have n21_ := aM ((by rw [hg]; exact Nat.ne_of_gt (blk_lt (g := gb433) (qy BK433.out)) : gb455 ≠ gb433)); have n22_ := aM ((by rw [hg]; exact Nat.ne_of_lt (blk_lt (g := gb439) (qy BK439.out)) : gb439 ≠ gb455)); have n23_ := aM ((by rw [hg]; exact Nat.ne_of_gt (blk_lt (g := gb439) (qy BK439.out)) : gb455 ≠ gb439)); clear HO_11 HO_434001 HO_440001 HO449 HO453 BK413 BK414 BK415 BK433 BK439 HB; have HO_11 := n0_; have HO_434001 := n1_; have HO_440001 := n2_; have HO449 := n3_; have HO453 := n4_; have BK413 := n5_; have BK414 := n6_; have BK415 := n7_; have BK433 := n8_; have BK439 := n9_; have HB := n10_; have BK455 := n11_; have GW455 := n12_; have GE455 := n13_; have NB413_455 := n14_; have NB455_413 := n15_; have NB414_455 := n16_; have NB455_414 := n17_; have NB415_455 := n18_; have NB455_415 := n19_; have NB433_455 := n20_; have NB455_433 := n21_; have NB439_455 := n22_; have NB455_439 := n23_; clear n0_ n1_ n2_ n3_ n4_ n5_ n6_ n7_ n8_ n9_ n10_ n11_ n12_ n13_ n14_ n15_ n16_ n17_ n18_ n19_ n20_ n21_ n22_ n23_; clear hb hbox hg; have hnb134 := NB455_413.out; have hnc134 := NB413_455.out; have hnb135 := NB455_414.out; have hnc135 := NB414_455.out; have hnb136 := NB455_415.out; have hnc136 := NB415_455.out; have hnb137 := NB455_433.out; have hnc137 := NB433_455.out; have hnb138 := NB455_439.out; have hnc138 := NB439_455.out; have hcz139_0 := zC BK455.out 0 (.int .i64 0); have hcz139_1 := zC BK455.out 1 (.string (⟨#[]⟩ : ByteArray)); have hcz139_2 := zC BK455.out 2 (.slice none 0 0); have hcz139_3 := zC BK455.out 3 (.string (⟨#[]⟩ : ByteArray)); have hcz139_4 := zC BK455.out 4 (.slice none 0 0); have hfz139_0 := bF BK455.out 0; have hfz139_1 := bF BK455.out 1; have hfz139_2 := bF BK455.out 2; have hfz139_3 := bF BK455.out 3; have hfz139_4 := bF BK455.out 4; obtain ⟨Ao140, co140, eo140⟩ := Kd.R_slice HO449.out; subst eo140; obtain ⟨Ao141, co141, eo141⟩ := Kd.V_slice HO453.out; subst eo141; have hnb142 := NB415_414.out; have hnc142 := NB414_415.out; have hnb143 := NB415_433.out; have hnc143 := NB433_415.out; have hcz144_0 := zC BK415.out 0 (.int .i64 0); have hcz144_1 := zC BK415.out 1 (.string (⟨#[]⟩ : ByteArray)); have hcz144_2 := zC BK415.out 2 (.slice none 0 0); have hcz144_3 := zC BK415.out 3 (.string (⟨#[]⟩ : ByteArray)); have hcz144_4 := zC BK415.out 4 (.slice none 0 0); have hfz144_0 := bF BK415.out 0; have hfz144_1 := bF BK415.out 1; have hfz144_2 := bF BK415.out 2; have hfz144_3 := bF BK415.out 3; have hfz144_4 := bF BK415.out 4))
          refine bodyPost_ret (results_ctt rfl _ _ gb415 32 #[.int .i64 0, .string (⟨#[]⟩ : ByteArray), .slice none 0 0, .string (⟨#[]⟩ : ByteArray), .slice none 0 0] (0, 0) _ rfl (by (with_reducible repeat (first | apply qn | apply qd | apply qa)); refine bU (cs := #[.int .i64 0, .string (⟨#[]⟩ : ByteArray), .slice none 0 0, .string (⟨#[]⟩ : ByteArray), .slice none 0 0]) ?_ 4 _ rfl; (with_reducible repeat (first | apply qn | apply qd | apply qa)); refine bU (cs := #[.int .i64 0, .string (⟨#[]⟩ : ByteArray), .slice none 0 0, .string (⟨#[]⟩ : ByteArray), .slice none 0 0]) ?_ 3 _ rfl; (with_reducible repeat (first | apply qn | apply qd | apply qa)); refine bU (cs := #[.int .i64 0, .string (⟨#[]⟩ : ByteArray), .slice none 0 0, .string (⟨#[]⟩ : ByteArray), .slice none 0 0]) ?_ 2 _ rfl; (with_reducible repeat (first | apply qn | apply qd | apply qa)); refine bU (cs := #[.int .i64 0, .string (⟨#[]⟩ : ByteArray), .slice none 0 0, .string (⟨#[]⟩ : ByteArray), .slice none 0 0]) ?_ 1 _ rfl; (with_reducible repeat (first | apply qn | apply qd | apply qa)); refine bU (cs := #[.int .i64 0, .string (⟨#[]⟩ : ByteArray), .slice none 0 0, .string (⟨#[]⟩ : ByteArray), .slice none 0 0]) ?_ 0 _ rfl; (with_reducible repeat (first | apply qn | apply qd | apply qa)); refine bR ?_ NB415_455.out _; (with_reducible repeat (first | apply qn | apply qd | apply qa)); refine bR ?_ NB415_455.out _; (with_reducible repeat (first | apply qn | apply qd | apply qa)); refine bR ?_ NB415_455.out _; (with_reducible repeat (first | apply qn | apply qd | apply qa)); refine bR ?_ NB415_455.out _; (with_reducible repeat (first | apply qn | apply qd | apply qa)); refine bR ?_ NB415_455.out _; exact qy BK415.out) Try.underlying32 rfl (by kernel_rfl)) rfl ?_
          exact ⟨_, _, by first | rfl | (simp [errW_none, errW_some] <;> rfl) | (simp [*, errW_none, errW_some] <;> rfl), by first | exact Kd.R_nil _ _ _ _ _ | exact Kd.N_nil _ _ _ _ _ | exact Kd.V_nil _ _ _ _ _ | exact Kd.Q_nil _ _ _ _ _ | exact Kd.S_nil _ _ _ _ _, (by first | exact Kd.V_nil _ _ _ _ _ | exact Kd.R_V (Kd.R_nil _ _ _ _ _)), by repeat (first | (with_reducible first | exact HB.out | apply ea | apply en | apply ed | refine es ?_ GE413.out | refine es ?_ GE414.out | refine es ?_ GE415.out | refine es ?_ GE433.out | refine es ?_ GE439.out | refine es ?_ GE455.out) | exact HB.out)⟩
end Go.Proofs.Ytnbdldpjiofafaa.PB
end

section
namespace Go.Proofs.Ytnbdldpjiofafaa.PB
open Go.RowKit Go.Proofs.YtnbdldpjiofafaaW.PrintWords Go.Proofs.YtnbdldpjiofafaaW.PrintLast Go.Proofs.YtnbdldpjiofafaaW.PrintMore
attribute [local go_sem] max2_int min2_int max_two min_two max_three min_three max_four min_four   
set_option linter.unusedVariables false
set_option linter.unusedSimpArgs false
def bureaulaw15_SubstDoes.f (k : Nat) (a0_0 : ByteArray) (l0_1 : List (S51)) (a1 : Int) (a2_0 : Int) (a2_1 : Int) (a2_2 : ByteArray) (a2_3 : ByteArray) (a2_4 : Bool) : Option (Bool) := (bureaulaw15_alive.f k).bind fun t467 => (if t467 = true then ((bureaulaw15_fits.f a0_0 l0_1 a2_0 a2_1 a2_2 a2_3 a2_4).bind fun t468 => (if t468 = true then ((subst_Do.f k a0_0 l0_1 a1 a2_0 a2_1 a2_2 a2_3 a2_4).bind fun bt469 => ((bureaulaw15_ours.f a2_0 a2_1 a2_2 a2_3 a2_4).bind fun bt481 => ((bureauref15_Do.f k a0_0 l0_1 a1 bt481.1 bt481.2.1 bt481.2.2.1 bt481.2.2.2.1 bt481.2.2.2.2).bind fun bt486 => ((bureauref07_Same.f k bt469.1 bt469.2.1 bt469.2.2.1 bt469.2.2.2.1 bt469.2.2.2.2.1 bt486.1 bt486.2.1 bt486.2.2.1 bt486.2.2.2.1 bt486.2.2.2.2.1).bind fun t498 => (if t498 = true then (if bt469.2.2.2.2.2.1 = bt486.2.2.2.2.2.1 then (some (bt469.2.2.2.2.2.2 == bt486.2.2.2.2.2.2)) else (some false)) else (some false)))))) else (some true))) else (some false))
def bureaulaw15_SubstDoes.T6 : Bool × List (List Nat × List Nat) := (true, [([], []), ([], []), ([], []), ([2], [2]), ([0, 1, 3, 3], [0, 1, 3]), ([4], [4]), ([5], [5]), ([5], [5]), ([5], [5]), ([], []), ([9, 6, 4, 0, 1, 2, 3, 4, 5, 6, 9], [6, 9]), ([7, 10, 0, 1, 2, 3, 4, 5, 6, 7, 9, 10], [7]), ([8, 11, 0, 1, 2, 3, 4, 5, 6, 7, 8, 9, 10, 11], [8])])
def bureaulaw15_SubstDoes.B6 : List Nat := [0, 0, 0, 4, 15, 31, 63, 63, 63, 0, 639, 1791, 4095]
theorem bureaulaw15_SubstDoes.tab6 : rtab .any (opsOf Try.f3 6) = bureaulaw15_SubstDoes.T6 := by kernel_rfl
theorem bureaulaw15_SubstDoes.bits6 : waitsOk bureaulaw15_SubstDoes.T6.2 bureaulaw15_SubstDoes.B6 = true := by kernel_rfl
set_option maxHeartbeats 8000000 in
set_option maxRecDepth 100000 in
theorem bureaulaw15_SubstDoes.calls (k : Nat) (a0_0 : ByteArray) (A0_1 : Option Addr) (c0_1 : Nat) (l0_1 : List (S51)) (a1 : Int) (a2_0 : Int) (a2_1 : Int) (a2_2 : ByteArray) (a2_3 : ByteArray) (a2_4 : Bool) (r : Bool) (w : World) (hMX : MaxOk w) (hr0_1 : Kd.C k51 w A0_1 l0_1.length l0_1) (hc0_1 : l0_1.length ≤ c0_1) (h : bureaulaw15_SubstDoes.f k a0_0 l0_1 a1 a2_0 a2_1 a2_2 a2_3 a2_4 = some r) (hrt : r = true := by rfl) :
  Calls Try.prog 3 #[.agg #[.string a0_0, .slice A0_1 l0_1.length c0_1], .int .u64 a1, .agg #[.int .i64 a2_0, .int .i64 a2_1, .string a2_2, .string a2_3, .bool a2_4]] w fun e w' => e = .returned (.bool r) ∧ Below w.heap.size w w' := by
 have HMX := aM hMX
 clear hMX
 have hu24 := Try.underlying24
 have hu28 := Try.underlying28
 have hu32 := Try.underlying32
 have HR0_1 := aM hr0_1
 have HC0_1 := aM hc0_1
 clear hr0_1 hc0_1
 have HB := aM (Below.refl w.heap.size w)
 have H : ((bureaulaw15_alive.f k).bind fun t467 => (if t467 = true then ((bureaulaw15_fits.f a0_0 l0_1 a2_0 a2_1 a2_2 a2_3 a2_4).bind fun t468 => (if t468 = true then ((subst_Do.f k a0_0 l0_1 a1 a2_0 a2_1 a2_2 a2_3 a2_4).bind fun bt469 => ((bureaulaw15_ours.f a2_0 a2_1 a2_2 a2_3 a2_4).bind fun bt481 => ((bureauref15_Do.f k a0_0 l0_1 a1 bt481.1 bt481.2.1 bt481.2.2.1 bt481.2.2.2.1 bt481.2.2.2.2).bind fun bt486 => ((bureauref07_Same.f k bt469.1 bt469.2.1 bt469.2.2.1 bt469.2.2.2.1 bt469.2.2.2.2.1 bt486.1 bt486.2.1 bt486.2.2.1 bt486.2.2.2.1 bt486.2.2.2.2.1).bind fun t498 => (if t498 = true then (if bt469.2.2.2.2.2.1 = bt486.2.2.2.2.2.1 then (some (bt469.2.2.2.2.2.2 == bt486.2.2.2.2.2.2)) else (some false)) else (some false)))))) else (some true))) else (some false))) = some r := h
 clear h
 replace H := Option.bind_eq_some_iff.mp H
 obtain ⟨t467, A40, H⟩ := H
 replace H : (if t467 = true then ((bureaulaw15_fits.f a0_0 l0_1 a2_0 a2_1 a2_2 a2_3 a2_4).bind fun t468 => (if t468 = true then ((subst_Do.f k a0_0 l0_1 a1 a2_0 a2_1 a2_2 a2_3 a2_4).bind fun bt469 => ((bureaulaw15_ours.f a2_0 a2_1 a2_2 a2_3 a2_4).bind fun bt481 => ((bureauref15_Do.f k a0_0 l0_1 a1 bt481.1 bt481.2.1 bt481.2.2.1 bt481.2.2.2.1 bt481.2.2.2.2).bind fun bt486 => ((bureauref07_Same.f k bt469.1 bt469.2.1 bt469.2.2.1 bt469.2.2.2.1 bt469.2.2.2.2.1 bt486.1 bt486.2.1 bt486.2.2.1 bt486.2.2.2.1 bt486.2.2.2.2.1).bind fun t498 => (if t498 = true then (if bt469.2.2.2.2.2.1 = bt486.2.2.2.2.2.1 then (some (bt469.2.2.2.2.2.2 == bt486.2.2.2.2.2.2)) else (some false)) else (some false)))))) else (some true))) else (some false)) = some r := H
 have A4 := aM A40
 clear A40
 by_cases c5 : t467 = true
 ·subst c5
  have H1 : ((bureaulaw15_fits.f a0_0 l0_1 a2_0 a2_1 a2_2 a2_3 a2_4).bind fun t468 => (if t468 = true then ((subst_Do.f k a0_0 l0_1 a1 a2_0 a2_1 a2_2 a2_3 a2_4).bind fun bt469 => ((bureaulaw15_ours.f a2_0 a2_1 a2_2 a2_3 a2_4).bind fun bt481 => ((bureauref15_Do.f k a0_0 l0_1 a1 bt481.1 bt481.2.1 bt481.2.2.1 bt481.2.2.2.1 bt481.2.2.2.2).bind fun bt486 => ((bureauref07_Same.f k bt469.1 bt469.2.1 bt469.2.2.1 bt469.2.2.2.1 bt469.2.2.2.2.1 bt486.1 bt486.2.1 bt486.2.2.1 bt486.2.2.2.1 bt486.2.2.2.2.1).bind fun t498 => (if t498 = true then (if bt469.2.2.2.2.2.1 = bt486.2.2.2.2.2.1 then (some (bt469.2.2.2.2.2.2 == bt486.2.2.2.2.2.2)) else (some false)) else (some false)))))) else (some true))) = some r := by rw [if_pos rfl] at H; exact H
  clear H
  have H := H1
  clear H1
  replace H := Option.bind_eq_some_iff.mp H
  obtain ⟨t468, A60, H⟩ := H
  replace H : (if t468 = true then ((subst_Do.f k a0_0 l0_1 a1 a2_0 a2_1 a2_2 a2_3 a2_4).bind fun bt469 => ((bureaulaw15_ours.f a2_0 a2_1 a2_2 a2_3 a2_4).bind fun bt481 => ((bureauref15_Do.f k a0_0 l0_1 a1 bt481.1 bt481.2.1 bt481.2.2.1 bt481.2.2.2.1 bt481.2.2.2.2).bind fun bt486 => ((bureauref07_Same.f k bt469.1 bt469.2.1 bt469.2.2.1 bt469.2.2.2.1 bt469.2.2.2.2.1 bt486.1 bt486.2.1 bt486.2.2.1 bt486.2.2.2.1 bt486.2.2.2.2.1).bind fun t498 => (if t498 = true then (if bt469.2.2.2.2.2.1 = bt486.2.2.2.2.2.1 then (some (bt469.2.2.2.2.2.2 == bt486.2.2.2.2.2.2)) else (some false)) else (some false)))))) else (some true)) = some r := H
  have A6 := aM A60
  clear A60
  by_cases c7 : t468 = true
  ·subst c7
   have H1 : ((subst_Do.f k a0_0 l0_1 a1 a2_0 a2_1 a2_2 a2_3 a2_4).bind fun bt469 => ((bureaulaw15_ours.f a2_0 a2_1 a2_2 a2_3 a2_4).bind fun bt481 => ((bureauref15_Do.f k a0_0 l0_1 a1 bt481.1 bt481.2.1 bt481.2.2.1 bt481.2.2.2.1 bt481.2.2.2.2).bind fun bt486 => ((bureauref07_Same.f k bt469.1 bt469.2.1 bt469.2.2.1 bt469.2.2.2.1 bt469.2.2.2.2.1 bt486.1 bt486.2.1 bt486.2.2.1 bt486.2.2.2.1 bt486.2.2.2.2.1).bind fun t498 => (if t498 = true then (if bt469.2.2.2.2.2.1 = bt486.2.2.2.2.2.1 then (some (bt469.2.2.2.2.2.2 == bt486.2.2.2.2.2.2)) else (some false)) else (some false)))))) = some r := by rw [if_pos rfl] at H; exact H
   clear H
   have H := H1
   clear H1
   replace H := Option.bind_eq_some_iff.mp H
   obtain ⟨⟨t469, t470, t471, t474, t475, t478, t479⟩, A80, H⟩ := H
   replace H : ((bureaulaw15_ours.f a2_0 a2_1 a2_2 a2_3 a2_4).bind fun bt481 => ((bureauref15_Do.f k a0_0 l0_1 a1 bt481.1 bt481.2.1 bt481.2.2.1 bt481.2.2.2.1 bt481.2.2.2.2).bind fun bt486 => ((bureauref07_Same.f k t469 t470 t471 t474 t475 bt486.1 bt486.2.1 bt486.2.2.1 bt486.2.2.2.1 bt486.2.2.2.2.1).bind fun t498 => (if t498 = true then (if t478 = bt486.2.2.2.2.2.1 then (some (t479 == bt486.2.2.2.2.2.2)) else (some false)) else (some false))))) = some r := H
   have A8 := aM A80
   clear A80
   replace H := Option.bind_eq_some_iff.mp H
   obtain ⟨⟨t481, t482, t483, t484, t485⟩, A90, H⟩ := H
   replace H : ((bureauref15_Do.f k a0_0 l0_1 a1 t481 t482 t483 t484 t485).bind fun bt486 => ((bureauref07_Same.f k t469 t470 t471 t474 t475 bt486.1 bt486.2.1 bt486.2.2.1 bt486.2.2.2.1 bt486.2.2.2.2.1).bind fun t498 => (if t498 = true then (if t478 = bt486.2.2.2.2.2.1 then (some (t479 == bt486.2.2.2.2.2.2)) else (some false)) else (some false)))) = some r := H
   have A9 := aM A90
   clear A90
   replace H := Option.bind_eq_some_iff.mp H
   obtain ⟨⟨t486, t487, t488, t491, t492, t495, t496⟩, A100, H⟩ := H
   replace H : ((bureauref07_Same.f k t469 t470 t471 t474 t475 t486 t487 t488 t491 t492).bind fun t498 => (if t498 = true then (if t478 = t495 then (some (t479 == t496)) else (some false)) else (some false))) = some r := H
   have A10 := aM A100
   clear A100
   replace H := Option.bind_eq_some_iff.mp H
   obtain ⟨t498, A110, H⟩ := H
   replace H : (if t498 = true then (if t478 = t495 then (some (t479 == t496)) else (some false)) else (some false)) = some r := H
   have A11 := aM A110
   clear A110
   by_cases c12 : t498 = true
   ·subst c12
    have H1 : (if t478 = t495 then (some (t479 == t496)) else (some false)) = some r := by rw [if_pos rfl] at H; exact H
    clear H
    have H := H1
    clear H1
    by_cases c13 : t478 = t495
    ·rw [if_pos c13] at H
     have c13b0 : (t478 == t495) = true := beq_iff_eq.mpr c13
     have c13b1 : (t478 != t495) = false := bne_eq_false_iff_eq.mpr c13
     clear c13
     obtain rfl := Option.some.inj H
     go_enter Try.func3, Try.ntmps3
     try go_wp2_with (first | ((with_reducible refine gate_dst (N := 3) rfl ?_); refine box_event ?hg (N := 3) ?hd (cs := #[.string a0_0, .slice A0_1 l0_1.length c0_1]) (t := 24) ?hr ?_; (case hd | hg => rfl); (case hr => first | (go_simp; done) | (go_simp; rfl)); intro gb465 hg w14 hbox hb; have n0_ := aM (bP (ey HB.out) hb); have n1_ := aM (hbox); have n2_ := aM ((by rw [hg]; exact (bZ (ey HB.out)) : w.heap.size ≤ gb465)); have n3_ := n2_; clear HB; have HB := n0_; have BK465 := n1_; have GW465 := n2_; have GE465 := n3_; clear n0_ n1_ n2_ n3_; clear hb hbox hg) | ((with_reducible refine gate_dst (N := 5) rfl ?_); refine box_event ?hg (N := 5) ?hd (cs := #[.int .i64 a2_0, .int .i64 a2_1, .string a2_2, .string a2_3, .bool a2_4]) (t := 28) ?hr ?_; (case hd | hg => rfl); (case hr => first | (go_simp; done) | (go_simp; rfl)); intro gb466 hg w15 hbox hb; have n0_ := aM (bB (g := gb465) (qy BK465.out) hb); have n1_ := aM (bP (by repeat (first | (with_reducible first | exact HB.out | apply ea | apply en | apply ed | refine es ?_ GE465.out) | exact HB.out)) hb); have n2_ := aM (hbox); have n3_ := aM ((by rw [hg]; exact (bZ (by repeat (first | (with_reducible first | exact HB.out | apply ea | apply en | apply ed | refine es ?_ GE465.out) | exact HB.out))) : w.heap.size ≤ gb466)); have n4_ := n3_; have n5_ := aM ((by rw [hg]; exact Nat.ne_of_lt (blk_lt (g := gb465) (qy BK465.out)) : gb465 ≠ gb466)); have n6_ := aM ((by rw [hg]; exact Nat.ne_of_gt (blk_lt (g := gb465) (qy BK465.out)) : gb466 ≠ gb465)); clear BK465 HB; have BK465 := n0_; have HB := n1_; have BK466 := n2_; have GW466 := n3_; have GE466 := n4_; have NB465_466 := n5_; have NB466_465 := n6_; clear n0_ n1_ n2_ n3_ n4_ n5_ n6_; clear hb hbox hg) | ((with_reducible refine gate_callee (f := 8) rfl ?_); refine goesL_ (some 13) rfl rfl Try.func8 (by kernel_rfl) rfl #[] rfl (by (try simp only [mT, mC, mN]); first | done | rfl | (simp only [lD, lT]; rfl)) ?_; (with_reducible refine (bureaulaw15_alive.calls k  true _ ?mx14 A4.out).mono ?_); (case mx14 => exact MaxOk.below HMX.out (by repeat (first | (with_reducible first | exact HB.out | apply ea | apply en | apply ed | refine es ?_ GE465.out | refine es ?_ GE466.out) | exact HB.out))); rintro e w16 ⟨rfl, hb⟩; refine ⟨_, rfl, ?_⟩; have n0_ := aM (bB (g := gb465) (qy BK465.out) hb); have n1_ := aM (bB (g := gb466) (qy BK466.out) hb); have n2_ := aM (bP (by repeat (first | (with_reducible first | exact HB.out | apply ea | apply en | apply ed | refine es ?_ GE465.out | refine es ?_ GE466.out) | exact HB.out)) hb); clear BK465 BK466 HB; have BK465 := n0_; have BK466 := n1_; have HB := n2_; clear n0_ n1_ n2_; (try clear hb); (try clear hb2); (try clear hk); (try clear hi); have hnb17 := NB465_466.out; have hnc17 := NB466_465.out; have hcz18_0 := zC BK465.out 0 (.string a0_0); have hcz18_1 := zC BK465.out 1 (.slice A0_1 l0_1.length c0_1); have hfz18_0 := bF BK465.out 0; have hfz18_1 := bF BK465.out 1; have hcz19_0 := zC BK466.out 0 (.int .i64 a2_0); have hcz19_1 := zC BK466.out 1 (.int .i64 a2_1); have hcz19_2 := zC BK466.out 2 (.string a2_2); have hcz19_3 := zC BK466.out 3 (.string a2_3); have hcz19_4 := zC BK466.out 4 (.bool a2_4); have hfz19_0 := bF BK466.out 0; have hfz19_1 := bF BK466.out 1; have hfz19_2 := bF BK466.out 2; have hfz19_3 := bF BK466.out 3; have hfz19_4 := bF BK466.out 4) | ((with_reducible refine gate_callee (f := 9) rfl ?_); refine goesL_ (some 17) rfl rfl Try.func9 (by kernel_rfl) rfl #[.agg #[.string a0_0, .slice A0_1 l0_1.length c0_1], .agg #[.int .i64 a2_0, .int .i64 a2_1, .string a2_2, .string a2_3, .bool a2_4]] rfl (by (try simp only [mT, mC, mN]); first | done | rfl | (simp only [lD, lT]; rfl)) ?_; (with_reducible refine (bureaulaw15_fits.calls a0_0 _ _ l0_1 a2_0 a2_1 a2_2 a2_3 a2_4 true _ ?side1 ?side2 A6.out).mono ?_); (case side1 => repeat (first | exact (cB_ HR0_1.out HB.out) | (with_reducible refine Kd.C_alloc ?_ _) | (with_reducible refine Kd.C_drewN ?_ _) | (with_reducible refine Kd.C_drew ?_))); (case side2 => exact HC0_1.out); rintro e w20 ⟨rfl, hb⟩; refine ⟨_, rfl, ?_⟩; have n0_ := aM (bB (g := gb465) (qy BK465.out) hb); have n1_ := aM (bB (g := gb466) (qy BK466.out) hb); have n2_ := aM (bP (by repeat (first | (with_reducible first | exact HB.out | apply ea | apply en | apply ed | refine es ?_ GE465.out | refine es ?_ GE466.out) | exact HB.out)) hb); clear BK465 BK466 HB; have BK465 := n0_; have BK466 := n1_; have HB := n2_; clear n0_ n1_ n2_; (try clear hb); (try clear hb2); (try clear hk); (try clear hi); have hcz21_0 := zC BK465.out 0 (.string a0_0); have hcz21_1 := zC BK465.out 1 (.slice A0_1 l0_1.length c0_1); have hfz21_0 := bF BK465.out 0; have hfz21_1 := bF BK465.out 1; have hcz22_0 := zC BK466.out 0 (.int .i64 a2_0); have hcz22_1 := zC BK466.out 1 (.int .i64 a2_1); have hcz22_2 := zC BK466.out 2 (.string a2_2); have hcz22_3 := zC BK466.out 3 (.string a2_3); have hcz22_4 := zC BK466.out 4 (.bool a2_4); have hfz22_0 := bF BK466.out 0; have hfz22_1 := bF BK466.out 1; have hfz22_2 := bF BK466.out 2; have hfz22_3 := bF BK466.out 3; have hfz22_4 := bF BK466.out 4) | ((with_reducible refine gate_callee (f := 10) rfl ?_); refine goesL_ (some 23) rfl rfl Try.func10 (by kernel_rfl) rfl #[.agg #[.string a0_0, .slice A0_1 l0_1.length c0_1], .int .u64 a1, .agg #[.int .i64 a2_0, .int .i64 a2_1, .string a2_2, .string a2_3, .bool a2_4]] rfl (by (try simp only [mT, mC, mN]); first | done | rfl | (simp only [lD, lT]; rfl)) ?_; (with_reducible refine (subst_Do.calls k a0_0 _ _ l0_1 a1 a2_0 a2_1 a2_2 a2_3 a2_4 t469 t470 t471 t474 t475 t478 t479 _ ?mx15 ?side1 ?side2 A8.out).mono ?_); (case mx15 => exact MaxOk.below HMX.out (by repeat (first | (with_reducible first | exact HB.out | apply ea | apply en | apply ed | refine es ?_ GE465.out | refine es ?_ GE466.out) | exact HB.out))); (case side1 => repeat (first | exact (cB_ HR0_1.out HB.out) | (with_reducible refine Kd.C_alloc ?_ _) | (with_reducible refine Kd.C_drewN ?_ _) | (with_reducible refine Kd.C_drew ?_))); (case side2 => exact HC0_1.out); rintro e w23 ⟨v472, v476, rfl, ho0, ho1, hb⟩; refine ⟨_, rfl, ?_⟩; have n0_ := aM (rL ho0 (bZ (by repeat (first | (with_reducible first | exact HB.out | apply ea | apply en | apply ed | refine es ?_ GE465.out | refine es ?_ GE466.out) | exact HB.out)))); have n1_ := aM (rL ho1 (bZ (by repeat (first | (with_reducible first | exact HB.out | apply ea | apply en | apply ed | refine es ?_ GE465.out | refine es ?_ GE466.out) | exact HB.out)))); have n2_ := aM (bB (g := gb465) (qy BK465.out) hb); have n3_ := aM (bB (g := gb466) (qy BK466.out) hb); have n4_ := aM (bP (by repeat (first | (with_reducible first | exact HB.out | apply ea | apply en | apply ed | refine es ?_ GE465.out | refine es ?_ GE466.out) | exact HB.out)) hb); clear BK465 BK466 HB; have HO473 := n0_; have HO477 := n1_; have BK465 := n2_; have BK466 := n3_; have HB := n4_; clear n0_ n1_ n2_ n3_ n4_; (try clear hb); (try clear hb2); (try clear hk); (try clear hi); (try clear ho0); (try clear ho1)) | ((with_reducible refine gate_dst (N := 7) rfl ?_); refine box_event ?hg (N := 7) ?hd (cs := #[.int .i64 0, .string (⟨#[]⟩ : ByteArray), .slice none 0 0, .string (⟨#[]⟩ : ByteArray), .slice none 0 0]) (t := 32) ?hr ?_; (case hd | hg => rfl); (case hr => first | (go_simp; done) | (go_simp; rfl)); intro gb480 hg w24 hbox hb; have n0_ := aM (Kd.R_below (ry HO473.out) hb); have n1_ := aM (Kd.R_below (ry HO477.out) hb); have n2_ := aM (bB (g := gb465) (qy BK465.out) hb); have n3_ := aM (bB (g := gb466) (qy BK466.out) hb); have n4_ := aM (bP (by repeat (first | (with_reducible first | exact HB.out | apply ea | apply en | apply ed | refine es ?_ GE465.out | refine es ?_ GE466.out) | exact HB.out)) hb); have n5_ := aM (hbox); have n6_ := aM ((by rw [hg]; exact (bZ (by repeat (first | (with_reducible first | exact HB.out | apply ea | apply en | apply ed | refine es ?_ GE465.out | refine es ?_ GE466.out) | exact HB.out))) : w.heap.size ≤ gb480)); have n7_ := n6_; have n8_ := aM ((by rw [hg]; exact Nat.ne_of_lt (blk_lt (g := gb465) (qy BK465.out)) : gb465 ≠ gb480)); have n9_ := aM ((by rw [hg]; exact Nat.ne_of_gt (blk_lt (g := gb465) (qy BK465.out)) : gb480 ≠ gb465)); have n10_ := aM ((by rw [hg]; exact Nat.ne_of_lt (blk_lt (g := gb466) (qy BK466.out)) : gb466 ≠ gb480)); have n11_ := aM ((by rw [hg]; exact Nat.ne_of_gt (blk_lt (g := gb466) (qy BK466.out)) : gb480 ≠ gb466)); clear HO473 HO477 BK465 BK466 HB; have HO473 := n0_; have HO477 := n1_; have BK465 := n2_; have BK466 := n3_; have HB := n4_; have BK480 := n5_; have GW480 := n6_; have GE480 := n7_; have NB465_480 := n8_; have NB480_465 := n9_; have NB466_480 := n10_; have NB480_466 := n11_; clear n0_ n1_ n2_ n3_ n4_ n5_ n6_ n7_ n8_ n9_ n10_ n11_; clear hb hbox hg; have hnb25 := NB480_465.out; have hnc25 := NB465_480.out; have hnb26 := NB480_466.out; have hnc26 := NB466_480.out; have hcz27_0 := zC BK480.out 0 (.int .i64 0); have hcz27_1 := zC BK480.out 1 (.string (⟨#[]⟩ : ByteArray)); have hcz27_2 := zC BK480.out 2 (.slice none 0 0); have hcz27_3 := zC BK480.out 3 (.string (⟨#[]⟩ : ByteArray)); have hcz27_4 := zC BK480.out 4 (.slice none 0 0); have hfz27_0 := bF BK480.out 0; have hfz27_1 := bF BK480.out 1; have hfz27_2 := bF BK480.out 2; have hfz27_3 := bF BK480.out 3; have hfz27_4 := bF BK480.out 4; obtain ⟨Ao28, co28, eo28⟩ := Kd.R_slice HO473.out; subst eo28; obtain ⟨Ao29, co29, eo29⟩ := Kd.R_slice HO477.out; subst eo29))
     have n0_ : Aside0 (Kd.R k51 51 (((((w24.setCell ⟨gb480, 0, none⟩ (.int .i64 t469)).setCell ⟨gb480, 1, none⟩ (.string t470)).setCell ⟨gb480, 2, none⟩ (.slice Ao28 t471.length co28)).setCell ⟨gb480, 3, none⟩ (.string t474)).setCell ⟨gb480, 4, none⟩ (.slice Ao29 t475.length co29)) w.heap.size (fun k_ => some k_ ≠ (.slice Ao29 t475.length co29 : Value).ownBlock) (.slice Ao28 t471.length co28) t471) := ⟨by (with_reducible repeat (first | apply ra | apply rn | apply rd_)); exact rM (rF (p := ⟨gb480, 4, none⟩) (rF (p := ⟨gb480, 3, none⟩) (rF (p := ⟨gb480, 2, none⟩) (rF (p := ⟨gb480, 1, none⟩) (rF (p := ⟨gb480, 0, none⟩) (rT HO473.out BK480.out (by decide)) (fun _ hk => hk.2) (.int .i64 t469)) (fun _ hk => hk.2) (.string t470)) (fun _ hk => hk.2) (.slice Ao28 t471.length co28)) (fun _ hk => hk.2) (.string t474)) (fun _ hk => hk.2) (.slice Ao29 t475.length co29)) (fun _ hk => hk.1)⟩
     have n1_ : Aside0 (Kd.R k51 51 (((((w24.setCell ⟨gb480, 0, none⟩ (.int .i64 t469)).setCell ⟨gb480, 1, none⟩ (.string t470)).setCell ⟨gb480, 2, none⟩ (.slice Ao28 t471.length co28)).setCell ⟨gb480, 3, none⟩ (.string t474)).setCell ⟨gb480, 4, none⟩ (.slice Ao29 t475.length co29)) w.heap.size (fun k_ => some k_ ≠ (.slice Ao28 t471.length co28 : Value).ownBlock) (.slice Ao29 t475.length co29) t475) := ⟨by (with_reducible repeat (first | apply ra | apply rn | apply rd_)); exact rM (rF (p := ⟨gb480, 4, none⟩) (rF (p := ⟨gb480, 3, none⟩) (rF (p := ⟨gb480, 2, none⟩) (rF (p := ⟨gb480, 1, none⟩) (rF (p := ⟨gb480, 0, none⟩) (rT HO477.out BK480.out (by decide)) (fun _ hk => hk.2) (.int .i64 t469)) (fun _ hk => hk.2) (.string t470)) (fun _ hk => hk.2) (.slice Ao28 t471.length co28)) (fun _ hk => hk.2) (.string t474)) (fun _ hk => hk.2) (.slice Ao29 t475.length co29)) (fun _ hk => hk.1)⟩
     have n2_ : Aside0 ((((((w24.setCell ⟨gb480, 0, none⟩ (.int .i64 t469)).setCell ⟨gb480, 1, none⟩ (.string t470)).setCell ⟨gb480, 2, none⟩ (.slice Ao28 t471.length co28)).setCell ⟨gb480, 3, none⟩ (.string t474)).setCell ⟨gb480, 4, none⟩ (.slice Ao29 t475.length co29)).heap[gb465]? = some (.cells #[.string a0_0, .slice A0_1 l0_1.length c0_1] 24 (0, 0))) := ⟨by (with_reducible repeat (first | apply qn | apply qd | apply qa)); refine bR ?_ NB465_480.out _; (with_reducible repeat (first | apply qn | apply qd | apply qa)); refine bR ?_ NB465_480.out _; (with_reducible repeat (first | apply qn | apply qd | apply qa)); refine bR ?_ NB465_480.out _; (with_reducible repeat (first | apply qn | apply qd | apply qa)); refine bR ?_ NB465_480.out _; (with_reducible repeat (first | apply qn | apply qd | apply qa)); refine bR ?_ NB465_480.out _; exact qy BK465.out⟩
     have n3_ : Aside0 ((((((w24.setCell ⟨gb480, 0, none⟩ (.int .i64 t469)).setCell ⟨gb480, 1, none⟩ (.string t470)).setCell ⟨gb480, 2, none⟩ (.slice Ao28 t471.length co28)).setCell ⟨gb480, 3, none⟩ (.string t474)).setCell ⟨gb480, 4, none⟩ (.slice Ao29 t475.length co29)).heap[gb466]? = some (.cells #[.int .i64 a2_0, .int .i64 a2_1, .string a2_2, .string a2_3, .bool a2_4] 28 (0, 0))) := ⟨by (with_reducible repeat (first | apply qn | apply qd | apply qa)); refine bR ?_ NB466_480.out _; (with_reducible repeat (first | apply qn | apply qd | apply qa)); refine bR ?_ NB466_480.out _; (with_reducible repeat (first | apply qn | apply qd | apply qa)); refine bR ?_ NB466_480.out _; (with_reducible repeat (first | apply qn | apply qd | apply qa)); refine bR ?_ NB466_480.out _; (with_reducible repeat (first | apply qn | apply qd | apply qa)); refine bR ?_ NB466_480.out _; exact qy BK466.out⟩
     have n4_ : Aside0 ((((((w24.setCell ⟨gb480, 0, none⟩ (.int .i64 t469)).setCell ⟨gb480, 1, none⟩ (.string t470)).setCell ⟨gb480, 2, none⟩ (.slice Ao28 t471.length co28)).setCell ⟨gb480, 3, none⟩ (.string t474)).setCell ⟨gb480, 4, none⟩ (.slice Ao29 t475.length co29)).heap[gb480]? = some (.cells #[.int .i64 t469, .string t470, .slice Ao28 t471.length co28, .string t474, .slice Ao29 t475.length co29] 32 (0, 0))) := ⟨by (with_reducible repeat (first | apply qn | apply qd | apply qa)); refine bU (cs := #[.int .i64 t469, .string t470, .slice Ao28 t471.length co28, .string t474, .slice none 0 0]) ?_ 4 _ rfl; (with_reducible repeat (first | apply qn | apply qd | apply qa)); refine bU (cs := #[.int .i64 t469, .string t470, .slice Ao28 t471.length co28, .string (⟨#[]⟩ : ByteArray), .slice none 0 0]) ?_ 3 _ rfl; (with_reducible repeat (first | apply qn | apply qd | apply qa)); refine bU (cs := #[.int .i64 t469, .string t470, .slice none 0 0, .string (⟨#[]⟩ : ByteArray), .slice none 0 0]) ?_ 2 _ rfl; (with_reducible repeat (first | apply qn | apply qd | apply qa)); refine bU (cs := #[.int .i64 t469, .string (⟨#[]⟩ : ByteArray), .slice none 0 0, .string (⟨#[]⟩ : ByteArray), .slice none 0 0]) ?_ 1 _ rfl; (with_reducible repeat (first | apply qn | apply qd | apply qa)); refine bU (cs := #[.int .i64 0, .string (⟨#[]⟩ : ByteArray), .slice none 0 0, .string (⟨#[]⟩ : ByteArray), .slice none 0 0]) ?_ 0 _ rfl; exact qy BK480.out⟩
     have n5_ : Aside0 (Below w.heap.size w (((((w24.setCell ⟨gb480, 0, none⟩ (.int .i64 t469)).setCell ⟨gb480, 1, none⟩ (.string t470)).setCell ⟨gb480, 2, none⟩ (.slice Ao28 t471.length co28)).setCell ⟨gb480, 3, none⟩ (.string t474)).setCell ⟨gb480, 4, none⟩ (.slice Ao29 t475.length co29))) := ⟨by repeat (first | (with_reducible first | exact HB.out | apply ea | apply en | apply ed | refine es ?_ GE465.out | refine es ?_ GE466.out | refine es ?_ GE480.out) | exact HB.out)⟩
     (try clear HO473)
     (try clear HO477)
     (try clear BK465)
     (try clear BK466)
     (try clear BK480)
     (try clear HB)
     generalize (((((w24.setCell ⟨gb480, 0, none⟩ (.int .i64 t469)).setCell ⟨gb480, 1, none⟩ (.string t470)).setCell ⟨gb480, 2, none⟩ (.slice Ao28 t471.length co28)).setCell ⟨gb480, 3, none⟩ (.string t474)).setCell ⟨gb480, 4, none⟩ (.slice Ao29 t475.length co29)) = w30 at n0_ n1_ n2_ n3_ n4_ n5_ ⊢
     have HO473 := n0_
     have HO477 := n1_
     have BK465 := n2_
     have BK466 := n3_
     have BK480 := n4_
     have HB := n5_
     clear n0_ n1_ n2_ n3_ n4_ n5_
     have n0_ := aM (Kd.R_drew HO473.out)
     have n1_ := aM (Kd.R_drew HO477.out)
     have n2_ := aM (blk_drew BK465.out)
     have n3_ := aM (blk_drew BK466.out)
     have n4_ := aM (blk_drew BK480.out)
     have n5_ := aM (below_drew1 HB.out)
     clear HO473
     clear HO477
     clear BK465
     clear BK466
     clear BK480
     clear HB
     have HO473 := n0_
     have HO477 := n1_
     have BK465 := n2_
     have BK466 := n3_
     have BK480 := n4_
     have HB := n5_
     clear n0_ n1_ n2_ n3_ n4_ n5_
     refine start_ (n := 13) (S := fun w' => w'.cell? ⟨gb465, 0, none⟩ = some (.string a0_0) ∧ w'.cell? ⟨gb465, 1, none⟩ = some (.slice A0_1 l0_1.length c0_1) ∧ w'.cell? ⟨gb466, 0, none⟩ = some (.int .i64 a2_0) ∧ w'.cell? ⟨gb466, 1, none⟩ = some (.int .i64 a2_1) ∧ w'.cell? ⟨gb466, 2, none⟩ = some (.string a2_2) ∧ w'.cell? ⟨gb466, 3, none⟩ = some (.string a2_3) ∧ w'.cell? ⟨gb466, 4, none⟩ = some (.bool a2_4)) (ds := []) b10_ (by kernel_rfl) rfl rfl ⟨(bC BK465.out 0).trans rfl, (bC BK465.out 1).trans rfl, (bC BK466.out 0).trans rfl, (bC BK466.out 1).trans rfl, (bC BK466.out 2).trans rfl, (bC BK466.out 3).trans rfl, (bC BK466.out 4).trans rfl⟩ (fun hHeld => ?_); refine with_tabW bureaulaw15_SubstDoes.tab6 bureaulaw15_SubstDoes.bits6 (fun HT_ HW_ => ?_)
     generalize w30.drew = w31 at HO473 HO477 BK465 BK466 BK480 HB hHeld ⊢
     refine pv 1 29 b160_ HT_ ?_
     refine pt 0 28 b12_ HT_ HW_ hHeld ?_
     refine pt 2 30 b13_ HT_ HW_ hHeld ?_
     refine join_ (σ := Value × Value × Nat) 3 b20_ (fun s_ => [(31, .agg #[.int .i64 t481, .int .i64 t482, .string t483, .string t484, .bool t485]), (32, .tuple #[.agg #[.int .i64 t486, .string t487, s_.1, .string t491, s_.2.1], .int .i64 t495, .int .i64 t496]), (10, .pointer (some ⟨s_.2.2, 0, none⟩)), (27, .tuple #[.agg #[.int .i64 t486, .string t487, s_.1, .string t491, s_.2.1], .int .i64 t495, .int .i64 t496]), (33, .agg #[.int .i64 t486, .string t487, s_.1, .string t491, s_.2.1]), (34, .int .i64 t495), (35, .int .i64 t496)]) (fun s_ w' => (w'.cell? ⟨gb465, 0, none⟩ = some (.string a0_0) ∧ w'.cell? ⟨gb465, 1, none⟩ = some (.slice A0_1 l0_1.length c0_1) ∧ w'.cell? ⟨gb466, 0, none⟩ = some (.int .i64 a2_0) ∧ w'.cell? ⟨gb466, 1, none⟩ = some (.int .i64 a2_1) ∧ w'.cell? ⟨gb466, 2, none⟩ = some (.string a2_2) ∧ w'.cell? ⟨gb466, 3, none⟩ = some (.string a2_3) ∧ w'.cell? ⟨gb466, 4, none⟩ = some (.bool a2_4)) ∧ (Kd.R k51 51 w' w.heap.size (fun k_ => some k_ ≠ (.slice Ao29 t475.length co29 : Value).ownBlock ∧ some k_ ≠ (s_.1 : Value).ownBlock) (.slice Ao28 t471.length co28) t471) ∧ (Kd.R k51 51 w' w.heap.size (fun k_ => some k_ ≠ (.slice Ao28 t471.length co28 : Value).ownBlock ∧ some k_ ≠ (s_.1 : Value).ownBlock) (.slice Ao29 t475.length co29) t475) ∧ (Kd.R k51 51 w' w.heap.size (fun k_ => some k_ ≠ (.slice Ao28 t471.length co28 : Value).ownBlock ∧ some k_ ≠ (.slice Ao29 t475.length co29 : Value).ownBlock) s_.1 t488) ∧ (Kd.V k51 51 w' w.heap.size (fun k_ => some k_ ≠ (.slice Ao28 t471.length co28 : Value).ownBlock ∧ some k_ ≠ (.slice Ao29 t475.length co29 : Value).ownBlock ∧ some k_ ≠ (s_.1 : Value).ownBlock ∧ k_ ≠ gb465 ∧ k_ ≠ gb466 ∧ k_ ≠ gb480 ∧ k_ ≠ s_.2.2) s_.2.1 t492) ∧ (w'.heap[gb465]? = some (.cells #[.string a0_0, .slice A0_1 l0_1.length c0_1] 24 (0, 0))) ∧ (w'.heap[gb466]? = some (.cells #[.int .i64 a2_0, .int .i64 a2_1, .string a2_2, .string a2_3, .bool a2_4] 28 (0, 0))) ∧ (w'.heap[gb480]? = some (.cells #[.int .i64 t469, .string t470, .slice Ao28 t471.length co28, .string t474, .slice Ao29 t475.length co29] 32 (0, 0))) ∧ (w'.heap[s_.2.2]? = some (.cells #[.int .i64 0, .string (⟨#[]⟩ : ByteArray), .slice none 0 0, .string (⟨#[]⟩ : ByteArray), .slice none 0 0] 32 (0, 0))) ∧ (w.heap.size ≤ s_.2.2) ∧ (w.heap.size ≤ s_.2.2) ∧ (gb465 ≠ s_.2.2) ∧ (s_.2.2 ≠ gb465) ∧ (gb466 ≠ s_.2.2) ∧ (s_.2.2 ≠ gb466) ∧ (gb480 ≠ s_.2.2) ∧ (s_.2.2 ≠ gb480) ∧ (Below w.heap.size w w')) ?_ ?_
     rotate_left
     ·intro hCont
      refine two_ (i := 3) (j := 9) (Ni := some 31) (Nj := some 10) b14_ b161_ rfl rfl rfl rfl (two_of HT_.out (by kernel_rfl)) (by decide) (by decide) (fun K hK => ?_) (fun K hK => ?_)
      ·skip
       refine goes_ Try.func12 (by kernel_rfl) rfl #[.agg #[.int .i64 a2_0, .int .i64 a2_1, .string a2_2, .string a2_3, .bool a2_4]] (by rfl) rfl rfl (by (try simp only [mT, mC, mN]); first | done | rfl | (simp only [lD, lT]; rfl)) ?_
       with_reducible refine (bureaulaw15_ours.calls a2_0 a2_1 a2_2 a2_3 a2_4 t481 t482 t483 t484 t485 _ A9.out).mono ?_
       rintro e w32 ⟨rfl, hb⟩
       refine ⟨_, rfl, ?_⟩
       have n0_ := aM (Kd.R_below (ry HO473.out) hb)
       have n1_ := aM (Kd.R_below (ry HO477.out) hb)
       have n2_ := aM (bB (g := gb465) (qy BK465.out) hb)
       have n3_ := aM (bB (g := gb466) (qy BK466.out) hb)
       have n4_ := aM (bB (g := gb480) (qy BK480.out) hb)
       have n5_ := aM (bP (by repeat (first | (with_reducible first | exact HB.out | apply ea | apply en | apply ed | refine es ?_ GE465.out | refine es ?_ GE466.out | refine es ?_ GE480.out) | exact HB.out)) hb)
       clear HO473
       clear HO477
       clear BK465
       clear BK466
       clear BK480
       clear HB
       have HO473 := n0_
       have HO477 := n1_
       have BK465 := n2_
       have BK466 := n3_
       have BK480 := n4_
       have HB := n5_
       clear n0_ n1_ n2_ n3_ n4_ n5_
       (try clear hb)
       (try clear hb2)
       (try clear hk)
       (try clear hi)
       refine hK.out _ _ ⟨(bC BK465.out 0).trans rfl, (bC BK465.out 1).trans rfl, (bC BK466.out 0).trans rfl, (bC BK466.out 1).trans rfl, (bC BK466.out 2).trans rfl, (bC BK466.out 3).trans rfl, (bC BK466.out 4).trans rfl⟩ (fun hHeld => ?_)
       clear hK K
       refine norm_ (a' := ?_) ?_ ?_
       rotate_left
       ·show Act.put _ (some 31) _ = _
        simp only [Act.put, sA, sZ, sS, i64_w, i32_w]
        rfl
       refine two_ (i := 4) (j := 9) (Ni := some 32) (Nj := some 10) b15_ b162_ rfl rfl rfl rfl (two_of HT_.out (by kernel_rfl)) (by decide) (by decide) (fun K hK => ?_) (fun K hK => ?_)
       ·skip
        refine goes_ Try.func11 (by kernel_rfl) rfl #[.agg #[.string a0_0, .slice A0_1 l0_1.length c0_1], .int .u64 a1, .agg #[.int .i64 t481, .int .i64 t482, .string t483, .string t484, .bool t485]] (by rfl) rfl rfl (by (try simp only [mT, mC, mN]); first | done | rfl | (simp only [lD, lT]; rfl)) ?_
        with_reducible refine (bureauref15_Do.calls k a0_0 _ _ l0_1 a1 t481 t482 t483 t484 t485 t486 t487 t488 t491 t492 t495 t496 _ ?side1 ?side2 A10.out).mono ?_
        (case side1 => repeat (first | exact (cB_ HR0_1.out HB.out) | (with_reducible refine Kd.C_alloc ?_ _) | (with_reducible refine Kd.C_drewN ?_ _) | (with_reducible refine Kd.C_drew ?_)))
        (case side2 => exact HC0_1.out)
        rintro e w33 ⟨v489, v493, rfl, ho0, ho1, hb⟩
        refine ⟨_, rfl, ?_⟩
        have n0_ := aM (rE (ry HO473.out) (Kd.R_base ho0) hb)
        have n1_ := aM (rE (ry HO477.out) (Kd.R_base ho0) hb)
        have n2_ := aM (rL (Kd.R_new' (Kd.R_new' (rM (ok' := fun k_ => True) ho0 (fun _ hk_ => trivial)) (Kd.R_lt (ry HO473.out))) (Kd.R_lt (ry HO477.out))) (bZ (by repeat (first | (with_reducible first | exact HB.out | apply ea | apply en | apply ed | refine es ?_ GE465.out | refine es ?_ GE466.out | refine es ?_ GE480.out) | exact HB.out))))
        have n3_ := aM (Kd.V_lower (Kd.V_mono (ok' := fun k_ => some k_ ≠ (v489 : Value).ownBlock ∧ some k_ ≠ (.slice Ao28 t471.length co28 : Value).ownBlock ∧ some k_ ≠ (.slice Ao29 t475.length co29 : Value).ownBlock ∧ k_ ≠ gb465 ∧ k_ ≠ gb466 ∧ k_ ≠ gb480) ho1 (fun k_ hk_ => ⟨hk_.2, (Kd.fresh' (Kd.R_lt (ry HO473.out)) k_ hk_.1), (Kd.fresh' (Kd.R_lt (ry HO477.out)) k_ hk_.1), (Kd.freshB (g := gb465) (qy BK465.out) k_ hk_.1), (Kd.freshB (g := gb466) (qy BK466.out) k_ hk_.1), (Kd.freshB (g := gb480) (qy BK480.out) k_ hk_.1)⟩)) (bZ (by repeat (first | (with_reducible first | exact HB.out | apply ea | apply en | apply ed | refine es ?_ GE465.out | refine es ?_ GE466.out | refine es ?_ GE480.out) | exact HB.out))))
        have n4_ := aM (bB (g := gb465) (qy BK465.out) hb)
        have n5_ := aM (bB (g := gb466) (qy BK466.out) hb)
        have n6_ := aM (bB (g := gb480) (qy BK480.out) hb)
        have n7_ := aM (bP (by repeat (first | (with_reducible first | exact HB.out | apply ea | apply en | apply ed | refine es ?_ GE465.out | refine es ?_ GE466.out | refine es ?_ GE480.out) | exact HB.out)) hb)
        clear HO473
        clear HO477
        clear BK465
        clear BK466
        clear BK480
        clear HB
        have HO473 := n0_
        have HO477 := n1_
        have HO490 := n2_
        have HO494 := n3_
        have BK465 := n4_
        have BK466 := n5_
        have BK480 := n6_
        have HB := n7_
        clear n0_ n1_ n2_ n3_ n4_ n5_ n6_ n7_
        (try clear hb)
        (try clear hb2)
        (try clear hk)
        (try clear hi)
        (try clear ho0)
        (try clear ho1)
        refine hK.out _ _ ⟨(bC BK465.out 0).trans rfl, (bC BK465.out 1).trans rfl, (bC BK466.out 0).trans rfl, (bC BK466.out 1).trans rfl, (bC BK466.out 2).trans rfl, (bC BK466.out 3).trans rfl, (bC BK466.out 4).trans rfl⟩ (fun hHeld => ?_)
        clear hK K
        refine norm_ (a' := ?_) ?_ ?_
        rotate_left
        ·show Act.put _ (some 32) _ = _
         simp only [Act.put, sA, sZ, sS, i64_w, i32_w]
         rfl
        refine pv 5 27 b24_ HT_ ?_
        refine pv 6 33 b25_ HT_ ?_
        refine pv 7 34 b26_ HT_ ?_
        refine pv 8 35 b27_ HT_ ?_
        refine one_ (i := 9) (N := some 10) b20_ rfl rfl (one_of HT_.out (by kernel_rfl)) (by decide) (fun K hK => ?_)
        refine box_step ?hg (N := 10) ?hd (cs := #[.int .i64 0, .string (⟨#[]⟩ : ByteArray), .slice none 0 0, .string (⟨#[]⟩ : ByteArray), .slice none 0 0]) (t := 32) ?hr ?_; (case hd | hg => rfl); (case hr => first | (go_simp; done) | (go_simp; rfl))
        intro gb497 hg w34 hbox hb
        have n0_ := aM (Kd.R_below (ry HO473.out) hb)
        have n1_ := aM (Kd.R_below (ry HO477.out) hb)
        have n2_ := aM (Kd.R_below (ry HO490.out) hb)
        have n3_ := aM (Kd.V_below (Kd.V_elderB (by (with_reducible repeat (first | apply va | apply vn | apply vd)); exact HO494.out) gb497 (Nat.le_of_eq hg.symm)) hb)
        have n4_ := aM (bB (g := gb465) (qy BK465.out) hb)
        have n5_ := aM (bB (g := gb466) (qy BK466.out) hb)
        have n6_ := aM (bB (g := gb480) (qy BK480.out) hb)
        have n7_ := aM (bP (by repeat (first | (with_reducible first | exact HB.out | apply ea | apply en | apply ed | refine es ?_ GE465.out | refine es ?_ GE466.out | refine es ?_ GE480.out) | exact HB.out)) hb)
        have n8_ := aM (hbox)
        have n9_ := aM ((by rw [hg]; exact (bZ (by repeat (first | (with_reducible first | exact HB.out | apply ea | apply en | apply ed | refine es ?_ GE465.out | refine es ?_ GE466.out | refine es ?_ GE480.out) | exact HB.out))) : w.heap.size ≤ gb497))
        have n10_ := aM ((by rw [hg]; exact (bZ (by repeat (first | (with_reducible first | exact HB.out | apply ea | apply en | apply ed | refine es ?_ GE465.out | refine es ?_ GE466.out | refine es ?_ GE480.out) | exact HB.out))) : w.heap.size ≤ gb497))
        have n11_ := aM ((by rw [hg]; exact Nat.ne_of_lt (blk_lt (g := gb465) (qy BK465.out)) : gb465 ≠ gb497))
        have n12_ := aM ((by rw [hg]; exact Nat.ne_of_gt (blk_lt (g := gb465) (qy BK465.out)) : gb497 ≠ gb465))
        have n13_ := aM ((by rw [hg]; exact Nat.ne_of_lt (blk_lt (g := gb466) (qy BK466.out)) : gb466 ≠ gb497))
        have n14_ := aM ((by rw [hg]; exact Nat.ne_of_gt (blk_lt (g := gb466) (qy BK466.out)) : gb497 ≠ gb466))
        have n15_ := aM ((by rw [hg]; exact Nat.ne_of_lt (blk_lt (g := gb480) (qy BK480.out)) : gb480 ≠ gb497))
        have n16_ := aM ((by rw [hg]; exact Nat.ne_of_gt (blk_lt (g := gb480) (qy BK480.out)) : gb497 ≠ gb480))
        clear HO473
        clear HO477
        clear HO490
        clear HO494
        clear BK465
        clear BK466
        clear BK480
        clear HB
        have HO473 := n0_
        have HO477 := n1_
        have HO490 := n2_
        have HO494 := n3_
        have BK465 := n4_
        have BK466 := n5_
        have BK480 := n6_
        have HB := n7_
        have BK497 := n8_
        have GW497 := n9_
        have GE497 := n10_
        have NB465_497 := n11_
        have NB497_465 := n12_
        have NB466_497 := n13_
        have NB497_466 := n14_
        have NB480_497 := n15_
        have NB497_480 := n16_
        clear n0_ n1_ n2_ n3_ n4_ n5_ n6_ n7_ n8_ n9_ n10_ n11_ n12_ n13_ n14_ n15_ n16_
        clear hb hbox hg
        refine hK.out _ _ ⟨(bC BK465.out 0).trans rfl, (bC BK465.out 1).trans rfl, (bC BK466.out 0).trans rfl, (bC BK466.out 1).trans rfl, (bC BK466.out 2).trans rfl, (bC BK466.out 3).trans rfl, (bC BK466.out 4).trans rfl⟩ (fun hHeld => ?_)
        clear hK K
        refine norm_ (a' := ?_) ?_ ?_
        rotate_left
        ·show Act.put _ (some 10) _ = _
         simp only [Act.put, sA, sZ, sS, i64_w, i32_w]
         rfl
        exact norm_ (by simp only [putAll, Act.put, sA, sZ, sS]) (hCont (v489, v493, gb497) _ ⟨hHeld, (ry HO473.out), (ry HO477.out), (by (with_reducible repeat (first | apply ra | apply rn | apply rd_)); exact rM HO490.out (fun _ hk => ⟨hk.1.2, hk.2⟩)), (by (with_reducible repeat (first | apply va | apply vn | apply vd)); exact Kd.V_mono HO494.out (fun _ hk => ⟨hk.1.2.1, ⟨hk.1.2.2.1, ⟨hk.1.1, ⟨hk.1.2.2.2.1, ⟨hk.1.2.2.2.2.1, ⟨hk.1.2.2.2.2.2, hk.2⟩⟩⟩⟩⟩⟩)), (qy BK465.out), (qy BK466.out), (qy BK480.out), (qy BK497.out), GW497.out, GE497.out, NB465_497.out, NB497_465.out, NB466_497.out, NB497_466.out, NB480_497.out, NB497_480.out, (by repeat (first | (with_reducible first | exact HB.out | apply ea | apply en | apply ed | refine es ?_ GE465.out | refine es ?_ GE466.out | refine es ?_ GE480.out | refine es ?_ GE497.out) | exact HB.out))⟩)
       ·skip
        refine box_step ?hg (N := 10) ?hd (cs := #[.int .i64 0, .string (⟨#[]⟩ : ByteArray), .slice none 0 0, .string (⟨#[]⟩ : ByteArray), .slice none 0 0]) (t := 32) ?hr ?_; (case hd | hg => rfl); (case hr => first | (go_simp; done) | (go_simp; rfl))
        intro gb497 hg w33 hbox hb
        have n0_ := aM (Kd.R_below (ry HO473.out) hb)
        have n1_ := aM (Kd.R_below (ry HO477.out) hb)
        have n2_ := aM (bB (g := gb465) (qy BK465.out) hb)
        have n3_ := aM (bB (g := gb466) (qy BK466.out) hb)
        have n4_ := aM (bB (g := gb480) (qy BK480.out) hb)
        have n5_ := aM (bP (by repeat (first | (with_reducible first | exact HB.out | apply ea | apply en | apply ed | refine es ?_ GE465.out | refine es ?_ GE466.out | refine es ?_ GE480.out) | exact HB.out)) hb)
        have n6_ := aM (hbox)
        have n7_ := aM ((by rw [hg]; exact (bZ (by repeat (first | (with_reducible first | exact HB.out | apply ea | apply en | apply ed | refine es ?_ GE465.out | refine es ?_ GE466.out | refine es ?_ GE480.out) | exact HB.out))) : w.heap.size ≤ gb497))
        have n8_ := aM ((by rw [hg]; exact (bZ (by repeat (first | (with_reducible first | exact HB.out | apply ea | apply en | apply ed | refine es ?_ GE465.out | refine es ?_ GE466.out | refine es ?_ GE480.out) | exact HB.out))) : w.heap.size ≤ gb497))
        have n9_ := aM ((by rw [hg]; exact Nat.ne_of_lt (blk_lt (g := gb465) (qy BK465.out)) : gb465 ≠ gb497))
        have n10_ := aM ((by rw [hg]; exact Nat.ne_of_gt (blk_lt (g := gb465) (qy BK465.out)) : gb497 ≠ gb465))
        have n11_ := aM ((by rw [hg]; exact Nat.ne_of_lt (blk_lt (g := gb466) (qy BK466.out)) : gb466 ≠ gb497))
        have n12_ := aM ((by rw [hg]; exact Nat.ne_of_gt (blk_lt (g := gb466) (qy BK466.out)) : gb497 ≠ gb466))
        have n13_ := aM ((by rw [hg]; exact Nat.ne_of_lt (blk_lt (g := gb480) (qy BK480.out)) : gb480 ≠ gb497))
        have n14_ := aM ((by rw [hg]; exact Nat.ne_of_gt (blk_lt (g := gb480) (qy BK480.out)) : gb497 ≠ gb480))
        clear HO473
        clear HO477
        clear BK465
        clear BK466
        clear BK480
        clear HB
        have HO473 := n0_
        have HO477 := n1_
        have BK465 := n2_
        have BK466 := n3_
        have BK480 := n4_
        have HB := n5_
        have BK497 := n6_
        have GW497 := n7_
        have GE497 := n8_
        have NB465_497 := n9_
        have NB497_465 := n10_
        have NB466_497 := n11_
        have NB497_466 := n12_
        have NB480_497 := n13_
        have NB497_480 := n14_
        clear n0_ n1_ n2_ n3_ n4_ n5_ n6_ n7_ n8_ n9_ n10_ n11_ n12_ n13_ n14_
        clear hb hbox hg
        refine hK.out _ _ ⟨(bC BK465.out 0).trans rfl, (bC BK465.out 1).trans rfl, (bC BK466.out 0).trans rfl, (bC BK466.out 1).trans rfl, (bC BK466.out 2).trans rfl, (bC BK466.out 3).trans rfl, (bC BK466.out 4).trans rfl⟩ (fun hHeld => ?_)
        clear hK K
        refine norm_ (a' := ?_) ?_ ?_
        rotate_left
        ·show Act.put _ (some 10) _ = _
         simp only [Act.put, sA, sZ, sS, i64_w, i32_w]
         rfl
        refine one_ (i := 4) (N := some 32) b163_ rfl rfl (one_of HT_.out (by kernel_rfl)) (by decide) (fun K hK => ?_)
        refine goes_ Try.func11 (by kernel_rfl) rfl #[.agg #[.string a0_0, .slice A0_1 l0_1.length c0_1], .int .u64 a1, .agg #[.int .i64 t481, .int .i64 t482, .string t483, .string t484, .bool t485]] (by rfl) rfl rfl (by (try simp only [mT, mC, mN]); first | done | rfl | (simp only [lD, lT]; rfl)) ?_
        with_reducible refine (bureauref15_Do.calls k a0_0 _ _ l0_1 a1 t481 t482 t483 t484 t485 t486 t487 t488 t491 t492 t495 t496 _ ?side1 ?side2 A10.out).mono ?_
        (case side1 => repeat (first | exact (cB_ HR0_1.out HB.out) | (with_reducible refine Kd.C_alloc ?_ _) | (with_reducible refine Kd.C_drewN ?_ _) | (with_reducible refine Kd.C_drew ?_)))
        (case side2 => exact HC0_1.out)
        rintro e w34 ⟨v489, v493, rfl, ho0, ho1, hb⟩
        refine ⟨_, rfl, ?_⟩
        have n0_ := aM (rE (ry HO473.out) (Kd.R_base ho0) hb)
        have n1_ := aM (rE (ry HO477.out) (Kd.R_base ho0) hb)
        have n2_ := aM (rL (Kd.R_new' (Kd.R_new' (rM (ok' := fun k_ => True) ho0 (fun _ hk_ => trivial)) (Kd.R_lt (ry HO473.out))) (Kd.R_lt (ry HO477.out))) (bZ (by repeat (first | (with_reducible first | exact HB.out | apply ea | apply en | apply ed | refine es ?_ GE465.out | refine es ?_ GE466.out | refine es ?_ GE480.out | refine es ?_ GE497.out) | exact HB.out))))
        have n3_ := aM (Kd.V_lower (Kd.V_mono (ok' := fun k_ => some k_ ≠ (v489 : Value).ownBlock ∧ some k_ ≠ (.slice Ao28 t471.length co28 : Value).ownBlock ∧ some k_ ≠ (.slice Ao29 t475.length co29 : Value).ownBlock ∧ k_ ≠ gb465 ∧ k_ ≠ gb466 ∧ k_ ≠ gb480 ∧ k_ ≠ gb497) ho1 (fun k_ hk_ => ⟨hk_.2, (Kd.fresh' (Kd.R_lt (ry HO473.out)) k_ hk_.1), (Kd.fresh' (Kd.R_lt (ry HO477.out)) k_ hk_.1), (Kd.freshB (g := gb465) (qy BK465.out) k_ hk_.1), (Kd.freshB (g := gb466) (qy BK466.out) k_ hk_.1), (Kd.freshB (g := gb480) (qy BK480.out) k_ hk_.1), (Kd.freshB (g := gb497) (qy BK497.out) k_ hk_.1)⟩)) (bZ (by repeat (first | (with_reducible first | exact HB.out | apply ea | apply en | apply ed | refine es ?_ GE465.out | refine es ?_ GE466.out | refine es ?_ GE480.out | refine es ?_ GE497.out) | exact HB.out))))
        have n4_ := aM (bB (g := gb465) (qy BK465.out) hb)
        have n5_ := aM (bB (g := gb466) (qy BK466.out) hb)
        have n6_ := aM (bB (g := gb480) (qy BK480.out) hb)
        have n7_ := aM (bB (g := gb497) (qy BK497.out) hb)
        have n8_ := aM (bP (by repeat (first | (with_reducible first | exact HB.out | apply ea | apply en | apply ed | refine es ?_ GE465.out | refine es ?_ GE466.out | refine es ?_ GE480.out | refine es ?_ GE497.out) | exact HB.out)) hb)
        clear HO473
        clear HO477
        clear BK465
        clear BK466
        clear BK480
        clear BK497
        clear HB
        have HO473 := n0_
        have HO477 := n1_
        have HO490 := n2_
        have HO494 := n3_
        have BK465 := n4_
        have BK466 := n5_
        have BK480 := n6_
        have BK497 := n7_
        have HB := n8_
        clear n0_ n1_ n2_ n3_ n4_ n5_ n6_ n7_ n8_
        (try clear hb)
        (try clear hb2)
        (try clear hk)
        (try clear hi)
        (try clear ho0)
        (try clear ho1)
        refine hK.out _ _ ⟨(bC BK465.out 0).trans rfl, (bC BK465.out 1).trans rfl, (bC BK466.out 0).trans rfl, (bC BK466.out 1).trans rfl, (bC BK466.out 2).trans rfl, (bC BK466.out 3).trans rfl, (bC BK466.out 4).trans rfl⟩ (fun hHeld => ?_)
        clear hK K
        refine norm_ (a' := ?_) ?_ ?_
        rotate_left
        ·show Act.put _ (some 32) _ = _
         simp only [Act.put, sA, sZ, sS, i64_w, i32_w]
         rfl
        refine pv 5 27 b164_ HT_ ?_
        refine pv 6 33 b165_ HT_ ?_
        refine pv 7 34 b166_ HT_ ?_
        refine pv 8 35 b20_ HT_ ?_
        exact norm_ (by simp only [putAll, Act.put, sA, sZ, sS]) (hCont (v489, v493, gb497) _ ⟨hHeld, (ry HO473.out), (ry HO477.out), (by (with_reducible repeat (first | apply ra | apply rn | apply rd_)); exact rM HO490.out (fun _ hk => ⟨hk.1.2, hk.2⟩)), (by (with_reducible repeat (first | apply va | apply vn | apply vd)); exact Kd.V_mono HO494.out (fun _ hk => ⟨hk.2.1, ⟨hk.2.2.1, ⟨hk.1, ⟨hk.2.2.2.1, ⟨hk.2.2.2.2.1, ⟨hk.2.2.2.2.2.1, hk.2.2.2.2.2.2⟩⟩⟩⟩⟩⟩)), (qy BK465.out), (qy BK466.out), (qy BK480.out), (qy BK497.out), GW497.out, GE497.out, NB465_497.out, NB497_465.out, NB466_497.out, NB497_466.out, NB480_497.out, NB497_480.out, (by repeat (first | (with_reducible first | exact HB.out | apply ea | apply en | apply ed | refine es ?_ GE465.out | refine es ?_ GE466.out | refine es ?_ GE480.out | refine es ?_ GE497.out) | exact HB.out))⟩)
      ·skip
       refine box_step ?hg (N := 10) ?hd (cs := #[.int .i64 0, .string (⟨#[]⟩ : ByteArray), .slice none 0 0, .string (⟨#[]⟩ : ByteArray), .slice none 0 0]) (t := 32) ?hr ?_; (case hd | hg => rfl); (case hr => first | (go_simp; done) | (go_simp; rfl))
       intro gb497 hg w32 hbox hb
       have n0_ := aM (Kd.R_below (ry HO473.out) hb)
       have n1_ := aM (Kd.R_below (ry HO477.out) hb)
       have n2_ := aM (bB (g := gb465) (qy BK465.out) hb)
       have n3_ := aM (bB (g := gb466) (qy BK466.out) hb)
       have n4_ := aM (bB (g := gb480) (qy BK480.out) hb)
       have n5_ := aM (bP (by repeat (first | (with_reducible first | exact HB.out | apply ea | apply en | apply ed | refine es ?_ GE465.out | refine es ?_ GE466.out | refine es ?_ GE480.out) | exact HB.out)) hb)
       have n6_ := aM (hbox)
       have n7_ := aM ((by rw [hg]; exact (bZ (by repeat (first | (with_reducible first | exact HB.out | apply ea | apply en | apply ed | refine es ?_ GE465.out | refine es ?_ GE466.out | refine es ?_ GE480.out) | exact HB.out))) : w.heap.size ≤ gb497))
       have n8_ := aM ((by rw [hg]; exact (bZ (by repeat (first | (with_reducible first | exact HB.out | apply ea | apply en | apply ed | refine es ?_ GE465.out | refine es ?_ GE466.out | refine es ?_ GE480.out) | exact HB.out))) : w.heap.size ≤ gb497))
       have n9_ := aM ((by rw [hg]; exact Nat.ne_of_lt (blk_lt (g := gb465) (qy BK465.out)) : gb465 ≠ gb497))
       have n10_ := aM ((by rw [hg]; exact Nat.ne_of_gt (blk_lt (g := gb465) (qy BK465.out)) : gb497 ≠ gb465))
       have n11_ := aM ((by rw [hg]; exact Nat.ne_of_lt (blk_lt (g := gb466) (qy BK466.out)) : gb466 ≠ gb497))
       have n12_ := aM ((by rw [hg]; exact Nat.ne_of_gt (blk_lt (g := gb466) (qy BK466.out)) : gb497 ≠ gb466))
       have n13_ := aM ((by rw [hg]; exact Nat.ne_of_lt (blk_lt (g := gb480) (qy BK480.out)) : gb480 ≠ gb497))
       have n14_ := aM ((by rw [hg]; exact Nat.ne_of_gt (blk_lt (g := gb480) (qy BK480.out)) : gb497 ≠ gb480))
       clear HO473
       clear HO477
       clear BK465
       clear BK466
       clear BK480
       clear HB
       have HO473 := n0_
       have HO477 := n1_
       have BK465 := n2_
       have BK466 := n3_
       have BK480 := n4_
       have HB := n5_
       have BK497 := n6_
       have GW497 := n7_
       have GE497 := n8_
       have NB465_497 := n9_
       have NB497_465 := n10_
       have NB466_497 := n11_
       have NB497_466 := n12_
       have NB480_497 := n13_
       have NB497_480 := n14_
       clear n0_ n1_ n2_ n3_ n4_ n5_ n6_ n7_ n8_ n9_ n10_ n11_ n12_ n13_ n14_
       clear hb hbox hg
       refine hK.out _ _ ⟨(bC BK465.out 0).trans rfl, (bC BK465.out 1).trans rfl, (bC BK466.out 0).trans rfl, (bC BK466.out 1).trans rfl, (bC BK466.out 2).trans rfl, (bC BK466.out 3).trans rfl, (bC BK466.out 4).trans rfl⟩ (fun hHeld => ?_)
       clear hK K
       refine norm_ (a' := ?_) ?_ ?_
       rotate_left
       ·show Act.put _ (some 10) _ = _
        simp only [Act.put, sA, sZ, sS, i64_w, i32_w]
        rfl
       refine one_ (i := 3) (N := some 31) b162_ rfl rfl (one_of HT_.out (by kernel_rfl)) (by decide) (fun K hK => ?_)
       refine goes_ Try.func12 (by kernel_rfl) rfl #[.agg #[.int .i64 a2_0, .int .i64 a2_1, .string a2_2, .string a2_3, .bool a2_4]] (by rfl) rfl rfl (by (try simp only [mT, mC, mN]); first | done | rfl | (simp only [lD, lT]; rfl)) ?_
       with_reducible refine (bureaulaw15_ours.calls a2_0 a2_1 a2_2 a2_3 a2_4 t481 t482 t483 t484 t485 _ A9.out).mono ?_
       rintro e w33 ⟨rfl, hb⟩
       refine ⟨_, rfl, ?_⟩
       have n0_ := aM (Kd.R_below (ry HO473.out) hb)
       have n1_ := aM (Kd.R_below (ry HO477.out) hb)
       have n2_ := aM (bB (g := gb465) (qy BK465.out) hb)
       have n3_ := aM (bB (g := gb466) (qy BK466.out) hb)
       have n4_ := aM (bB (g := gb480) (qy BK480.out) hb)
       have n5_ := aM (bB (g := gb497) (qy BK497.out) hb)
       have n6_ := aM (bP (by repeat (first | (with_reducible first | exact HB.out | apply ea | apply en | apply ed | refine es ?_ GE465.out | refine es ?_ GE466.out | refine es ?_ GE480.out | refine es ?_ GE497.out) | exact HB.out)) hb)
       clear HO473
       clear HO477
       clear BK465
       clear BK466
       clear BK480
       clear BK497
       clear HB
       have HO473 := n0_
       have HO477 := n1_
       have BK465 := n2_
       have BK466 := n3_
       have BK480 := n4_
       have BK497 := n5_
       have HB := n6_
       clear n0_ n1_ n2_ n3_ n4_ n5_ n6_
       (try clear hb)
       (try clear hb2)
       (try clear hk)
       (try clear hi)
       refine hK.out _ _ ⟨(bC BK465.out 0).trans rfl, (bC BK465.out 1).trans rfl, (bC BK466.out 0).trans rfl, (bC BK466.out 1).trans rfl, (bC BK466.out 2).trans rfl, (bC BK466.out 3).trans rfl, (bC BK466.out 4).trans rfl⟩ (fun hHeld => ?_)
       clear hK K
       refine norm_ (a' := ?_) ?_ ?_
       rotate_left
       ·show Act.put _ (some 31) _ = _
        simp only [Act.put, sA, sZ, sS, i64_w, i32_w]
        rfl
       refine one_ (i := 4) (N := some 32) b163_ rfl rfl (one_of HT_.out (by kernel_rfl)) (by decide) (fun K hK => ?_)
       refine goes_ Try.func11 (by kernel_rfl) rfl #[.agg #[.string a0_0, .slice A0_1 l0_1.length c0_1], .int .u64 a1, .agg #[.int .i64 t481, .int .i64 t482, .string t483, .string t484, .bool t485]] (by rfl) rfl rfl (by (try simp only [mT, mC, mN]); first | done | rfl | (simp only [lD, lT]; rfl)) ?_
       with_reducible refine (bureauref15_Do.calls k a0_0 _ _ l0_1 a1 t481 t482 t483 t484 t485 t486 t487 t488 t491 t492 t495 t496 _ ?side1 ?side2 A10.out).mono ?_
       (case side1 => repeat (first | exact (cB_ HR0_1.out HB.out) | (with_reducible refine Kd.C_alloc ?_ _) | (with_reducible refine Kd.C_drewN ?_ _) | (with_reducible refine Kd.C_drew ?_)))
       (case side2 => exact HC0_1.out)
       rintro e w34 ⟨v489, v493, rfl, ho0, ho1, hb⟩
       refine ⟨_, rfl, ?_⟩
       have n0_ := aM (rE (ry HO473.out) (Kd.R_base ho0) hb)
       have n1_ := aM (rE (ry HO477.out) (Kd.R_base ho0) hb)
       have n2_ := aM (rL (Kd.R_new' (Kd.R_new' (rM (ok' := fun k_ => True) ho0 (fun _ hk_ => trivial)) (Kd.R_lt (ry HO473.out))) (Kd.R_lt (ry HO477.out))) (bZ (by repeat (first | (with_reducible first | exact HB.out | apply ea | apply en | apply ed | refine es ?_ GE465.out | refine es ?_ GE466.out | refine es ?_ GE480.out | refine es ?_ GE497.out) | exact HB.out))))
       have n3_ := aM (Kd.V_lower (Kd.V_mono (ok' := fun k_ => some k_ ≠ (v489 : Value).ownBlock ∧ some k_ ≠ (.slice Ao28 t471.length co28 : Value).ownBlock ∧ some k_ ≠ (.slice Ao29 t475.length co29 : Value).ownBlock ∧ k_ ≠ gb465 ∧ k_ ≠ gb466 ∧ k_ ≠ gb480 ∧ k_ ≠ gb497) ho1 (fun k_ hk_ => ⟨hk_.2, (Kd.fresh' (Kd.R_lt (ry HO473.out)) k_ hk_.1), (Kd.fresh' (Kd.R_lt (ry HO477.out)) k_ hk_.1), (Kd.freshB (g := gb465) (qy BK465.out) k_ hk_.1), (Kd.freshB (g := gb466) (qy BK466.out) k_ hk_.1), (Kd.freshB (g := gb480) (qy BK480.out) k_ hk_.1), (Kd.freshB (g := gb497) (qy BK497.out) k_ hk_.1)⟩)) (bZ (by repeat (first | (with_reducible first | exact HB.out | apply ea | apply en | apply ed | refine es ?_ GE465.out | refine es ?_ GE466.out | refine es ?_ GE480.out | refine es ?_ GE497.out) | exact HB.out))))
       have n4_ := aM (bB (g := gb465) (qy BK465.out) hb)
       have n5_ := aM (bB (g := gb466) (qy BK466.out) hb)
       have n6_ := aM (bB (g := gb480) (qy BK480.out) hb)
       have n7_ := aM (bB (g := gb497) (qy BK497.out) hb)
       have n8_ := aM (bP (by repeat (first | (with_reducible first | exact HB.out | apply ea | apply en | apply ed | refine es ?_ GE465.out | refine es ?_ GE466.out | refine es ?_ GE480.out | refine es ?_ GE497.out) | exact HB.out)) hb)
       clear HO473
       clear HO477
       clear BK465
       clear BK466
       clear BK480
       clear BK497
       clear HB
       have HO473 := n0_
       have HO477 := n1_
       have HO490 := n2_
       have HO494 := n3_
       have BK465 := n4_
       have BK466 := n5_
       have BK480 := n6_
       have BK497 := n7_
       have HB := n8_
       clear n0_ n1_ n2_ n3_ n4_ n5_ n6_ n7_ n8_
       (try clear hb)
       (try clear hb2)
       (try clear hk)
       (try clear hi)
       (try clear ho0)
       (try clear ho1)
       refine hK.out _ _ ⟨(bC BK465.out 0).trans rfl, (bC BK465.out 1).trans rfl, (bC BK466.out 0).trans rfl, (bC BK466.out 1).trans rfl, (bC BK466.out 2).trans rfl, (bC BK466.out 3).trans rfl, (bC BK466.out 4).trans rfl⟩ (fun hHeld => ?_)
       clear hK K
       refine norm_ (a' := ?_) ?_ ?_
       rotate_left
       ·show Act.put _ (some 32) _ = _
        simp only [Act.put, sA, sZ, sS, i64_w, i32_w]
        rfl
       refine pv 5 27 b164_ HT_ ?_
       refine pv 6 33 b165_ HT_ ?_
       refine pv 7 34 b166_ HT_ ?_
       refine pv 8 35 b20_ HT_ ?_
       exact norm_ (by simp only [putAll, Act.put, sA, sZ, sS]) (hCont (v489, v493, gb497) _ ⟨hHeld, (ry HO473.out), (ry HO477.out), (by (with_reducible repeat (first | apply ra | apply rn | apply rd_)); exact rM HO490.out (fun _ hk => ⟨hk.1.2, hk.2⟩)), (by (with_reducible repeat (first | apply va | apply vn | apply vd)); exact Kd.V_mono HO494.out (fun _ hk => ⟨hk.2.1, ⟨hk.2.2.1, ⟨hk.1, ⟨hk.2.2.2.1, ⟨hk.2.2.2.2.1, ⟨hk.2.2.2.2.2.1, hk.2.2.2.2.2.2⟩⟩⟩⟩⟩⟩)), (qy BK465.out), (qy BK466.out), (qy BK480.out), (qy BK497.out), GW497.out, GE497.out, NB465_497.out, NB497_465.out, NB466_497.out, NB497_466.out, NB480_497.out, NB497_480.out, (by repeat (first | (with_reducible first | exact HB.out | apply ea | apply en | apply ed | refine es ?_ GE465.out | refine es ?_ GE466.out | refine es ?_ GE480.out | refine es ?_ GE497.out) | exact HB.out))⟩)
     rintro ⟨v489, v493, gb497⟩ w35 ⟨hS_, h0_, h1_, h2_, h3_, h4_, h5_, h6_, h7_, h8_, h9_, h10_, h11_, h12_, h13_, h14_, h15_, h16_⟩
     have n0_ : Aside0 (Kd.R k51 51 w35 w.heap.size (fun k_ => some k_ ≠ (.slice Ao29 t475.length co29 : Value).ownBlock ∧ some k_ ≠ (v489 : Value).ownBlock) (.slice Ao28 t471.length co28) t471) := ⟨h0_⟩
     have n1_ : Aside0 (Kd.R k51 51 w35 w.heap.size (fun k_ => some k_ ≠ (.slice Ao28 t471.length co28 : Value).ownBlock ∧ some k_ ≠ (v489 : Value).ownBlock) (.slice Ao29 t475.length co29) t475) := ⟨h1_⟩
     have n2_ : Aside0 (Kd.R k51 51 w35 w.heap.size (fun k_ => some k_ ≠ (.slice Ao28 t471.length co28 : Value).ownBlock ∧ some k_ ≠ (.slice Ao29 t475.length co29 : Value).ownBlock) v489 t488) := ⟨h2_⟩
     have n3_ : Aside0 (Kd.V k51 51 w35 w.heap.size (fun k_ => some k_ ≠ (.slice Ao28 t471.length co28 : Value).ownBlock ∧ some k_ ≠ (.slice Ao29 t475.length co29 : Value).ownBlock ∧ some k_ ≠ (v489 : Value).ownBlock ∧ k_ ≠ gb465 ∧ k_ ≠ gb466 ∧ k_ ≠ gb480 ∧ k_ ≠ gb497) v493 t492) := ⟨h3_⟩
     have n4_ : Aside0 (w35.heap[gb465]? = some (.cells #[.string a0_0, .slice A0_1 l0_1.length c0_1] 24 (0, 0))) := ⟨h4_⟩
     have n5_ : Aside0 (w35.heap[gb466]? = some (.cells #[.int .i64 a2_0, .int .i64 a2_1, .string a2_2, .string a2_3, .bool a2_4] 28 (0, 0))) := ⟨h5_⟩
     have n6_ : Aside0 (w35.heap[gb480]? = some (.cells #[.int .i64 t469, .string t470, .slice Ao28 t471.length co28, .string t474, .slice Ao29 t475.length co29] 32 (0, 0))) := ⟨h6_⟩
     have n7_ : Aside0 (w35.heap[gb497]? = some (.cells #[.int .i64 0, .string (⟨#[]⟩ : ByteArray), .slice none 0 0, .string (⟨#[]⟩ : ByteArray), .slice none 0 0] 32 (0, 0))) := ⟨h7_⟩
     have n8_ : Aside0 (w.heap.size ≤ gb497) := ⟨h8_⟩
     have n9_ : Aside0 (w.heap.size ≤ gb497) := ⟨h9_⟩
     have n10_ : Aside0 (gb465 ≠ gb497) := ⟨h10_⟩
     have n11_ : Aside0 (gb497 ≠ gb465) := ⟨h11_⟩
     have n12_ : Aside0 (gb466 ≠ gb497) := ⟨h12_⟩
     have n13_ : Aside0 (gb497 ≠ gb466) := ⟨h13_⟩
     have n14_ : Aside0 (gb480 ≠ gb497) := ⟨h14_⟩
     have n15_ : Aside0 (gb497 ≠ gb480) := ⟨h15_⟩
     have n16_ : Aside0 (Below w.heap.size w w35) := ⟨h16_⟩
     clear HO473
     clear HO477
     clear BK465
     clear BK466
     clear BK480
     clear HB
     clear h0_ h1_ h2_ h3_ h4_ h5_ h6_ h7_ h8_ h9_ h10_ h11_ h12_ h13_ h14_ h15_ h16_
     have HO473 := n0_
     have HO477 := n1_
     have HO490 := n2_
     have HO494 := n3_
     have BK465 := n4_
     have BK466 := n5_
     have BK480 := n6_
     have BK497 := n7_
     have GW497 := n8_
     have GE497 := n9_
     have NB465_497 := n10_
     have NB497_465 := n11_
     have NB466_497 := n12_
     have NB497_466 := n13_
     have NB480_497 := n14_
     have NB497_480 := n15_
     have HB := n16_
     clear n0_ n1_ n2_ n3_ n4_ n5_ n6_ n7_ n8_ n9_ n10_ n11_ n12_ n13_ n14_ n15_ n16_
     have hHeld : w35.cell? ⟨gb465, 0, none⟩ = some (.string a0_0) ∧ w35.cell? ⟨gb465, 1, none⟩ = some (.slice A0_1 l0_1.length c0_1) ∧ w35.cell? ⟨gb466, 0, none⟩ = some (.int .i64 a2_0) ∧ w35.cell? ⟨gb466, 1, none⟩ = some (.int .i64 a2_1) ∧ w35.cell? ⟨gb466, 2, none⟩ = some (.string a2_2) ∧ w35.cell? ⟨gb466, 3, none⟩ = some (.string a2_3) ∧ w35.cell? ⟨gb466, 4, none⟩ = some (.bool a2_4) := hS_
     obtain ⟨Ao38, co38, eo38⟩ := Kd.R_slice HO490.out
     (first | subst eo38 | (injection eo38 with f1_ f2_ f3_; have f4_ := f1_.symm; have f5_ := f3_.symm; clear f1_ f2_ f3_; subst f4_; subst f5_))
     obtain ⟨Ao41, co41, eo41⟩ := Kd.V_slice HO494.out
     (first | subst eo41 | (injection eo41 with f1_ f2_ f3_; have f4_ := f1_.symm; have f5_ := f3_.symm; clear f1_ f2_ f3_; subst f4_; subst f5_))
     refine norm_ (a' := ?_) ?_ ?_
     rotate_left
     ·simp only [putAll, Act.put, sA, sZ, sS]
      rfl
     refine one_ (i := 10) (N := none) b21_ rfl rfl (one_of HT_.out (by kernel_rfl)) (by decide) (fun K hK => ?_)
     have hs36 : w35.cell? ⟨gb497, 0, none⟩ = some (.int .i64 0) := (bC BK497.out 0).trans rfl
     have hfs36 := bF BK497.out 0
     have hns36_0 := NB465_497.out
     have hns36_1 := NB466_497.out
     have hns36_2 := NB480_497.out
     have hms36_0 := NB497_465.out
     have hms36_1 := NB497_466.out
     have hms36_2 := NB497_480.out
     have hs37 : w35.cell? ⟨gb497, 1, none⟩ = some (.string (⟨#[]⟩ : ByteArray)) := (bC BK497.out 1).trans rfl
     have hfs37 := bF BK497.out 1
     have hns37_0 := NB465_497.out
     have hns37_1 := NB466_497.out
     have hns37_2 := NB480_497.out
     have hms37_0 := NB497_465.out
     have hms37_1 := NB497_466.out
     have hms37_2 := NB497_480.out
     have hs39 : w35.cell? ⟨gb497, 2, none⟩ = some (.slice none 0 0) := (bC BK497.out 2).trans rfl
     have hfs39 := bF BK497.out 2
     have hns39_0 := NB465_497.out
     have hns39_1 := NB466_497.out
     have hns39_2 := NB480_497.out
     have hms39_0 := NB497_465.out
     have hms39_1 := NB497_466.out
     have hms39_2 := NB497_480.out
     have hs40 : w35.cell? ⟨gb497, 3, none⟩ = some (.string (⟨#[]⟩ : ByteArray)) := (bC BK497.out 3).trans rfl
     have hfs40 := bF BK497.out 3
     have hns40_0 := NB465_497.out
     have hns40_1 := NB466_497.out
     have hns40_2 := NB480_497.out
     have hms40_0 := NB497_465.out
     have hms40_1 := NB497_466.out
     have hms40_2 := NB497_480.out
     have hs42 : w35.cell? ⟨gb497, 4, none⟩ = some (.slice none 0 0) := (bC BK497.out 4).trans rfl
     have hfs42 := bF BK497.out 4
     have hns42_0 := NB465_497.out
     have hns42_1 := NB466_497.out
     have hns42_2 := NB480_497.out
     have hms42_0 := NB497_465.out
     have hms42_1 := NB497_466.out
     have hms42_2 := NB497_480.out
     refine skip_ (w1 := ?_) (by rfl) rfl ?_ ?_
     rotate_left
     ·go_simp
      rfl
     refine hK.out _ _ ⟨((cell_far (p := ⟨gb497, _, none⟩) NB465_497.out _).trans (((cell_far (p := ⟨gb497, _, none⟩) NB465_497.out _).trans (((cell_far (p := ⟨gb497, _, none⟩) NB465_497.out _).trans (((cell_far (p := ⟨gb497, _, none⟩) NB465_497.out _).trans (((cell_far (p := ⟨gb497, _, none⟩) NB465_497.out _).trans (hHeld.1)))))))))), ((cell_far (p := ⟨gb497, _, none⟩) NB465_497.out _).trans (((cell_far (p := ⟨gb497, _, none⟩) NB465_497.out _).trans (((cell_far (p := ⟨gb497, _, none⟩) NB465_497.out _).trans (((cell_far (p := ⟨gb497, _, none⟩) NB465_497.out _).trans (((cell_far (p := ⟨gb497, _, none⟩) NB465_497.out _).trans (hHeld.2.1)))))))))), ((cell_far (p := ⟨gb497, _, none⟩) NB466_497.out _).trans (((cell_far (p := ⟨gb497, _, none⟩) NB466_497.out _).trans (((cell_far (p := ⟨gb497, _, none⟩) NB466_497.out _).trans (((cell_far (p := ⟨gb497, _, none⟩) NB466_497.out _).trans (((cell_far (p := ⟨gb497, _, none⟩) NB466_497.out _).trans (hHeld.2.2.1)))))))))), ((cell_far (p := ⟨gb497, _, none⟩) NB466_497.out _).trans (((cell_far (p := ⟨gb497, _, none⟩) NB466_497.out _).trans (((cell_far (p := ⟨gb497, _, none⟩) NB466_497.out _).trans (((cell_far (p := ⟨gb497, _, none⟩) NB466_497.out _).trans (((cell_far (p := ⟨gb497, _, none⟩) NB466_497.out _).trans (hHeld.2.2.2.1)))))))))), ((cell_far (p := ⟨gb497, _, none⟩) NB466_497.out _).trans (((cell_far (p := ⟨gb497, _, none⟩) NB466_497.out _).trans (((cell_far (p := ⟨gb497, _, none⟩) NB466_497.out _).trans (((cell_far (p := ⟨gb497, _, none⟩) NB466_497.out _).trans (((cell_far (p := ⟨gb497, _, none⟩) NB466_497.out _).trans (hHeld.2.2.2.2.1)))))))))), ((cell_far (p := ⟨gb497, _, none⟩) NB466_497.out _).trans (((cell_far (p := ⟨gb497, _, none⟩) NB466_497.out _).trans (((cell_far (p := ⟨gb497, _, none⟩) NB466_497.out _).trans (((cell_far (p := ⟨gb497, _, none⟩) NB466_497.out _).trans (((cell_far (p := ⟨gb497, _, none⟩) NB466_497.out _).trans (hHeld.2.2.2.2.2.1)))))))))), ((cell_far (p := ⟨gb497, _, none⟩) NB466_497.out _).trans (((cell_far (p := ⟨gb497, _, none⟩) NB466_497.out _).trans (((cell_far (p := ⟨gb497, _, none⟩) NB466_497.out _).trans (((cell_far (p := ⟨gb497, _, none⟩) NB466_497.out _).trans (((cell_far (p := ⟨gb497, _, none⟩) NB466_497.out _).trans (hHeld.2.2.2.2.2.2))))))))))⟩ (fun hHeld => ?_)
     clear hK K
     refine pv 11 11 b22_ HT_ ?_
     refine pv 12 12 b23_ HT_ ?_
     refine done_ (done_of HT_.out (by kernel_rfl)) ?_
     have hnb43 := NB480_497.out
     have hnc43 := NB497_480.out
     have hcz44_0 := zC BK480.out 0 (.int .i64 t469)
     have hcz44_1 := zC BK480.out 1 (.string t470)
     have hcz44_2 := zC BK480.out 2 (.slice Ao28 t471.length co28)
     have hcz44_3 := zC BK480.out 3 (.string t474)
     have hcz44_4 := zC BK480.out 4 (.slice Ao29 t475.length co29)
     have hfz44_0 := bF BK480.out 0
     have hfz44_1 := bF BK480.out 1
     have hfz44_2 := bF BK480.out 2
     have hfz44_3 := bF BK480.out 3
     have hfz44_4 := bF BK480.out 4
     have hnb45 := NB497_465.out
     have hnc45 := NB465_497.out
     have hnb46 := NB497_466.out
     have hnc46 := NB466_497.out
     have hcz47_0 := zC BK497.out 0 (.int .i64 0)
     have hcz47_1 := zC BK497.out 1 (.string (⟨#[]⟩ : ByteArray))
     have hcz47_2 := zC BK497.out 2 (.slice none 0 0)
     have hcz47_3 := zC BK497.out 3 (.string (⟨#[]⟩ : ByteArray))
     have hcz47_4 := zC BK497.out 4 (.slice none 0 0)
     have hfz47_0 := bF BK497.out 0
     have hfz47_1 := bF BK497.out 1
     have hfz47_2 := bF BK497.out 2
     have hfz47_3 := bF BK497.out 3
     have hfz47_4 := bF BK497.out 4
     try go_wp2_with (first | ((with_reducible refine gate_callee (f := 13) rfl ?_); refine goesL_ (some 38) rfl rfl Try.func13 (by kernel_rfl) rfl #[.agg #[.int .i64 t469, .string t470, .slice Ao28 t471.length co28, .string t474, .slice Ao29 t475.length co29], .agg #[.int .i64 t486, .string t487, .slice Ao38 t488.length co38, .string t491, .slice Ao41 t492.length co41]] rfl (by (try simp only [mT, mC, mN]); first | done | rfl | (simp only [lD, lT]; rfl)) ?_; (with_reducible refine (bureauref07_Same.calls k t469 t470 _ _ t471 t474 _ _ t475 t486 t487 _ _ t488 t491 _ _ t492 true _ ?side1 ?side2 ?side3 ?side4 ?side5 ?side6 ?side7 ?side8 A11.out).mono ?_); (case side1 => refine (rR (e := 51) (base := w.heap.size) (ok := fun k_ => (some k_ ≠ (.slice Ao29 t475.length co29 : Value).ownBlock ∧ some k_ ≠ (.slice Ao38 t488.length co38 : Value).ownBlock)) (n := t471.length) (c := co28) ?_).2.2; exact (by (with_reducible repeat (first | apply ra | apply rn | apply rd_)); exact (rM (rF (p := ⟨gb497, 4, none⟩) (rF (p := ⟨gb497, 3, none⟩) (rF (p := ⟨gb497, 2, none⟩) (rF (p := ⟨gb497, 1, none⟩) (rF (p := ⟨gb497, 0, none⟩) (rT HO473.out BK497.out (by decide)) (fun _ hk => hk.2) (.int .i64 t486)) (fun _ hk => hk.2) (.string t487)) (fun _ hk => hk.2) (.slice Ao38 t488.length co38)) (fun _ hk => hk.2) (.string t491)) (fun _ hk => hk.2) (.slice Ao41 t492.length co41)) (fun _ h_ => h_.1)))); (case side2 => exact (rR HO473.out).2.1); (case side3 => refine (rR (e := 51) (base := w.heap.size) (ok := fun k_ => (some k_ ≠ (.slice Ao28 t471.length co28 : Value).ownBlock ∧ some k_ ≠ (.slice Ao38 t488.length co38 : Value).ownBlock)) (n := t475.length) (c := co29) ?_).2.2; exact (by (with_reducible repeat (first | apply ra | apply rn | apply rd_)); exact (rM (rF (p := ⟨gb497, 4, none⟩) (rF (p := ⟨gb497, 3, none⟩) (rF (p := ⟨gb497, 2, none⟩) (rF (p := ⟨gb497, 1, none⟩) (rF (p := ⟨gb497, 0, none⟩) (rT HO477.out BK497.out (by decide)) (fun _ hk => hk.2) (.int .i64 t486)) (fun _ hk => hk.2) (.string t487)) (fun _ hk => hk.2) (.slice Ao38 t488.length co38)) (fun _ hk => hk.2) (.string t491)) (fun _ hk => hk.2) (.slice Ao41 t492.length co41)) (fun _ h_ => h_.1)))); (case side4 => exact (rR HO477.out).2.1); (case side5 => refine (rR (e := 51) (base := w.heap.size) (ok := fun k_ => (some k_ ≠ (.slice Ao28 t471.length co28 : Value).ownBlock ∧ some k_ ≠ (.slice Ao29 t475.length co29 : Value).ownBlock)) (n := t488.length) (c := co38) ?_).2.2; exact (by (with_reducible repeat (first | apply ra | apply rn | apply rd_)); exact (rM (rF (p := ⟨gb497, 4, none⟩) (rF (p := ⟨gb497, 3, none⟩) (rF (p := ⟨gb497, 2, none⟩) (rF (p := ⟨gb497, 1, none⟩) (rF (p := ⟨gb497, 0, none⟩) (rT HO490.out BK497.out (by decide)) (fun _ hk => hk.2) (.int .i64 t486)) (fun _ hk => hk.2) (.string t487)) (fun _ hk => hk.2) (.slice Ao38 t488.length co38)) (fun _ hk => hk.2) (.string t491)) (fun _ hk => hk.2) (.slice Ao41 t492.length co41)) (fun _ h_ => h_.1)))); (case side6 => exact (rR HO490.out).2.1); (case side7 => refine (Kd.V_reads' (e := 51) (base := w.heap.size) (ok := fun k_ => (some k_ ≠ (.slice Ao28 t471.length co28 : Value).ownBlock ∧ (some k_ ≠ (.slice Ao29 t475.length co29 : Value).ownBlock ∧ (some k_ ≠ (.slice Ao38 t488.length co38 : Value).ownBlock ∧ (k_ ≠ gb465 ∧ (k_ ≠ gb466 ∧ (k_ ≠ gb480 ∧ k_ ≠ gb497))))))) (n := t492.length) (c := co41) ?_).2.2; exact (by (with_reducible repeat (first | apply va | apply vn | apply vd)); exact (Kd.V_mono (Kd.V_far (p := ⟨gb497, 4, none⟩) (Kd.V_far (p := ⟨gb497, 3, none⟩) (Kd.V_far (p := ⟨gb497, 2, none⟩) (Kd.V_far (p := ⟨gb497, 1, none⟩) (Kd.V_far (p := ⟨gb497, 0, none⟩) (Kd.V_mono HO494.out (fun k_ hk => (⟨hk, hk.2.2.2.2.2.2⟩ : _ ∧ k_ ≠ gb497))) (fun _ hk => hk.2) (.int .i64 t486)) (fun _ hk => hk.2) (.string t487)) (fun _ hk => hk.2) (.slice Ao38 t488.length co38)) (fun _ hk => hk.2) (.string t491)) (fun _ hk => hk.2) (.slice Ao41 t492.length co41)) (fun _ h_ => h_.1)))); (case side8 => exact (Kd.V_reads' HO494.out).2.1); rintro e w48 ⟨rfl, hb⟩; refine ⟨_, rfl, ?_⟩; have n0_ := aM (Kd.R_below (by (with_reducible repeat (first | apply ra | apply rn | apply rd_)); exact (rM (rF (p := ⟨gb497, 4, none⟩) (rF (p := ⟨gb497, 3, none⟩) (rF (p := ⟨gb497, 2, none⟩) (rF (p := ⟨gb497, 1, none⟩) (rF (p := ⟨gb497, 0, none⟩) (rT HO473.out BK497.out (by decide)) (fun _ hk => hk.2) (.int .i64 t486)) (fun _ hk => hk.2) (.string t487)) (fun _ hk => hk.2) (.slice Ao38 t488.length co38)) (fun _ hk => hk.2) (.string t491)) (fun _ hk => hk.2) (.slice Ao41 t492.length co41)) (fun _ h_ => h_.1))) hb); have n1_ := aM (Kd.R_below (by (with_reducible repeat (first | apply ra | apply rn | apply rd_)); exact (rM (rF (p := ⟨gb497, 4, none⟩) (rF (p := ⟨gb497, 3, none⟩) (rF (p := ⟨gb497, 2, none⟩) (rF (p := ⟨gb497, 1, none⟩) (rF (p := ⟨gb497, 0, none⟩) (rT HO477.out BK497.out (by decide)) (fun _ hk => hk.2) (.int .i64 t486)) (fun _ hk => hk.2) (.string t487)) (fun _ hk => hk.2) (.slice Ao38 t488.length co38)) (fun _ hk => hk.2) (.string t491)) (fun _ hk => hk.2) (.slice Ao41 t492.length co41)) (fun _ h_ => h_.1))) hb); have n2_ := aM (Kd.R_below (by (with_reducible repeat (first | apply ra | apply rn | apply rd_)); exact (rM (rF (p := ⟨gb497, 4, none⟩) (rF (p := ⟨gb497, 3, none⟩) (rF (p := ⟨gb497, 2, none⟩) (rF (p := ⟨gb497, 1, none⟩) (rF (p := ⟨gb497, 0, none⟩) (rT HO490.out BK497.out (by decide)) (fun _ hk => hk.2) (.int .i64 t486)) (fun _ hk => hk.2) (.string t487)) (fun _ hk => hk.2) (.slice Ao38 t488.length co38)) (fun _ hk => hk.2) (.string t491)) (fun _ hk => hk.2) (.slice Ao41 t492.length co41)) (fun _ h_ => h_.1))) hb); have n3_ := aM (Kd.V_below (by (with_reducible repeat (first | apply va | apply vn | apply vd)); exact (Kd.V_mono (Kd.V_far (p := ⟨gb497, 4, none⟩) (Kd.V_far (p := ⟨gb497, 3, none⟩) (Kd.V_far (p := ⟨gb497, 2, none⟩) (Kd.V_far (p := ⟨gb497, 1, none⟩) (Kd.V_far (p := ⟨gb497, 0, none⟩) (Kd.V_mono HO494.out (fun k_ hk => (⟨hk, hk.2.2.2.2.2.2⟩ : _ ∧ k_ ≠ gb497))) (fun _ hk => hk.2) (.int .i64 t486)) (fun _ hk => hk.2) (.string t487)) (fun _ hk => hk.2) (.slice Ao38 t488.length co38)) (fun _ hk => hk.2) (.string t491)) (fun _ hk => hk.2) (.slice Ao41 t492.length co41)) (fun _ h_ => h_.1))) hb); have n4_ := aM (bB (g := gb465) (o := .cells #[.string a0_0, .slice A0_1 l0_1.length c0_1] 24 (0, 0)) (by (with_reducible repeat (first | apply qn | apply qd | apply qa)); refine bR ?_ NB465_497.out _; (with_reducible repeat (first | apply qn | apply qd | apply qa)); refine bR ?_ NB465_497.out _; (with_reducible repeat (first | apply qn | apply qd | apply qa)); refine bR ?_ NB465_497.out _; (with_reducible repeat (first | apply qn | apply qd | apply qa)); refine bR ?_ NB465_497.out _; (with_reducible repeat (first | apply qn | apply qd | apply qa)); refine bR ?_ NB465_497.out _; exact qy BK465.out) hb); have n5_ := aM (bB (g := gb466) (o := .cells #[.int .i64 a2_0, .int .i64 a2_1, .string a2_2, .string a2_3, .bool a2_4] 28 (0, 0)) (by (with_reducible repeat (first | apply qn | apply qd | apply qa)); refine bR ?_ NB466_497.out _; (with_reducible repeat (first | apply qn | apply qd | apply qa)); refine bR ?_ NB466_497.out _; (with_reducible repeat (first | apply qn | apply qd | apply qa)); refine bR ?_ NB466_497.out _; (with_reducible repeat (first | apply qn | apply qd | apply qa)); refine bR ?_ NB466_497.out _; (with_reducible repeat (first | apply qn | apply qd | apply qa)); refine bR ?_ NB466_497.out _; exact qy BK466.out) hb); have n6_ := aM (bB (g := gb480) (o := .cells #[.int .i64 t469, .string t470, .slice Ao28 t471.length co28, .string t474, .slice Ao29 t475.length co29] 32 (0, 0)) (by (with_reducible repeat (first | apply qn | apply qd | apply qa)); refine bR ?_ NB480_497.out _; (with_reducible repeat (first | apply qn | apply qd | apply qa)); refine bR ?_ NB480_497.out _; (with_reducible repeat (first | apply qn | apply qd | apply qa)); refine bR ?_ NB480_497.out _; (with_reducible repeat (first | apply qn | apply qd | apply qa)); refine bR ?_ NB480_497.out _; (with_reducible repeat (first | apply qn | apply qd | apply qa)); refine bR ?_ NB480_497.out _; exact qy BK480.out) hb); have n7_ := aM (bB (g := gb497) (o := .cells #[.int .i64 t486, .string t487, .slice Ao38 t488.length co38, .string t491, .slice Ao41 t492.length co41] 32 (0, 0)) (by (with_reducible repeat (first | apply qn | apply qd | apply qa)); refine bU (cs := #[.int .i64 t486, .string t487, .slice Ao38 t488.length co38, .string t491, .slice none 0 0]) ?_ 4 _ rfl; (with_reducible repeat (first | apply qn | apply qd | apply qa)); refine bU (cs := #[.int .i64 t486, .string t487, .slice Ao38 t488.length co38, .string (⟨#[]⟩ : ByteArray), .slice none 0 0]) ?_ 3 _ rfl; (with_reducible repeat (first | apply qn | apply qd | apply qa)); refine bU (cs := #[.int .i64 t486, .string t487, .slice none 0 0, .string (⟨#[]⟩ : ByteArray), .slice none 0 0]) ?_ 2 _ rfl; (with_reducible repeat (first | apply qn | apply qd | apply qa)); refine bU (cs := #[.int .i64 t486, .string (⟨#[]⟩ : ByteArray), .slice none 0 0, .string (⟨#[]⟩ : ByteArray), .slice none 0 0]) ?_ 1 _ rfl; (with_reducible repeat (first | apply qn | apply qd | apply qa)); refine bU (cs := #[.int .i64 0, .string (⟨#[]⟩ : ByteArray), .slice none 0 0, .string (⟨#[]⟩ : ByteArray), .slice none 0 0]) ?_ 0 _ rfl; exact qy BK497.out) hb); have n8_ := aM (bP (by repeat (first | (with_reducible first | exact HB.out | apply ea | apply en | apply ed | refine es ?_ GE465.out | refine es ?_ GE466.out | refine es ?_ GE480.out | refine es ?_ GE497.out) | exact HB.out)) hb); clear HO473 HO477 HO490 HO494 BK465 BK466 BK480 BK497 HB; have HO473 := n0_; have HO477 := n1_; have HO490 := n2_; have HO494 := n3_; have BK465 := n4_; have BK466 := n5_; have BK480 := n6_; have BK497 := n7_; have HB := n8_; clear n0_ n1_ n2_ n3_ n4_ n5_ n6_ n7_ n8_; (try clear hb); (try clear hb2); (try clear hk); (try clear hi)))
     go_ret
     exact ⟨by first | rfl | (simp [errW_none, errW_some] <;> rfl) | (simp [*, errW_none, errW_some] <;> rfl), by repeat (first | (with_reducible first | exact HB.out | apply ea | apply en | apply ed | refine es ?_ GE465.out | refine es ?_ GE466.out | refine es ?_ GE480.out | refine es ?_ GE497.out) | exact HB.out)⟩
    ·rw [if_neg c13] at H
     have c13b0 : (t478 == t495) = false := beq_eq_false_iff_ne.mpr c13
     have c13b1 : (t478 != t495) = true := bne_iff_ne.mpr c13
     exact absurd (Option.some.inj H) (by rw [hrt]; decide)
   ·replace c12 := Bool.eq_false_iff.mpr c12
    subst c12
    have H1 : (some false) = some r := by rw [if_neg (show ¬ (false = true) by decide)] at H; exact H
    clear H
    have H := H1
    clear H1
    exact absurd (Option.some.inj H) (by rw [hrt]; decide)
  ·replace c7 := Bool.eq_false_iff.mpr c7
   subst c7
   have H1 : (some true) = some r := by rw [if_neg (show ¬ (false = true) by decide)] at H; exact H
   clear H
   have H := H1
   clear H1
   obtain rfl := Option.some.inj H
   go_enter Try.func3, Try.ntmps3
   go_wp2_with (first | ((with_reducible refine gate_dst (N := 3) rfl ?_); refine box_event ?hg (N := 3) ?hd (cs := #[.string a0_0, .slice A0_1 l0_1.length c0_1]) (t := 24) ?hr ?_; (case hd | hg => rfl); (case hr => first | (go_simp; done) | (go_simp; rfl)); intro gb465 hg w119 hbox hb; have n0_ := aM (bP (ey HB.out) hb); have n1_ := aM (hbox); have n2_ := aM ((by rw [hg]; exact (bZ (ey HB.out)) : w.heap.size ≤ gb465)); have n3_ := n2_; clear HB; have HB := n0_; have BK465 := n1_; have GW465 := n2_; have GE465 := n3_; clear n0_ n1_ n2_ n3_; clear hb hbox hg) | ((with_reducible refine gate_dst (N := 5) rfl ?_); refine box_event ?hg (N := 5) ?hd (cs := #[.int .i64 a2_0, .int .i64 a2_1, .string a2_2, .string a2_3, .bool a2_4]) (t := 28) ?hr ?_; (case hd | hg => rfl); (case hr => first | (go_simp; done) | (go_simp; rfl)); intro gb466 hg w120 hbox hb; have n0_ := aM (bB (g := gb465) (qy BK465.out) hb); have n1_ := aM (bP (by repeat (first | (with_reducible first | exact HB.out | apply ea | apply en | apply ed | refine es ?_ GE465.out) | exact HB.out)) hb); have n2_ := aM (hbox); have n3_ := aM ((by rw [hg]; exact (bZ (by repeat (first | (with_reducible first | exact HB.out | apply ea | apply en | apply ed | refine es ?_ GE465.out) | exact HB.out))) : w.heap.size ≤ gb466)); have n4_ := n3_; have n5_ := aM ((by rw [hg]; exact Nat.ne_of_lt (blk_lt (g := gb465) (qy BK465.out)) : gb465 ≠ gb466)); have n6_ := aM ((by rw [hg]; exact Nat.ne_of_gt (blk_lt (g := gb465) (qy BK465.out)) : gb466 ≠ gb465)); clear BK465 HB; have BK465 := n0_; have HB := n1_; have BK466 := n2_; have GW466 := n3_; have GE466 := n4_; have NB465_466 := n5_; have NB466_465 := n6_; clear n0_ n1_ n2_ n3_ n4_ n5_ n6_; clear hb hbox hg) | ((with_reducible refine gate_callee (f := 8) rfl ?_); refine goesL_ (some 13) rfl rfl Try.func8 (by kernel_rfl) rfl #[] rfl (by (try simp only [mT, mC, mN]); first | done | rfl | (simp only [lD, lT]; rfl)) ?_; (with_reducible refine (bureaulaw15_alive.calls k  true _ ?mx20 A4.out).mono ?_); (case mx20 => exact MaxOk.below HMX.out (by repeat (first | (with_reducible first | exact HB.out | apply ea | apply en | apply ed | refine es ?_ GE465.out | refine es ?_ GE466.out) | exact HB.out))); rintro e w121 ⟨rfl, hb⟩; refine ⟨_, rfl, ?_⟩; have n0_ := aM (bB (g := gb465) (qy BK465.out) hb); have n1_ := aM (bB (g := gb466) (qy BK466.out) hb); have n2_ := aM (bP (by repeat (first | (with_reducible first | exact HB.out | apply ea | apply en | apply ed | refine es ?_ GE465.out | refine es ?_ GE466.out) | exact HB.out)) hb); clear BK465 BK466 HB; have BK465 := n0_; have BK466 := n1_; have HB := n2_; clear n0_ n1_ n2_; (try clear hb); (try clear hb2); (try clear hk); (try clear hi); have hnb122 := NB465_466.out; have hnc122 := NB466_465.out; have hcz123_0 := zC BK465.out 0 (.string a0_0); have hcz123_1 := zC BK465.out 1 (.slice A0_1 l0_1.length c0_1); have hfz123_0 := bF BK465.out 0; have hfz123_1 := bF BK465.out 1; have hcz124_0 := zC BK466.out 0 (.int .i64 a2_0); have hcz124_1 := zC BK466.out 1 (.int .i64 a2_1); have hcz124_2 := zC BK466.out 2 (.string a2_2); have hcz124_3 := zC BK466.out 3 (.string a2_3); have hcz124_4 := zC BK466.out 4 (.bool a2_4); have hfz124_0 := bF BK466.out 0; have hfz124_1 := bF BK466.out 1; have hfz124_2 := bF BK466.out 2; have hfz124_3 := bF BK466.out 3; have hfz124_4 := bF BK466.out 4) | ((with_reducible refine gate_callee (f := 9) rfl ?_); refine goesL_ (some 17) rfl rfl Try.func9 (by kernel_rfl) rfl #[.agg #[.string a0_0, .slice A0_1 l0_1.length c0_1], .agg #[.int .i64 a2_0, .int .i64 a2_1, .string a2_2, .string a2_3, .bool a2_4]] rfl (by (try simp only [mT, mC, mN]); first | done | rfl | (simp only [lD, lT]; rfl)) ?_; (with_reducible refine (bureaulaw15_fits.calls a0_0 _ _ l0_1 a2_0 a2_1 a2_2 a2_3 a2_4 false _ ?side1 ?side2 A6.out).mono ?_); (case side1 => repeat (first | exact (cB_ HR0_1.out HB.out) | (with_reducible refine Kd.C_alloc ?_ _) | (with_reducible refine Kd.C_drewN ?_ _) | (with_reducible refine Kd.C_drew ?_))); (case side2 => exact HC0_1.out); rintro e w125 ⟨rfl, hb⟩; refine ⟨_, rfl, ?_⟩; have n0_ := aM (bB (g := gb465) (qy BK465.out) hb); have n1_ := aM (bB (g := gb466) (qy BK466.out) hb); have n2_ := aM (bP (by repeat (first | (with_reducible first | exact HB.out | apply ea | apply en | apply ed | refine es ?_ GE465.out | refine es ?_ GE466.out) | exact HB.out)) hb); clear BK465 BK466 HB; have BK465 := n0_; have BK466 := n1_; have HB := n2_; clear n0_ n1_ n2_; (try clear hb); (try clear hb2); (try clear hk); (try clear hi)))
   go_ret
   exact ⟨by first | rfl | (simp [errW_none, errW_some] <;> rfl) | (simp [*, errW_none, errW_some] <;> rfl), by repeat (first | (with_reducible first | exact HB.out | apply ea | apply en | apply ed | refine es ?_ GE465.out | refine es ?_ GE466.out) | exact HB.out)⟩
 ·replace c5 := Bool.eq_false_iff.mpr c5
  subst c5
  have H1 : (some false) = some r := by rw [if_neg (show ¬ (false = true) by decide)] at H; exact H
  clear H
  have H := H1
  clear H1
  exact absurd (Option.some.inj H) (by rw [hrt]; decide)
end Go.Proofs.Ytnbdldpjiofafaa.PB
end

section
namespace Go.Proofs.Ytnbdldpjiofafaa.PB
open Go.Proofs.YtnbdldpjiofafaaW.PrintWords
theorem Ev.pos {α : Type} {c : Prop} [Decidable c] {A B : Nat → Option α} {r : α} (h : c) (k : Ev A r) : Ev (fun n => if c then A n else B n) r := by
  obtain ⟨K, hK⟩ := k
  exact ⟨K, fun n hn => by show (if c then A n else B n) = _; rw [if_pos h]; exact hK n hn⟩
theorem Ev.neg {α : Type} {c : Prop} [Decidable c] {A B : Nat → Option α} {r : α} (h : ¬ c) (k : Ev B r) : Ev (fun n => if c then A n else B n) r := by
  obtain ⟨K, hK⟩ := k
  exact ⟨K, fun n hn => by show (if c then A n else B n) = _; rw [if_neg h]; exact hK n hn⟩
theorem Ev.ite {α : Type} {c : Prop} [Decidable c] {A B : Nat → Option α} {r s : α} (h1 : c → Ev A r) (h2 : ¬ c → Ev B s) : Ev (fun n => if c then A n else B n) (if c then r else s) := by
  by_cases h : c
  · rw [if_pos h]; exact Ev.pos h (h1 h)
  · rw [if_neg h]; exact Ev.neg h (h2 h)
theorem Ev.ite' {α : Type} {c : Prop} [Decidable c] {A B : Nat → Option α} {r : α} (h1 : c → Ev A r) (h2 : ¬ c → Ev B r) : Ev (fun n => if c then A n else B n) r := by
  by_cases h : c
  · exact Ev.pos h (h1 h)
  · exact Ev.neg h (h2 h)
theorem ev_val {α : Type} {g : Nat → Option α} {a b : α} (h : Ev g a) (e : a = b) : Ev g b := e ▸ h
end Go.Proofs.Ytnbdldpjiofafaa.PB
end

section
namespace Go.Proofs.Ytnbdldpjiofafaa.PB
open Go.RowKit Go.Proofs.YtnbdldpjiofafaaW.PrintWords
set_option linter.unusedVariables false
theorem w1n {i n : Nat} (h : i < n) (hn : n ≤ 1000000000000000) : wrap64 ((i : Int) + 1) = ((i + 1 : Nat) : Int) := by unfold wrap64; omega
def lineEnds : List UInt8 → Nat → List Nat
 | [], i => [i]
 | x :: r, i => if x = 10 then i :: lineEnds r (i + 1) else lineEnds r (i + 1)
def ends (v : ByteArray) : List Nat := lineEnds v.data.toList 0
def lineFrom (v : ByteArray) (n : Nat) : Nat := if n = 0 then 0 else (ends v).getD (n - 1) 0 + 1
def lineTo (v : ByteArray) (n : Nat) : Nat := (ends v).getD n 0
theorem lineEnds_ne (l : List UInt8) (i : Nat) : 1 ≤ (lineEnds l i).length := by
 induction l generalizing i with
 | nil => simp [lineEnds]
 | cons x r ih => unfold lineEnds; split; simp; exact ih _
theorem lineEnds_len : ∀ (l : List UInt8) (i : Nat), (lineEnds l i).length = l.count 10 + 1
 | [], i => rfl
 | x :: r, i => by
  unfold lineEnds
  split
  ·rename_i h; rw [List.length_cons, lineEnds_len r, h, List.count_cons_self]
  ·rename_i h; rw [lineEnds_len r, List.count_cons_of_ne h]
theorem le_none : ∀ (l : List UInt8) (a : Nat), (∀ c ∈ l, c ≠ 10) → lineEnds l a = [a + l.length]
 | [], a, _ => rfl
 | x :: r, a, h => by
  rw [lineEnds, if_neg (h x List.mem_cons_self), le_none r (a + 1) (fun c hc => h c (List.mem_cons_of_mem _ hc)), List.length_cons]
  congr 1; omega
theorem le_some : ∀ (o : Nat) (l : List UInt8) (a : Nat), l[o]? = some 10 → (∀ k, k < o → l[k]? ≠ some 10) → lineEnds l a = (a + o) :: lineEnds (l.drop (o + 1)) (a + o + 1)
 | 0, [], a, h, _ => by simp at h
 | 0, x :: r, a, h, _ => by
  have : x = 10 := by simpa using h
  rw [lineEnds, if_pos this]; rfl
 | o + 1, [], a, h, _ => by simp at h
 | o + 1, x :: r, a, h, hn => by
  have hx : x ≠ 10 := by have := hn 0 (by omega); simpa using this
  rw [lineEnds, if_neg hx, le_some o r (a + 1) (by simpa using h) (fun k hk => by have := hn (k + 1) (by omega); simpa using this)]
  rw [show a + 1 + o = a + (o + 1) by omega]; rfl
theorem ib_cases (l : List UInt8) : (Lib.indexByte l 10 = -1 ∧ ∀ c ∈ l, c ≠ 10) ∨ ∃ o : Nat, Lib.indexByte l 10 = (o : Int) ∧ o < l.length ∧ l[o]? = some 10 ∧ ∀ k, k < o → l[k]? ≠ some 10 := by
 have := Lib.indexByte_ge l 10
 rcases Int.lt_or_le (Lib.indexByte l 10) 0 with h | h
 ·have h1 : Lib.indexByte l 10 = -1 := by omega
  refine .inl ⟨h1, fun c hc e => ?_⟩
  obtain ⟨k, hk⟩ := List.getElem?_of_mem hc
  exact Lib.indexByte_none h1 k (by rw [hk, e])
 ·have h1 : Lib.indexByte l 10 = ((Lib.indexByte l 10).toNat : Int) := by omega
  obtain ⟨a, b⟩ := Lib.indexByte_some h1
  exact .inr ⟨_, h1, (List.getElem?_eq_some_iff.1 a).1, a, b⟩
theorem ends_drop (v : ByteArray) : ∀ (i : Nat), i < (ends v).length → lineFrom v i ≤ v.size ∧ (ends v).drop i = lineEnds (v.data.toList.drop (lineFrom v i)) (lineFrom v i)
 | 0, _ => ⟨Nat.zero_le _, rfl⟩
 | i + 1, h => by
  obtain ⟨h1, h2⟩ := ends_drop v i (by omega)
  have hsz : v.data.toList.length = v.size := (Lib.size_eq v).symm
  have hlen : ((ends v).drop i).length = (ends v).length - i := List.length_drop
  rcases ib_cases (v.data.toList.drop (lineFrom v i)) with ⟨_, hno⟩ | ⟨o, _, ho, ha, hb⟩
  ·rw [le_none _ _ hno] at h2
   rw [h2] at hlen
   simp at hlen
   omega
  ·rw [le_some o _ _ ha hb] at h2
   rw [List.length_drop] at ho
   have hg : (ends v).getD i 0 = lineFrom v i + o := by
    have := congrArg (fun q : List Nat => q.getD 0 0) h2
    simpa [List.getD_eq_getElem?_getD] using this
   have hf : lineFrom v (i + 1) = lineFrom v i + o + 1 := by
    unfold lineFrom at hg ⊢
    rw [if_neg (by omega), Nat.add_sub_cancel, hg]
   refine ⟨by omega, ?_⟩
   rw [hf]
   have := congrArg (List.drop 1) h2
   rw [List.drop_drop, List.drop_one, List.tail_cons, List.drop_drop] at this
   rw [this]
   congr 2
theorem line_last (v : ByteArray) (n : Nat) (h : n < (ends v).length) : (Lib.indexByte (v.data.toList.drop (lineFrom v n)) 10 = -1 ∧ lineTo v n = v.size ∧ n + 1 = (ends v).length) ∨
  ∃ o : Nat, Lib.indexByte (v.data.toList.drop (lineFrom v n)) 10 = (o : Int) ∧ lineTo v n = lineFrom v n + o ∧ lineFrom v n + o < v.size ∧ lineFrom v (n + 1) = lineFrom v n + o + 1 ∧ n + 1 < (ends v).length := by
 obtain ⟨h1, h2⟩ := ends_drop v n h
 have hsz : v.data.toList.length = v.size := (Lib.size_eq v).symm
 have hlen : ((ends v).drop n).length = (ends v).length - n := List.length_drop
 have hg : (ends v).getD n 0 = ((ends v).drop n).getD 0 0 := by simp [List.getD_eq_getElem?_getD]
 rcases ib_cases (v.data.toList.drop (lineFrom v n)) with ⟨hi, hno⟩ | ⟨o, hi, ho, ha, hb⟩
 ·rw [le_none _ _ hno] at h2
  rw [h2] at hlen hg
  refine .inl ⟨hi, ?_, by simp at hlen; omega⟩
  unfold lineTo
  rw [hg, List.length_drop]
  simp
  omega
 ·rw [le_some o _ _ ha hb] at h2
  rw [h2] at hlen hg
  rw [List.length_drop] at ho
  have hne := lineEnds_ne ((v.data.toList.drop (lineFrom v n)).drop (o + 1)) (lineFrom v n + o + 1)
  have hto : lineTo v n = lineFrom v n + o := by unfold lineTo; rw [hg]; rfl
  refine .inr ⟨o, hi, hto, by omega, ?_, by simp only [List.length_cons] at hlen; omega⟩
  unfold lineTo at hto
  have : lineFrom v (n + 1) = (ends v).getD n 0 + 1 := by unfold lineFrom; rw [if_neg (by omega), Nat.add_sub_cancel]
  omega
theorem line_range (v : ByteArray) (n : Nat) (h : n < (ends v).length) : lineFrom v n ≤ lineTo v n ∧ lineTo v n ≤ v.size := by
 have := (ends_drop v n h).1
 rcases line_last v n h with ⟨_, h2, _⟩ | ⟨o, _, h2, h3, _, _⟩ <;> omega
theorem line_next (v : ByteArray) (n : Nat) (h : n + 1 < (ends v).length) : lineFrom v (n + 1) = lineTo v n + 1 := by
 unfold lineFrom lineTo; rw [if_neg (by omega), Nat.add_sub_cancel]
theorem ends_len_le (v : ByteArray) : (ends v).length ≤ v.size + 1 := by
 unfold ends
 rw [lineEnds_len, Lib.size_eq v]
 have := List.count_le_length (a := (10 : UInt8)) (l := v.data.toList)
 omega
theorem count_ev (v : ByteArray) (hv : v.size ≤ 100000) : line_Count.f v = some ((ends v).length : Int) := by
 unfold line_Count.f strings_Count.f
 rw [if_pos (show (⟨#[10]⟩ : ByteArray).size = 1 from rfl), Option.bind_some]
 have h : Lib.countByte v.data.toList ((⟨#[10]⟩ : ByteArray).data.toList.getD 0 0) = ((v.data.toList.count 10 : Nat) : Int) := rfl
 have hl := ends_len_le v
 have he : (ends v).length = v.data.toList.count 10 + 1 := lineEnds_len _ _
 rw [h]
 congr 1
 unfold wrap64
 omega
theorem extract_rest (v : ByteArray) (a : Nat) : (v.extract a v.size).data.toList = v.data.toList.drop a := by
 rw [Lib.extract_data]
 rw [List.take_of_length_le]
 rw [List.length_drop, ← Lib.size_eq]
 exact Nat.le_refl _
theorem bounds_ev (v : ByteArray) (hv : v.size ≤ 100000) (n : Nat) (h : n < (ends v).length) : Ev (fun k => line_Bounds.f k v (n : Int)) ((lineFrom v n : Int), (lineTo v n : Int), 0) := by
 have hl := ends_len_le v
 unfold line_Bounds.f
 refine Ev.neg (by omega) ?_
 rw [count_ev v hv]
 refine Ev.bind (Ev.now _) ?_
 rw [decide_eq_false (by omega)]
 refine Ev.step (fun k => by simp only [line_Bounds.j0]; rfl) ?_
 refine Ev.neg (by simp) ?_
 have loop : ∀ (d i : Nat), i + d = n → Ev (fun k => line_Bounds.l0 k v (lineFrom v i : Int) (n : Int) (i : Int)) ((lineFrom v n : Int), (lineTo v n : Int), 0) := by
  intro d
  induction d with
  | zero =>
   intro i hi
   obtain rfl : i = n := by omega
   have hf := (ends_drop v i h).1
   refine Ev.step (fun k => by simp only [line_Bounds.l0]; rfl) ?_
   refine Ev.neg (by omega) (Ev.pos (by omega) (Ev.pos (by omega) ?_))
   unfold strings_IndexByte.f
   rw [Int.toNat_natCast, extract_rest, show (10 : Int).toNat.toUInt8 = 10 from rfl]
   refine Ev.bind (Ev.now _) ?_
   rcases line_last v i h with ⟨h1, h2, _⟩ | ⟨o, h1, h2, h3, _, _⟩
   ·rw [h1]
    refine Ev.pos (by decide) (ev_val (Ev.now _) ?_)
    rw [h2]
   ·rw [h1]
    refine Ev.neg (by omega) (ev_val (Ev.now _) ?_)
    rw [h2, show wrap64 ((lineFrom v i : Int) + (o : Int)) = ((lineFrom v i + o : Nat) : Int) by unfold wrap64; omega]
  | succ d ih =>
   intro i hi
   have hin : i < (ends v).length := by omega
   have hf := (ends_drop v i hin).1
   refine Ev.step (fun k => by simp only [line_Bounds.l0]; rfl) ?_
   refine Ev.pos (by omega) (Ev.pos (by omega) (Ev.pos (by omega) ?_))
   unfold strings_IndexByte.f
   rw [Int.toNat_natCast, extract_rest, show (10 : Int).toNat.toUInt8 = 10 from rfl]
   refine Ev.bind (Ev.now _) ?_
   rcases line_last v i hin with ⟨h1, h2, h3⟩ | ⟨o, h1, h2, h3, h4, _⟩
   ·omega
   ·have e1 : wrap64 ((o : Int) + 1) = ((o + 1 : Nat) : Int) := by unfold wrap64; omega
    have e2 : wrap64 ((lineFrom v i : Int) + ((o + 1 : Nat) : Int)) = ((lineFrom v i + o + 1 : Nat) : Int) := by generalize lineFrom v i = z at *; unfold wrap64; omega
    have hi1 := ih (i + 1) (by omega)
    rw [h4] at hi1
    rw [h1, e1, e2, w1n (show i < n by omega) (by omega)]
    exact hi1
 have := loop n 0 (by omega)
 rw [show lineFrom v 0 = 0 from rfl] at this
 exact this
theorem bt_list (v : ByteArray) (i : Nat) (h : i < v.size) : bt v (i : Int) = ((v.data.toList.getD i 0).toNat : Int) := by
 unfold bt
 rw [dif_pos (by rw [Int.toNat_natCast]; exact h)]
 congr 2
 rw [List.getD_eq_getElem?_getD, List.getElem?_eq_getElem (by rw [← Lib.size_eq]; exact h)]
 rfl
theorem rends_ev (v : ByteArray) (hv : v.size ≤ 100000) : Ev (fun k => bureauref06_Ends.f k v) ((ends v).map (fun i : Nat => (i : Int))) := by
 have hsz : v.data.toList.length = v.size := (Lib.size_eq v).symm
 have loop : ∀ (d i : Nat) (acc : List Int), i + d = v.size → acc.length ≤ i → Ev (fun k => bureauref06_Ends.l0 k v acc (i : Int)) (acc ++ (lineEnds (v.data.toList.drop i) i).map (fun i : Nat => (i : Int))) := by
  intro d
  induction d with
  | zero =>
   intro i acc hi ha
   refine Ev.step (fun k => by simp only [bureauref06_Ends.l0]; rfl) ?_
   refine Ev.neg (by omega) (Ev.pos (by omega) ?_)
   rw [List.drop_eq_nil_of_le (by omega)]
   exact ev_val (Ev.now _) (by simp [lineEnds]; omega)
  | succ d ih =>
   intro i acc hi ha
   have hlt : i < v.size := by omega
   refine Ev.step (fun k => by simp only [bureauref06_Ends.l0]; rfl) ?_
   refine Ev.pos (by omega) (Ev.pos (by omega) ?_)
   rw [bt_list v i hlt, w1n hlt (by omega)]
   have hd : v.data.toList.drop i = v.data.toList.getD i 0 :: v.data.toList.drop (i + 1) := by
    rw [List.drop_eq_getElem_cons (by omega), List.getD_eq_getElem?_getD, List.getElem?_eq_getElem (by omega)]; rfl
   rw [hd]
   generalize v.data.toList.getD i 0 = x
   by_cases hx : x = 10
   ·refine Ev.pos (by rw [hx]; rfl) (Ev.pos (by omega) (ev_val (ih (i + 1) (acc ++ [(i : Int)]) (by omega) (by simp; omega)) ?_))
    rw [lineEnds, if_pos hx]
    simp
   ·refine Ev.neg ?_ (ev_val (ih (i + 1) acc (by omega) (by omega)) ?_)
    ·intro he
     exact hx (UInt8.toNat_inj.1 (by rw [show x.toNat = 10 by omega]; rfl))
    ·rw [lineEnds, if_neg hx]
 exact loop v.size 0 [] (by omega) (by simp)
theorem rcount_ev (v : ByteArray) (hv : v.size ≤ 100000) : Ev (fun k => bureauref06_Count.f k v) ((ends v).length : Int) := by
 unfold bureauref06_Count.f
 exact Ev.bind (rends_ev v hv) (ev_val (Ev.now _) (by rw [List.length_map]))
theorem rd_map (l : List Nat) (i : Nat) : rd (l.map (fun i : Nat => (i : Int))) (i : Int) = ((l.getD i 0 : Nat) : Int) := by
 unfold rd
 rw [Int.toNat_natCast, List.getD_eq_getElem?_getD, List.getElem?_map, List.getD_eq_getElem?_getD]
 cases l[i]? <;> rfl
theorem rbounds_ev (v : ByteArray) (hv : v.size ≤ 100000) (n : Nat) (h : n < (ends v).length) : Ev (fun k => bureauref06_Bounds.f k v (n : Int)) ((lineFrom v n : Int), (lineTo v n : Int), 0) := by
 have hl := ends_len_le v
 unfold bureauref06_Bounds.f
 refine Ev.bind (rends_ev v hv) (Ev.neg (by omega) ?_)
 rw [List.length_map, decide_eq_false (by omega)]
 refine Ev.step (fun k => by simp only [bureauref06_Bounds.j0]; rfl) ?_
 refine Ev.neg (by simp) ?_
 have hr := line_range v n h
 by_cases hn : n = 0
 ·subst hn
  refine Ev.pos rfl (Ev.pos (by rw [List.length_map]; omega) (ev_val (Ev.now _) ?_))
  rw [show (0 : Int) = ((0 : Nat) : Int) from rfl, rd_map]
  rfl
 ·have e1 : wrap64 ((n : Int) - 1) = ((n - 1 : Nat) : Int) := by unfold wrap64; omega
  rw [e1]
  refine Ev.neg (by omega) (Ev.pos (by omega) (Ev.pos (by rw [List.length_map]; omega) (Ev.pos (by omega) (Ev.pos (by rw [List.length_map]; omega) (ev_val (Ev.now _) ?_)))))
  rw [rd_map, rd_map]
  have : lineFrom v n = (ends v).getD (n - 1) 0 + 1 := by unfold lineFrom; rw [if_neg hn]
  rw [this, show wrap64 ((((ends v).getD (n - 1) 0 : Nat) : Int) + 1) = (((ends v).getD (n - 1) 0 + 1 : Nat) : Int) by unfold wrap64; omega]
  rfl
end Go.Proofs.Ytnbdldpjiofafaa.PB
end

section
namespace Go.Proofs.Ytnbdldpjiofafaa.PB
set_option linter.unusedVariables false
def buildS {α : Type} (w r : List α) (m : Nat) : Nat → List Nat → Nat → List α
 | a, [], e => (w.take e).drop a
 | a, p :: ps, e => (w.take p).drop a ++ (r ++ buildS w r m (p + m) ps e)
def putS {α : Type} (r : List α) (m s : Nat) (p : Nat) (x : List α) : List α := x.take (p - s) ++ r ++ x.drop (p - s + m)
def spaced (m : Nat) : Nat → List Nat → Nat → Prop
 | a, [], e => a ≤ e
 | a, p :: ps, e => a ≤ p ∧ spaced m (p + m) ps e
theorem spaced_le {m : Nat} : ∀ {ps : List Nat} {a e : Nat}, spaced m a ps e → a ≤ e
 | [], _, _, h => h
 | p :: ps, a, e, h => by have := spaced_le h.2; have := h.1; omega
theorem spaced_mono {m : Nat} : ∀ {ps : List Nat} {a b e : Nat}, b ≤ a → spaced m a ps e → spaced m b ps e
 | [], _, _, _, h, k => Nat.le_trans h k
 | p :: ps, _, _, _, h, k => ⟨Nat.le_trans h k.1, k.2⟩
theorem spaced_app {m : Nat} : ∀ {ps qs : List Nat} {a b e : Nat}, spaced m a ps b → spaced m b qs e → spaced m a (ps ++ qs) e
 | [], qs, a, b, e, h, k => spaced_mono h k
 | p :: ps, qs, a, b, e, h, k => ⟨h.1, spaced_app h.2 k⟩
theorem spaced_len {m : Nat} (hm : 1 ≤ m) : ∀ {ps : List Nat} {a e : Nat}, spaced m a ps e → a + ps.length * m ≤ e
 | [], _, _, h => by simpa [spaced] using h
 | p :: ps, a, e, h => by
  have := spaced_len hm h.2
  have := h.1
  rw [List.length_cons, Nat.succ_mul]
  omega
theorem build_len {α : Type} (w r : List α) (m : Nat) : ∀ (ps : List Nat) (a e : Nat), e ≤ w.length → spaced m a ps e → (buildS w r m a ps e).length + ps.length * m = (e - a) + ps.length * r.length
 | [], a, e, he, h => by simp [buildS]; omega
 | p :: ps, a, e, he, h => by
  have ih := build_len w r m ps (p + m) e he h.2
  have hle := spaced_le h.2
  have := h.1
  simp only [buildS, List.length_append, List.length_drop, List.length_take, List.length_cons, Nat.succ_mul]
  omega
theorem take_drop_self {α : Type} (w : List α) (a b : Nat) (h : a ≤ b) : (w.take b).drop a ++ w.drop b = w.drop a := by
 conv => rhs; rw [← List.take_append_drop b w]
 by_cases hb : b ≤ w.length
 ·rw [List.drop_append_of_le_length (by rw [List.length_take]; omega)]
 ·rw [List.drop_eq_nil_of_le (show w.length ≤ b by omega), List.append_nil, List.append_nil]
theorem mid_split {α : Type} (w : List α) (a b c : Nat) (h1 : a ≤ b) (h2 : b ≤ c) : (w.take c).drop a = (w.take b).drop a ++ (w.take c).drop b := by
 have := take_drop_self (w.take c) a b h1
 rw [List.take_take, Nat.min_eq_left h2] at this
 exact this.symm
theorem put_build {α : Type} (w r : List α) (m s e : Nat) (he : e ≤ w.length) : ∀ (ps : List Nat) (a : Nat), s ≤ a → spaced m a ps e → ps.foldr (putS r m s) ((w.take e).drop s) = (w.take a).drop s ++ buildS w r m a ps e
 | [], a, hs, h => by rw [List.foldr_nil, buildS]; exact mid_split w s a e hs h
 | p :: ps, a, hs, h => by
  have hle := spaced_le h.2
  have hap := h.1
  rw [List.foldr_cons, put_build w r m s e he ps (p + m) (by omega) h.2]
  have l1 : ((w.take (p + m)).drop s).length = p + m - s := by rw [List.length_drop, List.length_take]; omega
  unfold putS
  rw [List.take_append_of_le_length (by omega), List.drop_append_of_le_length (by omega)]
  have e1 : ((w.take (p + m)).drop s).take (p - s) = (w.take p).drop s := by
   rw [List.take_drop, List.take_take, Nat.min_eq_left (by omega), show s + (p - s) = p by omega]
  have e2 : ((w.take (p + m)).drop s).drop (p - s + m) = [] := List.drop_eq_nil_of_le (by omega)
  rw [e1, e2, List.nil_append, buildS, mid_split w s a p hs hap]
  simp [List.append_assoc]
def scanP (every : Bool) (hit : Nat → Bool) (m e : Nat) : Nat → Nat → List Nat
 | 0, _ => []
 | d + 1, a => if a < e then (if hit a = true then a :: (if every = true then scanP every hit m e d (a + m) else []) else scanP every hit m e d (a + 1)) else []
theorem scanP_end (every : Bool) (hit : Nat → Bool) (m e : Nat) : ∀ (d a : Nat), e ≤ a → scanP every hit m e d a = []
 | 0, a, _ => rfl
 | d + 1, a, h => by rw [scanP, if_neg (by omega)]
theorem scanP_fuel (every : Bool) (hit : Nat → Bool) (m e : Nat) (hm : 1 ≤ m) : ∀ (d d' a : Nat), e - a ≤ d → e - a ≤ d' → scanP every hit m e d a = scanP every hit m e d' a
 | 0, d', a, h, _ => by rw [scanP_end _ _ _ _ d' a (by omega)]; rfl
 | d + 1, 0, a, _, h => by rw [scanP_end _ _ _ _ (d + 1) a (by omega)]; rfl
 | d + 1, d' + 1, a, h, h' => by
  rw [scanP, scanP]
  by_cases ha : a < e
  ·rw [if_pos ha, if_pos ha, scanP_fuel every hit m e hm d d' (a + m) (by omega) (by omega), scanP_fuel every hit m e hm d d' (a + 1) (by omega) (by omega)]
  ·rw [if_neg ha, if_neg ha]
def places (every : Bool) (hit : Nat → Bool) (m e a : Nat) : List Nat := scanP every hit m e (e - a) a
theorem places_end {every : Bool} {hit : Nat → Bool} {m e a : Nat} (h : e ≤ a) : places every hit m e a = [] := scanP_end _ _ _ _ _ _ h
theorem places_hit {every : Bool} {hit : Nat → Bool} {m e a : Nat} (hm : 1 ≤ m) (h : a < e) (hh : hit a = true) : places every hit m e a = a :: (if every = true then places every hit m e (a + m) else []) := by
 unfold places
 obtain ⟨d, hd⟩ : ∃ d, e - a = d + 1 := ⟨e - a - 1, by omega⟩
 rw [hd, scanP, if_pos h, if_pos hh, scanP_fuel every hit m e hm d (e - (a + m)) (a + m) (by omega) (by omega)]
theorem places_miss {every : Bool} {hit : Nat → Bool} {m e a : Nat} (hm : 1 ≤ m) (h : a < e) (hh : ¬ hit a = true) : places every hit m e a = places every hit m e (a + 1) := by
 unfold places
 obtain ⟨d, hd⟩ : ∃ d, e - a = d + 1 := ⟨e - a - 1, by omega⟩
 rw [hd, scanP, if_pos h, if_neg hh, scanP_fuel every hit m e hm d (e - (a + 1)) (a + 1) (by omega) (by omega)]
theorem places_skip {every : Bool} {hit : Nat → Bool} {m e : Nat} (hm : 1 ≤ m) : ∀ (i a : Nat), a + i ≤ e → (∀ k, k < i → ¬ hit (a + k) = true) → places every hit m e a = places every hit m e (a + i)
 | 0, a, _, _ => rfl
 | i + 1, a, h, hn => by
  rw [places_miss hm (by omega) (by simpa using hn 0 (by omega)), places_skip hm i (a + 1) (by omega) (fun k hk => by have := hn (k + 1) (by omega); rwa [show a + 1 + k = a + (k + 1) by omega]), show a + 1 + i = a + (i + 1) by omega]
theorem places_none {every : Bool} {hit : Nat → Bool} {m e a : Nat} (hm : 1 ≤ m) (hn : ∀ k, a ≤ k → k < e → ¬ hit k = true) : places every hit m e a = [] := by
 by_cases h : a ≤ e
 ·rw [places_skip hm (e - a) a (by omega) (fun k hk => hn _ (by omega) (by omega))]
  exact places_end (by omega)
 ·exact places_end (by omega)
theorem places_spaced {every : Bool} {hit : Nat → Bool} {m e : Nat} (hm : 1 ≤ m) (hroom : ∀ k, hit k = true → k + m ≤ e) : ∀ (d a : Nat), e - a ≤ d → a ≤ e → spaced m a (places every hit m e a) e ∧ ∀ p ∈ places every hit m e a, hit p = true := by
 intro d
 induction d with
 | zero => intro a h hle; rw [places_end (by omega)]; exact ⟨hle, fun p hp => absurd hp (by simp)⟩
 | succ d ih =>
  intro a h hle
  by_cases ha : a < e
  ·by_cases hh : hit a = true
   ·rw [places_hit hm ha hh]
    have hr := hroom a hh
    by_cases he : every = true
    ·rw [if_pos he]
     obtain ⟨h1, h2⟩ := ih (a + m) (by omega) hr
     exact ⟨⟨Nat.le_refl _, h1⟩, fun p hp => by rcases List.mem_cons.1 hp with rfl | hp; exact hh; exact h2 p hp⟩
    ·rw [if_neg he]
     exact ⟨⟨Nat.le_refl _, hr⟩, fun p hp => by rw [List.mem_singleton.1 hp]; exact hh⟩
   ·rw [places_miss hm ha hh]
    obtain ⟨h1, h2⟩ := ih (a + 1) (by omega) (by omega)
    exact ⟨spaced_mono (by omega) h1, h2⟩
  ·rw [places_end (by omega)]
   exact ⟨hle, fun p hp => absurd hp (by simp)⟩
end Go.Proofs.Ytnbdldpjiofafaa.PB
end

section
namespace Go.Proofs.Ytnbdldpjiofafaa.PB
open Go.RowKit Go.Proofs.YtnbdldpjiofafaaW.PrintWords
set_option linter.unusedVariables false
instance : DecidableEq S51 := fun a b => decidable_of_iff (a.f0 = b.f0 ∧ a.f1 = b.f1) (by cases a; cases b; simp)
theorem rdT (l : List S51) (i : Nat) : rd_T51 l (i : Int) = l.getD i z51 := by unfold rd_T51; rw [Int.toNat_natCast]
theorem dropT {l : List S51} {i : Nat} (h : i < l.length) : l.drop i = l.getD i z51 :: l.drop (i + 1) := by
 rw [List.drop_eq_getElem_cons h, List.getD_eq_getElem?_getD, List.getElem?_eq_getElem h]; rfl
theorem dropI {l : List Int} {i : Nat} (h : i < l.length) : l.drop i = l.getD i 0 :: l.drop (i + 1) := by
 rw [List.drop_eq_getElem_cons h, List.getD_eq_getElem?_getD, List.getElem?_eq_getElem h]; rfl
theorem w1 {i n : Nat} (h : i < n) (hn : n ≤ 1000000000000000) : wrap64 ((i : Int) + 1) = ((i + 1 : Nat) : Int) := by unfold wrap64; omega
abbrev big : Nat := 1000000000000
theorem total_ev (l : List S51) (hl : l.length ≤ big) : Ev (fun k => runs_Total.f k l) (tot l) := by
 unfold big at hl
 have loop : ∀ (d i : Nat) (n : Int), i + d = l.length → 0 ≤ n → n ≤ 4096 → Ev (fun k => runs_Total.l0 k n l (l.length : Int) (i : Int)) (totF (l.drop i) n) := by
  intro d
  induction d with
  | zero =>
   intro i n hi h0 h1
   refine Ev.step (fun k => by simp only [runs_Total.l0]; rfl) ?_
   refine Ev.neg (by omega) ?_
   rw [List.drop_eq_nil_of_le (by omega)]
   exact Ev.now _
  | succ d ih =>
   intro i n hi h0 h1
   have hlt : i < l.length := by omega
   refine Ev.step (fun k => by simp only [runs_Total.l0]; rfl) ?_
   refine Ev.pos (by omega) (Ev.pos (by omega) (Ev.pos (by omega) ?_))
   rw [dropT hlt, rdT]
   simp only [totF]
   rw [show wrap64 (4096 - n) = 4096 - n by unfold wrap64; omega]
   refine Ev.ite (fun _ => Ev.now _) (fun hc => ?_)
   have hm : wrap64 (n + mx (l.getD i z51).f1 0) = n + (if (l.getD i z51).f1 < 0 then 0 else (l.getD i z51).f1) := by
    unfold mx wrap64
    split <;> omega
   rw [hm, w1 hlt (by omega)]
   exact ih (i + 1) _ (by omega) (by split <;> omega) (by split <;> omega)
 exact loop l.length 0 0 (by omega) (by omega) (by omega)
theorem rtotal_ev (l : List S51) (hl : l.length ≤ big) : Ev (fun k => bureauref03_Total.f k l) (tot l) := by
 unfold big at hl
 have loop : ∀ (d i : Nat) (n : Int), i + d = l.length → 0 ≤ n → n ≤ 4096 → Ev (fun k => bureauref03_Total.l0 k l n (i : Int)) (totF (l.drop i) n) := by
  intro d
  induction d with
  | zero =>
   intro i n hi h0 h1
   refine Ev.step (fun k => by simp only [bureauref03_Total.l0]; rfl) ?_
   refine Ev.neg (by omega) ?_
   rw [List.drop_eq_nil_of_le (by omega)]
   exact Ev.now _
  | succ d ih =>
   intro i n hi h0 h1
   have hlt : i < l.length := by omega
   refine Ev.step (fun k => by simp only [bureauref03_Total.l0]; rfl) ?_
   refine Ev.pos (by omega) (Ev.pos (by omega) ?_)
   rw [dropT hlt, rdT]
   simp only [totF]
   rw [show wrap64 (4096 - n) = 4096 - n by unfold wrap64; omega]
   refine Ev.ite (fun _ => Ev.now _) (fun hc => ?_)
   rw [w1 hlt (by omega)]
   by_cases hp : (l.getD i z51).f1 > 0
   ·refine Ev.pos hp ?_
    rw [show wrap64 (n + (l.getD i z51).f1) = n + (if (l.getD i z51).f1 < 0 then 0 else (l.getD i z51).f1) by rw [if_neg (by omega)]; unfold wrap64; omega]
    exact ih (i + 1) _ (by omega) (by split <;> omega) (by split <;> omega)
   ·refine Ev.neg hp ?_
    have : n = n + (if (l.getD i z51).f1 < 0 then 0 else (l.getD i z51).f1) := by split <;> omega
    rw [← this]
    exact ih (i + 1) _ (by omega) (by omega) (by omega)
 exact loop l.length 0 0 (by omega) (by omega) (by omega)
theorem same_ev (a b : List S51) (hl : a.length ≤ big) : Ev (fun k => bureauref03_Same.f k a b) (decide (a = b)) := by
 unfold big at hl
 unfold bureauref03_Same.f
 by_cases hab : a.length = b.length
 ·refine Ev.pos (by omega) ?_
  have loop : ∀ (d i : Nat), i + d = a.length → Ev (fun k => bureauref03_Same.l0 k a b (i : Int)) (decide (a.drop i = b.drop i)) := by
   intro d
   induction d with
   | zero =>
    intro i hi
    refine Ev.step (fun k => by simp only [bureauref03_Same.l0]; rfl) ?_
    refine Ev.neg (by omega) ?_
    rw [List.drop_eq_nil_of_le (by omega), List.drop_eq_nil_of_le (by omega)]
    exact Ev.now _
   | succ d ih =>
    intro i hi
    have hlt : i < a.length := by omega
    refine Ev.step (fun k => by simp only [bureauref03_Same.l0]; rfl) ?_
    refine Ev.pos (by omega) (Ev.pos (by omega) (Ev.pos (by omega) ?_))
    rw [dropT hlt, dropT (show i < b.length by omega), rdT, rdT, w1 hlt (by omega)]
    by_cases he : a.getD i z51 = b.getD i z51
    ·rw [he]
     refine Ev.neg (by simp) ?_
     exact ev_val (ih (i + 1) (by omega)) (by simp)
    ·refine Ev.pos ?_ ?_
     ·have : ¬ ((a.getD i z51).f0 = (b.getD i z51).f0 ∧ (a.getD i z51).f1 = (b.getD i z51).f1) := fun h => he (by
       cases hx : a.getD i z51; cases hy : b.getD i z51; rw [hx, hy] at h; simp at h; rw [h.1, h.2])
      simp only [Bool.or_eq_true, Bool.not_eq_true', beq_eq_false_iff_ne]
      by_cases h1 : (a.getD i z51).f0 = (b.getD i z51).f0
      ·exact .inr (fun h2 => this ⟨h1, h2⟩)
      ·exact .inl h1
     ·exact ev_val (Ev.now _) (by simp; intro h; exact absurd h he)
  exact loop a.length 0 (by omega)
 ·refine Ev.neg (by omega) ?_
  exact ev_val (Ev.now _) (by simp; intro h; exact hab (by rw [h]))
theorem pack_ev (b : List Int) (hb : b.length ≤ 1000000000000) : Ev (fun k => bureauref03_Pack.f k b) (pack b) := by
 have loop : ∀ (d i : Nat) (acc : List S51), i + d = b.length → acc.length ≤ i → (∀ r ∈ acc, r.f1 ≤ i) → (∀ r ∈ acc, 0 ≤ r.f1) → Ev (fun k => bureauref03_Pack.l0 k b acc (i : Int)) (packTo acc (b.drop i)) := by
  intro d
  induction d with
  | zero =>
   intro i acc hi _ _ _
   refine Ev.step (fun k => by simp only [bureauref03_Pack.l0]; rfl) ?_
   refine Ev.neg (by omega) ?_
   rw [List.drop_eq_nil_of_le (by omega)]
   exact Ev.now _
  | succ d ih =>
   intro i acc hi ha hc h0
   have hlt : i < b.length := by omega
   have hstep : step1 acc (b.getD i 0) = step1 acc (b.getD i 0) := rfl
   refine Ev.step (fun k => by simp only [bureauref03_Pack.l0]; rfl) ?_
   refine Ev.pos (by omega) ?_
   have hrd : rd b (i : Int) = b.getD i 0 := by unfold rd; rw [Int.toNat_natCast]
   rw [hrd, dropI hlt, w1 hlt (by omega)]
   have happ : ∀ x : Int, Ev (fun k => if acc.length < 8796093022208 then bureauref03_Pack.l0 k b (acc ++ [(⟨x, 1⟩ : S51)]) ((i + 1 : Nat) : Int) else none) (packTo (acc ++ [⟨x, 1⟩]) (b.drop (i + 1))) := fun x => by
    refine Ev.pos (by omega) (ih (i + 1) _ (by omega) (by simp; omega) ?_ ?_)
    ·intro r hr
     rcases List.mem_append.1 hr with hr | hr
     ·have := hc r hr; omega
     ·obtain rfl := List.mem_singleton.1 hr; show (1 : Int) ≤ ((i + 1 : Nat) : Int); omega
    ·intro r hr
     rcases List.mem_append.1 hr with hr | hr
     ·exact h0 r hr
     ·obtain rfl := List.mem_singleton.1 hr; show (0 : Int) ≤ 1; omega
   show Ev _ (packTo (step1 acc (b.getD i 0)) (b.drop (i + 1)))
   rcases snoc_cases acc with rfl | ⟨pre, q, rfl⟩
   ·refine Ev.neg (by simp) (Ev.pos (by omega) ?_)
    rw [step1_nil]
    exact happ _
   ·have hlen : (pre ++ [q]).length = pre.length + 1 := by simp
    have hidx : wrap64 (((pre ++ [q]).length : Int) - 1) = ((pre.length : Nat) : Int) := by rw [hlen]; unfold wrap64; omega
    have hget : rd_T51 (pre ++ [q]) ((pre.length : Nat) : Int) = q := by rw [rdT]; simp [List.getD_eq_getElem?_getD]
    refine Ev.pos (by omega) ?_
    rw [hidx, hget]
    refine Ev.pos (by omega) (Ev.pos (by omega) (Ev.pos (by omega) ?_))
    by_cases he : q.f0 = b.getD i 0
    ·refine Ev.pos he ?_
     rw [← he, step1_same]
     have hq := hc q (by simp)
     have hq0 := h0 q (by simp)
     rw [Int.toNat_natCast, show (pre ++ [q]).set pre.length (⟨q.f0, wrap64 (q.f1 + 1)⟩ : S51) = pre ++ [⟨q.f0, q.f1 + 1⟩] by
      rw [show wrap64 (q.f1 + 1) = q.f1 + 1 by unfold wrap64; omega]; simp]
     refine ih (i + 1) _ (by omega) (by simp at ha ⊢; omega) ?_ ?_
     ·intro r hr
      rcases List.mem_append.1 hr with hr | hr
      ·have := hc r (List.mem_append_left _ hr); omega
      ·obtain rfl := List.mem_singleton.1 hr; show q.f1 + 1 ≤ ((i + 1 : Nat) : Int); omega
     ·intro r hr
      rcases List.mem_append.1 hr with hr | hr
      ·exact h0 r (List.mem_append_left _ hr)
      ·obtain rfl := List.mem_singleton.1 hr; show 0 ≤ q.f1 + 1; omega
    ·refine Ev.neg he ?_
     rw [step1_other _ _ _ he]
     exact happ _
 exact loop b.length 0 [] (by omega) (by simp) (by intro r hr; cases hr) (by intro r hr; cases hr)
theorem bytes_ev (l : List S51) (hl : l.length ≤ big) (hb : (bytes l).length ≤ 1000000000000) : Ev (fun k => bureauref03_Bytes.f k l) (bytes l) := by
 unfold big at hl
 have loop : ∀ (d i : Nat) (acc : List Int), i + d = l.length → acc.length + (bytes (l.drop i)).length ≤ 1000000000000 → Ev (fun k => bureauref03_Bytes.l0 k l acc (i : Int)) (acc ++ bytes (l.drop i)) := by
  intro d
  induction d with
  | zero =>
   intro i acc hi _
   refine Ev.step (fun k => by simp only [bureauref03_Bytes.l0]; rfl) ?_
   refine Ev.neg (by omega) ?_
   rw [List.drop_eq_nil_of_le (by omega)]
   exact ev_val (Ev.now _) (by simp [bytes])
  | succ d ih =>
   intro i acc hi hlen
   have hlt : i < l.length := by omega
   rw [dropT hlt, bytes_cons] at hlen ⊢
   rw [List.length_append, List.length_replicate] at hlen
   refine Ev.step (fun k => by simp only [bureauref03_Bytes.l0]; rfl) ?_
   refine Ev.pos (by omega) ?_
   have inner : ∀ (e j : Nat) (acc' : List Int), j + e = (l.getD i z51).f1.toNat → acc' = acc ++ List.replicate j (l.getD i z51).f0 → Ev (fun k => bureauref03_Bytes.l1 k l acc' (i : Int) (j : Int)) (acc ++ (List.replicate (l.getD i z51).f1.toNat (l.getD i z51).f0 ++ bytes (l.drop (i + 1)))) := by
    intro e
    induction e with
    | zero =>
     intro j acc' hj ha
     refine Ev.step (fun k => by simp only [bureauref03_Bytes.l1]; rfl) ?_
     refine Ev.pos (by omega) (Ev.pos (by omega) ?_)
     rw [rdT, w1 hlt (by omega)]
     refine Ev.neg (by omega) ?_
     have := ih (i + 1) acc' (by omega) (by rw [ha, List.length_append, List.length_replicate]; omega)
     refine ev_val this ?_
     rw [ha, List.append_assoc]
     rw [Nat.add_zero] at hj
     rw [hj]
    | succ e ihe =>
     intro j acc' hj ha
     refine Ev.step (fun k => by simp only [bureauref03_Bytes.l1]; rfl) ?_
     refine Ev.pos (by omega) (Ev.pos (by omega) ?_)
     rw [rdT]
     refine Ev.pos (by omega) (Ev.pos (by have hz := congrArg List.length ha; rw [List.length_append, List.length_replicate] at hz; omega) ?_)
     rw [show wrap64 ((j : Int) + 1) = ((j + 1 : Nat) : Int) by unfold wrap64; omega]
     exact ihe (j + 1) _ (by omega) (by rw [ha, List.replicate_succ', List.append_assoc])
   exact inner (l.getD i z51).f1.toNat 0 acc (by omega) (by simp)
 exact ev_val (loop l.length 0 [] (by omega) (by simpa using hb)) (by simp)
theorem good_ev (l : List S51) (hl : l.length ≤ big) : Ev (fun k => runs_Good.f k l) (good l) := by
 have ht := total_ev l hl
 unfold big at hl
 have loop : ∀ (d i : Nat), i + d = l.length → ∀ b : Bool, (b = true ↔ ((0 < i → i < l.length → (l.getD (i - 1) z51).f0 ≠ (l.getD i z51).f0) ∧ nrm (l.drop i) ∧ tot l ≤ 4096)) → Ev (fun k => runs_Good.l0 k l l (l.length : Int) (i : Int)) b := by
  intro d
  induction d with
  | zero =>
   intro i hi b hb
   refine Ev.step (fun k => by simp only [runs_Good.l0]; rfl) ?_
   refine Ev.neg (by omega) ?_
   rw [List.drop_eq_nil_of_le (by omega)] at hb
   refine Ev.bind ht (ev_val (Ev.now _) ?_)
   rw [Bool.eq_iff_iff, hb, decide_eq_true_iff]
   exact ⟨fun h => ⟨fun _ h2 => absurd h2 (by omega), trivial, h⟩, fun h => h.2.2⟩
  | succ d ih =>
   intro i hi b hb
   have hlt : i < l.length := by omega
   have hn : nrm (l.drop i) ↔ 1 ≤ (l.getD i z51).f1 ∧ (i + 1 < l.length → (l.getD i z51).f0 ≠ (l.getD (i + 1) z51).f0) ∧ nrm (l.drop (i + 1)) := by
    rw [dropT hlt]
    by_cases h2 : i + 1 < l.length
    ·rw [dropT h2]
     exact ⟨fun h => ⟨h.1, fun _ => h.2.1, h.2.2⟩, fun h => ⟨h.1, h.2.1 h2, h.2.2⟩⟩
    ·rw [List.drop_eq_nil_of_le (show l.length ≤ i + 1 by omega)]
     exact ⟨fun h => ⟨h, fun h3 => absurd h3 h2, trivial⟩, fun h => h.1⟩
   refine Ev.step (fun k => by simp only [runs_Good.l0]; rfl) ?_
   refine Ev.pos (by omega) (Ev.pos (by omega) (Ev.pos (by omega) ?_))
   rw [rdT, w1 hlt (by omega)]
   by_cases h1 : (l.getD i z51).f1 < 1
   ·refine Ev.pos h1 (ev_val (Ev.now _) ?_)
    rw [Bool.eq_iff_iff, hb, hn]
    exact ⟨fun h => (by cases h), fun h => (by have := h.2.1.1; omega)⟩
   ·refine Ev.neg h1 ?_
    have hrest : ∀ b' : Bool, (b' = true ↔ (nrm (l.drop i) ∧ tot l ≤ 4096)) → Ev (fun k => runs_Good.l0 k l l (l.length : Int) ((i + 1 : Nat) : Int)) b' := fun b' hb' => ih (i + 1) (by omega) b' (by
     rw [hb', hn, show i + 1 - 1 = i by omega]
     exact ⟨fun h => ⟨fun _ => h.1.2.1, h.1.2.2, h.2⟩, fun h => ⟨⟨by omega, h.1 (by omega), h.2.1⟩, h.2.2⟩⟩)
    by_cases h0 : 0 < i
    ·refine Ev.pos (by omega) ?_
     rw [show wrap64 ((i : Int) - 1) = ((i - 1 : Nat) : Int) by unfold wrap64; omega]
     refine Ev.pos (by omega) (Ev.pos (by omega) ?_)
     rw [rdT]
     by_cases he : (l.getD (i - 1) z51).f0 = (l.getD i z51).f0
     ·refine Ev.pos he (ev_val (Ev.now _) ?_)
      rw [Bool.eq_iff_iff, hb]
      exact ⟨fun h => (by cases h), fun h => absurd he (h.1 h0 hlt)⟩
     ·refine Ev.neg he (hrest b ?_)
      rw [hb]
      exact ⟨fun h => h.2, fun h => ⟨fun _ _ => he, h⟩⟩
    ·refine Ev.neg (by omega) (hrest b ?_)
     rw [hb]
     exact ⟨fun h => h.2, fun h => ⟨fun h3 => absurd h3 h0, h⟩⟩
 refine loop l.length 0 (by omega) (good l) ?_
 simp [good]
theorem rgood_ev (l : List S51) (hl : l.length ≤ big) : Ev (fun k => bureauref03_Good.f k l) (good l) := by
 unfold bureauref03_Good.f
 refine Ev.bind (rtotal_ev l hl) ?_
 by_cases ht : tot l > 4096
 ·exact Ev.pos ht (ev_val (Ev.now _) (by simp [good]; intro _; omega))
 ·refine Ev.neg ht ?_
  have hb : (bytes l).length ≤ 4096 := by have := tot_bytes (l := l) (by omega); omega
  refine Ev.bind (bytes_ev l hl (by omega)) (Ev.bind (pack_ev _ (by omega)) (Ev.bind (same_ev _ _ hl) ?_))
  refine ev_val (Ev.now _) ?_
  rw [good, show decide (tot l ≤ 4096) = true by simp; omega, Bool.and_true]
  exact decide_eq_decide.2 nrm_iff.symm
end Go.Proofs.Ytnbdldpjiofafaa.PB
end

section
namespace Go.Proofs.Ytnbdldpjiofafaa.Opn
open Go.ChangeShapes Go.WideShapes Go.Deep Go.Proofs.YtnbdldpjiofafaaW.PrintWords
set_option linter.unusedVariables false
def Opn {α : Type} (P : Program) (w : World) (t : TypeId) (d : Kd α) (wf : α → Prop) : Prop :=
  ∀ (H : Type) (enc : TypeId × Value → H) (base : Nat) (spare : Nat → Bool) (held : Bool) (fuel : Nat) (cs : List Value) (x : DataW H × List MemPlace),
    DataW.trod enc P w base spare held fuel t cs = some x → (∀ n ∈ x.1.weights P t, n ≤ reachBytes) → ∃ a : α, d.K w a cs ∧ wf a
section
variable {P : Program} {w : World}
theorem int {t : TypeId} {k : IntKind} (hu : P.underlying t = some (.int k)) : Opn P w t (Kd.int k) (fun n => (Lit.int k n).wf = true) := by
  intro H enc base spare held fuel cs x h _
  obtain ⟨n, rfl, _, hw⟩ := DataW.trod_int hu h
  exact ⟨n, rfl, hw⟩
theorem bool {t : TypeId} (hu : P.underlying t = some .bool) : Opn P w t Kd.bool (fun _ => True) := by
  intro H enc base spare held fuel cs x h _
  obtain ⟨b, rfl, _⟩ := DataW.trod_bool hu h
  exact ⟨b, rfl, trivial⟩
theorem string {t : TypeId} (hu : P.underlying t = some .string) : Opn P w t Kd.string (fun s => s.size ≤ 140737488351232) := by
  intro H enc base spare held fuel cs x h hz
  obtain ⟨s, rfl, rfl, _⟩ := DataW.trod_string hu h
  refine ⟨s, rfl, ?_⟩
  have := hz s.data.toList.length (by simp [DataW.weights])
  rw [data_length] at this
  exact this
theorem weightsAll_mem {H : Type} {e : TypeId} : ∀ {ds : List (DataW H)} {d : DataW H}, d ∈ ds → ∀ n ∈ d.weights P e, n ∈ DataW.weightsAll P e ds
  | d0 :: ds, d, hd, n, hn => by
    simp only [DataW.weightsAll, List.mem_append]
    rcases List.mem_cons.1 hd with rfl | hd
    · exact .inl hn
    · exact .inr (weightsAll_mem hd n hn)
theorem slice {α : Type} {t e : TypeId} {d : Kd α} {wf : α → Prop} (hu : P.underlying t = some (.slice e)) (hc : P.cellsOf e = d.sz) {B : Nat} (hB : P.bytesOf e = B) (ho : Opn P w e d wf) :
    Opn P w t (Kd.slice e d) (fun xs => xs.length * B ≤ 140737488351232 ∧ ∀ x ∈ xs, wf x) := by
  intro H enc base spare held fuel cs x h hz
  rcases open_slice hu h with ⟨rfl, rfl⟩ | ⟨a, len, cap, m, n, D, Pl, rfl, hb, hl, hm, hmm, rfl, hel⟩
  · exact ⟨[], ⟨none, 0, rfl, Nat.le_refl _, Kd.C_nil _ _⟩, by simp, by intro x hx; cases hx⟩
  · simp only [DataW.weights, hu, List.mem_cons, List.mem_append] at hz
    have hlm : len ≤ m := by rw [hmm]; split <;> omega
    have hall : ∀ i, i < len → ∃ a' : α, (∃ cs', w.cells? base (a.add (i * P.cellsOf e)) (P.cellsOf e) = some cs' ∧ d.K w a' cs') ∧ wf a' := fun i hi => by
      obtain ⟨cs', h1, h2⟩ := hel i (by omega)
      obtain ⟨a', h3, h4⟩ := ho H enc base spare held n cs' _ h2 (fun q hq => hz q (.inr (.inl (weightsAll_mem (List.mem_map.2 ⟨i, List.mem_range.2 hi, rfl⟩) q hq))))
      exact ⟨a', ⟨cs', h1, h3⟩, h4⟩
    obtain ⟨xs, hxs, hx⟩ : ∃ xs : List α, xs.length = len ∧ ∀ i, ∀ h : i < xs.length, (∃ cs', w.cells? base (a.add (i * P.cellsOf e)) (P.cellsOf e) = some cs' ∧ d.K w xs[i] cs') ∧ wf xs[i] := by
      clear hz hel hlm hmm hm hl h
      induction len with
      | zero => exact ⟨[], rfl, fun i h => absurd h (by simp)⟩
      | succ q ih =>
        obtain ⟨xs, h1, h2⟩ := ih (fun i hi => hall i (by omega))
        obtain ⟨a', h3⟩ := hall q (by omega)
        refine ⟨xs ++ [a'], by simp [h1], fun i h => ?_⟩
        by_cases hi : i < xs.length
        · rw [List.getElem_append_left hi]; exact h2 i hi
        · have : i = q := by simp at h; omega
          subst this
          rw [List.getElem_append_right (by omega)]
          simpa using h3
    refine ⟨xs, ⟨some a, cap, by rw [hxs], by omega, rfl, by have : cap ≤ 9223372036854775807 := hm; omega, fun hp => ⟨a, rfl, fun i p hp => ?_⟩⟩, ?_, ?_⟩
    · have hi : i < xs.length := (List.getElem?_eq_some_iff.1 hp).1
      have hpe : p = xs[i] := by rw [List.getElem?_eq_getElem hi] at hp; exact (Option.some.inj hp).symm
      obtain ⟨⟨cs', h1, h2⟩, _⟩ := hx i hi
      rw [hc] at h1
      obtain ⟨_, hcl, hat⟩ := World.cells?_some h1
      refine ⟨cs', by rw [hcl], by rw [hpe]; exact h2, fun j u hu => ?_⟩
      have hj : j < d.sz := by have := (List.getElem?_eq_some_iff.1 hu).1; omega
      have := hat j hj
      rw [← Go.Deep.add_add, this, hu]
    · have := hz _ (.inl rfl)
      rw [hB] at this
      simp only [List.length_map, List.length_range] at this
      rw [hxs]
      exact Nat.le_trans (Nat.mul_le_mul_right _ (by omega)) this
    · intro x hxm
      obtain ⟨i, hi, rfl⟩ := List.mem_iff_getElem.1 hxm
      exact (hx i hi).2
end
end Go.Proofs.Ytnbdldpjiofafaa.Opn
end

section
namespace Go.Proofs.Ytnbdldpjiofafaa.PB
open Go.ChangeShapes Go.WideShapes Go.Proofs.Ytnbdldpjiofafaa Go.Proofs.YtnbdldpjiofafaaW.PrintWords
set_option linter.unusedVariables false
def wf51 (x : S51) : Prop := ((Lit.int .u64 x.f0).wf = true) ∧ ((Lit.int .i64 x.f1).wf = true)
theorem opn51 {w : World} : Opn.Opn Try.prog w 51 k51 wf51 := by
  intro H enc base spare held fuel cs x h hz
  obtain ⟨xs, n, _, rfl, hlen, hyl, hf⟩ := DataW.trod_struct Try.underlying51 h
  have hcl : cs.length = 2 := hlen.trans (by kernel_rfl)
  obtain ⟨y0, y1, rfl⟩ : ∃ y0 y1, xs = [y0, y1] := by
    clear h hz hf hlen hcl; have hyl' : xs.length = 2 := hyl; clear hyl
    match xs, hyl' with | [y0, y1], _ => exact ⟨y0, y1, rfl⟩
  obtain ⟨c0, c1, rfl⟩ : ∃ c0 c1, cs = [c0, c1] := by
    clear h hz hf hlen hyl
    match cs, hcl with | [c0, c1], _ => exact ⟨c0, c1, rfl⟩
  simp only [DataW.weights, Try.underlying51] at hz
  have h0 : DataW.trod enc Try.prog w base spare held n 26 [c0] = some y0 := by have z := hf 0 _ rfl; rwa [show Try.prog.cellsOf _ = 1 from by kernel_rfl] at z
  obtain ⟨a0, k0_, w0⟩ := (Opn.int Try.underlying26) H enc base spare held n _ _ h0 (fun q hq => hz q (by simp [DataW.weightsEach, hq]))
  have h1 : DataW.trod enc Try.prog w base spare held n 3 [c1] = some y1 := by have z := hf 1 _ rfl; rwa [show Try.prog.cellsOf _ = 1 from by kernel_rfl] at z
  obtain ⟨a1, k1_, w1⟩ := (Opn.int Try.underlying3) H enc base spare held n _ _ h1 (fun q hq => hz q (by simp [DataW.weightsEach, hq]))
  exact ⟨⟨a0, a1⟩, ⟨_, _, rfl, k0_, k1_⟩, w0, w1⟩
def wf24 (x : S24) : Prop := (x.f0.size ≤ 140737488351232) ∧ (x.f1.length * 16 ≤ 140737488351232 ∧ ∀ x_ ∈ x.f1, wf51 x_)
theorem opn24 {w : World} : Opn.Opn Try.prog w 24 k24 wf24 := by
  intro H enc base spare held fuel cs x h hz
  obtain ⟨xs, n, _, rfl, hlen, hyl, hf⟩ := DataW.trod_struct Try.underlying24 h
  have hcl : cs.length = 2 := hlen.trans (by kernel_rfl)
  obtain ⟨y0, y1, rfl⟩ : ∃ y0 y1, xs = [y0, y1] := by
    clear h hz hf hlen hcl; have hyl' : xs.length = 2 := hyl; clear hyl
    match xs, hyl' with | [y0, y1], _ => exact ⟨y0, y1, rfl⟩
  obtain ⟨c0, c1, rfl⟩ : ∃ c0 c1, cs = [c0, c1] := by
    clear h hz hf hlen hyl
    match cs, hcl with | [c0, c1], _ => exact ⟨c0, c1, rfl⟩
  simp only [DataW.weights, Try.underlying24] at hz
  have h0 : DataW.trod enc Try.prog w base spare held n 9 [c0] = some y0 := by have z := hf 0 _ rfl; rwa [show Try.prog.cellsOf _ = 1 from by kernel_rfl] at z
  obtain ⟨a0, k0_, w0⟩ := (Opn.string Try.underlying9) H enc base spare held n _ _ h0 (fun q hq => hz q (by simp [DataW.weightsEach, hq]))
  have h1 : DataW.trod enc Try.prog w base spare held n 22 [c1] = some y1 := by have z := hf 1 _ rfl; rwa [show Try.prog.cellsOf _ = 1 from by kernel_rfl] at z
  obtain ⟨a1, k1_, w1⟩ := (Opn.slice Try.underlying22 (by kernel_rfl) (by kernel_rfl : Try.prog.bytesOf 51 = 16) opn51) H enc base spare held n _ _ h1 (fun q hq => hz q (by simp [DataW.weightsEach, hq]))
  exact ⟨⟨a0, a1⟩, ⟨_, _, rfl, k0_, k1_⟩, w0, w1⟩
structure S28 where
  f0 : Int
  f1 : Int
  f2 : ByteArray
  f3 : ByteArray
  f4 : Bool
def z28 : S28 := ⟨(0 : Int), (0 : Int), (⟨#[]⟩ : ByteArray), (⟨#[]⟩ : ByteArray), false⟩
def k28 : Kd S28 := Kd.iso (Kd.pair (Kd.int .i64) (Kd.pair (Kd.int .i64) (Kd.pair Kd.string (Kd.pair Kd.string Kd.bool)))) (fun x : S28 => (x.f0, x.f1, x.f2, x.f3, x.f4))
theorem k28_open {w : World} {x : S28} {cs : List Value} (h : k28.K w x cs) : cs = [.int .i64 x.f0, .int .i64 x.f1, .string x.f2, .string x.f3, .bool x.f4] := by
  obtain ⟨_, _, rfl, rfl, ⟨_, _, rfl, rfl, ⟨_, _, rfl, rfl, ⟨_, _, rfl, rfl, rfl⟩⟩⟩⟩ := h
  exact rfl
def wf28 (x : S28) : Prop := ((Lit.int .i64 x.f0).wf = true) ∧ ((Lit.int .i64 x.f1).wf = true) ∧ (x.f2.size ≤ 140737488351232) ∧ (x.f3.size ≤ 140737488351232) ∧ (True)
theorem opn28 {w : World} : Opn.Opn Try.prog w 28 k28 wf28 := by
  intro H enc base spare held fuel cs x h hz
  obtain ⟨xs, n, _, rfl, hlen, hyl, hf⟩ := DataW.trod_struct Try.underlying28 h
  have hcl : cs.length = 5 := hlen.trans (by kernel_rfl)
  obtain ⟨y0, y1, y2, y3, y4, rfl⟩ : ∃ y0 y1 y2 y3 y4, xs = [y0, y1, y2, y3, y4] := by
    clear h hz hf hlen hcl; have hyl' : xs.length = 5 := hyl; clear hyl
    match xs, hyl' with | [y0, y1, y2, y3, y4], _ => exact ⟨y0, y1, y2, y3, y4, rfl⟩
  obtain ⟨c0, c1, c2, c3, c4, rfl⟩ : ∃ c0 c1 c2 c3 c4, cs = [c0, c1, c2, c3, c4] := by
    clear h hz hf hlen hyl
    match cs, hcl with | [c0, c1, c2, c3, c4], _ => exact ⟨c0, c1, c2, c3, c4, rfl⟩
  simp only [DataW.weights, Try.underlying28] at hz
  have h0 : DataW.trod enc Try.prog w base spare held n 3 [c0] = some y0 := by have z := hf 0 _ rfl; rwa [show Try.prog.cellsOf _ = 1 from by kernel_rfl] at z
  obtain ⟨a0, k0_, w0⟩ := (Opn.int Try.underlying3) H enc base spare held n _ _ h0 (fun q hq => hz q (by simp [DataW.weightsEach, hq]))
  have h1 : DataW.trod enc Try.prog w base spare held n 3 [c1] = some y1 := by have z := hf 1 _ rfl; rwa [show Try.prog.cellsOf _ = 1 from by kernel_rfl] at z
  obtain ⟨a1, k1_, w1⟩ := (Opn.int Try.underlying3) H enc base spare held n _ _ h1 (fun q hq => hz q (by simp [DataW.weightsEach, hq]))
  have h2 : DataW.trod enc Try.prog w base spare held n 9 [c2] = some y2 := by have z := hf 2 _ rfl; rwa [show Try.prog.cellsOf _ = 1 from by kernel_rfl] at z
  obtain ⟨a2, k2_, w2⟩ := (Opn.string Try.underlying9) H enc base spare held n _ _ h2 (fun q hq => hz q (by simp [DataW.weightsEach, hq]))
  have h3 : DataW.trod enc Try.prog w base spare held n 9 [c3] = some y3 := by have z := hf 3 _ rfl; rwa [show Try.prog.cellsOf _ = 1 from by kernel_rfl] at z
  obtain ⟨a3, k3_, w3⟩ := (Opn.string Try.underlying9) H enc base spare held n _ _ h3 (fun q hq => hz q (by simp [DataW.weightsEach, hq]))
  have h4 : DataW.trod enc Try.prog w base spare held n 4 [c4] = some y4 := by have z := hf 4 _ rfl; rwa [show Try.prog.cellsOf _ = 1 from by kernel_rfl] at z
  obtain ⟨a4, k4_, w4⟩ := (Opn.bool Try.underlying4) H enc base spare held n _ _ h4 (fun q hq => hz q (by simp [DataW.weightsEach, hq]))
  exact ⟨⟨a0, a1, a2, a3, a4⟩, ⟨_, _, rfl, k0_, ⟨_, _, rfl, k1_, ⟨_, _, rfl, k2_, ⟨_, _, rfl, k3_, k4_⟩⟩⟩⟩, w0, w1, w2, w3, w4⟩
structure S46 where
  f0 : S28
  f1 : ByteArray
def z46 : S46 := ⟨z28, (⟨#[]⟩ : ByteArray)⟩
end Go.Proofs.Ytnbdldpjiofafaa.PB
end

section
namespace Go.Proofs.Ytnbdldpjiofafaa.PB
open Go.RowKit Go.Proofs.YtnbdldpjiofafaaW.PrintWords
set_option linter.unusedVariables false
theorem capped_nil : capped 0 [] := fun r hr => by cases hr
theorem gather0 (a b : Nat) (l : List S51) (h0 : ∀ r ∈ l, 0 ≤ r.f1) (hl : (bytes l).length ≤ 500000) (ha : a ≤ 500000) (hb : b ≤ 500000) :
  someTo addRun (a : Int) (b : Int) l 0 [] = pack (((bytes l).take b).drop a) := by
 have := someTo_pack a b l 0 [] 0 h0 capped_nil (by omega) (by omega) (by omega) (by omega) (by omega)
 simpa [pack] using this
theorem gather_all (l : List S51) (h0 : ∀ r ∈ l, 0 ≤ r.f1) (hl : (bytes l).length ≤ 4096) : someTo addRun 0 4096 l 0 [] = pack (bytes l) := by
 have := gather0 0 4096 l h0 (by omega) (by omega) (by omega)
 rw [List.take_of_length_le (by omega), List.drop_zero] at this
 exact this
def normalS (l : List S51) : List S51 × Int :=
 if (∃ j : Nat, j < l.length ∧ (rd_T51 l (j : Int)).f1 < 0) then ([], 2) else if tot l > 4096 then ([], 3) else (pack (bytes l), 0)
theorem notneg {l : List S51} (h : ¬ ∃ j : Nat, j < l.length ∧ (rd_T51 l (j : Int)).f1 < 0) : ∀ r ∈ l, 0 ≤ r.f1 := fun r hr => by
 obtain ⟨j, hj, rfl⟩ := List.mem_iff_getElem.1 hr
 have hh : ¬ (rd_T51 l (j : Int)).f1 < 0 := fun hn => h ⟨j, hj, hn⟩
 rw [rdT, List.getD_eq_getElem?_getD, List.getElem?_eq_getElem hj] at hh
 simp at hh
 exact hh
theorem normal_ev (l : List S51) (hl : l.length ≤ big) : Ev (fun k => runs_Normal.f k l) (normalS l) := by
 unfold runs_Normal.f normalS
 refine Ev.ite (fun _ => Ev.now _) (fun hn => ?_)
 refine Ev.bind (total_ev l hl) ?_
 refine Ev.ite (fun _ => Ev.now _) (fun ht => ?_)
 unfold big at hl
 refine Ev.pos (by omega) (ev_val (Ev.now _) ?_)
 have hb := tot_bytes (l := l) (by omega)
 rw [gather_all l (notneg hn) (by omega)]
theorem good_nrm {l : List S51} (h : good l = true) : nrm l ∧ tot l ≤ 4096 := by
 unfold good at h
 simpa using h
theorem nrm_nonneg {l : List S51} (h : nrm l) : ∀ r ∈ l, 0 ≤ r.f1 := fun r hr => by have := nrm_pos h r hr; omega
theorem step1_len (acc : List S51) (x : Int) : (step1 acc x).length ≤ acc.length + 1 := by
 unfold step1
 split
 ·simp
 ·simp
theorem packTo_len (b : List Int) : ∀ acc : List S51, (packTo acc b).length ≤ acc.length + b.length := by
 induction b with
 | nil => intro acc; simp [packTo]
 | cons x b ih => intro acc; have h1 := ih (step1 acc x); have h2 := step1_len acc x; show (packTo (step1 acc x) b).length ≤ _; rw [List.length_cons]; omega
theorem pack_len (b : List Int) : (pack b).length ≤ b.length := by have := packTo_len b []; simpa [pack] using this
end Go.Proofs.Ytnbdldpjiofafaa.PB
end

section
namespace Go.Proofs.Ytnbdldpjiofafaa.PB
open Go.RowKit Go.Proofs.YtnbdldpjiofafaaW.PrintWords
set_option linter.unusedVariables false
def withinB (l : List S51) (a b : Int) : Bool := good l && (decide (0 ≤ a) && (decide (a ≤ b) && decide (b ≤ tot l)))
theorem withinB_iff {l : List S51} {a b : Int} : withinB l a b = true ↔ good l = true ∧ 0 ≤ a ∧ a ≤ b ∧ b ≤ tot l := by simp [withinB]
theorem within_ev (l : List S51) (hl : l.length ≤ big) (a b : Int) : Ev (fun k => runs_within.f k l a b) (withinB l a b) := by
 unfold runs_within.f
 refine Ev.bind (good_ev l hl) ?_
 by_cases hg : good l = true
 ·refine Ev.pos hg ?_
  by_cases h0 : a ≥ 0
  ·refine Ev.pos h0 ?_
   by_cases h1 : a ≤ b
   ·refine Ev.pos h1 (Ev.bind (total_ev l hl) (ev_val (Ev.now _) ?_))
    simp [withinB, hg, h1, show 0 ≤ a from h0]
   ·exact Ev.neg h1 (ev_val (Ev.now _) (by simp [withinB, h1]))
  ·exact Ev.neg h0 (ev_val (Ev.now _) (by simp [withinB]; intro _ h; omega))
 ·exact Ev.neg hg (ev_val (Ev.now _) (by simp [withinB, hg]))
theorem within_facts {l : List S51} {a b : Int} (h : withinB l a b = true) : ∃ i j : Nat, a = i ∧ b = j ∧ i ≤ j ∧ j ≤ (bytes l).length ∧ (bytes l).length ≤ 4096 ∧ nrm l ∧ tot l = (bytes l).length := by
 obtain ⟨hg, h0, h1, h2⟩ := withinB_iff.1 h
 obtain ⟨hn, ht⟩ := good_nrm hg
 have hb := tot_bytes ht
 obtain ⟨i, rfl⟩ := Int.eq_ofNat_of_zero_le h0
 obtain ⟨j, rfl⟩ := Int.eq_ofNat_of_zero_le (show 0 ≤ b by omega)
 exact ⟨i, j, rfl, rfl, by omega, by omega, by omega, hn, hb⟩
def sliceS (l : List S51) (a b : Int) : List S51 × Int := if withinB l a b = true then (pack (((bytes l).take b.toNat).drop a.toNat), 0) else ([], 2)
theorem slice_ev (l : List S51) (hl : l.length ≤ big) (a b : Int) : Ev (fun k => runs_Slice.f k l a b) (sliceS l a b) := by
 unfold runs_Slice.f sliceS
 refine Ev.bind (within_ev l hl a b) ?_
 refine Ev.ite (fun hw => ?_) (fun _ => Ev.now _)
 obtain ⟨i, j, rfl, rfl, hij, hj, h4, hn, _⟩ := within_facts hw
 unfold big at hl
 refine Ev.pos (by omega) (ev_val (Ev.now _) ?_)
 rw [gather0 i j l (nrm_nonneg hn) (by omega) (by omega) (by omega)]
 rfl
def pos1 (l : List S51) : List Int := (l.filter (fun r => decide (r.f1 > 0))).map (·.f0)
theorem pos1_cons (r : S51) (l : List S51) : pos1 (r :: l) = if r.f1 > 0 then r.f0 :: pos1 l else pos1 l := by
 unfold pos1
 rw [List.filter_cons]
 by_cases h : r.f1 > 0 <;> simp [h]
theorem all_ev (l : List S51) (hl : l.length ≤ big) : Ev (fun k => runs_All.f k l) (orAllI (pos1 l)) := by
 unfold big at hl
 have loop : ∀ (d i : Nat) (n : Int), i + d = l.length → Ev (fun k => runs_All.l0 k n l (l.length : Int) (i : Int)) ((pos1 (l.drop i)).foldl (fun a x => Go.bits .or .u64 a x) n) := by
  intro d
  induction d with
  | zero =>
   intro i n hi
   refine Ev.step (fun k => by simp only [runs_All.l0]; rfl) ?_
   refine Ev.neg (by omega) ?_
   rw [List.drop_eq_nil_of_le (by omega)]
   exact Ev.now _
  | succ d ih =>
   intro i n hi
   have hlt : i < l.length := by omega
   refine Ev.step (fun k => by simp only [runs_All.l0]; rfl) ?_
   refine Ev.pos (by omega) (Ev.pos (by omega) (Ev.pos (by omega) ?_))
   rw [rdT, w1 hlt (by omega), dropT hlt, pos1_cons]
   by_cases hp : (l.getD i z51).f1 > 0
   ·refine Ev.pos hp ?_
    rw [if_pos hp]
    unfold label_Join.f
    refine Ev.bind (Ev.now _) ?_
    exact ih (i + 1) _ (by omega)
   ·refine Ev.neg hp ?_
    rw [if_neg hp]
    exact ih (i + 1) _ (by omega)
 exact loop l.length 0 0 (by omega)
theorem wf_u64 {n : Int} (h : (Lit.int .u64 n).wf = true) : 0 ≤ n ∧ n < 18446744073709551616 := by
 have hmin : IntKind.u64.min = 0 := rfl
 have hmax : IntKind.u64.max = 18446744073709551615 := rfl
 simp only [Lit.wf, Bool.and_eq_true, decide_eq_true_eq, hmin, hmax] at h
 omega
theorem wf_labels {l : List S51} (h : ∀ x ∈ l, wf51 x) : ∀ r ∈ l, 0 ≤ r.f0 ∧ r.f0 < 18446744073709551616 := fun r hr => wf_u64 (h r hr).1
def spliceS (l : List S51) (a b : Int) (m : List S51) : List S51 × Int :=
 if withinB l a b = true then (if good m = true then (if tot l - (b - a) + tot m > 4096 then ([], 3) else (pack ((bytes l).take a.toNat ++ bytes m ++ (bytes l).drop b.toNat), 0)) else ([], 2)) else ([], 2)
theorem good_facts {m : List S51} (h : good m = true) : nrm m ∧ (bytes m).length ≤ 4096 ∧ tot m = (bytes m).length := by
 obtain ⟨hn, ht⟩ := good_nrm h
 have hb := tot_bytes ht
 exact ⟨hn, by omega, hb⟩
theorem spliceRuns_pack (l m : List S51) (i j : Nat) (hi : i ≤ 4096) (hj : j ≤ 4096) (hl : (bytes l).length ≤ 4096) (hm : (bytes m).length ≤ 4096) (hn : nrm l) (hnm : nrm m) :
  spliceRuns l i j m = pack ((bytes l).take i ++ bytes m ++ (bytes l).drop j) := by
 unfold spliceRuns
 have e1 := someTo_pack 0 i l 0 [] 0 (nrm_nonneg hn) capped_nil (by omega) (by omega) (by omega) (by omega) (by omega)
 rw [show ((0 : Nat) : Int) = 0 from rfl, Nat.sub_zero, Nat.sub_zero, List.drop_zero] at e1
 rw [e1]
 have c1 := packTo_capped ((bytes l).take i) (capped_nil) (show (0 : Int) ≤ 0 by omega)
 have hlen1 : ((bytes l).take i).length ≤ 4096 := by rw [List.length_take]; omega
 have e2 := someTo_pack 0 4096 m 0 _ _ (nrm_nonneg hnm) c1 (by omega) (by omega) (by omega) (by omega) (by omega)
 rw [show ((0 : Nat) : Int) = 0 from rfl, show ((4096 : Nat) : Int) = 4096 from rfl, Nat.sub_zero, Nat.sub_zero, List.drop_zero, List.take_of_length_le hm] at e2
 rw [e2]
 have c2 := packTo_capped (bytes m) c1 (by omega)
 have e3 := someTo_pack j 4096 l 0 _ _ (nrm_nonneg hn) c2 (by omega) (by omega) (by omega) (by omega) (by omega)
 rw [show ((0 : Nat) : Int) = 0 from rfl, show ((4096 : Nat) : Int) = 4096 from rfl, Nat.sub_zero, Nat.sub_zero, List.take_of_length_le hl] at e3
 rw [e3]
 unfold pack
 rw [packTo_append, packTo_append]
theorem splice_ev (l : List S51) (hl : l.length ≤ big) (a b : Int) (m : List S51) (hm : m.length ≤ big) : Ev (fun k => runs_Splice.f k l a b m) (spliceS l a b m) := by
 unfold runs_Splice.f spliceS
 refine Ev.bind (within_ev l hl a b) ?_
 refine Ev.ite (fun hw => ?_) (fun _ => Ev.now _)
 refine Ev.bind (good_ev m hm) ?_
 refine Ev.ite (fun hg => ?_) (fun _ => Ev.now _)
 refine Ev.bind (total_ev l hl) (Ev.bind (total_ev m hm) ?_)
 obtain ⟨i, j, rfl, rfl, hij, hj, h4, hn, ht⟩ := within_facts hw
 obtain ⟨hnm, h4m, htm⟩ := good_facts hg
 rw [show wrap64 (wrap64 (tot l - wrap64 ((j : Int) - (i : Int))) + tot m) = tot l - ((j : Int) - (i : Int)) + tot m by unfold wrap64; omega]
 refine Ev.ite (fun _ => Ev.now _) (fun _ => ?_)
 unfold big at hl hm
 refine Ev.pos (by omega) (ev_val (Ev.now _) ?_)
 rw [spliceRuns_pack l m i j (by omega) (by omega) h4 h4m hn hnm]
 rfl
theorem good_pack {b : List Int} (h : b.length ≤ 4096) : good (pack b) = true ∧ tot (pack b) = b.length := by
 have hn := pack_nrm b
 have ht : tot (pack b) = b.length := by
  rw [tot_of_bytes (nrm_nonneg hn) (by rw [pack_bytes]; exact h), pack_bytes]
 exact ⟨by unfold good; rw [Bool.and_eq_true, decide_eq_true_iff, decide_eq_true_iff]; exact ⟨hn, by omega⟩, ht⟩
end Go.Proofs.Ytnbdldpjiofafaa.PB
end

section
namespace Go.Proofs.Ytnbdldpjiofafaa.PB
open Go.RowKit Go.Proofs.YtnbdldpjiofafaaW.PrintWords
set_option linter.unusedVariables false
theorem bytes_mem {l : List S51} {x : Int} (h : x ∈ bytes l) : ∃ r ∈ l, r.f0 = x := by
 obtain ⟨r, hr, hx⟩ := List.mem_flatMap.1 h
 exact ⟨r, hr, (List.eq_of_mem_replicate hx).symm⟩
end Go.Proofs.Ytnbdldpjiofafaa.PB
end

section
namespace Go.Proofs.Ytnbdldpjiofafaa.PB
open Go.RowKit Go.Proofs.YtnbdldpjiofafaaW.PrintWords
set_option linter.unusedVariables false
def goodT (s : ByteArray) (l : List S51) : Bool := good l && decide (tot l = (s.size : Int))
theorem goodT_iff {s : ByteArray} {l : List S51} : goodT s l = true ↔ good l = true ∧ tot l = (s.size : Int) := by simp [goodT]
theorem goodT_facts {s : ByteArray} {l : List S51} (h : goodT s l = true) : good l = true ∧ nrm l ∧ (bytes l).length = s.size ∧ s.size ≤ 4096 ∧ tot l = (s.size : Int) := by
 obtain ⟨h1, h2⟩ := goodT_iff.1 h
 obtain ⟨h3, h4, h5⟩ := good_facts h1
 exact ⟨h1, h3, by omega, by omega, h2⟩
theorem goodT_ev (s : ByteArray) (l : List S51) (hl : l.length ≤ big) : Ev (fun k => strip_Good.f k s l) (goodT s l) := by
 unfold strip_Good.f
 refine Ev.bind (good_ev l hl) ?_
 by_cases hg : good l = true
 ·rw [hg]
  exact Ev.pos rfl (Ev.bind (total_ev l hl) (ev_val (Ev.now _) (by rw [Bool.eq_iff_iff]; simp [goodT, hg])))
 ·exact Ev.neg hg (ev_val (Ev.now _) (by simp [goodT, hg]))
theorem rgoodT_ev (s : ByteArray) (l : List S51) (hl : l.length ≤ big) : Ev (fun k => bureauref04_Good.f k s l) (goodT s l) := by
 unfold bureauref04_Good.f
 refine Ev.bind (rgood_ev l hl) ?_
 by_cases hg : good l = true
 ·rw [hg]
  exact Ev.pos rfl (Ev.bind (rtotal_ev l hl) (ev_val (Ev.now _) (by rw [Bool.eq_iff_iff]; simp [goodT, hg])))
 ·exact Ev.neg hg (ev_val (Ev.now _) (by simp [goodT, hg]))
def withinT (s : ByteArray) (l : List S51) (a b : Int) : Bool := goodT s l && (decide (0 ≤ a) && (decide (a ≤ b) && decide (b ≤ (s.size : Int))))
theorem withinT_iff {s : ByteArray} {l : List S51} {a b : Int} : withinT s l a b = true ↔ goodT s l = true ∧ 0 ≤ a ∧ a ≤ b ∧ b ≤ (s.size : Int) := by simp [withinT]
theorem withinT_ev (s : ByteArray) (l : List S51) (hl : l.length ≤ big) (a b : Int) : Ev (fun k => strip_within.f k s l a b) (withinT s l a b) := by
 unfold strip_within.f
 refine Ev.bind (goodT_ev s l hl) ?_
 by_cases hg : goodT s l = true
 ·refine Ev.pos hg ?_
  by_cases h0 : 0 ≤ a
  ·refine Ev.pos h0 ?_
   by_cases h1 : a ≤ b
   ·exact Ev.pos h1 (ev_val (Ev.now _) (by simp [withinT, hg, h0, h1]))
   ·exact Ev.neg h1 (ev_val (Ev.now _) (by simp [withinT, h1]))
  ·exact Ev.neg h0 (ev_val (Ev.now _) (by simp [withinT, h0]))
 ·exact Ev.neg hg (ev_val (Ev.now _) (by simp [withinT, hg]))
theorem rwithinT_ev (s : ByteArray) (l : List S51) (hl : l.length ≤ big) (a b : Int) : Ev (fun k => bureauref04_Within.f k s l a b) (withinT s l a b) := by
 unfold bureauref04_Within.f
 refine Ev.bind (rgoodT_ev s l hl) ?_
 by_cases hg : goodT s l = true
 ·refine Ev.pos hg ?_
  by_cases h0 : 0 ≤ a
  ·refine Ev.pos h0 ?_
   by_cases h1 : a ≤ b
   ·exact Ev.pos h1 (ev_val (Ev.now _) (by simp [withinT, hg, h0, h1]))
   ·exact Ev.neg h1 (ev_val (Ev.now _) (by simp [withinT, h1]))
  ·exact Ev.neg h0 (ev_val (Ev.now _) (by simp [withinT, h0]))
 ·exact Ev.neg hg (ev_val (Ev.now _) (by simp [withinT, hg]))
theorem withinT_facts {s : ByteArray} {l : List S51} {a b : Int} (h : withinT s l a b = true) : ∃ i j : Nat, a = i ∧ b = j ∧ i ≤ j ∧ j ≤ s.size ∧ goodT s l = true ∧ withinB l a b = true := by
 obtain ⟨h1, h2, h3, h4⟩ := withinT_iff.1 h
 obtain ⟨g1, g2, g3, g4, g5⟩ := goodT_facts h1
 obtain ⟨i, rfl⟩ := Int.eq_ofNat_of_zero_le h2
 obtain ⟨j, rfl⟩ := Int.eq_ofNat_of_zero_le (show 0 ≤ b by omega)
 exact ⟨i, j, rfl, rfl, by omega, by omega, h1, withinB_iff.2 ⟨g1, by omega, by omega, by omega⟩⟩
abbrev TX := ByteArray × List S51 × Int
def makeS (s : ByteArray) (y : Int) : TX := if (s.size : Int) > 4096 then (⟨#[]⟩, [], 3) else (s, pack (List.replicate s.size y), 0)
theorem normal_one (y : Int) (n : Nat) : normalS [⟨y, (n : Int)⟩] = if (n : Int) > 4096 then ([], 3) else (pack (List.replicate n y), 0) := by
 unfold normalS
 rw [if_neg (fun ⟨j, hj, hh⟩ => by
  have : j = 0 := by simpa using hj
  subst this
  have : ((n : Nat) : Int) < 0 := hh
  omega)]
 have ht : tot [(⟨y, (n : Int)⟩ : S51)] = if (n : Int) > 4096 then 4097 else (n : Int) := by
  simp only [tot, totF]
  by_cases h : (n : Int) > 4096
  ·rw [if_pos h, if_pos (by omega)]
  ·rw [if_neg h, if_neg (by omega), if_neg (by omega)]; omega
 rw [ht]
 by_cases h : (n : Int) > 4096
 ·rw [if_pos h, if_pos h, if_pos (by omega)]
 ·rw [if_neg h, if_neg h, if_neg h]
  simp [bytes]
theorem make_ev (s : ByteArray) (y : Int) : Ev (fun k => strip_Make.f k s y) (makeS s y) := by
 unfold strip_Make.f makeS
 refine Ev.bind (normal_ev _ (by simp [big])) ?_
 rw [normal_one]
 by_cases h : (s.size : Int) > 4096
 ·rw [if_pos h, if_pos h]
  exact Ev.neg (by decide) (Ev.now _)
 ·rw [if_neg h, if_neg h]
  exact Ev.pos rfl (Ev.now _)
theorem rmake_ev (s : ByteArray) (y : Int) : Ev (fun k => bureauref04_Make.f k s y) (makeS s y) := by
 unfold bureauref04_Make.f makeS
 refine Ev.ite (fun _ => Ev.now _) (fun h => ?_)
 have loop : ∀ (d i : Nat), i + d = s.size → Ev (fun k => bureauref04_Make.l0 k s y (List.replicate i y) (i : Int)) (s, pack (List.replicate s.size y), 0) := by
  intro d
  induction d with
  | zero =>
   intro i hi
   refine Ev.step (fun k => by simp only [bureauref04_Make.l0]; rfl) ?_
   refine Ev.neg (by omega) ?_
   obtain rfl : i = s.size := by omega
   exact Ev.bind (pack_ev _ (by rw [List.length_replicate]; omega)) (Ev.now _)
  | succ d ih =>
   intro i hi
   refine Ev.step (fun k => by simp only [bureauref04_Make.l0]; rfl) ?_
   refine Ev.pos (by omega) (Ev.pos (by rw [List.length_replicate]; omega) ?_)
   rw [show List.replicate i y ++ [y] = List.replicate (i + 1) y from List.replicate_succ'.symm, w1 (n := s.size) (by omega) (by omega)]
   exact ih (i + 1) (by omega)
 exact loop s.size 0 (by omega)
theorem or_rep (a x : Nat) : ∀ n, (List.replicate (n + 1) x).foldl (· ||| ·) a = a ||| x
 | 0 => rfl
 | n + 1 => by
  rw [List.replicate_succ, List.foldl_cons, or_rep (a ||| x) x n, Nat.or_assoc, Nat.or_self]
theorem or_bytes : ∀ (l : List S51) (a : Nat), ((bytes l).map Int.toNat).foldl (· ||| ·) a = ((pos1 l).map Int.toNat).foldl (· ||| ·) a
 | [], _ => rfl
 | r :: l, a => by
  rw [bytes_cons, pos1_cons, List.map_append, List.map_replicate, List.foldl_append]
  by_cases h : r.f1 > 0
  ·obtain ⟨n, hn⟩ : ∃ n, r.f1.toNat = n + 1 := ⟨r.f1.toNat - 1, by omega⟩
   rw [if_pos h, hn, or_rep, List.map_cons, List.foldl_cons, or_bytes l]
  ·rw [if_neg h, show r.f1.toNat = 0 by omega]
   exact or_bytes l a
theorem toNat_map {L : List Int} (h : ∀ x ∈ L, 0 ≤ x ∧ x < 18446744073709551616) : L = (L.map Int.toNat).map (fun x : Nat => (x : Int)) := by
 induction L with
 | nil => rfl
 | cons x L ih =>
  rw [List.map_cons, List.map_cons, ← ih (fun z hz => h z (List.mem_cons_of_mem _ hz))]
  have := h x List.mem_cons_self
  congr 1
  omega
theorem orAllI_bytes {l : List S51} (hw : ∀ r ∈ l, 0 ≤ r.f0 ∧ r.f0 < 18446744073709551616) : orAllI (bytes l) = orAllI (pos1 l) := by
 have h1 : ∀ x ∈ bytes l, 0 ≤ x ∧ x < 18446744073709551616 := fun x hx => by obtain ⟨r, hr, rfl⟩ := bytes_mem hx; exact hw r hr
 have h2 : ∀ x ∈ pos1 l, 0 ≤ x ∧ x < 18446744073709551616 := fun x hx => by
  obtain ⟨r, hr, rfl⟩ := List.mem_map.1 hx
  exact hw r (List.mem_filter.1 hr).1
 rw [toNat_map h1, toNat_map h2, orAllI_nat _ (fun x hx => by obtain ⟨y, hy, rfl⟩ := List.mem_map.1 hx; have := h1 y hy; omega), orAllI_nat _ (fun x hx => by obtain ⟨y, hy, rfl⟩ := List.mem_map.1 hx; have := h2 y hy; omega)]
 congr 1
 exact or_bytes l 0
def sameT (s : ByteArray) (l : List S51) (t : ByteArray) (m : List S51) : Bool := if s.toList = t.toList then decide (l = m) else false
theorem sameT_self (s : ByteArray) (l : List S51) : sameT s l s l = true := by simp [sameT]
theorem rsame4_ev (s : ByteArray) (l : List S51) (t : ByteArray) (m : List S51) (hl : l.length ≤ big) : Ev (fun k => bureauref04_Same.f k s l t m) (sameT s l t m) := by
 unfold bureauref04_Same.f sameT
 exact Ev.ite (fun _ => Ev.bind (same_ev l m hl) (Ev.now _)) (fun _ => Ev.now _)
def cutS (s : ByteArray) (l : List S51) (a b : Int) : TX := if withinT s l a b = true then (s.extract a.toNat b.toNat, pack (((bytes l).take b.toNat).drop a.toNat), 0) else (⟨#[]⟩, [], 2)
theorem cut_ev (s : ByteArray) (l : List S51) (hl : l.length ≤ big) (a b : Int) : Ev (fun k => strip_Cut.f k s l a b) (cutS s l a b) := by
 unfold strip_Cut.f cutS
 refine Ev.bind (withinT_ev s l hl a b) ?_
 refine Ev.ite (fun hw => ?_) (fun _ => Ev.now _)
 obtain ⟨h1, h2, h3, h4⟩ := withinT_iff.1 hw
 obtain ⟨i, j, rfl, rfl, hij, hj, hg, hwb⟩ := withinT_facts hw
 refine Ev.bind (slice_ev l hl _ _) (Ev.pos h2 (Ev.pos h3 (Ev.pos h4 (ev_val (Ev.now _) ?_))))
 unfold sliceS
 rw [if_pos hwb]
theorem rcut_ev (s : ByteArray) (l : List S51) (hl : l.length ≤ big) (a b : Int) : Ev (fun k => bureauref04_Cut.f k s l a b) (cutS s l a b) := by
 unfold bureauref04_Cut.f cutS
 refine Ev.bind (rwithinT_ev s l hl a b) ?_
 refine Ev.ite (fun hw => ?_) (fun _ => Ev.now _)
 obtain ⟨h1, h2, h3, h4⟩ := withinT_iff.1 hw
 obtain ⟨g1, g2, g3, g4, g5⟩ := goodT_facts h1
 refine Ev.bind (bytes_ev l hl (by omega)) (Ev.pos h2 (Ev.pos h3 (Ev.pos h4 (Ev.pos (by omega) (Ev.bind (pack_ev _ ?_) (Ev.now _))))))
 rw [List.length_drop, List.length_take]
 omega
def spliceT (s : ByteArray) (l : List S51) (a b : Int) (x : ByteArray) (m : List S51) : TX :=
 if withinT s l a b = true then (if goodT x m = true then (if (s.size : Int) - (b - a) + (x.size : Int) > 4096 then (⟨#[]⟩, [], 3) else
  (s.extract 0 a.toNat ++ x ++ s.extract b.toNat s.size, pack ((bytes l).take a.toNat ++ bytes m ++ (bytes l).drop b.toNat), 0)) else (⟨#[]⟩, [], 2)) else (⟨#[]⟩, [], 2)
theorem ext_size (s : ByteArray) (i j : Nat) : (s.extract i j).size ≤ s.size := by rw [ByteArray.size_extract]; omega
theorem splice4_ev (s : ByteArray) (l : List S51) (hl : l.length ≤ big) (a b : Int) (x : ByteArray) (m : List S51) (hm : m.length ≤ big) : Ev (fun k => strip_Splice.f k s l a b x m) (spliceT s l a b x m) := by
 unfold strip_Splice.f spliceT
 refine Ev.bind (withinT_ev s l hl a b) ?_
 have bad : Ev (fun k => strip_Splice.j0 k a b true s l x m) (⟨#[]⟩, [], 2) := by
  refine Ev.step (fun k => by simp only [strip_Splice.j0]; rfl) ?_
  exact Ev.pos (by simp) (Ev.now _)
 refine Ev.ite (fun hw => ?_) (fun _ => bad)
 refine Ev.bind (goodT_ev x m hm) ?_
 by_cases hg : goodT x m = true
 ·rw [if_pos hg, hg]
  refine Ev.step (fun k => by simp only [strip_Splice.j0]; rfl) ?_
  refine Ev.neg (by simp) (Ev.bind (splice_ev l hl a b m hm) ?_)
  obtain ⟨h1, h2, h3, h4⟩ := withinT_iff.1 hw
  obtain ⟨i, j, rfl, rfl, hij, hj, hgl, hwb⟩ := withinT_facts hw
  obtain ⟨g1, g2, g3, g4, g5⟩ := goodT_facts hgl
  obtain ⟨q1, q2, q3, q4, q5⟩ := goodT_facts hg
  have he : spliceS l (i : Int) (j : Int) m = if (s.size : Int) - ((j : Int) - (i : Int)) + (x.size : Int) > 4096 then ([], 3) else (pack ((bytes l).take (i : Int).toNat ++ bytes m ++ (bytes l).drop (j : Int).toNat), 0) := by
   unfold spliceS
   rw [if_pos hwb, if_pos q1, g5, q5]
  rw [he]
  by_cases hb : (s.size : Int) - ((j : Int) - (i : Int)) + (x.size : Int) > 4096
  ·rw [if_pos hb, if_pos hb]
   exact Ev.neg (by decide) (Ev.now _)
  ·rw [if_neg hb, if_neg hb]
   have e1 := ext_size s 0 (i : Int).toNat
   have e2 := ext_size s (j : Int).toNat s.size
   refine Ev.pos rfl (Ev.pos h2 (Ev.pos (by omega) (Ev.pos (by omega) (Ev.pos (by omega) (Ev.pos h4 (Ev.pos ?_ (Ev.now _)))))))
   rw [ByteArray.size_append]
   omega
 ·rw [if_neg hg, show goodT x m = false by simpa using hg]
  exact bad
def catT (s : ByteArray) (l : List S51) (x : ByteArray) (m : List S51) : TX := spliceT s l (s.size : Int) (s.size : Int) x m
theorem cat4_ev (s : ByteArray) (l : List S51) (hl : l.length ≤ big) (x : ByteArray) (m : List S51) (hm : m.length ≤ big) : Ev (fun k => strip_Cat.f k s l x m) (catT s l x m) := by
 unfold strip_Cat.f catT
 exact Ev.bind (splice4_ev s l hl _ _ x m hm) (Ev.now _)
theorem toList_loop (a : ByteArray) : ∀ (n i : Nat) (r : List UInt8), i + n = a.size → ByteArray.toList.loop a i r = r.reverse ++ a.data.toList.drop i
 | 0, i, r, h => by
  unfold ByteArray.toList.loop
  rw [if_neg (by omega), List.drop_eq_nil_of_le (by rw [Array.length_toList]; show a.size ≤ i; omega), List.append_nil]
 | n + 1, i, r, h => by
  unfold ByteArray.toList.loop
  have hi : i < a.data.toList.length := by rw [Array.length_toList]; show i < a.size; omega
  rw [if_pos (by omega), toList_loop a n (i + 1) _ (by omega), List.reverse_cons, List.append_assoc, List.drop_eq_getElem_cons hi]
  congr 1
  show [a.get! i] ++ _ = _
  rw [List.singleton_append]
  congr 1
  show a.data[i]! = _
  rw [getElem!_pos a.data i (by rw [Array.length_toList] at hi; exact hi)]
  simp
theorem toList_data (a : ByteArray) : a.toList = a.data.toList := by
 unfold ByteArray.toList
 rw [toList_loop a a.size 0 [] (by omega)]
 rfl
theorem toList_inj {a b : ByteArray} (h : a.toList = b.toList) : a = b := by
 rw [toList_data, toList_data] at h
 exact ByteArray.ext (Array.toList_inj.1 h)
end Go.Proofs.Ytnbdldpjiofafaa.PB
end

section
namespace Go.Proofs.Ytnbdldpjiofafaa.PB
open Go.RowKit Go.Proofs.YtnbdldpjiofafaaW.PrintWords
set_option linter.unusedVariables false
def seen (x y : Int) : Bool := Go.bits .andNot .u64 x y == 0
def hide (y x c : Int) : Int := if seen x y = true then c else 35
def hideAll (y : Int) (L B : List Int) : List Int := List.zipWith (hide y) L B
theorem hideAll_len (y : Int) (L B : List Int) : (hideAll y L B).length = min L.length B.length := List.length_zipWith
theorem paintN_app : ∀ (n : Nat) (P B : List Int), n ≤ B.length → paintN P.length n (P ++ B) = P ++ (List.replicate n 35 ++ B.drop n)
 | 0, P, B, _ => by simp [paintN]
 | n + 1, P, [], h => by simp at h
 | n + 1, P, b :: B, h => by
  have := paintN_app n (P ++ [35]) B (by simpa using h)
  rw [List.length_append, List.length_singleton] at this
  simp only [paintN]
  rw [show (P ++ b :: B).set P.length 35 = P ++ [35] ++ B by simp, this]
  simp [List.replicate_succ]
theorem hide_rep (y x : Int) : ∀ (n : Nat) (B : List Int), n ≤ B.length → List.zipWith (hide y) (List.replicate n x) (B.take n) = if seen x y = true then B.take n else List.replicate n 35
 | 0, B, _ => by simp
 | n + 1, [], h => by simp at h
 | n + 1, b :: B, h => by
  rw [List.replicate_succ, List.take_succ_cons, List.zipWith_cons_cons, hide_rep y x n B (by simpa using h)]
  unfold hide
  by_cases hs : seen x y = true
  ·rw [if_pos hs, if_pos hs, if_pos hs]
  ·rw [if_neg hs, if_neg hs, if_neg hs, List.replicate_succ]
theorem viewTo_app (y : Int) : ∀ (l : List S51) (P B : List Int), B.length = (bytes l).length → viewTo y l P.length (P ++ B) = P ++ hideAll y (bytes l) B
 | [], P, B, h => by
  have : B = [] := List.eq_nil_of_length_eq_zero (by simpa [bytes] using h)
  subst this
  simp [viewTo, hideAll, bytes]
 | r :: l, P, B, h => by
  rw [bytes_cons, List.length_append, List.length_replicate] at h
  have hn : r.f1.toNat ≤ B.length := by omega
  have hz : hideAll y (bytes (r :: l)) B = List.zipWith (hide y) (List.replicate r.f1.toNat r.f0) (B.take r.f1.toNat) ++ hideAll y (bytes l) (B.drop r.f1.toNat) := by
   unfold hideAll
   rw [bytes_cons]
   conv => lhs; rw [← List.take_append_drop r.f1.toNat B]
   rw [List.zipWith_append]
   rw [List.length_replicate, List.length_take]
   omega
  rw [hz, hide_rep _ _ _ _ hn]
  simp only [viewTo]
  by_cases hs : seen r.f0 y = true
  ·rw [if_pos (show (Go.bits .andNot .u64 r.f0 y == 0) = true from hs), if_pos hs]
   have := viewTo_app y l (P ++ B.take r.f1.toNat) (B.drop r.f1.toNat) (by rw [List.length_drop]; omega)
   rw [List.length_append, List.length_take, show min r.f1.toNat B.length = r.f1.toNat by omega, List.append_assoc, List.take_append_drop, List.append_assoc] at this
   exact this
  ·rw [if_neg (show ¬ (Go.bits .andNot .u64 r.f0 y == 0) = true from hs), if_neg hs, paintN_app _ _ _ hn]
   have := viewTo_app y l (P ++ List.replicate r.f1.toNat 35) (B.drop r.f1.toNat) (by rw [List.length_drop]; omega)
   rw [List.length_append, List.length_replicate, List.append_assoc, List.append_assoc] at this
   exact this
def viewS (s : ByteArray) (l : List S51) (y : Int) : ByteArray × Int := if goodT s l = true then (strOfNums (hideAll y (bytes l) (bytesOf s)), 0) else (⟨#[]⟩, 2)
theorem view_ev (s : ByteArray) (l : List S51) (hl : l.length ≤ big) (y : Int) : Ev (fun k => strip_View.f k s l y) (viewS s l y) := by
 unfold strip_View.f viewS
 refine Ev.bind (goodT_ev s l hl) ?_
 refine Ev.ite (fun hg => ?_) (fun _ => Ev.now _)
 obtain ⟨g1, g2, g3, g4, g5⟩ := goodT_facts hg
 refine Ev.pos ⟨nrm_nonneg g2, by omega, by omega⟩ (ev_val (Ev.now _) ?_)
 have := viewTo_app y l [] (bytesOf s) (by rw [bytesOf_len, g3])
 simp only [List.length_nil, List.nil_append] at this
 rw [this]
theorem bt_bytesOf (s : ByteArray) (i : Nat) (hi : i < s.size) : (bytesOf s).getD i 0 = bt s (i : Int) := by
 rw [bytesOf_getD s i hi]
 unfold bt
 rw [dif_pos (show ((i : Int).toNat) < s.size by rw [Int.toNat_natCast]; exact hi)]
 have hd : i < s.data.toList.length := by rw [Array.length_toList]; exact hi
 rw [List.getD_eq_getElem?_getD, List.getElem?_eq_getElem hd]
 rfl
theorem rview_ev (s : ByteArray) (l : List S51) (hl : l.length ≤ big) (y : Int) (hw : ∀ r ∈ l, 0 ≤ r.f0 ∧ r.f0 < 18446744073709551616) (hy : 0 ≤ y ∧ y < 18446744073709551616) : Ev (fun k => bureauref04_View.f k s l y) (viewS s l y) := by
 unfold bureauref04_View.f viewS
 refine Ev.bind (rgoodT_ev s l hl) ?_
 refine Ev.ite (fun hg => ?_) (fun _ => Ev.now _)
 obtain ⟨g1, g2, g3, g4, g5⟩ := goodT_facts hg
 refine Ev.bind (bytes_ev l hl (by omega)) ?_
 have hwb : ∀ x ∈ bytes l, 0 ≤ x ∧ x < 18446744073709551616 := fun x hx => by obtain ⟨r, hr, rfl⟩ := bytes_mem hx; exact hw r hr
 generalize bytes l = L at *
 have loop : ∀ (d i : Nat) (acc : List Int), i + d = L.length → acc.length = i → Ev (fun k => bureauref04_View.l0 k y L acc (i : Int) s l) (strOfNums (acc ++ hideAll y (L.drop i) ((bytesOf s).drop i)), 0) := by
  intro d
  induction d with
  | zero =>
   intro i acc hi ha
   refine Ev.step (fun k => by simp only [bureauref04_View.l0]; rfl) ?_
   refine Ev.neg (by omega) (ev_val (Ev.now _) ?_)
   rw [List.drop_eq_nil_of_le (by omega)]
   simp [hideAll]
  | succ d ih =>
   intro i acc hi ha
   have hlt : i < L.length := by omega
   have hls : i < s.size := by omega
   have hrd : rd L (i : Int) = L.getD i 0 := by unfold rd; rw [Int.toNat_natCast]
   refine Ev.step (fun k => by simp only [bureauref04_View.l0]; rfl) ?_
   refine Ev.pos (by omega) (Ev.pos (by omega) ?_)
   rw [hrd, w1 hlt (by omega)]
   have hx := hwb (L.getD i 0) (by rw [List.getD_eq_getElem?_getD, List.getElem?_eq_getElem hlt]; exact List.getElem_mem hlt)
   have hj : bureauref01_Below.f (L.getD i 0) y = some (seen (L.getD i 0) y) := by unfold bureauref01_Below.f; rw [if_pos ⟨hx.1, hx.2, hy.1, hy.2⟩]; rfl
   rw [hj, dropI hlt, dropI (show i < (bytesOf s).length by rw [bytesOf_len]; exact hls)]
   refine Ev.bind (Ev.now _) ?_
   by_cases hs : seen (L.getD i 0) y = true
   ·refine Ev.pos hs (Ev.pos (by omega) (Ev.pos (by omega) ?_))
    refine ev_val (ih (i + 1) _ (by omega) (by simp [ha])) ?_
    rw [bt_bytesOf s i hls, List.append_assoc]
    generalize L.getD i 0 = xx at *
    simp [hideAll, hide, hs]
   ·refine Ev.neg hs (Ev.pos (by omega) ?_)
    refine ev_val (ih (i + 1) _ (by omega) (by simp [ha])) ?_
    rw [List.append_assoc]
    generalize L.getD i 0 = xx at *
    simp [hideAll, hide, hs]
 exact loop L.length 0 [] (by omega) rfl
end Go.Proofs.Ytnbdldpjiofafaa.PB
end

section
namespace Go.Proofs.Ytnbdldpjiofafaa.PB
open Go.RowKit Go.Proofs.YtnbdldpjiofafaaW.PrintWords
set_option linter.unusedVariables false
theorem wfT {x : S24} (h : wf24 x) : ∀ r ∈ x.f1, 0 ≤ r.f0 ∧ r.f0 < 18446744073709551616 := wf_labels h.2.2
theorem ext_all (s : ByteArray) : s.extract 0 s.size = s := by
  apply ByteArray.ext
  rw [ByteArray.data_extract]
  exact Array.extract_size
theorem ext_none (s : ByteArray) : s.extract s.size s.size = ByteArray.empty := by
  apply ByteArray.ext
  rw [ByteArray.data_extract]
  simp
theorem goodT_pack {s : ByteArray} {B : List Int} (h : B.length = s.size) (h4 : s.size ≤ 4096) : goodT s (pack B) = true := by
  obtain ⟨g1, t1⟩ := good_pack (show B.length ≤ 4096 by omega)
  exact goodT_iff.2 ⟨g1, by omega⟩
theorem catT_pack (s x : ByteArray) (B C : List Int) (hB : B.length = s.size) (hC : C.length = x.size) (h : s.size + x.size ≤ 4096) : catT s (pack B) x (pack C) = (s ++ x, pack (B ++ C), 0) := by
  have g1 := goodT_pack hB (by omega)
  have g2 := goodT_pack hC (by omega)
  unfold catT spliceT
  rw [if_pos (withinT_iff.2 ⟨g1, by omega, by omega, by omega⟩), if_pos g2, if_neg (by omega), Int.toNat_natCast, pack_bytes, pack_bytes, ext_all, ext_none, ← hB, List.take_length, List.drop_length, List.append_nil, ByteArray.append_empty]
end Go.Proofs.Ytnbdldpjiofafaa.PB
end

section
namespace Go.Proofs.Ytnbdldpjiofafaa.PB
open Go.RowKit Go.Proofs.YtnbdldpjiofafaaW.PrintWords
set_option linter.unusedVariables false
theorem own_eq (s : ByteArray) (l : List S51) (hl : l.length ≤ big) : edit_own.f s l = some (s, l) := by
 unfold edit_own.f
 unfold big at hl
 rw [if_pos (by omega)]
theorem ext_list (s : ByteArray) (i j : Nat) : (s.extract i j).data.toList = (s.data.toList.take j).drop i := by
 rw [ByteArray.data_extract, Array.toList_extract, List.extract_eq_take_drop, List.drop_take]
theorem app_list (s t : ByteArray) : (s ++ t).data.toList = s.data.toList ++ t.data.toList := by rw [ByteArray.data_append, Array.toList_append]
theorem data_inj {a b : ByteArray} (h : a.data.toList = b.data.toList) : a = b := ByteArray.ext (Array.toList_inj.1 h)
end Go.Proofs.Ytnbdldpjiofafaa.PB
end

section
namespace Go.Proofs.Ytnbdldpjiofafaa.PB
open Go.RowKit Go.Proofs.YtnbdldpjiofafaaW.PrintWords
set_option linter.unusedVariables false
def fitE (o : ByteArray) (ol : List S51) (n : ByteArray) (nl : List S51) : Prop := (o.size ≤ 5000 ∧ ol.length ≤ 5000) ∧ (n.size ≤ 5000 ∧ nl.length ≤ 5000)
instance (o : ByteArray) (ol : List S51) (n : ByteArray) (nl : List S51) : Decidable (fitE o ol n nl) := inferInstanceAs (Decidable (_ ∧ _))
end Go.Proofs.Ytnbdldpjiofafaa.PB
end

section
namespace Go.Proofs.Ytnbdldpjiofafaa.PB
open Go.RowKit Go.Proofs.YtnbdldpjiofafaaW.PrintWords
set_option linter.unusedVariables false
abbrev EX := Int × ByteArray × List S51 × ByteArray × List S51 × Int
def ofS (s : ByteArray) (l : List S51) (a b : Int) (x : ByteArray) (m : List S51) : EX :=
  if (spliceT s l a b x m).2.2 = 0 then (a, (cutS s l a b).1, (cutS s l a b).2.1, x, m, 0) else (0, ⟨#[]⟩, [], ⟨#[]⟩, [], (spliceT s l a b x m).2.2)
theorem splice_cut {s : ByteArray} {l : List S51} {a b : Int} {x : ByteArray} {m : List S51} (h : (spliceT s l a b x m).2.2 = 0) : withinT s l a b = true ∧ goodT x m = true ∧ ¬ (s.size : Int) - (b - a) + (x.size : Int) > 4096 ∧ (cutS s l a b).2.2 = 0 := by
  unfold spliceT at h
  by_cases hw : withinT s l a b = true
  · rw [if_pos hw] at h
    by_cases hg : goodT x m = true
    · rw [if_pos hg] at h
      by_cases hb : (s.size : Int) - (b - a) + (x.size : Int) > 4096
      · rw [if_pos hb] at h; cases h
      · exact ⟨hw, hg, hb, by unfold cutS; rw [if_pos hw]⟩
    · rw [if_neg hg] at h; cases h
  · rw [if_neg hw] at h; cases h
theorem of_ev (s : ByteArray) (l : List S51) (hl : l.length ≤ big) (a b : Int) (x : ByteArray) (m : List S51) (hm : m.length ≤ big) : Ev (fun k => edit_Of.f k s l a b x m) (ofS s l a b x m) := by
  unfold edit_Of.f ofS
  refine Ev.bind (splice4_ev s l hl a b x m hm) (Ev.ite (fun h => ?_) (fun _ => Ev.now _))
  refine Ev.bind (cut_ev s l hl a b) ?_
  rw [own_eq x m hm]
  refine Ev.bind (Ev.now _) (ev_val (Ev.now _) ?_)
  rw [(splice_cut h).2.2.2]
theorem rof_ev (s : ByteArray) (l : List S51) (hl : l.length ≤ big) (a b : Int) (x : ByteArray) (m : List S51) (hm : m.length ≤ big) : Ev (fun k => bureauref07_Of.f k s l a b x m) (ofS s l a b x m) := by
  unfold bureauref07_Of.f
  have bad : ¬ (withinT s l a b = true ∧ goodT x m = true) → Ev (fun k => bureauref07_Of.j0 k a b true s l x m (cutS s l a b).1 (cutS s l a b).2.1) (ofS s l a b x m) := fun h => by
    have e : spliceT s l a b x m = (⟨#[]⟩, [], 2) := by
      unfold spliceT
      by_cases hw : withinT s l a b = true
      · rw [if_pos hw, if_neg (fun hg => h ⟨hw, hg⟩)]
      · rw [if_neg hw]
    refine Ev.step (fun k => by simp only [bureauref07_Of.j0]; rfl) ?_
    refine Ev.pos (by simp) (ev_val (Ev.now _) ?_)
    unfold ofS
    rw [e, if_neg (by decide)]
  refine Ev.bind (rcut_ev s l hl a b) ?_
  by_cases hw : withinT s l a b = true
  · have hc : (cutS s l a b).2.2 = 0 := by unfold cutS; rw [if_pos hw]
    refine Ev.pos hc (Ev.bind (rgoodT_ev x m hm) ?_)
    by_cases hg : goodT x m = true
    · rw [hg]
      refine Ev.step (fun k => by simp only [bureauref07_Of.j0]; rfl) ?_
      refine Ev.neg (by simp) ?_
      obtain ⟨h1, h2, h3, h4⟩ := withinT_iff.1 hw
      obtain ⟨_, _, _, g4, _⟩ := goodT_facts h1
      obtain ⟨_, _, _, q4, _⟩ := goodT_facts hg
      rw [show wrap64 (wrap64 ((s.size : Int) - wrap64 (b - a)) + (x.size : Int)) = (s.size : Int) - (b - a) + (x.size : Int) by unfold wrap64; omega]
      unfold ofS spliceT
      rw [if_pos (c := withinT s l a b = true) hw, if_pos (c := goodT x m = true) hg]
      by_cases hb : (s.size : Int) - (b - a) + (x.size : Int) > 4096
      · refine Ev.pos hb (ev_val (Ev.now _) ?_)
        rw [if_pos hb, if_neg (by decide)]
      · refine Ev.neg hb (ev_val (Ev.now _) ?_)
        rw [if_neg hb, if_pos rfl]
    · rw [show goodT x m = false by simpa using hg]
      exact bad (fun h => hg h.2)
  · have hc : (cutS s l a b).2.2 ≠ 0 := by unfold cutS; rw [if_neg hw]; decide
    exact Ev.neg hc (bad (fun h => hw h.1))
theorem rsame7_self (a : Int) (o : ByteArray) (ol : List S51) (n : ByteArray) (nl : List S51) (hl : ol.length ≤ big) (hm : nl.length ≤ big) : Ev (fun k => bureauref07_Same.f k a o ol n nl a o ol n nl) true := by
  unfold bureauref07_Same.f
  exact Ev.pos rfl (Ev.bind (rsame4_ev _ _ _ _ hl) (Ev.pos (sameT_self _ _) (Ev.bind (rsame4_ev _ _ _ _ hm) (ev_val (Ev.now _) (sameT_self _ _)))))
end Go.Proofs.Ytnbdldpjiofafaa.PB
end

section
namespace Go.Proofs.Ytnbdldpjiofafaa.PB
open Go.RowKit Go.Proofs.YtnbdldpjiofafaaW.PrintWords
set_option linter.unusedVariables false
structure Alike (y : Int) (s : ByteArray) (l : List S51) (s' : ByteArray) (l' : List S51) : Prop where
 runs : l = l'
 size : s.size = s'.size
 view : goodT s l = true → hideAll y (bytes l) (bytesOf s) = hideAll y (bytes l) (bytesOf s')
theorem Alike.good {y : Int} {s s' : ByteArray} {l l' : List S51} (h : Alike y s l s' l') : goodT s l = goodT s' l' := by
 obtain ⟨rfl, h2, _⟩ := h
 unfold goodT
 rw [h2]
section
variable {y : Int} {s s' x x' : ByteArray} {l l' m m' : List S51}
end
end Go.Proofs.Ytnbdldpjiofafaa.PB
end
