/- What the row hangs on, part 6. -/
import Derived.Lib.CountLaws
import Derived.Lib.SplitLaws
import Derived.Lib.IndexMore
import Derived.OpenShut
import Derived.ChangeArms
import Derived.Deep.Slices
import Derived.SizedLaws
import Derived.Test.YtnbdldpjiofafaaQSubstHides5
section
namespace Go.Proofs.Ytnbdldpjiofafaa.PB
open Go.RowKit Go.Proofs.YtnbdldpjiofafaaW.PrintWords Go.Proofs.YtnbdldpjiofafaaW.PrintLast Go.Proofs.YtnbdldpjiofafaaW.PrintMore
attribute [local go_sem] max2_int min2_int max_two min_two max_three min_three max_four min_four   
set_option linter.unusedVariables false
set_option linter.unusedSimpArgs false
def bureaulaw15_SubstHides.j0 : Nat → Int → Bool → ByteArray → List (S51) → Int → Int → ByteArray → ByteArray → Bool → ByteArray → Option (Bool)
 | 0, _, _, _, _, _, _, _, _, _, _ => none
 | k + 1, x1, x26, x650000, x650001, x651000, x651001, x651002, x651003, x651004, x651005 => if x26 = true then (some true) else ((bureauref04_Other.f k x650000 x650001 x1 x651005).bind fun bt653 => ((subst_Do.f k x650000 x650001 x1 x651000 x651001 x651002 x651003 x651004).bind fun bt658 => ((subst_Do.f k bt653.1 bt653.2 x1 x651000 x651001 x651002 x651003 x651004).bind fun bt670 => (if bt658.2.2.2.2.2.2 = bt670.2.2.2.2.2.2 then (if bt658.2.2.2.2.2.1 = bt670.2.2.2.2.2.1 then (if bt658.1 = bt670.1 then ((bureauref04_Low.f k bt658.2.1 bt658.2.2.1 bt670.2.1 bt670.2.2.1 x1).bind fun t682 => (if t682 = true then ((bureauref04_Low.f k bt658.2.2.2.1 bt658.2.2.2.2.1 bt670.2.2.2.1 bt670.2.2.2.2.1 x1).bind fun t683 => (some t683)) else (some false))) else (some false)) else (some false)) else (some false)))))
def bureaulaw15_SubstHides.f (k : Nat) (a0_0 : ByteArray) (l0_1 : List (S51)) (a1 : Int) (a2_0 : Int) (a2_1 : Int) (a2_2 : ByteArray) (a2_3 : ByteArray) (a2_4 : Bool) (a2_5 : ByteArray) : Option (Bool) := (bureaulaw15_alive.f k).bind fun t651 => (if t651 = true then ((bureaulaw15_fits.f a0_0 l0_1 a2_0 a2_1 a2_2 a2_3 a2_4).bind fun t652 => (if t652 = true then (bureaulaw15_SubstHides.j0 k a1 (decide ((a2_5.size : Int) > 5000)) a0_0 l0_1 a2_0 a2_1 a2_2 a2_3 a2_4 a2_5) else (bureaulaw15_SubstHides.j0 k a1 true a0_0 l0_1 a2_0 a2_1 a2_2 a2_3 a2_4 a2_5))) else (some false))
set_option maxHeartbeats 8000000 in
set_option maxRecDepth 100000 in
theorem bureaulaw15_SubstHides.calls (k : Nat) (a0_0 : ByteArray) (A0_1 : Option Addr) (c0_1 : Nat) (l0_1 : List (S51)) (a1 : Int) (a2_0 : Int) (a2_1 : Int) (a2_2 : ByteArray) (a2_3 : ByteArray) (a2_4 : Bool) (a2_5 : ByteArray) (r : Bool) (w : World) (hMX : MaxOk w) (hr0_1 : Kd.C k51 w A0_1 l0_1.length l0_1) (hc0_1 : l0_1.length ≤ c0_1) (h : bureaulaw15_SubstHides.f k a0_0 l0_1 a1 a2_0 a2_1 a2_2 a2_3 a2_4 a2_5 = some r) :
  Calls Try.prog 7 #[.agg #[.string a0_0, .slice A0_1 l0_1.length c0_1], .int .u64 a1, .agg #[.int .i64 a2_0, .int .i64 a2_1, .string a2_2, .string a2_3, .bool a2_4, .string a2_5]] w fun e w' => e = .returned (.bool r) ∧ Below w.heap.size w w' := by
 have HMX := aM hMX
 clear hMX
 have hu24 := Try.underlying24
 have hu46 := Try.underlying46
 have hu28 := Try.underlying28
 have hu32 := Try.underlying32
 have HR0_1 := aM hr0_1
 have HC0_1 := aM hc0_1
 clear hr0_1 hc0_1
 have HB := aM (Below.refl w.heap.size w)
 have H : ((bureaulaw15_alive.f k).bind fun t651 => (if t651 = true then ((bureaulaw15_fits.f a0_0 l0_1 a2_0 a2_1 a2_2 a2_3 a2_4).bind fun t652 => (if t652 = true then (bureaulaw15_SubstHides.j0 k a1 (decide ((a2_5.size : Int) > 5000)) a0_0 l0_1 a2_0 a2_1 a2_2 a2_3 a2_4 a2_5) else (bureaulaw15_SubstHides.j0 k a1 true a0_0 l0_1 a2_0 a2_1 a2_2 a2_3 a2_4 a2_5))) else (some false))) = some r := h
 clear h
 replace H := Option.bind_eq_some_iff.mp H
 obtain ⟨t651, A40, H⟩ := H
 replace H : (if t651 = true then ((bureaulaw15_fits.f a0_0 l0_1 a2_0 a2_1 a2_2 a2_3 a2_4).bind fun t652 => (if t652 = true then (bureaulaw15_SubstHides.j0 k a1 (decide ((a2_5.size : Int) > 5000)) a0_0 l0_1 a2_0 a2_1 a2_2 a2_3 a2_4 a2_5) else (bureaulaw15_SubstHides.j0 k a1 true a0_0 l0_1 a2_0 a2_1 a2_2 a2_3 a2_4 a2_5))) else (some false)) = some r := H
 have A4 := aM A40
 clear A40
 by_cases c5 : t651 = true
 ·subst c5
  have H1 : ((bureaulaw15_fits.f a0_0 l0_1 a2_0 a2_1 a2_2 a2_3 a2_4).bind fun t652 => (if t652 = true then (bureaulaw15_SubstHides.j0 k a1 (decide ((a2_5.size : Int) > 5000)) a0_0 l0_1 a2_0 a2_1 a2_2 a2_3 a2_4 a2_5) else (bureaulaw15_SubstHides.j0 k a1 true a0_0 l0_1 a2_0 a2_1 a2_2 a2_3 a2_4 a2_5))) = some r := by rw [if_pos rfl] at H; exact H
  clear H
  have H := H1
  clear H1
  have HC6 := aM H
  clear H
  go_enter Try.func7, Try.ntmps7
  go_upto_region 3 with (first | ((with_reducible refine gate_dst (N := 3) rfl ?_); (try (refine gate_guard (by rfl) ?_; dsimp only)); refine box_event ?hg (N := 3) ?hd (cs := #[.string a0_0, .slice A0_1 l0_1.length c0_1]) (t := 24) ?hr ?_; (case hd | hg => rfl); (case hr => first | (go_simp; done) | (go_simp; rfl)); intro gb649 hg w7 hbox hb; have n0_ := aM (bP (ey HB.out) hb); have n1_ := aM (hbox); have n2_ := aM ((by rw [hg]; exact (bZ (ey HB.out)) : w.heap.size ≤ gb649)); have n3_ := n2_; clear HB; have HB := n0_; have BK649 := n1_; have GW649 := n2_; have GE649 := n3_; clear n0_ n1_ n2_ n3_; clear hb hbox hg) | ((with_reducible refine gate_dst (N := 5) rfl ?_); (try (refine gate_guard (by rfl) ?_; dsimp only)); refine box_event ?hg (N := 5) ?hd (cs := #[.int .i64 a2_0, .int .i64 a2_1, .string a2_2, .string a2_3, .bool a2_4, .string a2_5]) (t := 46) ?hr ?_; (case hd | hg => rfl); (case hr => first | (go_simp; done) | (go_simp; rfl)); intro gb650 hg w8 hbox hb; have n0_ := aM (bB (g := gb649) (qy BK649.out) hb); have n1_ := aM (bP (by repeat (first | (with_reducible first | exact HB.out | apply ea | apply en | apply ed | refine es ?_ GE649.out) | exact HB.out)) hb); have n2_ := aM (hbox); have n3_ := aM ((by rw [hg]; exact (bZ (by repeat (first | (with_reducible first | exact HB.out | apply ea | apply en | apply ed | refine es ?_ GE649.out) | exact HB.out))) : w.heap.size ≤ gb650)); have n4_ := n3_; have n5_ := aM ((by rw [hg]; exact Nat.ne_of_lt (blk_lt (g := gb649) (qy BK649.out)) : gb649 ≠ gb650)); have n6_ := aM ((by rw [hg]; exact Nat.ne_of_gt (blk_lt (g := gb649) (qy BK649.out)) : gb650 ≠ gb649)); clear BK649 HB; have BK649 := n0_; have HB := n1_; have BK650 := n2_; have GW650 := n3_; have GE650 := n4_; have NB649_650 := n5_; have NB650_649 := n6_; clear n0_ n1_ n2_ n3_ n4_ n5_ n6_; clear hb hbox hg) | ((with_reducible refine gate_callee (f := 8) rfl ?_); refine goesL_ (some 14) rfl rfl Try.func8 (by kernel_rfl) rfl #[] rfl (by (try simp only [mT, mC, mN]); first | done | rfl | (simp only [lD, lT]; rfl)) ?_; (with_reducible refine (bureaulaw15_alive.calls k  true _ ?mx49 A4.out).mono ?_); (case mx49 => exact MaxOk.below HMX.out (by repeat (first | (with_reducible first | exact HB.out | apply ea | apply en | apply ed | refine es ?_ GE649.out | refine es ?_ GE650.out) | exact HB.out))); rintro e w9 ⟨rfl, hb⟩; refine ⟨_, rfl, ?_⟩; have n0_ := aM (bB (g := gb649) (qy BK649.out) hb); have n1_ := aM (bB (g := gb650) (qy BK650.out) hb); have n2_ := aM (bP (by repeat (first | (with_reducible first | exact HB.out | apply ea | apply en | apply ed | refine es ?_ GE649.out | refine es ?_ GE650.out) | exact HB.out)) hb); clear BK649 BK650 HB; have BK649 := n0_; have BK650 := n1_; have HB := n2_; clear n0_ n1_ n2_; (try clear hb); (try clear hb2); (try clear hk); (try clear hi)))
  (try simp only [Act.put, sA, sZ, sS])
  go_cut [26] (fun v26 wc => ∃ (kq : Nat) (x26_5 : Bool), v26 = .bool x26_5 ∧ Aside0 (bureaulaw15_SubstHides.j0 kq a1 x26_5 a0_0 l0_1 a2_0 a2_1 a2_2 a2_3 a2_4 a2_5 = some r) ∧ Aside0 (kq ≤ k) ∧ Aside0 (wc.heap[gb649]? = some (.cells #[.string a0_0, (.slice A0_1 l0_1.length c0_1)] 24 (0, 0))) ∧ Aside0 (wc.heap[gb650]? = some (.cells #[.int .i64 a2_0, .int .i64 a2_1, .string a2_2, .string a2_3, .bool a2_4, .string a2_5] 46 (0, 0))) ∧ Aside0 (Below w.heap.size w wc))
  case first =>
   have H := HC6.out
   clear HC6
   replace H := Option.bind_eq_some_iff.mp H
   obtain ⟨t652, A100, H⟩ := H
   replace H : (if t652 = true then (bureaulaw15_SubstHides.j0 k a1 (decide ((a2_5.size : Int) > 5000)) a0_0 l0_1 a2_0 a2_1 a2_2 a2_3 a2_4 a2_5) else (bureaulaw15_SubstHides.j0 k a1 true a0_0 l0_1 a2_0 a2_1 a2_2 a2_3 a2_4 a2_5)) = some r := H
   have A10 := aM A100
   clear A100
   by_cases c11 : t652 = true
   ·subst c11
    have H1 : (bureaulaw15_SubstHides.j0 k a1 (decide ((a2_5.size : Int) > 5000)) a0_0 l0_1 a2_0 a2_1 a2_2 a2_3 a2_4 a2_5) = some r := by rw [if_pos rfl] at H; exact H
    clear H
    have H := H1
    clear H1
    have H' := aM H
    clear H
    have hnb12 := NB649_650.out
    have hnc12 := NB650_649.out
    have hcz13_0 : w9.cell? ⟨gb649, 0, none⟩ = some (.string a0_0) := (bC BK649.out 0).trans rfl
    have hcz13_1 : w9.cell? ⟨gb649, 1, none⟩ = some (.slice A0_1 l0_1.length c0_1) := (bC BK649.out 1).trans rfl
    have hfz13_0 := bF BK649.out 0
    have hfz13_1 := bF BK649.out 1
    have hcz14_0 : w9.cell? ⟨gb650, 0, none⟩ = some (.int .i64 a2_0) := (bC BK650.out 0).trans rfl
    have hcz14_1 : w9.cell? ⟨gb650, 1, none⟩ = some (.int .i64 a2_1) := (bC BK650.out 1).trans rfl
    have hcz14_2 : w9.cell? ⟨gb650, 2, none⟩ = some (.string a2_2) := (bC BK650.out 2).trans rfl
    have hcz14_3 : w9.cell? ⟨gb650, 3, none⟩ = some (.string a2_3) := (bC BK650.out 3).trans rfl
    have hcz14_4 : w9.cell? ⟨gb650, 4, none⟩ = some (.bool a2_4) := (bC BK650.out 4).trans rfl
    have hcz14_5 : w9.cell? ⟨gb650, 5, none⟩ = some (.string a2_5) := (bC BK650.out 5).trans rfl
    have hfz14_0 := bF BK650.out 0
    have hfz14_1 := bF BK650.out 1
    have hfz14_2 := bF BK650.out 2
    have hfz14_3 := bF BK650.out 3
    have hfz14_4 := bF BK650.out 4
    have hfz14_5 := bF BK650.out 5
    go_wp2_with (first | ((with_reducible refine gate_callee (f := 9) rfl ?_); refine goesL_ (some 19) rfl rfl Try.func9 (by kernel_rfl) rfl #[.agg #[.string a0_0, .slice A0_1 l0_1.length c0_1], .agg #[.int .i64 a2_0, .int .i64 a2_1, .string a2_2, .string a2_3, .bool a2_4]] rfl (by (try simp only [mT, mC, mN]); first | done | rfl | (simp only [lD, lT]; rfl)) ?_; (with_reducible refine (bureaulaw15_fits.calls a0_0 _ _ l0_1 a2_0 a2_1 a2_2 a2_3 a2_4 true _ ?side1 ?side2 A10.out).mono ?_); (case side1 => repeat (first | exact (cB_ HR0_1.out HB.out) | (with_reducible refine Kd.C_alloc ?_ _) | (with_reducible refine Kd.C_drewN ?_ _) | (with_reducible refine Kd.C_drew ?_))); (case side2 => exact HC0_1.out); rintro e w15 ⟨rfl, hb⟩; refine ⟨_, rfl, ?_⟩; have n0_ := aM (bB (g := gb649) (qy BK649.out) hb); have n1_ := aM (bB (g := gb650) (qy BK650.out) hb); have n2_ := aM (bP (by repeat (first | (with_reducible first | exact HB.out | apply ea | apply en | apply ed | refine es ?_ GE649.out | refine es ?_ GE650.out) | exact HB.out)) hb); clear BK649 BK650 HB; have BK649 := n0_; have BK650 := n1_; have HB := n2_; clear n0_ n1_ n2_; (try clear hb); (try clear hb2); (try clear hk); (try clear hi); have hcz16_0 : w15.cell? ⟨gb650, 0, none⟩ = some (.int .i64 a2_0) := (bC BK650.out 0).trans rfl; have hcz16_1 : w15.cell? ⟨gb650, 1, none⟩ = some (.int .i64 a2_1) := (bC BK650.out 1).trans rfl; have hcz16_2 : w15.cell? ⟨gb650, 2, none⟩ = some (.string a2_2) := (bC BK650.out 2).trans rfl; have hcz16_3 : w15.cell? ⟨gb650, 3, none⟩ = some (.string a2_3) := (bC BK650.out 3).trans rfl; have hcz16_4 : w15.cell? ⟨gb650, 4, none⟩ = some (.bool a2_4) := (bC BK650.out 4).trans rfl; have hcz16_5 : w15.cell? ⟨gb650, 5, none⟩ = some (.string a2_5) := (bC BK650.out 5).trans rfl; have hfz16_0 := bF BK650.out 0; have hfz16_1 := bF BK650.out 1; have hfz16_2 := bF BK650.out 2; have hfz16_3 := bF BK650.out 3; have hfz16_4 := bF BK650.out 4; have hfz16_5 := bF BK650.out 5))
    go_meet
    case rel => exact ⟨_, (decide ((a2_5.size : Int) > 5000)), (by first | rfl | (simp; done) | (simp [*]; done)), H', ⟨by first | omega | exact Nat.le_refl _⟩, ⟨by exact qy BK649.out⟩, ⟨by exact qy BK650.out⟩, ⟨by repeat (first | (with_reducible first | exact HB.out | apply ea | apply en | apply ed | refine es ?_ GE649.out | refine es ?_ GE650.out) | exact HB.out)⟩⟩
   ·replace c11 := Bool.eq_false_iff.mpr c11
    subst c11
    have H1 : (bureaulaw15_SubstHides.j0 k a1 true a0_0 l0_1 a2_0 a2_1 a2_2 a2_3 a2_4 a2_5) = some r := by rw [if_neg (show ¬ (false = true) by decide)] at H; exact H
    clear H
    have H := H1
    clear H1
    have H' := aM H
    clear H
    have hnb17 := NB649_650.out
    have hnc17 := NB650_649.out
    have hcz18_0 : w9.cell? ⟨gb649, 0, none⟩ = some (.string a0_0) := (bC BK649.out 0).trans rfl
    have hcz18_1 : w9.cell? ⟨gb649, 1, none⟩ = some (.slice A0_1 l0_1.length c0_1) := (bC BK649.out 1).trans rfl
    have hfz18_0 := bF BK649.out 0
    have hfz18_1 := bF BK649.out 1
    have hcz19_0 : w9.cell? ⟨gb650, 0, none⟩ = some (.int .i64 a2_0) := (bC BK650.out 0).trans rfl
    have hcz19_1 : w9.cell? ⟨gb650, 1, none⟩ = some (.int .i64 a2_1) := (bC BK650.out 1).trans rfl
    have hcz19_2 : w9.cell? ⟨gb650, 2, none⟩ = some (.string a2_2) := (bC BK650.out 2).trans rfl
    have hcz19_3 : w9.cell? ⟨gb650, 3, none⟩ = some (.string a2_3) := (bC BK650.out 3).trans rfl
    have hcz19_4 : w9.cell? ⟨gb650, 4, none⟩ = some (.bool a2_4) := (bC BK650.out 4).trans rfl
    have hcz19_5 : w9.cell? ⟨gb650, 5, none⟩ = some (.string a2_5) := (bC BK650.out 5).trans rfl
    have hfz19_0 := bF BK650.out 0
    have hfz19_1 := bF BK650.out 1
    have hfz19_2 := bF BK650.out 2
    have hfz19_3 := bF BK650.out 3
    have hfz19_4 := bF BK650.out 4
    have hfz19_5 := bF BK650.out 5
    go_wp2_with (first | ((with_reducible refine gate_callee (f := 9) rfl ?_); refine goesL_ (some 19) rfl rfl Try.func9 (by kernel_rfl) rfl #[.agg #[.string a0_0, .slice A0_1 l0_1.length c0_1], .agg #[.int .i64 a2_0, .int .i64 a2_1, .string a2_2, .string a2_3, .bool a2_4]] rfl (by (try simp only [mT, mC, mN]); first | done | rfl | (simp only [lD, lT]; rfl)) ?_; (with_reducible refine (bureaulaw15_fits.calls a0_0 _ _ l0_1 a2_0 a2_1 a2_2 a2_3 a2_4 false _ ?side1 ?side2 A10.out).mono ?_); (case side1 => repeat (first | exact (cB_ HR0_1.out HB.out) | (with_reducible refine Kd.C_alloc ?_ _) | (with_reducible refine Kd.C_drewN ?_ _) | (with_reducible refine Kd.C_drew ?_))); (case side2 => exact HC0_1.out); rintro e w20 ⟨rfl, hb⟩; refine ⟨_, rfl, ?_⟩; have n0_ := aM (bB (g := gb649) (qy BK649.out) hb); have n1_ := aM (bB (g := gb650) (qy BK650.out) hb); have n2_ := aM (bP (by repeat (first | (with_reducible first | exact HB.out | apply ea | apply en | apply ed | refine es ?_ GE649.out | refine es ?_ GE650.out) | exact HB.out)) hb); clear BK649 BK650 HB; have BK649 := n0_; have BK650 := n1_; have HB := n2_; clear n0_ n1_ n2_; (try clear hb); (try clear hb2); (try clear hk); (try clear hi)))
    go_meet
    case rel => exact ⟨_, (true), (by first | rfl | (simp; done) | (simp [*]; done)), H', ⟨by first | omega | exact Nat.le_refl _⟩, ⟨by exact qy BK649.out⟩, ⟨by exact qy BK650.out⟩, ⟨by repeat (first | (with_reducible first | exact HB.out | apply ea | apply en | apply ed | refine es ?_ GE649.out | refine es ?_ GE650.out) | exact HB.out)⟩⟩
  case rest =>
   clear HC6
   try clear c1
   try clear p2
   try clear c5
   try clear c7
   try clear c8
   try clear c9
   try clear c11
   try clear c12
   try clear c17
   try clear hcz13_0
   try clear hcz13_1
   try clear hcz14_0
   try clear hcz14_1
   try clear hcz14_2
   try clear hcz14_3
   try clear hcz14_4
   try clear hcz14_5
   try clear hcz16_0
   try clear hcz16_1
   try clear hcz16_2
   try clear hcz16_3
   try clear hcz16_4
   try clear hcz16_5
   try clear hcz18_0
   try clear hcz18_1
   try clear hcz19_0
   try clear hcz19_1
   try clear hcz19_2
   try clear hcz19_3
   try clear hcz19_4
   try clear hcz19_5
   try clear hfz13_0
   try clear hfz13_1
   try clear hfz14_0
   try clear hfz14_1
   try clear hfz14_2
   try clear hfz14_3
   try clear hfz14_4
   try clear hfz14_5
   try clear hfz16_0
   try clear hfz16_1
   try clear hfz16_2
   try clear hfz16_3
   try clear hfz16_4
   try clear hfz16_5
   try clear hfz18_0
   try clear hfz18_1
   try clear hfz19_0
   try clear hfz19_1
   try clear hfz19_2
   try clear hfz19_3
   try clear hfz19_4
   try clear hfz19_5
   obtain ⟨kq, x26_5, rfl, HA, HJ5, BK649, BK650, HB⟩ := hcut
   cases kq with
   | zero => exact absurd HA.out (by simp [bureaulaw15_SubstHides.j0])
   | succ kj5 =>
    have H := HA.out
    clear HA
    simp only [bureaulaw15_SubstHides.j0] at H
    by_cases c21 : x26_5 = true
    ·subst c21
     have H1 : (some true) = some r := by rw [if_pos rfl] at H; exact H
     clear H
     have H := H1
     clear H1
     obtain rfl := Option.some.inj H
     go_wp2
     go_ret
     exact ⟨by first | rfl | (simp [errW_none, errW_some] <;> rfl) | (simp [*, errW_none, errW_some] <;> rfl), by repeat (first | (with_reducible first | exact HB.out | apply ea | apply en | apply ed | refine es ?_ GE649.out | refine es ?_ GE650.out) | exact HB.out)⟩
    ·replace c21 := Bool.eq_false_iff.mpr c21
     subst c21
     have H1 : ((bureauref04_Other.f kj5 a0_0 l0_1 a1 a2_5).bind fun bt653 => ((subst_Do.f kj5 a0_0 l0_1 a1 a2_0 a2_1 a2_2 a2_3 a2_4).bind fun bt658 => ((subst_Do.f kj5 bt653.1 bt653.2 a1 a2_0 a2_1 a2_2 a2_3 a2_4).bind fun bt670 => (if bt658.2.2.2.2.2.2 = bt670.2.2.2.2.2.2 then (if bt658.2.2.2.2.2.1 = bt670.2.2.2.2.2.1 then (if bt658.1 = bt670.1 then ((bureauref04_Low.f kj5 bt658.2.1 bt658.2.2.1 bt670.2.1 bt670.2.2.1 a1).bind fun t682 => (if t682 = true then ((bureauref04_Low.f kj5 bt658.2.2.2.1 bt658.2.2.2.2.1 bt670.2.2.2.1 bt670.2.2.2.2.1 a1).bind fun t683 => (some t683)) else (some false))) else (some false)) else (some false)) else (some false))))) = some r := by rw [if_neg (show ¬ (false = true) by decide)] at H; exact H
     clear H
     have H := H1
     clear H1
     replace H := Option.bind_eq_some_iff.mp H
     obtain ⟨⟨t653, t654⟩, A220, H⟩ := H
     replace H : ((subst_Do.f kj5 a0_0 l0_1 a1 a2_0 a2_1 a2_2 a2_3 a2_4).bind fun bt658 => ((subst_Do.f kj5 t653 t654 a1 a2_0 a2_1 a2_2 a2_3 a2_4).bind fun bt670 => (if bt658.2.2.2.2.2.2 = bt670.2.2.2.2.2.2 then (if bt658.2.2.2.2.2.1 = bt670.2.2.2.2.2.1 then (if bt658.1 = bt670.1 then ((bureauref04_Low.f kj5 bt658.2.1 bt658.2.2.1 bt670.2.1 bt670.2.2.1 a1).bind fun t682 => (if t682 = true then ((bureauref04_Low.f kj5 bt658.2.2.2.1 bt658.2.2.2.2.1 bt670.2.2.2.1 bt670.2.2.2.2.1 a1).bind fun t683 => (some t683)) else (some false))) else (some false)) else (some false)) else (some false)))) = some r := H
     have A22 := aM A220
     clear A220
     replace H := Option.bind_eq_some_iff.mp H
     obtain ⟨⟨t658, t659, t660, t663, t664, t667, t668⟩, A230, H⟩ := H
     replace H : ((subst_Do.f kj5 t653 t654 a1 a2_0 a2_1 a2_2 a2_3 a2_4).bind fun bt670 => (if t668 = bt670.2.2.2.2.2.2 then (if t667 = bt670.2.2.2.2.2.1 then (if t658 = bt670.1 then ((bureauref04_Low.f kj5 t659 t660 bt670.2.1 bt670.2.2.1 a1).bind fun t682 => (if t682 = true then ((bureauref04_Low.f kj5 t663 t664 bt670.2.2.2.1 bt670.2.2.2.2.1 a1).bind fun t683 => (some t683)) else (some false))) else (some false)) else (some false)) else (some false))) = some r := H
     have A23 := aM A230
     clear A230
     replace H := Option.bind_eq_some_iff.mp H
     obtain ⟨⟨t670, t671, t672, t675, t676, t679, t680⟩, A240, H⟩ := H
     replace H : (if t668 = t680 then (if t667 = t679 then (if t658 = t670 then ((bureauref04_Low.f kj5 t659 t660 t671 t672 a1).bind fun t682 => (if t682 = true then ((bureauref04_Low.f kj5 t663 t664 t675 t676 a1).bind fun t683 => (some t683)) else (some false))) else (some false)) else (some false)) else (some false)) = some r := H
     have A24 := aM A240
     clear A240
     by_cases c25 : t668 = t680
     ·rw [if_pos c25] at H
      have c25b0 : (t668 == t680) = true := beq_iff_eq.mpr c25
      have c25b1 : (t668 != t680) = false := bne_eq_false_iff_eq.mpr c25
      clear c25
      by_cases c26 : t667 = t679
      ·rw [if_pos c26] at H
       have c26b0 : (t667 == t679) = true := beq_iff_eq.mpr c26
       have c26b1 : (t667 != t679) = false := bne_eq_false_iff_eq.mpr c26
       clear c26
       by_cases c27 : t658 = t670
       ·rw [if_pos c27] at H
        have c27b0 : (t658 == t670) = true := beq_iff_eq.mpr c27
        have c27b1 : (t658 != t670) = false := bne_eq_false_iff_eq.mpr c27
        clear c27
        replace H := Option.bind_eq_some_iff.mp H
        obtain ⟨t682, A280, H⟩ := H
        replace H : (if t682 = true then ((bureauref04_Low.f kj5 t663 t664 t675 t676 a1).bind fun t683 => (some t683)) else (some false)) = some r := H
        have A28 := aM A280
        clear A280
        by_cases c29 : t682 = true
        ·subst c29
         have H1 : ((bureauref04_Low.f kj5 t663 t664 t675 t676 a1).bind fun t683 => (some t683)) = some r := by rw [if_pos rfl] at H; exact H
         clear H
         have H := H1
         clear H1
         replace H := Option.bind_eq_some_iff.mp H
         obtain ⟨t683, A300, H⟩ := H
         replace H : (some t683) = some r := H
         have A30 := aM A300
         clear A300
         obtain rfl := Option.some.inj H
         have hnb31 := NB649_650.out
         have hnc31 := NB650_649.out
         have hcz32_0 : wc.cell? ⟨gb649, 0, none⟩ = some (.string a0_0) := (bC BK649.out 0).trans rfl
         have hcz32_1 : wc.cell? ⟨gb649, 1, none⟩ = some (.slice A0_1 l0_1.length c0_1) := (bC BK649.out 1).trans rfl
         have hfz32_0 := bF BK649.out 0
         have hfz32_1 := bF BK649.out 1
         have hcz33_0 : wc.cell? ⟨gb650, 0, none⟩ = some (.int .i64 a2_0) := (bC BK650.out 0).trans rfl
         have hcz33_1 : wc.cell? ⟨gb650, 1, none⟩ = some (.int .i64 a2_1) := (bC BK650.out 1).trans rfl
         have hcz33_2 : wc.cell? ⟨gb650, 2, none⟩ = some (.string a2_2) := (bC BK650.out 2).trans rfl
         have hcz33_3 : wc.cell? ⟨gb650, 3, none⟩ = some (.string a2_3) := (bC BK650.out 3).trans rfl
         have hcz33_4 : wc.cell? ⟨gb650, 4, none⟩ = some (.bool a2_4) := (bC BK650.out 4).trans rfl
         have hcz33_5 : wc.cell? ⟨gb650, 5, none⟩ = some (.string a2_5) := (bC BK650.out 5).trans rfl
         have hfz33_0 := bF BK650.out 0
         have hfz33_1 := bF BK650.out 1
         have hfz33_2 := bF BK650.out 2
         have hfz33_3 := bF BK650.out 3
         have hfz33_4 := bF BK650.out 4
         have hfz33_5 := bF BK650.out 5
         go_wp2_with (first | ((with_reducible refine gate_callee (f := 16) rfl ?_); refine goesL_ (some 31) rfl rfl Try.func16 (by kernel_rfl) rfl #[.agg #[.string a0_0, .slice A0_1 l0_1.length c0_1], .int .u64 a1, .string a2_5] rfl (by (try simp only [mT, mC, mN]); first | done | rfl | (simp only [lD, lT]; rfl)) ?_; (with_reducible refine (bureauref04_Other.calls kj5 a0_0 (fun k_ => k_ < w.heap.size) _ _ l0_1 a1 a2_5 t653 t654 _ ?side1 A22.out).mono ?_); (case side1 => exact Kd.V_mk HC0_1.out (Kd.F_below (Kd.C_F k51_heap HR0_1.out) (by repeat (first | (with_reducible first | exact HB.out | apply ea | apply en | apply ed | refine es ?_ GE649.out | refine es ?_ GE650.out) | exact HB.out)))); rintro e w34 ⟨v655, rfl, ho0, hb⟩; refine ⟨_, rfl, ?_⟩; have n0_ := aM (Kd.V_lower (Kd.V_mono (ok' := fun k_ => k_ ≠ gb649 ∧ k_ ≠ gb650) ho0 (fun k_ hk_ => ⟨Or.elim hk_ (fun hs_ => fun e_ => Nat.not_le.2 hs_ (by rw [e_]; exact GW649.out)) (fun hn_ => (Kd.freshB (g := gb649) (qy BK649.out) k_ hn_)), Or.elim hk_ (fun hs_ => fun e_ => Nat.not_le.2 hs_ (by rw [e_]; exact GW650.out)) (fun hn_ => (Kd.freshB (g := gb650) (qy BK650.out) k_ hn_))⟩)) (bZ (by repeat (first | (with_reducible first | exact HB.out | apply ea | apply en | apply ed | refine es ?_ GE649.out | refine es ?_ GE650.out) | exact HB.out)))); have n1_ := aM (bB (g := gb649) (qy BK649.out) hb); have n2_ := aM (bB (g := gb650) (qy BK650.out) hb); have n3_ := aM (bP (by repeat (first | (with_reducible first | exact HB.out | apply ea | apply en | apply ed | refine es ?_ GE649.out | refine es ?_ GE650.out) | exact HB.out)) hb); clear BK649 BK650 HB; have HO656 := n0_; have BK649 := n1_; have BK650 := n2_; have HB := n3_; clear n0_ n1_ n2_ n3_; (try clear hb); (try clear hb2); (try clear hk); (try clear hi); (try clear ho0)) | ((with_reducible refine gate_dst (N := 7) rfl ?_); (try (refine gate_guard (by rfl) ?_; dsimp only)); refine box_event ?hg (N := 7) ?hd (cs := #[.string (⟨#[]⟩ : ByteArray), .slice none 0 0]) (t := 24) ?hr ?_; (case hd | hg => rfl); (case hr => first | (go_simp; done) | (go_simp; rfl)); intro gb657 hg w35 hbox hb; have n0_ := aM (Kd.V_below (Kd.V_elderB (by (with_reducible repeat (first | apply va | apply vn | apply vd)); exact HO656.out) gb657 (Nat.le_of_eq hg.symm)) hb); have n1_ := aM (bB (g := gb649) (qy BK649.out) hb); have n2_ := aM (bB (g := gb650) (qy BK650.out) hb); have n3_ := aM (bP (by repeat (first | (with_reducible first | exact HB.out | apply ea | apply en | apply ed | refine es ?_ GE649.out | refine es ?_ GE650.out) | exact HB.out)) hb); have n4_ := aM (hbox); have n5_ := aM ((by rw [hg]; exact (bZ (by repeat (first | (with_reducible first | exact HB.out | apply ea | apply en | apply ed | refine es ?_ GE649.out | refine es ?_ GE650.out) | exact HB.out))) : w.heap.size ≤ gb657)); have n6_ := n5_; have n7_ := aM ((by rw [hg]; exact Nat.ne_of_lt (blk_lt (g := gb649) (qy BK649.out)) : gb649 ≠ gb657)); have n8_ := aM ((by rw [hg]; exact Nat.ne_of_gt (blk_lt (g := gb649) (qy BK649.out)) : gb657 ≠ gb649)); have n9_ := aM ((by rw [hg]; exact Nat.ne_of_lt (blk_lt (g := gb650) (qy BK650.out)) : gb650 ≠ gb657)); have n10_ := aM ((by rw [hg]; exact Nat.ne_of_gt (blk_lt (g := gb650) (qy BK650.out)) : gb657 ≠ gb650)); clear HO656 BK649 BK650 HB; have HO656 := n0_; have BK649 := n1_; have BK650 := n2_; have HB := n3_; have BK657 := n4_; have GW657 := n5_; have GE657 := n6_; have NB649_657 := n7_; have NB657_649 := n8_; have NB650_657 := n9_; have NB657_650 := n10_; clear n0_ n1_ n2_ n3_ n4_ n5_ n6_ n7_ n8_ n9_ n10_; clear hb hbox hg; have hnb36 := NB657_649.out; have hnc36 := NB649_657.out; have hnb37 := NB657_650.out; have hnc37 := NB650_657.out; have hcz38_0 : w35.cell? ⟨gb657, 0, none⟩ = some (.string (⟨#[]⟩ : ByteArray)) := (bC BK657.out 0).trans rfl; have hcz38_1 : w35.cell? ⟨gb657, 1, none⟩ = some (.slice none 0 0) := (bC BK657.out 1).trans rfl; have hfz38_0 := bF BK657.out 0; have hfz38_1 := bF BK657.out 1; obtain ⟨Ao39, co39, eo39⟩ := Kd.V_slice HO656.out; subst eo39; have hcz40_0 : w35.cell? ⟨gb649, 0, none⟩ = some (.string a0_0) := (bC BK649.out 0).trans rfl; have hcz40_1 : w35.cell? ⟨gb649, 1, none⟩ = some (.slice A0_1 l0_1.length c0_1) := (bC BK649.out 1).trans rfl; have hfz40_0 := bF BK649.out 0; have hfz40_1 := bF BK649.out 1; have hcz41_0 : w35.cell? ⟨gb650, 0, none⟩ = some (.int .i64 a2_0) := (bC BK650.out 0).trans rfl; have hcz41_1 : w35.cell? ⟨gb650, 1, none⟩ = some (.int .i64 a2_1) := (bC BK650.out 1).trans rfl; have hcz41_2 : w35.cell? ⟨gb650, 2, none⟩ = some (.string a2_2) := (bC BK650.out 2).trans rfl; have hcz41_3 : w35.cell? ⟨gb650, 3, none⟩ = some (.string a2_3) := (bC BK650.out 3).trans rfl; have hcz41_4 : w35.cell? ⟨gb650, 4, none⟩ = some (.bool a2_4) := (bC BK650.out 4).trans rfl; have hcz41_5 : w35.cell? ⟨gb650, 5, none⟩ = some (.string a2_5) := (bC BK650.out 5).trans rfl; have hfz41_0 := bF BK650.out 0; have hfz41_1 := bF BK650.out 1; have hfz41_2 := bF BK650.out 2; have hfz41_3 := bF BK650.out 3; have hfz41_4 := bF BK650.out 4; have hfz41_5 := bF BK650.out 5) | ((with_reducible refine gate_callee (f := 10) rfl ?_); refine goesL_ (some 37) rfl rfl Try.func10 (by kernel_rfl) rfl #[.agg #[.string a0_0, .slice A0_1 l0_1.length c0_1], .int .u64 a1, .agg #[.int .i64 a2_0, .int .i64 a2_1, .string a2_2, .string a2_3, .bool a2_4]] rfl (by (try simp only [mT, mC, mN]); first | done | rfl | (simp only [lD, lT]; rfl)) ?_; (with_reducible refine (subst_Do.calls kj5 a0_0 _ _ l0_1 a1 a2_0 a2_1 a2_2 a2_3 a2_4 t658 t659 t660 t663 t664 t667 t668 _ ?mx50 ?side1 ?side2 A23.out).mono ?_); (case mx50 => exact MaxOk.below HMX.out (by repeat (first | (with_reducible first | exact HB.out | apply ea | apply en | apply ed | refine es ?_ GE649.out | refine es ?_ GE650.out | refine es ?_ GE657.out) | exact HB.out))); (case side1 => exact cB_ HR0_1.out (by repeat (first | (with_reducible first | exact HB.out | apply ea | apply en | apply ed | refine es ?_ GE649.out | refine es ?_ GE650.out | refine es ?_ GE657.out) | exact HB.out))); (case side2 => exact HC0_1.out); rintro e w42 ⟨v661, v665, rfl, ho0, ho1, hb⟩; refine ⟨_, rfl, ?_⟩; have n0_ := aM (Kd.V_mono (Kd.V_told (Kd.V_told (Kd.V_old (by (with_reducible repeat (first | apply va | apply vn | apply vd)); exact (Kd.V_mono (Kd.V_far (p := ⟨gb657, 1, none⟩) (Kd.V_far (p := ⟨gb657, 0, none⟩) (Kd.V_mono HO656.out (fun k_ hk => (⟨hk, hk.2⟩ : _ ∧ k_ ≠ gb657))) (fun _ hk => hk.2) (.string t653)) (fun _ hk => hk.2) (.slice Ao39 t654.length co39)) (fun _ h_ => h_.1))) hb) (Kd.R_base ho0)) (Kd.R_base ho1)) (fun _ h_ => h_.1)); have n1_ := aM (rL ho0 (bZ (by repeat (first | (with_reducible first | exact HB.out | apply ea | apply en | apply ed | refine es ?_ GE649.out | refine es ?_ GE650.out | refine es ?_ GE657.out) | exact HB.out)))); have n2_ := aM (rL ho1 (bZ (by repeat (first | (with_reducible first | exact HB.out | apply ea | apply en | apply ed | refine es ?_ GE649.out | refine es ?_ GE650.out | refine es ?_ GE657.out) | exact HB.out)))); have n3_ := aM (bB (g := gb649) (o := .cells #[.string a0_0, .slice A0_1 l0_1.length c0_1] 24 (0, 0)) (by (with_reducible repeat (first | apply qn | apply qd | apply qa)); refine bR ?_ NB649_657.out _; (with_reducible repeat (first | apply qn | apply qd | apply qa)); refine bR ?_ NB649_657.out _; exact qy BK649.out) hb); have n4_ := aM (bB (g := gb650) (o := .cells #[.int .i64 a2_0, .int .i64 a2_1, .string a2_2, .string a2_3, .bool a2_4, .string a2_5] 46 (0, 0)) (by (with_reducible repeat (first | apply qn | apply qd | apply qa)); refine bR ?_ NB650_657.out _; (with_reducible repeat (first | apply qn | apply qd | apply qa)); refine bR ?_ NB650_657.out _; exact qy BK650.out) hb); have n5_ := aM (bB (g := gb657) (o := .cells #[.string t653, .slice Ao39 t654.length co39] 24 (0, 0)) (by (with_reducible repeat (first | apply qn | apply qd | apply qa)); refine bU (cs := #[.string t653, .slice none 0 0]) ?_ 1 _ rfl; (with_reducible repeat (first | apply qn | apply qd | apply qa)); refine bU (cs := #[.string (⟨#[]⟩ : ByteArray), .slice none 0 0]) ?_ 0 _ rfl; exact qy BK657.out) hb); have n6_ := aM (bP (by repeat (first | (with_reducible first | exact HB.out | apply ea | apply en | apply ed | refine es ?_ GE649.out | refine es ?_ GE650.out | refine es ?_ GE657.out) | exact HB.out)) hb); clear HO656 BK649 BK650 BK657 HB; have HO656 := n0_; have HO662 := n1_; have HO666 := n2_; have BK649 := n3_; have BK650 := n4_; have BK657 := n5_; have HB := n6_; clear n0_ n1_ n2_ n3_ n4_ n5_ n6_; (try clear hb); (try clear hb2); (try clear hk); (try clear hi); (try clear ho0); (try clear ho1)) | ((with_reducible refine gate_dst (N := 8) rfl ?_); (try (refine gate_guard (by rfl) ?_; dsimp only)); refine box_event ?hg (N := 8) ?hd (cs := #[.int .i64 0, .string (⟨#[]⟩ : ByteArray), .slice none 0 0, .string (⟨#[]⟩ : ByteArray), .slice none 0 0]) (t := 32) ?hr ?_; (case hd | hg => rfl); (case hr => first | (go_simp; done) | (go_simp; rfl)); intro gb669 hg w43 hbox hb; have n0_ := aM (Kd.V_below (Kd.V_elderB (by (with_reducible repeat (first | apply va | apply vn | apply vd)); exact HO656.out) gb669 (Nat.le_of_eq hg.symm)) hb); have n1_ := aM (Kd.R_below (ry HO662.out) hb); have n2_ := aM (Kd.R_below (ry HO666.out) hb); have n3_ := aM (bB (g := gb649) (qy BK649.out) hb); have n4_ := aM (bB (g := gb650) (qy BK650.out) hb); have n5_ := aM (bB (g := gb657) (qy BK657.out) hb); have n6_ := aM (bP (by repeat (first | (with_reducible first | exact HB.out | apply ea | apply en | apply ed | refine es ?_ GE649.out | refine es ?_ GE650.out | refine es ?_ GE657.out) | exact HB.out)) hb); have n7_ := aM (hbox); have n8_ := aM ((by rw [hg]; exact (bZ (by repeat (first | (with_reducible first | exact HB.out | apply ea | apply en | apply ed | refine es ?_ GE649.out | refine es ?_ GE650.out | refine es ?_ GE657.out) | exact HB.out))) : w.heap.size ≤ gb669)); have n9_ := n8_; have n10_ := aM ((by rw [hg]; exact Nat.ne_of_lt (blk_lt (g := gb649) (qy BK649.out)) : gb649 ≠ gb669)); have n11_ := aM ((by rw [hg]; exact Nat.ne_of_gt (blk_lt (g := gb649) (qy BK649.out)) : gb669 ≠ gb649)); have n12_ := aM ((by rw [hg]; exact Nat.ne_of_lt (blk_lt (g := gb650) (qy BK650.out)) : gb650 ≠ gb669)); have n13_ := aM ((by rw [hg]; exact Nat.ne_of_gt (blk_lt (g := gb650) (qy BK650.out)) : gb669 ≠ gb650)); have n14_ := aM ((by rw [hg]; exact Nat.ne_of_lt (blk_lt (g := gb657) (qy BK657.out)) : gb657 ≠ gb669)); have n15_ := aM ((by rw [hg]; exact Nat.ne_of_gt (blk_lt (g := gb657) (qy BK657.out)) : gb669 ≠ gb657)); clear HO656 HO662 HO666 BK649 BK650 BK657 HB; have HO656 := n0_; have HO662 := n1_; have HO666 := n2_; have BK649 := n3_; have BK650 := n4_; have BK657 := n5_; have HB := n6_; have BK669 := n7_; have GW669 := n8_; have GE669 := n9_; have NB649_669 := n10_; have NB669_649 := n11_; have NB650_669 := n12_; have NB669_650 := n13_; have NB657_669 := n14_; have NB669_657 := n15_; clear n0_ n1_ n2_ n3_ n4_ n5_ n6_ n7_ n8_ n9_ n10_ n11_ n12_ n13_ n14_ n15_; clear hb hbox hg; have hnb44 := NB669_649.out; have hnc44 := NB649_669.out; have hnb45 := NB669_650.out; have hnc45 := NB650_669.out; have hnb46 := NB669_657.out; have hnc46 := NB657_669.out; have hcz47_0 : w43.cell? ⟨gb669, 0, none⟩ = some (.int .i64 0) := (bC BK669.out 0).trans rfl; have hcz47_1 : w43.cell? ⟨gb669, 1, none⟩ = some (.string (⟨#[]⟩ : ByteArray)) := (bC BK669.out 1).trans rfl; have hcz47_2 : w43.cell? ⟨gb669, 2, none⟩ = some (.slice none 0 0) := (bC BK669.out 2).trans rfl; have hcz47_3 : w43.cell? ⟨gb669, 3, none⟩ = some (.string (⟨#[]⟩ : ByteArray)) := (bC BK669.out 3).trans rfl; have hcz47_4 : w43.cell? ⟨gb669, 4, none⟩ = some (.slice none 0 0) := (bC BK669.out 4).trans rfl; have hfz47_0 := bF BK669.out 0; have hfz47_1 := bF BK669.out 1; have hfz47_2 := bF BK669.out 2; have hfz47_3 := bF BK669.out 3; have hfz47_4 := bF BK669.out 4; obtain ⟨Ao48, co48, eo48⟩ := Kd.R_slice HO662.out; subst eo48; obtain ⟨Ao49, co49, eo49⟩ := Kd.R_slice HO666.out; subst eo49; have hcz50_0 : w43.cell? ⟨gb657, 0, none⟩ = some (.string t653) := (bC BK657.out 0).trans rfl; have hcz50_1 : w43.cell? ⟨gb657, 1, none⟩ = some (.slice Ao39 t654.length co39) := (bC BK657.out 1).trans rfl; have hfz50_0 := bF BK657.out 0; have hfz50_1 := bF BK657.out 1; have hcz51_0 : w43.cell? ⟨gb650, 0, none⟩ = some (.int .i64 a2_0) := (bC BK650.out 0).trans rfl; have hcz51_1 : w43.cell? ⟨gb650, 1, none⟩ = some (.int .i64 a2_1) := (bC BK650.out 1).trans rfl; have hcz51_2 : w43.cell? ⟨gb650, 2, none⟩ = some (.string a2_2) := (bC BK650.out 2).trans rfl; have hcz51_3 : w43.cell? ⟨gb650, 3, none⟩ = some (.string a2_3) := (bC BK650.out 3).trans rfl; have hcz51_4 : w43.cell? ⟨gb650, 4, none⟩ = some (.bool a2_4) := (bC BK650.out 4).trans rfl; have hcz51_5 : w43.cell? ⟨gb650, 5, none⟩ = some (.string a2_5) := (bC BK650.out 5).trans rfl; have hfz51_0 := bF BK650.out 0; have hfz51_1 := bF BK650.out 1; have hfz51_2 := bF BK650.out 2; have hfz51_3 := bF BK650.out 3; have hfz51_4 := bF BK650.out 4; have hfz51_5 := bF BK650.out 5) | ((with_reducible refine gate_callee (f := 10) rfl ?_); refine goesL_ (some 46) rfl rfl Try.func10 (by kernel_rfl) rfl #[.agg #[.string t653, .slice Ao39 t654.length co39], .int .u64 a1, .agg #[.int .i64 a2_0, .int .i64 a2_1, .string a2_2, .string a2_3, .bool a2_4]] rfl (by (try simp only [mT, mC, mN]); first | done | rfl | (simp only [lD, lT]; rfl)) ?_; (with_reducible refine (subst_Do.calls kj5 t653 _ _ t654 a1 a2_0 a2_1 a2_2 a2_3 a2_4 t670 t671 t672 t675 t676 t679 t680 _ ?mx51 ?side1 ?side2 A24.out).mono ?_); (case mx51 => exact MaxOk.below HMX.out (by repeat (first | (with_reducible first | exact HB.out | apply ea | apply en | apply ed | refine es ?_ GE649.out | refine es ?_ GE650.out | refine es ?_ GE657.out | refine es ?_ GE669.out) | exact HB.out))); (case side1 => refine (Kd.V_reads' (e := 51) (base := w.heap.size) (ok := fun k_ => (((((k_ ≠ gb649 ∧ k_ ≠ gb650) ∧ k_ ≠ gb657) ∧ some k_ ≠ (.slice Ao48 t660.length co48 : Value).ownBlock) ∧ some k_ ≠ (.slice Ao49 t664.length co49 : Value).ownBlock) ∧ k_ ≠ gb669)) (n := t654.length) (c := co39) ?_).2.2; exact (by (with_reducible repeat (first | apply va | apply vn | apply vd)); exact (Kd.V_mono (Kd.V_far (p := ⟨gb669, 4, none⟩) (Kd.V_far (p := ⟨gb669, 3, none⟩) (Kd.V_far (p := ⟨gb669, 2, none⟩) (Kd.V_far (p := ⟨gb669, 1, none⟩) (Kd.V_far (p := ⟨gb669, 0, none⟩) (Kd.V_mono HO656.out (fun k_ hk => (⟨hk, hk.2⟩ : _ ∧ k_ ≠ gb669))) (fun _ hk => hk.2) (.int .i64 t658)) (fun _ hk => hk.2) (.string t659)) (fun _ hk => hk.2) (.slice Ao48 t660.length co48)) (fun _ hk => hk.2) (.string t663)) (fun _ hk => hk.2) (.slice Ao49 t664.length co49)) (fun _ h_ => h_.1)))); (case side2 => exact (Kd.V_reads' HO656.out).2.1); rintro e w52 ⟨v673, v677, rfl, ho0, ho1, hb⟩; refine ⟨_, rfl, ?_⟩; have n0_ := aM (Kd.V_mono (Kd.V_told (Kd.V_told (Kd.V_old (by (with_reducible repeat (first | apply va | apply vn | apply vd)); exact (Kd.V_mono (Kd.V_far (p := ⟨gb669, 4, none⟩) (Kd.V_far (p := ⟨gb669, 3, none⟩) (Kd.V_far (p := ⟨gb669, 2, none⟩) (Kd.V_far (p := ⟨gb669, 1, none⟩) (Kd.V_far (p := ⟨gb669, 0, none⟩) (Kd.V_mono HO656.out (fun k_ hk => (⟨hk, hk.2⟩ : _ ∧ k_ ≠ gb669))) (fun _ hk => hk.2) (.int .i64 t658)) (fun _ hk => hk.2) (.string t659)) (fun _ hk => hk.2) (.slice Ao48 t660.length co48)) (fun _ hk => hk.2) (.string t663)) (fun _ hk => hk.2) (.slice Ao49 t664.length co49)) (fun _ h_ => h_.1))) hb) (Kd.R_base ho0)) (Kd.R_base ho1)) (fun _ h_ => h_.1)); have n1_ := aM (rM (Kd.R_told (Kd.R_told (Kd.R_old (by (with_reducible repeat (first | apply ra | apply rn | apply rd_)); exact (rM (rF (p := ⟨gb669, 4, none⟩) (rF (p := ⟨gb669, 3, none⟩) (rF (p := ⟨gb669, 2, none⟩) (rF (p := ⟨gb669, 1, none⟩) (rF (p := ⟨gb669, 0, none⟩) (rT HO662.out BK669.out (by decide)) (fun _ hk => hk.2) (.int .i64 t658)) (fun _ hk => hk.2) (.string t659)) (fun _ hk => hk.2) (.slice Ao48 t660.length co48)) (fun _ hk => hk.2) (.string t663)) (fun _ hk => hk.2) (.slice Ao49 t664.length co49)) (fun _ h_ => h_.1))) hb) (Kd.R_base ho0)) (Kd.R_base ho1)) (fun _ h_ => h_.1)); have n2_ := aM (rM (Kd.R_told (Kd.R_told (Kd.R_old (by (with_reducible repeat (first | apply ra | apply rn | apply rd_)); exact (rM (rF (p := ⟨gb669, 4, none⟩) (rF (p := ⟨gb669, 3, none⟩) (rF (p := ⟨gb669, 2, none⟩) (rF (p := ⟨gb669, 1, none⟩) (rF (p := ⟨gb669, 0, none⟩) (rT HO666.out BK669.out (by decide)) (fun _ hk => hk.2) (.int .i64 t658)) (fun _ hk => hk.2) (.string t659)) (fun _ hk => hk.2) (.slice Ao48 t660.length co48)) (fun _ hk => hk.2) (.string t663)) (fun _ hk => hk.2) (.slice Ao49 t664.length co49)) (fun _ h_ => h_.1))) hb) (Kd.R_base ho0)) (Kd.R_base ho1)) (fun _ h_ => h_.1)); have n3_ := aM (rL (Kd.R_new' (Kd.R_new' ho0 (Kd.R_lt (by (with_reducible repeat (first | apply ra | apply rn | apply rd_)); exact (rM (rF (p := ⟨gb669, 4, none⟩) (rF (p := ⟨gb669, 3, none⟩) (rF (p := ⟨gb669, 2, none⟩) (rF (p := ⟨gb669, 1, none⟩) (rF (p := ⟨gb669, 0, none⟩) (rT HO662.out BK669.out (by decide)) (fun _ hk => hk.2) (.int .i64 t658)) (fun _ hk => hk.2) (.string t659)) (fun _ hk => hk.2) (.slice Ao48 t660.length co48)) (fun _ hk => hk.2) (.string t663)) (fun _ hk => hk.2) (.slice Ao49 t664.length co49)) (fun _ h_ => h_.1))))) (Kd.R_lt (by (with_reducible repeat (first | apply ra | apply rn | apply rd_)); exact (rM (rF (p := ⟨gb669, 4, none⟩) (rF (p := ⟨gb669, 3, none⟩) (rF (p := ⟨gb669, 2, none⟩) (rF (p := ⟨gb669, 1, none⟩) (rF (p := ⟨gb669, 0, none⟩) (rT HO666.out BK669.out (by decide)) (fun _ hk => hk.2) (.int .i64 t658)) (fun _ hk => hk.2) (.string t659)) (fun _ hk => hk.2) (.slice Ao48 t660.length co48)) (fun _ hk => hk.2) (.string t663)) (fun _ hk => hk.2) (.slice Ao49 t664.length co49)) (fun _ h_ => h_.1))))) (bZ (by repeat (first | (with_reducible first | exact HB.out | apply ea | apply en | apply ed | refine es ?_ GE649.out | refine es ?_ GE650.out | refine es ?_ GE657.out | refine es ?_ GE669.out) | exact HB.out)))); have n4_ := aM (rL (Kd.R_new' (Kd.R_new' ho1 (Kd.R_lt (by (with_reducible repeat (first | apply ra | apply rn | apply rd_)); exact (rM (rF (p := ⟨gb669, 4, none⟩) (rF (p := ⟨gb669, 3, none⟩) (rF (p := ⟨gb669, 2, none⟩) (rF (p := ⟨gb669, 1, none⟩) (rF (p := ⟨gb669, 0, none⟩) (rT HO662.out BK669.out (by decide)) (fun _ hk => hk.2) (.int .i64 t658)) (fun _ hk => hk.2) (.string t659)) (fun _ hk => hk.2) (.slice Ao48 t660.length co48)) (fun _ hk => hk.2) (.string t663)) (fun _ hk => hk.2) (.slice Ao49 t664.length co49)) (fun _ h_ => h_.1))))) (Kd.R_lt (by (with_reducible repeat (first | apply ra | apply rn | apply rd_)); exact (rM (rF (p := ⟨gb669, 4, none⟩) (rF (p := ⟨gb669, 3, none⟩) (rF (p := ⟨gb669, 2, none⟩) (rF (p := ⟨gb669, 1, none⟩) (rF (p := ⟨gb669, 0, none⟩) (rT HO666.out BK669.out (by decide)) (fun _ hk => hk.2) (.int .i64 t658)) (fun _ hk => hk.2) (.string t659)) (fun _ hk => hk.2) (.slice Ao48 t660.length co48)) (fun _ hk => hk.2) (.string t663)) (fun _ hk => hk.2) (.slice Ao49 t664.length co49)) (fun _ h_ => h_.1))))) (bZ (by repeat (first | (with_reducible first | exact HB.out | apply ea | apply en | apply ed | refine es ?_ GE649.out | refine es ?_ GE650.out | refine es ?_ GE657.out | refine es ?_ GE669.out) | exact HB.out)))); have n5_ := aM (bB (g := gb649) (o := .cells #[.string a0_0, .slice A0_1 l0_1.length c0_1] 24 (0, 0)) (by (with_reducible repeat (first | apply qn | apply qd | apply qa)); refine bR ?_ NB649_669.out _; (with_reducible repeat (first | apply qn | apply qd | apply qa)); refine bR ?_ NB649_669.out _; (with_reducible repeat (first | apply qn | apply qd | apply qa)); refine bR ?_ NB649_669.out _; (with_reducible repeat (first | apply qn | apply qd | apply qa)); refine bR ?_ NB649_669.out _; (with_reducible repeat (first | apply qn | apply qd | apply qa)); refine bR ?_ NB649_669.out _; exact qy BK649.out) hb); have n6_ := aM (bB (g := gb650) (o := .cells #[.int .i64 a2_0, .int .i64 a2_1, .string a2_2, .string a2_3, .bool a2_4, .string a2_5] 46 (0, 0)) (by (with_reducible repeat (first | apply qn | apply qd | apply qa)); refine bR ?_ NB650_669.out _; (with_reducible repeat (first | apply qn | apply qd | apply qa)); refine bR ?_ NB650_669.out _; (with_reducible repeat (first | apply qn | apply qd | apply qa)); refine bR ?_ NB650_669.out _; (with_reducible repeat (first | apply qn | apply qd | apply qa)); refine bR ?_ NB650_669.out _; (with_reducible repeat (first | apply qn | apply qd | apply qa)); refine bR ?_ NB650_669.out _; exact qy BK650.out) hb); have n7_ := aM (bB (g := gb657) (o := .cells #[.string t653, .slice Ao39 t654.length co39] 24 (0, 0)) (by (with_reducible repeat (first | apply qn | apply qd | apply qa)); refine bR ?_ NB657_669.out _; (with_reducible repeat (first | apply qn | apply qd | apply qa)); refine bR ?_ NB657_669.out _; (with_reducible repeat (first | apply qn | apply qd | apply qa)); refine bR ?_ NB657_669.out _; (with_reducible repeat (first | apply qn | apply qd | apply qa)); refine bR ?_ NB657_669.out _; (with_reducible repeat (first | apply qn | apply qd | apply qa)); refine bR ?_ NB657_669.out _; exact qy BK657.out) hb); have n8_ := aM (bB (g := gb669) (o := .cells #[.int .i64 t658, .string t659, .slice Ao48 t660.length co48, .string t663, .slice Ao49 t664.length co49] 32 (0, 0)) (by (with_reducible repeat (first | apply qn | apply qd | apply qa)); refine bU (cs := #[.int .i64 t658, .string t659, .slice Ao48 t660.length co48, .string t663, .slice none 0 0]) ?_ 4 _ rfl; (with_reducible repeat (first | apply qn | apply qd | apply qa)); refine bU (cs := #[.int .i64 t658, .string t659, .slice Ao48 t660.length co48, .string (⟨#[]⟩ : ByteArray), .slice none 0 0]) ?_ 3 _ rfl; (with_reducible repeat (first | apply qn | apply qd | apply qa)); refine bU (cs := #[.int .i64 t658, .string t659, .slice none 0 0, .string (⟨#[]⟩ : ByteArray), .slice none 0 0]) ?_ 2 _ rfl; (with_reducible repeat (first | apply qn | apply qd | apply qa)); refine bU (cs := #[.int .i64 t658, .string (⟨#[]⟩ : ByteArray), .slice none 0 0, .string (⟨#[]⟩ : ByteArray), .slice none 0 0]) ?_ 1 _ rfl; (with_reducible repeat (first | apply qn | apply qd | apply qa)); refine bU (cs := #[.int .i64 0, .string (⟨#[]⟩ : ByteArray), .slice none 0 0, .string (⟨#[]⟩ : ByteArray), .slice none 0 0]) ?_ 0 _ rfl; exact qy BK669.out) hb); have n9_ := aM (bP (by repeat (first | (with_reducible first | exact HB.out | apply ea | apply en | apply ed | refine es ?_ GE649.out | refine es ?_ GE650.out | refine es ?_ GE657.out | refine es ?_ GE669.out) | exact HB.out)) hb); clear HO656 HO662 HO666 BK649 BK650 BK657 BK669 HB; have HO656 := n0_; have HO662 := n1_; have HO666 := n2_; have HO674 := n3_; have HO678 := n4_; have BK649 := n5_; have BK650 := n6_; have BK657 := n7_; have BK669 := n8_; have HB := n9_; clear n0_ n1_ n2_ n3_ n4_ n5_ n6_ n7_ n8_ n9_; (try clear hb); (try clear hb2); (try clear hk); (try clear hi); (try clear ho0); (try clear ho1)) | ((with_reducible refine gate_dst (N := 11) rfl ?_); (try (refine gate_guard (by rfl) ?_; dsimp only)); refine box_event ?hg (N := 11) ?hd (cs := #[.int .i64 0, .string (⟨#[]⟩ : ByteArray), .slice none 0 0, .string (⟨#[]⟩ : ByteArray), .slice none 0 0]) (t := 32) ?hr ?_; (case hd | hg => rfl); (case hr => first | (go_simp; done) | (go_simp; rfl)); intro gb681 hg w53 hbox hb; have n0_ := aM (Kd.V_below (Kd.V_elderB (by (with_reducible repeat (first | apply va | apply vn | apply vd)); exact HO656.out) gb681 (Nat.le_of_eq hg.symm)) hb); have n1_ := aM (Kd.R_below (ry HO662.out) hb); have n2_ := aM (Kd.R_below (ry HO666.out) hb); have n3_ := aM (Kd.R_below (ry HO674.out) hb); have n4_ := aM (Kd.R_below (ry HO678.out) hb); have n5_ := aM (bB (g := gb649) (qy BK649.out) hb); have n6_ := aM (bB (g := gb650) (qy BK650.out) hb); have n7_ := aM (bB (g := gb657) (qy BK657.out) hb); have n8_ := aM (bB (g := gb669) (qy BK669.out) hb); have n9_ := aM (bP (by repeat (first | (with_reducible first | exact HB.out | apply ea | apply en | apply ed | refine es ?_ GE649.out | refine es ?_ GE650.out | refine es ?_ GE657.out | refine es ?_ GE669.out) | exact HB.out)) hb); have n10_ := aM (hbox); have n11_ := aM ((by rw [hg]; exact (bZ (by repeat (first | (with_reducible first | exact HB.out | apply ea | apply en | apply ed | refine es ?_ GE649.out | refine es ?_ GE650.out | refine es ?_ GE657.out | refine es ?_ GE669.out) | exact HB.out))) : w.heap.size ≤ gb681)); have n12_ := n11_; have n13_ := aM ((by rw [hg]; exact Nat.ne_of_lt (blk_lt (g := gb649) (qy BK649.out)) : gb649 ≠ gb681)); have n14_ := aM ((by rw [hg]; exact Nat.ne_of_gt (blk_lt (g := gb649) (qy BK649.out)) : gb681 ≠ gb649)); have n15_ := aM ((by rw [hg]; exact Nat.ne_of_lt (blk_lt (g := gb650) (qy BK650.out)) : gb650 ≠ gb681)); have n16_ := aM ((by rw [hg]; exact Nat.ne_of_gt (blk_lt (g := gb650) (qy BK650.out)) : gb681 ≠ gb650)); have n17_ := aM ((by rw [hg]; exact Nat.ne_of_lt (blk_lt (g := gb657) (qy BK657.out)) : gb657 ≠ gb681)); have n18_ := aM ((by rw [hg]; exact Nat.ne_of_gt (blk_lt (g := gb657) (qy BK657.out)) : gb681 ≠ gb657)); have n19_ := aM ((by rw [hg]; exact Nat.ne_of_lt (blk_lt (g := gb669) (qy BK669.out)) : gb669 ≠ gb681)); have n20_ := aM ((by rw [hg]; exact Nat.ne_of_gt (blk_lt (g := gb669) (qy BK669.out)) : gb681 ≠ gb669)); clear HO656 HO662 HO666 HO674 HO678 BK649 BK650 BK657 BK669 HB; have HO656 := n0_; have HO662 := n1_; have HO666 := n2_; have HO674 := n3_; have HO678 := n4_; have BK649 := n5_; have BK650 := n6_; have BK657 := n7_; have BK669 := n8_; have HB := n9_; have BK681 := n10_; have GW681 := n11_; have GE681 := n12_; have NB649_681 := n13_; have NB681_649 := n14_; have NB650_681 := n15_; have NB681_650 := n16_; have NB657_681 := n17_; have NB681_657 := n18_; have NB669_681 := n19_; have NB681_669 := n20_; clear n0_ n1_ n2_ n3_ n4_ n5_ n6_ n7_ n8_ n9_ n10_ n11_ n12_ n13_ n14_ n15_ n16_ n17_ n18_ n19_ n20_; clear hb hbox hg; have hnb54 := NB681_649.out; have hnc54 := NB649_681.out; have hnb55 := NB681_650.out; have hnc55 := NB650_681.out; have hnb56 := NB681_657.out; have hnc56 := NB657_681.out; have hnb57 := NB681_669.out; have hnc57 := NB669_681.out; have hcz58_0 : w53.cell? ⟨gb681, 0, none⟩ = some (.int .i64 0) := (bC BK681.out 0).trans rfl; have hcz58_1 : w53.cell? ⟨gb681, 1, none⟩ = some (.string (⟨#[]⟩ : ByteArray)) := (bC BK681.out 1).trans rfl; have hcz58_2 : w53.cell? ⟨gb681, 2, none⟩ = some (.slice none 0 0) := (bC BK681.out 2).trans rfl; have hcz58_3 : w53.cell? ⟨gb681, 3, none⟩ = some (.string (⟨#[]⟩ : ByteArray)) := (bC BK681.out 3).trans rfl; have hcz58_4 : w53.cell? ⟨gb681, 4, none⟩ = some (.slice none 0 0) := (bC BK681.out 4).trans rfl; have hfz58_0 := bF BK681.out 0; have hfz58_1 := bF BK681.out 1; have hfz58_2 := bF BK681.out 2; have hfz58_3 := bF BK681.out 3; have hfz58_4 := bF BK681.out 4; obtain ⟨Ao59, co59, eo59⟩ := Kd.R_slice HO674.out; subst eo59; obtain ⟨Ao60, co60, eo60⟩ := Kd.R_slice HO678.out; subst eo60; have hcz61_0 : w53.cell? ⟨gb669, 0, none⟩ = some (.int .i64 t658) := (bC BK669.out 0).trans rfl; have hcz61_1 : w53.cell? ⟨gb669, 1, none⟩ = some (.string t659) := (bC BK669.out 1).trans rfl; have hcz61_2 : w53.cell? ⟨gb669, 2, none⟩ = some (.slice Ao48 t660.length co48) := (bC BK669.out 2).trans rfl; have hcz61_3 : w53.cell? ⟨gb669, 3, none⟩ = some (.string t663) := (bC BK669.out 3).trans rfl; have hcz61_4 : w53.cell? ⟨gb669, 4, none⟩ = some (.slice Ao49 t664.length co49) := (bC BK669.out 4).trans rfl; have hfz61_0 := bF BK669.out 0; have hfz61_1 := bF BK669.out 1; have hfz61_2 := bF BK669.out 2; have hfz61_3 := bF BK669.out 3; have hfz61_4 := bF BK669.out 4) | (go_at_call 17; (with_reducible refine (bureauref04_Low.calls kj5 t659 _ _ t660 t671 _ _ t672 a1 true _ ?side1 ?side2 ?side3 ?side4 A28.out).mono ?_); (case side1 => refine (rR (e := 51) (base := w.heap.size) (ok := fun k_ => ((some k_ ≠ (.slice Ao49 t664.length co49 : Value).ownBlock ∧ some k_ ≠ (.slice Ao59 t672.length co59 : Value).ownBlock) ∧ some k_ ≠ (.slice Ao60 t676.length co60 : Value).ownBlock)) (n := t660.length) (c := co48) ?_).2.2; exact (by (with_reducible repeat (first | apply ra | apply rn | apply rd_)); exact (rM (rF (p := ⟨gb681, 4, none⟩) (rF (p := ⟨gb681, 3, none⟩) (rF (p := ⟨gb681, 2, none⟩) (rF (p := ⟨gb681, 1, none⟩) (rF (p := ⟨gb681, 0, none⟩) (rT HO662.out BK681.out (by decide)) (fun _ hk => hk.2) (.int .i64 t670)) (fun _ hk => hk.2) (.string t671)) (fun _ hk => hk.2) (.slice Ao59 t672.length co59)) (fun _ hk => hk.2) (.string t675)) (fun _ hk => hk.2) (.slice Ao60 t676.length co60)) (fun _ h_ => h_.1)))); (case side2 => exact (rR HO662.out).2.1); (case side3 => refine (rR (e := 51) (base := w.heap.size) (ok := fun k_ => ((some k_ ≠ (.slice Ao60 t676.length co60 : Value).ownBlock ∧ some k_ ≠ (.slice Ao48 t660.length co48 : Value).ownBlock) ∧ some k_ ≠ (.slice Ao49 t664.length co49 : Value).ownBlock)) (n := t672.length) (c := co59) ?_).2.2; exact (by (with_reducible repeat (first | apply ra | apply rn | apply rd_)); exact (rM (rF (p := ⟨gb681, 4, none⟩) (rF (p := ⟨gb681, 3, none⟩) (rF (p := ⟨gb681, 2, none⟩) (rF (p := ⟨gb681, 1, none⟩) (rF (p := ⟨gb681, 0, none⟩) (rT HO674.out BK681.out (by decide)) (fun _ hk => hk.2) (.int .i64 t670)) (fun _ hk => hk.2) (.string t671)) (fun _ hk => hk.2) (.slice Ao59 t672.length co59)) (fun _ hk => hk.2) (.string t675)) (fun _ hk => hk.2) (.slice Ao60 t676.length co60)) (fun _ h_ => h_.1)))); (case side4 => exact (rR HO674.out).2.1); rintro e w62 ⟨rfl, hb⟩; have n0_ := aM (Kd.V_below (by (with_reducible repeat (first | apply va | apply vn | apply vd)); exact (Kd.V_mono (Kd.V_far (p := ⟨gb681, 4, none⟩) (Kd.V_far (p := ⟨gb681, 3, none⟩) (Kd.V_far (p := ⟨gb681, 2, none⟩) (Kd.V_far (p := ⟨gb681, 1, none⟩) (Kd.V_far (p := ⟨gb681, 0, none⟩) (Kd.V_mono HO656.out (fun k_ hk => (⟨hk, hk.2⟩ : _ ∧ k_ ≠ gb681))) (fun _ hk => hk.2) (.int .i64 t670)) (fun _ hk => hk.2) (.string t671)) (fun _ hk => hk.2) (.slice Ao59 t672.length co59)) (fun _ hk => hk.2) (.string t675)) (fun _ hk => hk.2) (.slice Ao60 t676.length co60)) (fun _ h_ => h_.1))) hb); have n1_ := aM (Kd.R_below (by (with_reducible repeat (first | apply ra | apply rn | apply rd_)); exact (rM (rF (p := ⟨gb681, 4, none⟩) (rF (p := ⟨gb681, 3, none⟩) (rF (p := ⟨gb681, 2, none⟩) (rF (p := ⟨gb681, 1, none⟩) (rF (p := ⟨gb681, 0, none⟩) (rT HO662.out BK681.out (by decide)) (fun _ hk => hk.2) (.int .i64 t670)) (fun _ hk => hk.2) (.string t671)) (fun _ hk => hk.2) (.slice Ao59 t672.length co59)) (fun _ hk => hk.2) (.string t675)) (fun _ hk => hk.2) (.slice Ao60 t676.length co60)) (fun _ h_ => h_.1))) hb); have n2_ := aM (Kd.R_below (by (with_reducible repeat (first | apply ra | apply rn | apply rd_)); exact (rM (rF (p := ⟨gb681, 4, none⟩) (rF (p := ⟨gb681, 3, none⟩) (rF (p := ⟨gb681, 2, none⟩) (rF (p := ⟨gb681, 1, none⟩) (rF (p := ⟨gb681, 0, none⟩) (rT HO666.out BK681.out (by decide)) (fun _ hk => hk.2) (.int .i64 t670)) (fun _ hk => hk.2) (.string t671)) (fun _ hk => hk.2) (.slice Ao59 t672.length co59)) (fun _ hk => hk.2) (.string t675)) (fun _ hk => hk.2) (.slice Ao60 t676.length co60)) (fun _ h_ => h_.1))) hb); have n3_ := aM (Kd.R_below (by (with_reducible repeat (first | apply ra | apply rn | apply rd_)); exact (rM (rF (p := ⟨gb681, 4, none⟩) (rF (p := ⟨gb681, 3, none⟩) (rF (p := ⟨gb681, 2, none⟩) (rF (p := ⟨gb681, 1, none⟩) (rF (p := ⟨gb681, 0, none⟩) (rT HO674.out BK681.out (by decide)) (fun _ hk => hk.2) (.int .i64 t670)) (fun _ hk => hk.2) (.string t671)) (fun _ hk => hk.2) (.slice Ao59 t672.length co59)) (fun _ hk => hk.2) (.string t675)) (fun _ hk => hk.2) (.slice Ao60 t676.length co60)) (fun _ h_ => h_.1))) hb); have n4_ := aM (Kd.R_below (by (with_reducible repeat (first | apply ra | apply rn | apply rd_)); exact (rM (rF (p := ⟨gb681, 4, none⟩) (rF (p := ⟨gb681, 3, none⟩) (rF (p := ⟨gb681, 2, none⟩) (rF (p := ⟨gb681, 1, none⟩) (rF (p := ⟨gb681, 0, none⟩) (rT HO678.out BK681.out (by decide)) (fun _ hk => hk.2) (.int .i64 t670)) (fun _ hk => hk.2) (.string t671)) (fun _ hk => hk.2) (.slice Ao59 t672.length co59)) (fun _ hk => hk.2) (.string t675)) (fun _ hk => hk.2) (.slice Ao60 t676.length co60)) (fun _ h_ => h_.1))) hb); have n5_ := aM (bB (g := gb649) (o := .cells #[.string a0_0, .slice A0_1 l0_1.length c0_1] 24 (0, 0)) (by (with_reducible repeat (first | apply qn | apply qd | apply qa)); refine bR ?_ NB649_681.out _; (with_reducible repeat (first | apply qn | apply qd | apply qa)); refine bR ?_ NB649_681.out _; (with_reducible repeat (first | apply qn | apply qd | apply qa)); refine bR ?_ NB649_681.out _; (with_reducible repeat (first | apply qn | apply qd | apply qa)); refine bR ?_ NB649_681.out _; (with_reducible repeat (first | apply qn | apply qd | apply qa)); refine bR ?_ NB649_681.out _; exact qy BK649.out) hb); have n6_ := aM (bB (g := gb650) (o := .cells #[.int .i64 a2_0, .int .i64 a2_1, .string a2_2, .string a2_3, .bool a2_4, .string a2_5] 46 (0, 0)) (by (with_reducible repeat (first | apply qn | apply qd | apply qa)); refine bR ?_ NB650_681.out _; (with_reducible repeat (first | apply qn | apply qd | apply qa)); refine bR ?_ NB650_681.out _; (with_reducible repeat (first | apply qn | apply qd | apply qa)); refine bR ?_ NB650_681.out _; (with_reducible repeat (first | apply qn | apply qd | apply qa)); refine bR ?_ NB650_681.out _; (with_reducible repeat (first | apply qn | apply qd | apply qa)); refine bR ?_ NB650_681.out _; exact qy BK650.out) hb); have n7_ := aM (bB (g := gb657) (o := .cells #[.string t653, .slice Ao39 t654.length co39] 24 (0, 0)) (by (with_reducible repeat (first | apply qn | apply qd | apply qa)); refine bR ?_ NB657_681.out _; (with_reducible repeat (first | apply qn | apply qd | apply qa)); refine bR ?_ NB657_681.out _; (with_reducible repeat (first | apply qn | apply qd | apply qa)); refine bR ?_ NB657_681.out _; (with_reducible repeat (first | apply qn | apply qd | apply qa)); refine bR ?_ NB657_681.out _; (with_reducible repeat (first | apply qn | apply qd | apply qa)); refine bR ?_ NB657_681.out _; exact qy BK657.out) hb); have n8_ := aM (bB (g := gb669) (o := .cells #[.int .i64 t658, .string t659, .slice Ao48 t660.length co48, .string t663, .slice Ao49 t664.length co49] 32 (0, 0)) (by (with_reducible repeat (first | apply qn | apply qd | apply qa)); refine bR ?_ NB669_681.out _; (with_reducible repeat (first | apply qn | apply qd | apply qa)); refine bR ?_ NB669_681.out _; (with_reducible repeat (first | apply qn | apply qd | apply qa)); refine bR ?_ NB669_681.out _; (with_reducible repeat (first | apply qn | apply qd | apply qa)); refine bR ?_ NB669_681.out _; (with_reducible repeat (first | apply qn | apply qd | apply qa)); refine bR ?_ NB669_681.out _; exact qy BK669.out) hb); have n9_ := aM (bB (g := gb681) (o := .cells #[.int .i64 t670, .string t671, .slice Ao59 t672.length co59, .string t675, .slice Ao60 t676.length co60] 32 (0, 0)) (by (with_reducible repeat (first | apply qn | apply qd | apply qa)); refine bU (cs := #[.int .i64 t670, .string t671, .slice Ao59 t672.length co59, .string t675, .slice none 0 0]) ?_ 4 _ rfl; (with_reducible repeat (first | apply qn | apply qd | apply qa)); refine bU (cs := #[.int .i64 t670, .string t671, .slice Ao59 t672.length co59, .string (⟨#[]⟩ : ByteArray), .slice none 0 0]) ?_ 3 _ rfl; (with_reducible repeat (first | apply qn | apply qd | apply qa)); refine bU (cs := #[.int .i64 t670, .string t671, .slice none 0 0, .string (⟨#[]⟩ : ByteArray), .slice none 0 0]) ?_ 2 _ rfl; (with_reducible repeat (first | apply qn | apply qd | apply qa)); refine bU (cs := #[.int .i64 t670, .string (⟨#[]⟩ : ByteArray), .slice none 0 0, .string (⟨#[]⟩ : ByteArray), .slice none 0 0]) ?_ 1 _ rfl; (with_reducible repeat (first | apply qn | apply qd | apply qa)); refine bU (cs := #[.int .i64 0, .string (⟨#[]⟩ : ByteArray), .slice none 0 0, .string (⟨#[]⟩ : ByteArray), .slice none 0 0]) ?_ 0 _ rfl; exact qy BK681.out) hb); have n10_ := aM (bP (by repeat (first | (with_reducible first | exact HB.out | apply ea | apply en | apply ed | refine es ?_ GE649.out | refine es ?_ GE650.out | refine es ?_ GE657.out | refine es ?_ GE669.out | refine es ?_ GE681.out) | exact HB.out)) hb); clear HO656 HO662 HO666 HO674 HO678 BK649 BK650 BK657 BK669 BK681 HB; have HO656 := n0_; have HO662 := n1_; have HO666 := n2_; have HO674 := n3_; have HO678 := n4_; have BK649 := n5_; have BK650 := n6_; have BK657 := n7_; have BK669 := n8_; have BK681 := n9_; have HB := n10_; clear n0_ n1_ n2_ n3_ n4_ n5_ n6_ n7_ n8_ n9_ n10_; (try clear hb); (try clear hb2); (try clear hk); (try clear hi); have hcz63_0 : w62.cell? ⟨gb669, 0, none⟩ = some (.int .i64 t658) := (bC BK669.out 0).trans rfl; have hcz63_1 : w62.cell? ⟨gb669, 1, none⟩ = some (.string t659) := (bC BK669.out 1).trans rfl; have hcz63_2 : w62.cell? ⟨gb669, 2, none⟩ = some (.slice Ao48 t660.length co48) := (bC BK669.out 2).trans rfl; have hcz63_3 : w62.cell? ⟨gb669, 3, none⟩ = some (.string t663) := (bC BK669.out 3).trans rfl; have hcz63_4 : w62.cell? ⟨gb669, 4, none⟩ = some (.slice Ao49 t664.length co49) := (bC BK669.out 4).trans rfl; have hfz63_0 := bF BK669.out 0; have hfz63_1 := bF BK669.out 1; have hfz63_2 := bF BK669.out 2; have hfz63_3 := bF BK669.out 3; have hfz63_4 := bF BK669.out 4; have hcz64_0 : w62.cell? ⟨gb681, 0, none⟩ = some (.int .i64 t670) := (bC BK681.out 0).trans rfl; have hcz64_1 : w62.cell? ⟨gb681, 1, none⟩ = some (.string t671) := (bC BK681.out 1).trans rfl; have hcz64_2 : w62.cell? ⟨gb681, 2, none⟩ = some (.slice Ao59 t672.length co59) := (bC BK681.out 2).trans rfl; have hcz64_3 : w62.cell? ⟨gb681, 3, none⟩ = some (.string t675) := (bC BK681.out 3).trans rfl; have hcz64_4 : w62.cell? ⟨gb681, 4, none⟩ = some (.slice Ao60 t676.length co60) := (bC BK681.out 4).trans rfl; have hfz64_0 := bF BK681.out 0; have hfz64_1 := bF BK681.out 1; have hfz64_2 := bF BK681.out 2; have hfz64_3 := bF BK681.out 3; have hfz64_4 := bF BK681.out 4) | (go_at_call 17; (with_reducible refine (bureauref04_Low.calls kj5 t663 _ _ t664 t675 _ _ t676 a1 t683 _ ?side1 ?side2 ?side3 ?side4 A30.out).mono ?_); (case side1 => repeat (first | exact (rR HO666.out).2.2 | (with_reducible refine Kd.C_alloc ?_ _) | (with_reducible refine Kd.C_drewN ?_ _) | (with_reducible refine Kd.C_drew ?_))); (case side2 => exact (rR HO666.out).2.1); (case side3 => repeat (first | exact (rR HO678.out).2.2 | (with_reducible refine Kd.C_alloc ?_ _) | (with_reducible refine Kd.C_drewN ?_ _) | (with_reducible refine Kd.C_drew ?_))); (case side4 => exact (rR HO678.out).2.1); rintro e w65 ⟨rfl, hb⟩; have n0_ := aM (Kd.V_below (by (with_reducible repeat (first | apply va | apply vn | apply vd)); exact HO656.out) hb); have n1_ := aM (Kd.R_below (ry HO662.out) hb); have n2_ := aM (Kd.R_below (ry HO666.out) hb); have n3_ := aM (Kd.R_below (ry HO674.out) hb); have n4_ := aM (Kd.R_below (ry HO678.out) hb); have n5_ := aM (bB (g := gb649) (qy BK649.out) hb); have n6_ := aM (bB (g := gb650) (qy BK650.out) hb); have n7_ := aM (bB (g := gb657) (qy BK657.out) hb); have n8_ := aM (bB (g := gb669) (qy BK669.out) hb); have n9_ := aM (bB (g := gb681) (qy BK681.out) hb); have n10_ := aM (bP (by repeat (first | (with_reducible first | exact HB.out | apply ea | apply en | apply ed | refine es ?_ GE649.out | refine es ?_ GE650.out | refine es ?_ GE657.out | refine es ?_ GE669.out | refine es ?_ GE681.out) | exact HB.out)) hb); clear HO656 HO662 HO666 HO674 HO678 BK649 BK650 BK657 BK669 BK681 HB; have HO656 := n0_; have HO662 := n1_; have HO666 := n2_; have HO674 := n3_; have HO678 := n4_; have BK649 := n5_; have BK650 := n6_; have BK657 := n7_; have BK669 := n8_; have BK681 := n9_; have HB := n10_; clear n0_ n1_ n2_ n3_ n4_ n5_ n6_ n7_ n8_ n9_ n10_; (try clear hb); (try clear hb2); (try clear hk); (try clear hi)))
         go_ret
         exact ⟨by first | rfl | (simp [errW_none, errW_some] <;> rfl) | (simp [*, errW_none, errW_some] <;> rfl), by repeat (first | (with_reducible first | exact HB.out | apply ea | apply en | apply ed | refine es ?_ GE649.out | refine es ?_ GE650.out | refine es ?_ GE657.out | refine es ?_ GE669.out | refine es ?_ GE681.out) | exact HB.out)⟩
        ·replace c29 := Bool.eq_false_iff.mpr c29
         subst c29
         have H1 : (some false) = some r := by rw [if_neg (show ¬ (false = true) by decide)] at H; exact H
         clear H
         have H := H1
         clear H1
         obtain rfl := Option.some.inj H
         have hnb66 := NB649_650.out
         have hnc66 := NB650_649.out
         have hcz67_0 : wc.cell? ⟨gb649, 0, none⟩ = some (.string a0_0) := (bC BK649.out 0).trans rfl
         have hcz67_1 : wc.cell? ⟨gb649, 1, none⟩ = some (.slice A0_1 l0_1.length c0_1) := (bC BK649.out 1).trans rfl
         have hfz67_0 := bF BK649.out 0
         have hfz67_1 := bF BK649.out 1
         have hcz68_0 : wc.cell? ⟨gb650, 0, none⟩ = some (.int .i64 a2_0) := (bC BK650.out 0).trans rfl
         have hcz68_1 : wc.cell? ⟨gb650, 1, none⟩ = some (.int .i64 a2_1) := (bC BK650.out 1).trans rfl
         have hcz68_2 : wc.cell? ⟨gb650, 2, none⟩ = some (.string a2_2) := (bC BK650.out 2).trans rfl
         have hcz68_3 : wc.cell? ⟨gb650, 3, none⟩ = some (.string a2_3) := (bC BK650.out 3).trans rfl
         have hcz68_4 : wc.cell? ⟨gb650, 4, none⟩ = some (.bool a2_4) := (bC BK650.out 4).trans rfl
         have hcz68_5 : wc.cell? ⟨gb650, 5, none⟩ = some (.string a2_5) := (bC BK650.out 5).trans rfl
         have hfz68_0 := bF BK650.out 0
         have hfz68_1 := bF BK650.out 1
         have hfz68_2 := bF BK650.out 2
         have hfz68_3 := bF BK650.out 3
         have hfz68_4 := bF BK650.out 4
         have hfz68_5 := bF BK650.out 5
         go_wp2_with (first | ((with_reducible refine gate_callee (f := 16) rfl ?_); refine goesL_ (some 31) rfl rfl Try.func16 (by kernel_rfl) rfl #[.agg #[.string a0_0, .slice A0_1 l0_1.length c0_1], .int .u64 a1, .string a2_5] rfl (by (try simp only [mT, mC, mN]); first | done | rfl | (simp only [lD, lT]; rfl)) ?_; (with_reducible refine (bureauref04_Other.calls kj5 a0_0 (fun k_ => k_ < w.heap.size) _ _ l0_1 a1 a2_5 t653 t654 _ ?side1 A22.out).mono ?_); (case side1 => exact Kd.V_mk HC0_1.out (Kd.F_below (Kd.C_F k51_heap HR0_1.out) (by repeat (first | (with_reducible first | exact HB.out | apply ea | apply en | apply ed | refine es ?_ GE649.out | refine es ?_ GE650.out) | exact HB.out)))); rintro e w69 ⟨v655, rfl, ho0, hb⟩; refine ⟨_, rfl, ?_⟩; have n0_ := aM (Kd.V_lower (Kd.V_mono (ok' := fun k_ => k_ ≠ gb649 ∧ k_ ≠ gb650) ho0 (fun k_ hk_ => ⟨Or.elim hk_ (fun hs_ => fun e_ => Nat.not_le.2 hs_ (by rw [e_]; exact GW649.out)) (fun hn_ => (Kd.freshB (g := gb649) (qy BK649.out) k_ hn_)), Or.elim hk_ (fun hs_ => fun e_ => Nat.not_le.2 hs_ (by rw [e_]; exact GW650.out)) (fun hn_ => (Kd.freshB (g := gb650) (qy BK650.out) k_ hn_))⟩)) (bZ (by repeat (first | (with_reducible first | exact HB.out | apply ea | apply en | apply ed | refine es ?_ GE649.out | refine es ?_ GE650.out) | exact HB.out)))); have n1_ := aM (bB (g := gb649) (qy BK649.out) hb); have n2_ := aM (bB (g := gb650) (qy BK650.out) hb); have n3_ := aM (bP (by repeat (first | (with_reducible first | exact HB.out | apply ea | apply en | apply ed | refine es ?_ GE649.out | refine es ?_ GE650.out) | exact HB.out)) hb); clear BK649 BK650 HB; have HO656 := n0_; have BK649 := n1_; have BK650 := n2_; have HB := n3_; clear n0_ n1_ n2_ n3_; (try clear hb); (try clear hb2); (try clear hk); (try clear hi); (try clear ho0)) | ((with_reducible refine gate_dst (N := 7) rfl ?_); (try (refine gate_guard (by rfl) ?_; dsimp only)); refine box_event ?hg (N := 7) ?hd (cs := #[.string (⟨#[]⟩ : ByteArray), .slice none 0 0]) (t := 24) ?hr ?_; (case hd | hg => rfl); (case hr => first | (go_simp; done) | (go_simp; rfl)); intro gb657 hg w70 hbox hb; have n0_ := aM (Kd.V_below (Kd.V_elderB (by (with_reducible repeat (first | apply va | apply vn | apply vd)); exact HO656.out) gb657 (Nat.le_of_eq hg.symm)) hb); have n1_ := aM (bB (g := gb649) (qy BK649.out) hb); have n2_ := aM (bB (g := gb650) (qy BK650.out) hb); have n3_ := aM (bP (by repeat (first | (with_reducible first | exact HB.out | apply ea | apply en | apply ed | refine es ?_ GE649.out | refine es ?_ GE650.out) | exact HB.out)) hb); have n4_ := aM (hbox); have n5_ := aM ((by rw [hg]; exact (bZ (by repeat (first | (with_reducible first | exact HB.out | apply ea | apply en | apply ed | refine es ?_ GE649.out | refine es ?_ GE650.out) | exact HB.out))) : w.heap.size ≤ gb657)); have n6_ := n5_; have n7_ := aM ((by rw [hg]; exact Nat.ne_of_lt (blk_lt (g := gb649) (qy BK649.out)) : gb649 ≠ gb657)); have n8_ := aM ((by rw [hg]; exact Nat.ne_of_gt (blk_lt (g := gb649) (qy BK649.out)) : gb657 ≠ gb649)); have n9_ := aM ((by rw [hg]; exact Nat.ne_of_lt (blk_lt (g := gb650) (qy BK650.out)) : gb650 ≠ gb657)); have n10_ := aM ((by rw [hg]; exact Nat.ne_of_gt (blk_lt (g := gb650) (qy BK650.out)) : gb657 ≠ gb650)); clear HO656 BK649 BK650 HB; have HO656 := n0_; have BK649 := n1_; have BK650 := n2_; have HB := n3_; have BK657 := n4_; have GW657 := n5_; have GE657 := n6_; have NB649_657 := n7_; have NB657_649 := n8_; have NB650_657 := n9_; have NB657_650 := n10_; clear n0_ n1_ n2_ n3_ n4_ n5_ n6_ n7_ n8_ n9_ n10_; clear hb hbox hg; have hnb71 := NB657_649.out; have hnc71 := NB649_657.out; have hnb72 := NB657_650.out; have hnc72 := NB650_657.out; have hcz73_0 : w70.cell? ⟨gb657, 0, none⟩ = some (.string (⟨#[]⟩ : ByteArray)) := (bC BK657.out 0).trans rfl; have hcz73_1 : w70.cell? ⟨gb657, 1, none⟩ = some (.slice none 0 0) := (bC BK657.out 1).trans rfl; have hfz73_0 := bF BK657.out 0; have hfz73_1 := bF BK657.out 1; obtain ⟨Ao74, co74, eo74⟩ := Kd.V_slice HO656.out; subst eo74; have hcz75_0 : w70.cell? ⟨gb649, 0, none⟩ = some (.string a0_0) := (bC BK649.out 0).trans rfl; have hcz75_1 : w70.cell? ⟨gb649, 1, none⟩ = some (.slice A0_1 l0_1.length c0_1) := (bC BK649.out 1).trans rfl; have hfz75_0 := bF BK649.out 0; have hfz75_1 := bF BK649.out 1; have hcz76_0 : w70.cell? ⟨gb650, 0, none⟩ = some (.int .i64 a2_0) := (bC BK650.out 0).trans rfl; have hcz76_1 : w70.cell? ⟨gb650, 1, none⟩ = some (.int .i64 a2_1) := (bC BK650.out 1).trans rfl; have hcz76_2 : w70.cell? ⟨gb650, 2, none⟩ = some (.string a2_2) := (bC BK650.out 2).trans rfl; have hcz76_3 : w70.cell? ⟨gb650, 3, none⟩ = some (.string a2_3) := (bC BK650.out 3).trans rfl; have hcz76_4 : w70.cell? ⟨gb650, 4, none⟩ = some (.bool a2_4) := (bC BK650.out 4).trans rfl; have hcz76_5 : w70.cell? ⟨gb650, 5, none⟩ = some (.string a2_5) := (bC BK650.out 5).trans rfl; have hfz76_0 := bF BK650.out 0; have hfz76_1 := bF BK650.out 1; have hfz76_2 := bF BK650.out 2; have hfz76_3 := bF BK650.out 3; have hfz76_4 := bF BK650.out 4; have hfz76_5 := bF BK650.out 5) | ((with_reducible refine gate_callee (f := 10) rfl ?_); refine goesL_ (some 37) rfl rfl Try.func10 (by kernel_rfl) rfl #[.agg #[.string a0_0, .slice A0_1 l0_1.length c0_1], .int .u64 a1, .agg #[.int .i64 a2_0, .int .i64 a2_1, .string a2_2, .string a2_3, .bool a2_4]] rfl (by (try simp only [mT, mC, mN]); first | done | rfl | (simp only [lD, lT]; rfl)) ?_; (with_reducible refine (subst_Do.calls kj5 a0_0 _ _ l0_1 a1 a2_0 a2_1 a2_2 a2_3 a2_4 t658 t659 t660 t663 t664 t667 t668 _ ?mx52 ?side1 ?side2 A23.out).mono ?_); (case mx52 => exact MaxOk.below HMX.out (by repeat (first | (with_reducible first | exact HB.out | apply ea | apply en | apply ed | refine es ?_ GE649.out | refine es ?_ GE650.out | refine es ?_ GE657.out) | exact HB.out))); (case side1 => exact cB_ HR0_1.out (by repeat (first | (with_reducible first | exact HB.out | apply ea | apply en | apply ed | refine es ?_ GE649.out | refine es ?_ GE650.out | refine es ?_ GE657.out) | exact HB.out))); (case side2 => exact HC0_1.out); rintro e w77 ⟨v661, v665, rfl, ho0, ho1, hb⟩; refine ⟨_, rfl, ?_⟩; have n0_ := aM (Kd.V_mono (Kd.V_told (Kd.V_told (Kd.V_old (by (with_reducible repeat (first | apply va | apply vn | apply vd)); exact (Kd.V_mono (Kd.V_far (p := ⟨gb657, 1, none⟩) (Kd.V_far (p := ⟨gb657, 0, none⟩) (Kd.V_mono HO656.out (fun k_ hk => (⟨hk, hk.2⟩ : _ ∧ k_ ≠ gb657))) (fun _ hk => hk.2) (.string t653)) (fun _ hk => hk.2) (.slice Ao74 t654.length co74)) (fun _ h_ => h_.1))) hb) (Kd.R_base ho0)) (Kd.R_base ho1)) (fun _ h_ => h_.1)); have n1_ := aM (rL ho0 (bZ (by repeat (first | (with_reducible first | exact HB.out | apply ea | apply en | apply ed | refine es ?_ GE649.out | refine es ?_ GE650.out | refine es ?_ GE657.out) | exact HB.out)))); have n2_ := aM (rL ho1 (bZ (by repeat (first | (with_reducible first | exact HB.out | apply ea | apply en | apply ed | refine es ?_ GE649.out | refine es ?_ GE650.out | refine es ?_ GE657.out) | exact HB.out)))); have n3_ := aM (bB (g := gb649) (o := .cells #[.string a0_0, .slice A0_1 l0_1.length c0_1] 24 (0, 0)) (by (with_reducible repeat (first | apply qn | apply qd | apply qa)); refine bR ?_ NB649_657.out _; (with_reducible repeat (first | apply qn | apply qd | apply qa)); refine bR ?_ NB649_657.out _; exact qy BK649.out) hb); have n4_ := aM (bB (g := gb650) (o := .cells #[.int .i64 a2_0, .int .i64 a2_1, .string a2_2, .string a2_3, .bool a2_4, .string a2_5] 46 (0, 0)) (by (with_reducible repeat (first | apply qn | apply qd | apply qa)); refine bR ?_ NB650_657.out _; (with_reducible repeat (first | apply qn | apply qd | apply qa)); refine bR ?_ NB650_657.out _; exact qy BK650.out) hb); have n5_ := aM (bB (g := gb657) (o := .cells #[.string t653, .slice Ao74 t654.length co74] 24 (0, 0)) (by (with_reducible repeat (first | apply qn | apply qd | apply qa)); refine bU (cs := #[.string t653, .slice none 0 0]) ?_ 1 _ rfl; (with_reducible repeat (first | apply qn | apply qd | apply qa)); refine bU (cs := #[.string (⟨#[]⟩ : ByteArray), .slice none 0 0]) ?_ 0 _ rfl; exact qy BK657.out) hb); have n6_ := aM (bP (by repeat (first | (with_reducible first | exact HB.out | apply ea | apply en | apply ed | refine es ?_ GE649.out | refine es ?_ GE650.out | refine es ?_ GE657.out) | exact HB.out)) hb); clear HO656 BK649 BK650 BK657 HB; have HO656 := n0_; have HO662 := n1_; have HO666 := n2_; have BK649 := n3_; have BK650 := n4_; have BK657 := n5_; have HB := n6_; clear n0_ n1_ n2_ n3_ n4_ n5_ n6_; (try clear hb); (try clear hb2); (try clear hk); (try clear hi); (try clear ho0); (try clear ho1)) | ((with_reducible refine gate_dst (N := 8) rfl ?_); (try (refine gate_guard (by rfl) ?_; dsimp only)); refine box_event ?hg (N := 8) ?hd (cs := #[.int .i64 0, .string (⟨#[]⟩ : ByteArray), .slice none 0 0, .string (⟨#[]⟩ : ByteArray), .slice none 0 0]) (t := 32) ?hr ?_; (case hd | hg => rfl); (case hr => first | (go_simp; done) | (go_simp; rfl)); intro gb669 hg w78 hbox hb; have n0_ := aM (Kd.V_below (Kd.V_elderB (by (with_reducible repeat (first | apply va | apply vn | apply vd)); exact HO656.out) gb669 (Nat.le_of_eq hg.symm)) hb); have n1_ := aM (Kd.R_below (ry HO662.out) hb); have n2_ := aM (Kd.R_below (ry HO666.out) hb); have n3_ := aM (bB (g := gb649) (qy BK649.out) hb); have n4_ := aM (bB (g := gb650) (qy BK650.out) hb); have n5_ := aM (bB (g := gb657) (qy BK657.out) hb); have n6_ := aM (bP (by repeat (first | (with_reducible first | exact HB.out | apply ea | apply en | apply ed | refine es ?_ GE649.out | refine es ?_ GE650.out | refine es ?_ GE657.out) | exact HB.out)) hb); have n7_ := aM (hbox); have n8_ := aM ((by rw [hg]; exact (bZ (by repeat (first | (with_reducible first | exact HB.out | apply ea | apply en | apply ed | refine es ?_ GE649.out | refine es ?_ GE650.out | refine es ?_ GE657.out) | exact HB.out))) : w.heap.size ≤ gb669)); have n9_ := n8_; have n10_ := aM ((by rw [hg]; exact Nat.ne_of_lt (blk_lt (g := gb649) (qy BK649.out)) : gb649 ≠ gb669)); have n11_ := aM ((by rw [hg]; exact Nat.ne_of_gt (blk_lt (g := gb649) (qy BK649.out)) : gb669 ≠ gb649)); have n12_ := aM ((by rw [hg]; exact Nat.ne_of_lt (blk_lt (g := gb650) (qy BK650.out)) : gb650 ≠ gb669)); have n13_ := aM ((by rw [hg]; exact Nat.ne_of_gt (blk_lt (g := gb650) (qy BK650.out)) : gb669 ≠ gb650)); have n14_ := aM ((by rw [hg]; exact Nat.ne_of_lt (blk_lt (g := gb657) (qy BK657.out)) : gb657 ≠ gb669)); have n15_ := aM ((by rw [hg]; exact Nat.ne_of_gt (blk_lt (g := gb657) (qy BK657.out)) : gb669 ≠ gb657)); clear HO656 HO662 HO666 BK649 BK650 BK657 HB; have HO656 := n0_; have HO662 := n1_; have HO666 := n2_; have BK649 := n3_; have BK650 := n4_; have BK657 := n5_; have HB := n6_; have BK669 := n7_; have GW669 := n8_; have GE669 := n9_; have NB649_669 := n10_; have NB669_649 := n11_; have NB650_669 := n12_; have NB669_650 := n13_; have NB657_669 := n14_; have NB669_657 := n15_; clear n0_ n1_ n2_ n3_ n4_ n5_ n6_ n7_ n8_ n9_ n10_ n11_ n12_ n13_ n14_ n15_; clear hb hbox hg; have hnb79 := NB669_649.out; have hnc79 := NB649_669.out; have hnb80 := NB669_650.out; have hnc80 := NB650_669.out; have hnb81 := NB669_657.out; have hnc81 := NB657_669.out; have hcz82_0 : w78.cell? ⟨gb669, 0, none⟩ = some (.int .i64 0) := (bC BK669.out 0).trans rfl; have hcz82_1 : w78.cell? ⟨gb669, 1, none⟩ = some (.string (⟨#[]⟩ : ByteArray)) := (bC BK669.out 1).trans rfl; have hcz82_2 : w78.cell? ⟨gb669, 2, none⟩ = some (.slice none 0 0) := (bC BK669.out 2).trans rfl; have hcz82_3 : w78.cell? ⟨gb669, 3, none⟩ = some (.string (⟨#[]⟩ : ByteArray)) := (bC BK669.out 3).trans rfl; have hcz82_4 : w78.cell? ⟨gb669, 4, none⟩ = some (.slice none 0 0) := (bC BK669.out 4).trans rfl; have hfz82_0 := bF BK669.out 0; have hfz82_1 := bF BK669.out 1; have hfz82_2 := bF BK669.out 2; have hfz82_3 := bF BK669.out 3; have hfz82_4 := bF BK669.out 4; obtain ⟨Ao83, co83, eo83⟩ := Kd.R_slice HO662.out; subst eo83; obtain ⟨Ao84, co84, eo84⟩ := Kd.R_slice HO666.out; subst eo84; have hcz85_0 : w78.cell? ⟨gb657, 0, none⟩ = some (.string t653) := (bC BK657.out 0).trans rfl; have hcz85_1 : w78.cell? ⟨gb657, 1, none⟩ = some (.slice Ao74 t654.length co74) := (bC BK657.out 1).trans rfl; have hfz85_0 := bF BK657.out 0; have hfz85_1 := bF BK657.out 1; have hcz86_0 : w78.cell? ⟨gb650, 0, none⟩ = some (.int .i64 a2_0) := (bC BK650.out 0).trans rfl; have hcz86_1 : w78.cell? ⟨gb650, 1, none⟩ = some (.int .i64 a2_1) := (bC BK650.out 1).trans rfl; have hcz86_2 : w78.cell? ⟨gb650, 2, none⟩ = some (.string a2_2) := (bC BK650.out 2).trans rfl; have hcz86_3 : w78.cell? ⟨gb650, 3, none⟩ = some (.string a2_3) := (bC BK650.out 3).trans rfl; have hcz86_4 : w78.cell? ⟨gb650, 4, none⟩ = some (.bool a2_4) := (bC BK650.out 4).trans rfl; have hcz86_5 : w78.cell? ⟨gb650, 5, none⟩ = some (.string a2_5) := (bC BK650.out 5).trans rfl; have hfz86_0 := bF BK650.out 0; have hfz86_1 := bF BK650.out 1; have hfz86_2 := bF BK650.out 2; have hfz86_3 := bF BK650.out 3; have hfz86_4 := bF BK650.out 4; have hfz86_5 := bF BK650.out 5) | ((with_reducible refine gate_callee (f := 10) rfl ?_); refine goesL_ (some 46) rfl rfl Try.func10 (by kernel_rfl) rfl #[.agg #[.string t653, .slice Ao74 t654.length co74], .int .u64 a1, .agg #[.int .i64 a2_0, .int .i64 a2_1, .string a2_2, .string a2_3, .bool a2_4]] rfl (by (try simp only [mT, mC, mN]); first | done | rfl | (simp only [lD, lT]; rfl)) ?_; (with_reducible refine (subst_Do.calls kj5 t653 _ _ t654 a1 a2_0 a2_1 a2_2 a2_3 a2_4 t670 t671 t672 t675 t676 t679 t680 _ ?mx53 ?side1 ?side2 A24.out).mono ?_); (case mx53 => exact MaxOk.below HMX.out (by repeat (first | (with_reducible first | exact HB.out | apply ea | apply en | apply ed | refine es ?_ GE649.out | refine es ?_ GE650.out | refine es ?_ GE657.out | refine es ?_ GE669.out) | exact HB.out))); (case side1 => refine (Kd.V_reads' (e := 51) (base := w.heap.size) (ok := fun k_ => (((((k_ ≠ gb649 ∧ k_ ≠ gb650) ∧ k_ ≠ gb657) ∧ some k_ ≠ (.slice Ao83 t660.length co83 : Value).ownBlock) ∧ some k_ ≠ (.slice Ao84 t664.length co84 : Value).ownBlock) ∧ k_ ≠ gb669)) (n := t654.length) (c := co74) ?_).2.2; exact (by (with_reducible repeat (first | apply va | apply vn | apply vd)); exact (Kd.V_mono (Kd.V_far (p := ⟨gb669, 4, none⟩) (Kd.V_far (p := ⟨gb669, 3, none⟩) (Kd.V_far (p := ⟨gb669, 2, none⟩) (Kd.V_far (p := ⟨gb669, 1, none⟩) (Kd.V_far (p := ⟨gb669, 0, none⟩) (Kd.V_mono HO656.out (fun k_ hk => (⟨hk, hk.2⟩ : _ ∧ k_ ≠ gb669))) (fun _ hk => hk.2) (.int .i64 t658)) (fun _ hk => hk.2) (.string t659)) (fun _ hk => hk.2) (.slice Ao83 t660.length co83)) (fun _ hk => hk.2) (.string t663)) (fun _ hk => hk.2) (.slice Ao84 t664.length co84)) (fun _ h_ => h_.1)))); (case side2 => exact (Kd.V_reads' HO656.out).2.1); rintro e w87 ⟨v673, v677, rfl, ho0, ho1, hb⟩; refine ⟨_, rfl, ?_⟩; have n0_ := aM (Kd.V_mono (Kd.V_told (Kd.V_told (Kd.V_old (by (with_reducible repeat (first | apply va | apply vn | apply vd)); exact (Kd.V_mono (Kd.V_far (p := ⟨gb669, 4, none⟩) (Kd.V_far (p := ⟨gb669, 3, none⟩) (Kd.V_far (p := ⟨gb669, 2, none⟩) (Kd.V_far (p := ⟨gb669, 1, none⟩) (Kd.V_far (p := ⟨gb669, 0, none⟩) (Kd.V_mono HO656.out (fun k_ hk => (⟨hk, hk.2⟩ : _ ∧ k_ ≠ gb669))) (fun _ hk => hk.2) (.int .i64 t658)) (fun _ hk => hk.2) (.string t659)) (fun _ hk => hk.2) (.slice Ao83 t660.length co83)) (fun _ hk => hk.2) (.string t663)) (fun _ hk => hk.2) (.slice Ao84 t664.length co84)) (fun _ h_ => h_.1))) hb) (Kd.R_base ho0)) (Kd.R_base ho1)) (fun _ h_ => h_.1)); have n1_ := aM (rM (Kd.R_told (Kd.R_told (Kd.R_old (by (with_reducible repeat (first | apply ra | apply rn | apply rd_)); exact (rM (rF (p := ⟨gb669, 4, none⟩) (rF (p := ⟨gb669, 3, none⟩) (rF (p := ⟨gb669, 2, none⟩) (rF (p := ⟨gb669, 1, none⟩) (rF (p := ⟨gb669, 0, none⟩) (rT HO662.out BK669.out (by decide)) (fun _ hk => hk.2) (.int .i64 t658)) (fun _ hk => hk.2) (.string t659)) (fun _ hk => hk.2) (.slice Ao83 t660.length co83)) (fun _ hk => hk.2) (.string t663)) (fun _ hk => hk.2) (.slice Ao84 t664.length co84)) (fun _ h_ => h_.1))) hb) (Kd.R_base ho0)) (Kd.R_base ho1)) (fun _ h_ => h_.1)); have n2_ := aM (rM (Kd.R_told (Kd.R_told (Kd.R_old (by (with_reducible repeat (first | apply ra | apply rn | apply rd_)); exact (rM (rF (p := ⟨gb669, 4, none⟩) (rF (p := ⟨gb669, 3, none⟩) (rF (p := ⟨gb669, 2, none⟩) (rF (p := ⟨gb669, 1, none⟩) (rF (p := ⟨gb669, 0, none⟩) (rT HO666.out BK669.out (by decide)) (fun _ hk => hk.2) (.int .i64 t658)) (fun _ hk => hk.2) (.string t659)) (fun _ hk => hk.2) (.slice Ao83 t660.length co83)) (fun _ hk => hk.2) (.string t663)) (fun _ hk => hk.2) (.slice Ao84 t664.length co84)) (fun _ h_ => h_.1))) hb) (Kd.R_base ho0)) (Kd.R_base ho1)) (fun _ h_ => h_.1)); have n3_ := aM (rL (Kd.R_new' (Kd.R_new' ho0 (Kd.R_lt (by (with_reducible repeat (first | apply ra | apply rn | apply rd_)); exact (rM (rF (p := ⟨gb669, 4, none⟩) (rF (p := ⟨gb669, 3, none⟩) (rF (p := ⟨gb669, 2, none⟩) (rF (p := ⟨gb669, 1, none⟩) (rF (p := ⟨gb669, 0, none⟩) (rT HO662.out BK669.out (by decide)) (fun _ hk => hk.2) (.int .i64 t658)) (fun _ hk => hk.2) (.string t659)) (fun _ hk => hk.2) (.slice Ao83 t660.length co83)) (fun _ hk => hk.2) (.string t663)) (fun _ hk => hk.2) (.slice Ao84 t664.length co84)) (fun _ h_ => h_.1))))) (Kd.R_lt (by (with_reducible repeat (first | apply ra | apply rn | apply rd_)); exact (rM (rF (p := ⟨gb669, 4, none⟩) (rF (p := ⟨gb669, 3, none⟩) (rF (p := ⟨gb669, 2, none⟩) (rF (p := ⟨gb669, 1, none⟩) (rF (p := ⟨gb669, 0, none⟩) (rT HO666.out BK669.out (by decide)) (fun _ hk => hk.2) (.int .i64 t658)) (fun _ hk => hk.2) (.string t659)) (fun _ hk => hk.2) (.slice Ao83 t660.length co83)) (fun _ hk => hk.2) (.string t663)) (fun _ hk => hk.2) (.slice Ao84 t664.length co84)) (fun _ h_ => h_.1))))) (bZ (by repeat (first | (with_reducible first | exact HB.out | apply ea | apply en | apply ed | refine es ?_ GE649.out | refine es ?_ GE650.out | refine es ?_ GE657.out | refine es ?_ GE669.out) | exact HB.out)))); have n4_ := aM (rL (Kd.R_new' (Kd.R_new' ho1 (Kd.R_lt (by (with_reducible repeat (first | apply ra | apply rn | apply rd_)); exact (rM (rF (p := ⟨gb669, 4, none⟩) (rF (p := ⟨gb669, 3, none⟩) (rF (p := ⟨gb669, 2, none⟩) (rF (p := ⟨gb669, 1, none⟩) (rF (p := ⟨gb669, 0, none⟩) (rT HO662.out BK669.out (by decide)) (fun _ hk => hk.2) (.int .i64 t658)) (fun _ hk => hk.2) (.string t659)) (fun _ hk => hk.2) (.slice Ao83 t660.length co83)) (fun _ hk => hk.2) (.string t663)) (fun _ hk => hk.2) (.slice Ao84 t664.length co84)) (fun _ h_ => h_.1))))) (Kd.R_lt (by (with_reducible repeat (first | apply ra | apply rn | apply rd_)); exact (rM (rF (p := ⟨gb669, 4, none⟩) (rF (p := ⟨gb669, 3, none⟩) (rF (p := ⟨gb669, 2, none⟩) (rF (p := ⟨gb669, 1, none⟩) (rF (p := ⟨gb669, 0, none⟩) (rT HO666.out BK669.out (by decide)) (fun _ hk => hk.2) (.int .i64 t658)) (fun _ hk => hk.2) (.string t659)) (fun _ hk => hk.2) (.slice Ao83 t660.length co83)) (fun _ hk => hk.2) (.string t663)) (fun _ hk => hk.2) (.slice Ao84 t664.length co84)) (fun _ h_ => h_.1))))) (bZ (by repeat (first | (with_reducible first | exact HB.out | apply ea | apply en | apply ed | refine es ?_ GE649.out | refine es ?_ GE650.out | refine es ?_ GE657.out | refine es ?_ GE669.out) | exact HB.out)))); have n5_ := aM (bB (g := gb649) (o := .cells #[.string a0_0, .slice A0_1 l0_1.length c0_1] 24 (0, 0)) (by (with_reducible repeat (first | apply qn | apply qd | apply qa)); refine bR ?_ NB649_669.out _; (with_reducible repeat (first | apply qn | apply qd | apply qa)); refine bR ?_ NB649_669.out _; (with_reducible repeat (first | apply qn | apply qd | apply qa)); refine bR ?_ NB649_669.out _; (with_reducible repeat (first | apply qn | apply qd | apply qa)); refine bR ?_ NB649_669.out _; (with_reducible repeat (first | apply qn | apply qd | apply qa)); refine bR ?_ NB649_669.out _; exact qy BK649.out) hb); have n6_ := aM (bB (g := gb650) (o := .cells #[.int .i64 a2_0, .int .i64 a2_1, .string a2_2, .string a2_3, .bool a2_4, .string a2_5] 46 (0, 0)) (by (with_reducible repeat (first | apply qn | apply qd | apply qa)); refine bR ?_ NB650_669.out _; (with_reducible repeat (first | apply qn | apply qd | apply qa)); refine bR ?_ NB650_669.out _; (with_reducible repeat (first | apply qn | apply qd | apply qa)); refine bR ?_ NB650_669.out _; (with_reducible repeat (first | apply qn | apply qd | apply qa)); refine bR ?_ NB650_669.out _; (with_reducible repeat (first | apply qn | apply qd | apply qa)); refine bR ?_ NB650_669.out _; exact qy BK650.out) hb); have n7_ := aM (bB (g := gb657) (o := .cells #[.string t653, .slice Ao74 t654.length co74] 24 (0, 0)) (by (with_reducible repeat (first | apply qn | apply qd | apply qa)); refine bR ?_ NB657_669.out _; (with_reducible repeat (first | apply qn | apply qd | apply qa)); refine bR ?_ NB657_669.out _; (with_reducible repeat (first | apply qn | apply qd | apply qa)); refine bR ?_ NB657_669.out _; (with_reducible repeat (first | apply qn | apply qd | apply qa)); refine bR ?_ NB657_669.out _; (with_reducible repeat (first | apply qn | apply qd | apply qa)); refine bR ?_ NB657_669.out _; exact qy BK657.out) hb); have n8_ := aM (bB (g := gb669) (o := .cells #[.int .i64 t658, .string t659, .slice Ao83 t660.length co83, .string t663, .slice Ao84 t664.length co84] 32 (0, 0)) (by (with_reducible repeat (first | apply qn | apply qd | apply qa)); refine bU (cs := #[.int .i64 t658, .string t659, .slice Ao83 t660.length co83, .string t663, .slice none 0 0]) ?_ 4 _ rfl; (with_reducible repeat (first | apply qn | apply qd | apply qa)); refine bU (cs := #[.int .i64 t658, .string t659, .slice Ao83 t660.length co83, .string (⟨#[]⟩ : ByteArray), .slice none 0 0]) ?_ 3 _ rfl; (with_reducible repeat (first | apply qn | apply qd | apply qa)); refine bU (cs := #[.int .i64 t658, .string t659, .slice none 0 0, .string (⟨#[]⟩ : ByteArray), .slice none 0 0]) ?_ 2 _ rfl; (with_reducible repeat (first | apply qn | apply qd | apply qa)); refine bU (cs := #[.int .i64 t658, .string (⟨#[]⟩ : ByteArray), .slice none 0 0, .string (⟨#[]⟩ : ByteArray), .slice none 0 0]) ?_ 1 _ rfl; (with_reducible repeat (first | apply qn | apply qd | apply qa)); refine bU (cs := #[.int .i64 0, .string (⟨#[]⟩ : ByteArray), .slice none 0 0, .string (⟨#[]⟩ : ByteArray), .slice none 0 0]) ?_ 0 _ rfl; exact qy BK669.out) hb); have n9_ := aM (bP (by repeat (first | (with_reducible first | exact HB.out | apply ea | apply en | apply ed | refine es ?_ GE649.out | refine es ?_ GE650.out | refine es ?_ GE657.out | refine es ?_ GE669.out) | exact HB.out)) hb); clear HO656 HO662 HO666 BK649 BK650 BK657 BK669 HB; have HO656 := n0_; have HO662 := n1_; have HO666 := n2_; have HO674 := n3_; have HO678 := n4_; have BK649 := n5_; have BK650 := n6_; have BK657 := n7_; have BK669 := n8_; have HB := n9_; clear n0_ n1_ n2_ n3_ n4_ n5_ n6_ n7_ n8_ n9_; (try clear hb); (try clear hb2); (try clear hk); (try clear hi); (try clear ho0); (try clear ho1)) | ((with_reducible refine gate_dst (N := 11) rfl ?_); (try (refine gate_guard (by rfl) ?_; dsimp only)); refine box_event ?hg (N := 11) ?hd (cs := #[.int .i64 0, .string (⟨#[]⟩ : ByteArray), .slice none 0 0, .string (⟨#[]⟩ : ByteArray), .slice none 0 0]) (t := 32) ?hr ?_; (case hd | hg => rfl); (case hr => first | (go_simp; done) | (go_simp; rfl)); intro gb681 hg w88 hbox hb; have n0_ := aM (Kd.V_below (Kd.V_elderB (by (with_reducible repeat (first | apply va | apply vn | apply vd)); exact HO656.out) gb681 (Nat.le_of_eq hg.symm)) hb); have n1_ := aM (Kd.R_below (ry HO662.out) hb); have n2_ := aM (Kd.R_below (ry HO666.out) hb); have n3_ := aM (Kd.R_below (ry HO674.out) hb); have n4_ := aM (Kd.R_below (ry HO678.out) hb); have n5_ := aM (bB (g := gb649) (qy BK649.out) hb); have n6_ := aM (bB (g := gb650) (qy BK650.out) hb); have n7_ := aM (bB (g := gb657) (qy BK657.out) hb); have n8_ := aM (bB (g := gb669) (qy BK669.out) hb); have n9_ := aM (bP (by repeat (first | (with_reducible first | exact HB.out | apply ea | apply en | apply ed | refine es ?_ GE649.out | refine es ?_ GE650.out | refine es ?_ GE657.out | refine es ?_ GE669.out) | exact HB.out)) hb); have n10_ := aM (hbox); have n11_ := aM ((by rw [hg]; exact (bZ (by repeat (first | (with_reducible first | exact HB.out | apply ea | apply en | apply ed | refine es ?_ GE649.out | refine es ?_ GE650.out | refine es ?_ GE657.out | refine es ?_ GE669.out) | exact HB.out))) : w.heap.size ≤ gb681)); have n12_ := n11_; have n13_ := aM ((by rw [hg]; exact Nat.ne_of_lt (blk_lt (g := gb649) (qy BK649.out)) : gb649 ≠ gb681)); have n14_ := aM ((by rw [hg]; exact Nat.ne_of_gt (blk_lt (g := gb649) (qy BK649.out)) : gb681 ≠ gb649)); have n15_ := aM ((by rw [hg]; exact Nat.ne_of_lt (blk_lt (g := gb650) (qy BK650.out)) : gb650 ≠ gb681)); have n16_ := aM ((by rw [hg]; exact Nat.ne_of_gt (blk_lt (g := gb650) (qy BK650.out)) : gb681 ≠ gb650)); have n17_ := aM ((by rw [hg]; exact Nat.ne_of_lt (blk_lt (g := gb657) (qy BK657.out)) : gb657 ≠ gb681)); have n18_ := aM ((by rw [hg]; exact Nat.ne_of_gt (blk_lt (g := gb657) (qy BK657.out)) : gb681 ≠ gb657)); have n19_ := aM ((by rw [hg]; exact Nat.ne_of_lt (blk_lt (g := gb669) (qy BK669.out)) : gb669 ≠ gb681)); have n20_ := aM ((by rw [hg]; exact Nat.ne_of_gt (blk_lt (g := gb669) (qy BK669.out)) : gb681 ≠ gb669)); clear HO656 HO662 HO666 HO674 HO678 BK649 BK650 BK657 BK669 HB; have HO656 := n0_; have HO662 := n1_; have HO666 := n2_; have HO674 := n3_; have HO678 := n4_; have BK649 := n5_; have BK650 := n6_; have BK657 := n7_; have BK669 := n8_; have HB := n9_; have BK681 := n10_; have GW681 := n11_; have GE681 := n12_; have NB649_681 := n13_; have NB681_649 := n14_; have NB650_681 := n15_; have NB681_650 := n16_; have NB657_681 := n17_; have NB681_657 := n18_; have NB669_681 := n19_; have NB681_669 := n20_; clear n0_ n1_ n2_ n3_ n4_ n5_ n6_ n7_ n8_ n9_ n10_ n11_ n12_ n13_ n14_ n15_ n16_ n17_ n18_ n19_ n20_; clear hb hbox hg; have hnb89 := NB681_649.out; have hnc89 := NB649_681.out; have hnb90 := NB681_650.out; have hnc90 := NB650_681.out; have hnb91 := NB681_657.out; have hnc91 := NB657_681.out; have hnb92 := NB681_669.out; have hnc92 := NB669_681.out; have hcz93_0 : w88.cell? ⟨gb681, 0, none⟩ = some (.int .i64 0) := (bC BK681.out 0).trans rfl; have hcz93_1 : w88.cell? ⟨gb681, 1, none⟩ = some (.string (⟨#[]⟩ : ByteArray)) := (bC BK681.out 1).trans rfl; have hcz93_2 : w88.cell? ⟨gb681, 2, none⟩ = some (.slice none 0 0) := (bC BK681.out 2).trans rfl; have hcz93_3 : w88.cell? ⟨gb681, 3, none⟩ = some (.string (⟨#[]⟩ : ByteArray)) := (bC BK681.out 3).trans rfl; have hcz93_4 : w88.cell? ⟨gb681, 4, none⟩ = some (.slice none 0 0) := (bC BK681.out 4).trans rfl; have hfz93_0 := bF BK681.out 0; have hfz93_1 := bF BK681.out 1; have hfz93_2 := bF BK681.out 2; have hfz93_3 := bF BK681.out 3; have hfz93_4 := bF BK681.out 4; obtain ⟨Ao94, co94, eo94⟩ := Kd.R_slice HO674.out; subst eo94; obtain ⟨Ao95, co95, eo95⟩ := Kd.R_slice HO678.out; subst eo95; have hcz96_0 : w88.cell? ⟨gb669, 0, none⟩ = some (.int .i64 t658) := (bC BK669.out 0).trans rfl; have hcz96_1 : w88.cell? ⟨gb669, 1, none⟩ = some (.string t659) := (bC BK669.out 1).trans rfl; have hcz96_2 : w88.cell? ⟨gb669, 2, none⟩ = some (.slice Ao83 t660.length co83) := (bC BK669.out 2).trans rfl; have hcz96_3 : w88.cell? ⟨gb669, 3, none⟩ = some (.string t663) := (bC BK669.out 3).trans rfl; have hcz96_4 : w88.cell? ⟨gb669, 4, none⟩ = some (.slice Ao84 t664.length co84) := (bC BK669.out 4).trans rfl; have hfz96_0 := bF BK669.out 0; have hfz96_1 := bF BK669.out 1; have hfz96_2 := bF BK669.out 2; have hfz96_3 := bF BK669.out 3; have hfz96_4 := bF BK669.out 4) | (go_at_call 17; (with_reducible refine (bureauref04_Low.calls kj5 t659 _ _ t660 t671 _ _ t672 a1 false _ ?side1 ?side2 ?side3 ?side4 A28.out).mono ?_); (case side1 => refine (rR (e := 51) (base := w.heap.size) (ok := fun k_ => ((some k_ ≠ (.slice Ao84 t664.length co84 : Value).ownBlock ∧ some k_ ≠ (.slice Ao94 t672.length co94 : Value).ownBlock) ∧ some k_ ≠ (.slice Ao95 t676.length co95 : Value).ownBlock)) (n := t660.length) (c := co83) ?_).2.2; exact (by (with_reducible repeat (first | apply ra | apply rn | apply rd_)); exact (rM (rF (p := ⟨gb681, 4, none⟩) (rF (p := ⟨gb681, 3, none⟩) (rF (p := ⟨gb681, 2, none⟩) (rF (p := ⟨gb681, 1, none⟩) (rF (p := ⟨gb681, 0, none⟩) (rT HO662.out BK681.out (by decide)) (fun _ hk => hk.2) (.int .i64 t670)) (fun _ hk => hk.2) (.string t671)) (fun _ hk => hk.2) (.slice Ao94 t672.length co94)) (fun _ hk => hk.2) (.string t675)) (fun _ hk => hk.2) (.slice Ao95 t676.length co95)) (fun _ h_ => h_.1)))); (case side2 => exact (rR HO662.out).2.1); (case side3 => refine (rR (e := 51) (base := w.heap.size) (ok := fun k_ => ((some k_ ≠ (.slice Ao95 t676.length co95 : Value).ownBlock ∧ some k_ ≠ (.slice Ao83 t660.length co83 : Value).ownBlock) ∧ some k_ ≠ (.slice Ao84 t664.length co84 : Value).ownBlock)) (n := t672.length) (c := co94) ?_).2.2; exact (by (with_reducible repeat (first | apply ra | apply rn | apply rd_)); exact (rM (rF (p := ⟨gb681, 4, none⟩) (rF (p := ⟨gb681, 3, none⟩) (rF (p := ⟨gb681, 2, none⟩) (rF (p := ⟨gb681, 1, none⟩) (rF (p := ⟨gb681, 0, none⟩) (rT HO674.out BK681.out (by decide)) (fun _ hk => hk.2) (.int .i64 t670)) (fun _ hk => hk.2) (.string t671)) (fun _ hk => hk.2) (.slice Ao94 t672.length co94)) (fun _ hk => hk.2) (.string t675)) (fun _ hk => hk.2) (.slice Ao95 t676.length co95)) (fun _ h_ => h_.1)))); (case side4 => exact (rR HO674.out).2.1); rintro e w97 ⟨rfl, hb⟩; have n0_ := aM (Kd.V_below (by (with_reducible repeat (first | apply va | apply vn | apply vd)); exact (Kd.V_mono (Kd.V_far (p := ⟨gb681, 4, none⟩) (Kd.V_far (p := ⟨gb681, 3, none⟩) (Kd.V_far (p := ⟨gb681, 2, none⟩) (Kd.V_far (p := ⟨gb681, 1, none⟩) (Kd.V_far (p := ⟨gb681, 0, none⟩) (Kd.V_mono HO656.out (fun k_ hk => (⟨hk, hk.2⟩ : _ ∧ k_ ≠ gb681))) (fun _ hk => hk.2) (.int .i64 t670)) (fun _ hk => hk.2) (.string t671)) (fun _ hk => hk.2) (.slice Ao94 t672.length co94)) (fun _ hk => hk.2) (.string t675)) (fun _ hk => hk.2) (.slice Ao95 t676.length co95)) (fun _ h_ => h_.1))) hb); have n1_ := aM (Kd.R_below (by (with_reducible repeat (first | apply ra | apply rn | apply rd_)); exact (rM (rF (p := ⟨gb681, 4, none⟩) (rF (p := ⟨gb681, 3, none⟩) (rF (p := ⟨gb681, 2, none⟩) (rF (p := ⟨gb681, 1, none⟩) (rF (p := ⟨gb681, 0, none⟩) (rT HO662.out BK681.out (by decide)) (fun _ hk => hk.2) (.int .i64 t670)) (fun _ hk => hk.2) (.string t671)) (fun _ hk => hk.2) (.slice Ao94 t672.length co94)) (fun _ hk => hk.2) (.string t675)) (fun _ hk => hk.2) (.slice Ao95 t676.length co95)) (fun _ h_ => h_.1))) hb); have n2_ := aM (Kd.R_below (by (with_reducible repeat (first | apply ra | apply rn | apply rd_)); exact (rM (rF (p := ⟨gb681, 4, none⟩) (rF (p := ⟨gb681, 3, none⟩) (rF (p := ⟨gb681, 2, none⟩) (rF (p := ⟨gb681, 1, none⟩) (rF (p := ⟨gb681, 0, none⟩) (rT HO666.out BK681.out (by decide)) (fun _ hk => hk.2) (.int .i64 t670)) (fun _ hk => hk.2) (.string t671)) (fun _ hk => hk.2) (.slice Ao94 t672.length co94)) (fun _ hk => hk.2) (.string t675)) (fun _ hk => hk.2) (.slice Ao95 t676.length co95)) (fun _ h_ => h_.1))) hb); have n3_ := aM (Kd.R_below (by (with_reducible repeat (first | apply ra | apply rn | apply rd_)); exact (rM (rF (p := ⟨gb681, 4, none⟩) (rF (p := ⟨gb681, 3, none⟩) (rF (p := ⟨gb681, 2, none⟩) (rF (p := ⟨gb681, 1, none⟩) (rF (p := ⟨gb681, 0, none⟩) (rT HO674.out BK681.out (by decide)) (fun _ hk => hk.2) (.int .i64 t670)) (fun _ hk => hk.2) (.string t671)) (fun _ hk => hk.2) (.slice Ao94 t672.length co94)) (fun _ hk => hk.2) (.string t675)) (fun _ hk => hk.2) (.slice Ao95 t676.length co95)) (fun _ h_ => h_.1))) hb); have n4_ := aM (Kd.R_below (by (with_reducible repeat (first | apply ra | apply rn | apply rd_)); exact (rM (rF (p := ⟨gb681, 4, none⟩) (rF (p := ⟨gb681, 3, none⟩) (rF (p := ⟨gb681, 2, none⟩) (rF (p := ⟨gb681, 1, none⟩) (rF (p := ⟨gb681, 0, none⟩) (rT HO678.out BK681.out (by decide)) (fun _ hk => hk.2) (.int .i64 t670)) (fun _ hk => hk.2) (.string t671)) (fun _ hk => hk.2) (.slice Ao94 t672.length co94)) (fun _ hk => hk.2) (.string t675)) (fun _ hk => hk.2) (.slice Ao95 t676.length co95)) (fun _ h_ => h_.1))) hb); have n5_ := aM (bB (g := gb649) (o := .cells #[.string a0_0, .slice A0_1 l0_1.length c0_1] 24 (0, 0)) (by (with_reducible repeat (first | apply qn | apply qd | apply qa)); refine bR ?_ NB649_681.out _; (with_reducible repeat (first | apply qn | apply qd | apply qa)); refine bR ?_ NB649_681.out _; (with_reducible repeat (first | apply qn | apply qd | apply qa)); refine bR ?_ NB649_681.out _; (with_reducible repeat (first | apply qn | apply qd | apply qa)); refine bR ?_ NB649_681.out _; (with_reducible repeat (first | apply qn | apply qd | apply qa)); refine bR ?_ NB649_681.out _; exact qy BK649.out) hb); have n6_ := aM (bB (g := gb650) (o := .cells #[.int .i64 a2_0, .int .i64 a2_1, .string a2_2, .string a2_3, .bool a2_4, .string a2_5] 46 (0, 0)) (by (with_reducible repeat (first | apply qn | apply qd | apply qa)); refine bR ?_ NB650_681.out _; (with_reducible repeat (first | apply qn | apply qd | apply qa)); refine bR ?_ NB650_681.out _; (with_reducible repeat (first | apply qn | apply qd | apply qa)); refine bR ?_ NB650_681.out _; (with_reducible repeat (first | apply qn | apply qd | apply qa)); refine bR ?_ NB650_681.out _; (with_reducible repeat (first | apply qn | apply qd | apply qa)); refine bR ?_ NB650_681.out _; exact qy BK650.out) hb); have n7_ := aM (bB (g := gb657) (o := .cells #[.string t653, .slice Ao74 t654.length co74] 24 (0, 0)) (by (with_reducible repeat (first | apply qn | apply qd | apply qa)); refine bR ?_ NB657_681.out _; (with_reducible repeat (first | apply qn | apply qd | apply qa)); refine bR ?_ NB657_681.out _; (with_reducible repeat (first | apply qn | apply qd | apply qa)); refine bR ?_ NB657_681.out _; (with_reducible repeat (first | apply qn | apply qd | apply qa)); refine bR ?_ NB657_681.out _; (with_reducible repeat (first | apply qn | apply qd | apply qa)); refine bR ?_ NB657_681.out _; exact qy BK657.out) hb); have n8_ := aM (bB (g := gb669) (o := .cells #[.int .i64 t658, .string t659, .slice Ao83 t660.length co83, .string t663, .slice Ao84 t664.length co84] 32 (0, 0)) (by (with_reducible repeat (first | apply qn | apply qd | apply qa)); refine bR ?_ NB669_681.out _; (with_reducible repeat (first | apply qn | apply qd | apply qa)); refine bR ?_ NB669_681.out _; (with_reducible repeat (first | apply qn | apply qd | apply qa)); refine bR ?_ NB669_681.out _; (with_reducible repeat (first | apply qn | apply qd | apply qa)); refine bR ?_ NB669_681.out _; (with_reducible repeat (first | apply qn | apply qd | apply qa)); refine bR ?_ NB669_681.out _; exact qy BK669.out) hb); have n9_ := aM (bB (g := gb681) (o := .cells #[.int .i64 t670, .string t671, .slice Ao94 t672.length co94, .string t675, .slice Ao95 t676.length co95] 32 (0, 0)) (by (with_reducible repeat (first | apply qn | apply qd | apply qa)); refine bU (cs := #[.int .i64 t670, .string t671, .slice Ao94 t672.length co94, .string t675, .slice none 0 0]) ?_ 4 _ rfl; (with_reducible repeat (first | apply qn | apply qd | apply qa)); refine bU (cs := #[.int .i64 t670, .string t671, .slice Ao94 t672.length co94, .string (⟨#[]⟩ : ByteArray), .slice none 0 0]) ?_ 3 _ rfl; (with_reducible repeat (first | apply qn | apply qd | apply qa)); refine bU (cs := #[.int .i64 t670, .string t671, .slice none 0 0, .string (⟨#[]⟩ : ByteArray), .slice none 0 0]) ?_ 2 _ rfl; (with_reducible repeat (first | apply qn | apply qd | apply qa)); refine bU (cs := #[.int .i64 t670, .string (⟨#[]⟩ : ByteArray), .slice none 0 0, .string (⟨#[]⟩ : ByteArray), .slice none 0 0]) ?_ 1 _ rfl; (with_reducible repeat (first | apply qn | apply qd | apply qa)); refine bU (cs := #[.int .i64 0, .string (⟨#[]⟩ : ByteArray), .slice none 0 0, .string (⟨#[]⟩ : ByteArray), .slice none 0 0]) ?_ 0 _ rfl; exact qy BK681.out) hb); have n10_ := aM (bP (by repeat (first | (with_reducible first | exact HB.out | apply ea | apply en | apply ed | refine es ?_ GE649.out | refine es ?_ GE650.out | refine es ?_ GE657.out | refine es ?_ GE669.out | refine es ?_ GE681.out) | exact HB.out)) hb); clear HO656 HO662 HO666 HO674 HO678 BK649 BK650 BK657 BK669 BK681 HB; have HO656 := n0_; have HO662 := n1_; have HO666 := n2_; have HO674 := n3_; have HO678 := n4_; have BK649 := n5_; have BK650 := n6_; have BK657 := n7_; have BK669 := n8_; have BK681 := n9_; have HB := n10_; clear n0_ n1_ n2_ n3_ n4_ n5_ n6_ n7_ n8_ n9_ n10_; (try clear hb); (try clear hb2); (try clear hk); (try clear hi)))
         go_ret
         exact ⟨by first | rfl | (simp [errW_none, errW_some] <;> rfl) | (simp [*, errW_none, errW_some] <;> rfl), by repeat (first | (with_reducible first | exact HB.out | apply ea | apply en | apply ed | refine es ?_ GE649.out | refine es ?_ GE650.out | refine es ?_ GE657.out | refine es ?_ GE669.out | refine es ?_ GE681.out) | exact HB.out)⟩
       ·rw [if_neg c27] at H
        have c27b0 : (t658 == t670) = false := beq_eq_false_iff_ne.mpr c27
        have c27b1 : (t658 != t670) = true := bne_iff_ne.mpr c27
        obtain rfl := Option.some.inj H
        have hnb98 := NB649_650.out
        have hnc98 := NB650_649.out
        have hcz99_0 : wc.cell? ⟨gb649, 0, none⟩ = some (.string a0_0) := (bC BK649.out 0).trans rfl
        have hcz99_1 : wc.cell? ⟨gb649, 1, none⟩ = some (.slice A0_1 l0_1.length c0_1) := (bC BK649.out 1).trans rfl
        have hfz99_0 := bF BK649.out 0
        have hfz99_1 := bF BK649.out 1
        have hcz100_0 : wc.cell? ⟨gb650, 0, none⟩ = some (.int .i64 a2_0) := (bC BK650.out 0).trans rfl
        have hcz100_1 : wc.cell? ⟨gb650, 1, none⟩ = some (.int .i64 a2_1) := (bC BK650.out 1).trans rfl
        have hcz100_2 : wc.cell? ⟨gb650, 2, none⟩ = some (.string a2_2) := (bC BK650.out 2).trans rfl
        have hcz100_3 : wc.cell? ⟨gb650, 3, none⟩ = some (.string a2_3) := (bC BK650.out 3).trans rfl
        have hcz100_4 : wc.cell? ⟨gb650, 4, none⟩ = some (.bool a2_4) := (bC BK650.out 4).trans rfl
        have hcz100_5 : wc.cell? ⟨gb650, 5, none⟩ = some (.string a2_5) := (bC BK650.out 5).trans rfl
        have hfz100_0 := bF BK650.out 0
        have hfz100_1 := bF BK650.out 1
        have hfz100_2 := bF BK650.out 2
        have hfz100_3 := bF BK650.out 3
        have hfz100_4 := bF BK650.out 4
        have hfz100_5 := bF BK650.out 5
        go_wp2_with (first | ((with_reducible refine gate_callee (f := 16) rfl ?_); refine goesL_ (some 31) rfl rfl Try.func16 (by kernel_rfl) rfl #[.agg #[.string a0_0, .slice A0_1 l0_1.length c0_1], .int .u64 a1, .string a2_5] rfl (by (try simp only [mT, mC, mN]); first | done | rfl | (simp only [lD, lT]; rfl)) ?_; (with_reducible refine (bureauref04_Other.calls kj5 a0_0 (fun k_ => k_ < w.heap.size) _ _ l0_1 a1 a2_5 t653 t654 _ ?side1 A22.out).mono ?_); (case side1 => exact Kd.V_mk HC0_1.out (Kd.F_below (Kd.C_F k51_heap HR0_1.out) (by repeat (first | (with_reducible first | exact HB.out | apply ea | apply en | apply ed | refine es ?_ GE649.out | refine es ?_ GE650.out) | exact HB.out)))); rintro e w101 ⟨v655, rfl, ho0, hb⟩; refine ⟨_, rfl, ?_⟩; have n0_ := aM (Kd.V_lower (Kd.V_mono (ok' := fun k_ => k_ ≠ gb649 ∧ k_ ≠ gb650) ho0 (fun k_ hk_ => ⟨Or.elim hk_ (fun hs_ => fun e_ => Nat.not_le.2 hs_ (by rw [e_]; exact GW649.out)) (fun hn_ => (Kd.freshB (g := gb649) (qy BK649.out) k_ hn_)), Or.elim hk_ (fun hs_ => fun e_ => Nat.not_le.2 hs_ (by rw [e_]; exact GW650.out)) (fun hn_ => (Kd.freshB (g := gb650) (qy BK650.out) k_ hn_))⟩)) (bZ (by repeat (first | (with_reducible first | exact HB.out | apply ea | apply en | apply ed | refine es ?_ GE649.out | refine es ?_ GE650.out) | exact HB.out)))); have n1_ := aM (bB (g := gb649) (qy BK649.out) hb); have n2_ := aM (bB (g := gb650) (qy BK650.out) hb); have n3_ := aM (bP (by repeat (first | (with_reducible first | exact HB.out | apply ea | apply en | apply ed | refine es ?_ GE649.out | refine es ?_ GE650.out) | exact HB.out)) hb); clear BK649 BK650 HB; have HO656 := n0_; have BK649 := n1_; have BK650 := n2_; have HB := n3_; clear n0_ n1_ n2_ n3_; (try clear hb); (try clear hb2); (try clear hk); (try clear hi); (try clear ho0)) | ((with_reducible refine gate_dst (N := 7) rfl ?_); (try (refine gate_guard (by rfl) ?_; dsimp only)); refine box_event ?hg (N := 7) ?hd (cs := #[.string (⟨#[]⟩ : ByteArray), .slice none 0 0]) (t := 24) ?hr ?_; (case hd | hg => rfl); (case hr => first | (go_simp; done) | (go_simp; rfl)); intro gb657 hg w102 hbox hb; have n0_ := aM (Kd.V_below (Kd.V_elderB (by (with_reducible repeat (first | apply va | apply vn | apply vd)); exact HO656.out) gb657 (Nat.le_of_eq hg.symm)) hb); have n1_ := aM (bB (g := gb649) (qy BK649.out) hb); have n2_ := aM (bB (g := gb650) (qy BK650.out) hb); have n3_ := aM (bP (by repeat (first | (with_reducible first | exact HB.out | apply ea | apply en | apply ed | refine es ?_ GE649.out | refine es ?_ GE650.out) | exact HB.out)) hb); have n4_ := aM (hbox); have n5_ := aM ((by rw [hg]; exact (bZ (by repeat (first | (with_reducible first | exact HB.out | apply ea | apply en | apply ed | refine es ?_ GE649.out | refine es ?_ GE650.out) | exact HB.out))) : w.heap.size ≤ gb657)); have n6_ := n5_; have n7_ := aM ((by rw [hg]; exact Nat.ne_of_lt (blk_lt (g := gb649) (qy BK649.out)) : gb649 ≠ gb657)); have n8_ := aM ((by rw [hg]; exact Nat.ne_of_gt (blk_lt (g := gb649) (qy BK649.out)) : gb657 ≠ gb649)); have n9_ := aM ((by rw [hg]; exact Nat.ne_of_lt (blk_lt (g := gb650) (qy BK650.out)) : gb650 ≠ gb657)); have n10_ := aM ((by rw [hg]; exact Nat.ne_of_gt (blk_lt (g := gb650) (qy BK650.out)) : gb657 ≠ gb650)); clear HO656 BK649 BK650 HB; have HO656 := n0_; have BK649 := n1_; have BK650 := n2_; have HB := n3_; have BK657 := n4_; have GW657 := n5_; have GE657 := n6_; have NB649_657 := n7_; have NB657_649 := n8_; have NB650_657 := n9_; have NB657_650 := n10_; clear n0_ n1_ n2_ n3_ n4_ n5_ n6_ n7_ n8_ n9_ n10_; clear hb hbox hg; have hnb103 := NB657_649.out; have hnc103 := NB649_657.out; have hnb104 := NB657_650.out; have hnc104 := NB650_657.out; have hcz105_0 : w102.cell? ⟨gb657, 0, none⟩ = some (.string (⟨#[]⟩ : ByteArray)) := (bC BK657.out 0).trans rfl; have hcz105_1 : w102.cell? ⟨gb657, 1, none⟩ = some (.slice none 0 0) := (bC BK657.out 1).trans rfl; have hfz105_0 := bF BK657.out 0; have hfz105_1 := bF BK657.out 1; obtain ⟨Ao106, co106, eo106⟩ := Kd.V_slice HO656.out; subst eo106; have hcz107_0 : w102.cell? ⟨gb649, 0, none⟩ = some (.string a0_0) := (bC BK649.out 0).trans rfl; have hcz107_1 : w102.cell? ⟨gb649, 1, none⟩ = some (.slice A0_1 l0_1.length c0_1) := (bC BK649.out 1).trans rfl; have hfz107_0 := bF BK649.out 0; have hfz107_1 := bF BK649.out 1; have hcz108_0 : w102.cell? ⟨gb650, 0, none⟩ = some (.int .i64 a2_0) := (bC BK650.out 0).trans rfl; have hcz108_1 : w102.cell? ⟨gb650, 1, none⟩ = some (.int .i64 a2_1) := (bC BK650.out 1).trans rfl; have hcz108_2 : w102.cell? ⟨gb650, 2, none⟩ = some (.string a2_2) := (bC BK650.out 2).trans rfl; have hcz108_3 : w102.cell? ⟨gb650, 3, none⟩ = some (.string a2_3) := (bC BK650.out 3).trans rfl; have hcz108_4 : w102.cell? ⟨gb650, 4, none⟩ = some (.bool a2_4) := (bC BK650.out 4).trans rfl; have hcz108_5 : w102.cell? ⟨gb650, 5, none⟩ = some (.string a2_5) := (bC BK650.out 5).trans rfl; have hfz108_0 := bF BK650.out 0; have hfz108_1 := bF BK650.out 1; have hfz108_2 := bF BK650.out 2; have hfz108_3 := bF BK650.out 3; have hfz108_4 := bF BK650.out 4; have hfz108_5 := bF BK650.out 5) | ((with_reducible refine gate_callee (f := 10) rfl ?_); refine goesL_ (some 37) rfl rfl Try.func10 (by kernel_rfl) rfl #[.agg #[.string a0_0, .slice A0_1 l0_1.length c0_1], .int .u64 a1, .agg #[.int .i64 a2_0, .int .i64 a2_1, .string a2_2, .string a2_3, .bool a2_4]] rfl (by (try simp only [mT, mC, mN]); first | done | rfl | (simp only [lD, lT]; rfl)) ?_; (with_reducible refine (subst_Do.calls kj5 a0_0 _ _ l0_1 a1 a2_0 a2_1 a2_2 a2_3 a2_4 t658 t659 t660 t663 t664 t667 t668 _ ?mx54 ?side1 ?side2 A23.out).mono ?_); (case mx54 => exact MaxOk.below HMX.out (by repeat (first | (with_reducible first | exact HB.out | apply ea | apply en | apply ed | refine es ?_ GE649.out | refine es ?_ GE650.out | refine es ?_ GE657.out) | exact HB.out))); (case side1 => exact cB_ HR0_1.out (by repeat (first | (with_reducible first | exact HB.out | apply ea | apply en | apply ed | refine es ?_ GE649.out | refine es ?_ GE650.out | refine es ?_ GE657.out) | exact HB.out))); (case side2 => exact HC0_1.out); rintro e w109 ⟨v661, v665, rfl, ho0, ho1, hb⟩; refine ⟨_, rfl, ?_⟩; have n0_ := aM (Kd.V_mono (Kd.V_told (Kd.V_told (Kd.V_old (by (with_reducible repeat (first | apply va | apply vn | apply vd)); exact (Kd.V_mono (Kd.V_far (p := ⟨gb657, 1, none⟩) (Kd.V_far (p := ⟨gb657, 0, none⟩) (Kd.V_mono HO656.out (fun k_ hk => (⟨hk, hk.2⟩ : _ ∧ k_ ≠ gb657))) (fun _ hk => hk.2) (.string t653)) (fun _ hk => hk.2) (.slice Ao106 t654.length co106)) (fun _ h_ => h_.1))) hb) (Kd.R_base ho0)) (Kd.R_base ho1)) (fun _ h_ => h_.1)); have n1_ := aM (rL ho0 (bZ (by repeat (first | (with_reducible first | exact HB.out | apply ea | apply en | apply ed | refine es ?_ GE649.out | refine es ?_ GE650.out | refine es ?_ GE657.out) | exact HB.out)))); have n2_ := aM (rL ho1 (bZ (by repeat (first | (with_reducible first | exact HB.out | apply ea | apply en | apply ed | refine es ?_ GE649.out | refine es ?_ GE650.out | refine es ?_ GE657.out) | exact HB.out)))); have n3_ := aM (bB (g := gb649) (o := .cells #[.string a0_0, .slice A0_1 l0_1.length c0_1] 24 (0, 0)) (by (with_reducible repeat (first | apply qn | apply qd | apply qa)); refine bR ?_ NB649_657.out _; (with_reducible repeat (first | apply qn | apply qd | apply qa)); refine bR ?_ NB649_657.out _; exact qy BK649.out) hb); have n4_ := aM (bB (g := gb650) (o := .cells #[.int .i64 a2_0, .int .i64 a2_1, .string a2_2, .string a2_3, .bool a2_4, .string a2_5] 46 (0, 0)) (by (with_reducible repeat (first | apply qn | apply qd | apply qa)); refine bR ?_ NB650_657.out _; (with_reducible repeat (first | apply qn | apply qd | apply qa)); refine bR ?_ NB650_657.out _; exact qy BK650.out) hb); have n5_ := aM (bB (g := gb657) (o := .cells #[.string t653, .slice Ao106 t654.length co106] 24 (0, 0)) (by (with_reducible repeat (first | apply qn | apply qd | apply qa)); refine bU (cs := #[.string t653, .slice none 0 0]) ?_ 1 _ rfl; (with_reducible repeat (first | apply qn | apply qd | apply qa)); refine bU (cs := #[.string (⟨#[]⟩ : ByteArray), .slice none 0 0]) ?_ 0 _ rfl; exact qy BK657.out) hb); have n6_ := aM (bP (by repeat (first | (with_reducible first | exact HB.out | apply ea | apply en | apply ed | refine es ?_ GE649.out | refine es ?_ GE650.out | refine es ?_ GE657.out) | exact HB.out)) hb); clear HO656 BK649 BK650 BK657 HB; have HO656 := n0_; have HO662 := n1_; have HO666 := n2_; have BK649 := n3_; have BK650 := n4_; have BK657 := n5_; have HB := n6_; clear n0_ n1_ n2_ n3_ n4_ n5_ n6_; (try clear hb); (try clear hb2); (try clear hk); (try clear hi); (try clear ho0); (try clear ho1)) | ((with_reducible refine gate_dst (N := 8) rfl ?_); (try (refine gate_guard (by rfl) ?_; dsimp only)); refine box_event ?hg (N := 8) ?hd (cs := #[.int .i64 0, .string (⟨#[]⟩ : ByteArray), .slice none 0 0, .string (⟨#[]⟩ : ByteArray), .slice none 0 0]) (t := 32) ?hr ?_; (case hd | hg => rfl); (case hr => first | (go_simp; done) | (go_simp; rfl)); intro gb669 hg w110 hbox hb; have n0_ := aM (Kd.V_below (Kd.V_elderB (by (with_reducible repeat (first | apply va | apply vn | apply vd)); exact HO656.out) gb669 (Nat.le_of_eq hg.symm)) hb); have n1_ := aM (Kd.R_below (ry HO662.out) hb); have n2_ := aM (Kd.R_below (ry HO666.out) hb); have n3_ := aM (bB (g := gb649) (qy BK649.out) hb); have n4_ := aM (bB (g := gb650) (qy BK650.out) hb); have n5_ := aM (bB (g := gb657) (qy BK657.out) hb); have n6_ := aM (bP (by repeat (first | (with_reducible first | exact HB.out | apply ea | apply en | apply ed | refine es ?_ GE649.out | refine es ?_ GE650.out | refine es ?_ GE657.out) | exact HB.out)) hb); have n7_ := aM (hbox); have n8_ := aM ((by rw [hg]; exact (bZ (by repeat (first | (with_reducible first | exact HB.out | apply ea | apply en | apply ed | refine es ?_ GE649.out | refine es ?_ GE650.out | refine es ?_ GE657.out) | exact HB.out))) : w.heap.size ≤ gb669)); have n9_ := n8_; have n10_ := aM ((by rw [hg]; exact Nat.ne_of_lt (blk_lt (g := gb649) (qy BK649.out)) : gb649 ≠ gb669)); have n11_ := aM ((by rw [hg]; exact Nat.ne_of_gt (blk_lt (g := gb649) (qy BK649.out)) : gb669 ≠ gb649)); have n12_ := aM ((by rw [hg]; exact Nat.ne_of_lt (blk_lt (g := gb650) (qy BK650.out)) : gb650 ≠ gb669)); have n13_ := aM ((by rw [hg]; exact Nat.ne_of_gt (blk_lt (g := gb650) (qy BK650.out)) : gb669 ≠ gb650)); have n14_ := aM ((by rw [hg]; exact Nat.ne_of_lt (blk_lt (g := gb657) (qy BK657.out)) : gb657 ≠ gb669)); have n15_ := aM ((by rw [hg]; exact Nat.ne_of_gt (blk_lt (g := gb657) (qy BK657.out)) : gb669 ≠ gb657)); clear HO656 HO662 HO666 BK649 BK650 BK657 HB; have HO656 := n0_; have HO662 := n1_; have HO666 := n2_; have BK649 := n3_; have BK650 := n4_; have BK657 := n5_; have HB := n6_; have BK669 := n7_; have GW669 := n8_; have GE669 := n9_; have NB649_669 := n10_; have NB669_649 := n11_; have NB650_669 := n12_; have NB669_650 := n13_; have NB657_669 := n14_; have NB669_657 := n15_; clear n0_ n1_ n2_ n3_ n4_ n5_ n6_ n7_ n8_ n9_ n10_ n11_ n12_ n13_ n14_ n15_; clear hb hbox hg; have hnb111 := NB669_649.out; have hnc111 := NB649_669.out; have hnb112 := NB669_650.out; have hnc112 := NB650_669.out; have hnb113 := NB669_657.out; have hnc113 := NB657_669.out; have hcz114_0 : w110.cell? ⟨gb669, 0, none⟩ = some (.int .i64 0) := (bC BK669.out 0).trans rfl; have hcz114_1 : w110.cell? ⟨gb669, 1, none⟩ = some (.string (⟨#[]⟩ : ByteArray)) := (bC BK669.out 1).trans rfl; have hcz114_2 : w110.cell? ⟨gb669, 2, none⟩ = some (.slice none 0 0) := (bC BK669.out 2).trans rfl; have hcz114_3 : w110.cell? ⟨gb669, 3, none⟩ = some (.string (⟨#[]⟩ : ByteArray)) := (bC BK669.out 3).trans rfl; have hcz114_4 : w110.cell? ⟨gb669, 4, none⟩ = some (.slice none 0 0) := (bC BK669.out 4).trans rfl; have hfz114_0 := bF BK669.out 0; have hfz114_1 := bF BK669.out 1; have hfz114_2 := bF BK669.out 2; have hfz114_3 := bF BK669.out 3; have hfz114_4 := bF BK669.out 4; obtain ⟨Ao115, co115, eo115⟩ := Kd.R_slice HO662.out; subst eo115; obtain ⟨Ao116, co116, eo116⟩ := Kd.R_slice HO666.out; subst eo116; have hcz117_0 : w110.cell? ⟨gb657, 0, none⟩ = some (.string t653) := (bC BK657.out 0).trans rfl; have hcz117_1 : w110.cell? ⟨gb657, 1, none⟩ = some (.slice Ao106 t654.length co106) := (bC BK657.out 1).trans rfl; have hfz117_0 := bF BK657.out 0; have hfz117_1 := bF BK657.out 1; have hcz118_0 : w110.cell? ⟨gb650, 0, none⟩ = some (.int .i64 a2_0) := (bC BK650.out 0).trans rfl; have hcz118_1 : w110.cell? ⟨gb650, 1, none⟩ = some (.int .i64 a2_1) := (bC BK650.out 1).trans rfl; have hcz118_2 : w110.cell? ⟨gb650, 2, none⟩ = some (.string a2_2) := (bC BK650.out 2).trans rfl; have hcz118_3 : w110.cell? ⟨gb650, 3, none⟩ = some (.string a2_3) := (bC BK650.out 3).trans rfl; have hcz118_4 : w110.cell? ⟨gb650, 4, none⟩ = some (.bool a2_4) := (bC BK650.out 4).trans rfl; have hcz118_5 : w110.cell? ⟨gb650, 5, none⟩ = some (.string a2_5) := (bC BK650.out 5).trans rfl; have hfz118_0 := bF BK650.out 0; have hfz118_1 := bF BK650.out 1; have hfz118_2 := bF BK650.out 2; have hfz118_3 := bF BK650.out 3; have hfz118_4 := bF BK650.out 4; have hfz118_5 := bF BK650.out 5) | ((with_reducible refine gate_callee (f := 10) rfl ?_); refine goesL_ (some 46) rfl rfl Try.func10 (by kernel_rfl) rfl #[.agg #[.string t653, .slice Ao106 t654.length co106], .int .u64 a1, .agg #[.int .i64 a2_0, .int .i64 a2_1, .string a2_2, .string a2_3, .bool a2_4]] rfl (by (try simp only [mT, mC, mN]); first | done | rfl | (simp only [lD, lT]; rfl)) ?_; (with_reducible refine (subst_Do.calls kj5 t653 _ _ t654 a1 a2_0 a2_1 a2_2 a2_3 a2_4 t670 t671 t672 t675 t676 t679 t680 _ ?mx55 ?side1 ?side2 A24.out).mono ?_); (case mx55 => exact MaxOk.below HMX.out (by repeat (first | (with_reducible first | exact HB.out | apply ea | apply en | apply ed | refine es ?_ GE649.out | refine es ?_ GE650.out | refine es ?_ GE657.out | refine es ?_ GE669.out) | exact HB.out))); (case side1 => refine (Kd.V_reads' (e := 51) (base := w.heap.size) (ok := fun k_ => (((((k_ ≠ gb649 ∧ k_ ≠ gb650) ∧ k_ ≠ gb657) ∧ some k_ ≠ (.slice Ao115 t660.length co115 : Value).ownBlock) ∧ some k_ ≠ (.slice Ao116 t664.length co116 : Value).ownBlock) ∧ k_ ≠ gb669)) (n := t654.length) (c := co106) ?_).2.2; exact (by (with_reducible repeat (first | apply va | apply vn | apply vd)); exact (Kd.V_mono (Kd.V_far (p := ⟨gb669, 4, none⟩) (Kd.V_far (p := ⟨gb669, 3, none⟩) (Kd.V_far (p := ⟨gb669, 2, none⟩) (Kd.V_far (p := ⟨gb669, 1, none⟩) (Kd.V_far (p := ⟨gb669, 0, none⟩) (Kd.V_mono HO656.out (fun k_ hk => (⟨hk, hk.2⟩ : _ ∧ k_ ≠ gb669))) (fun _ hk => hk.2) (.int .i64 t658)) (fun _ hk => hk.2) (.string t659)) (fun _ hk => hk.2) (.slice Ao115 t660.length co115)) (fun _ hk => hk.2) (.string t663)) (fun _ hk => hk.2) (.slice Ao116 t664.length co116)) (fun _ h_ => h_.1)))); (case side2 => exact (Kd.V_reads' HO656.out).2.1); rintro e w119 ⟨v673, v677, rfl, ho0, ho1, hb⟩; refine ⟨_, rfl, ?_⟩; have n0_ := aM (Kd.V_mono (Kd.V_told (Kd.V_told (Kd.V_old (by (with_reducible repeat (first | apply va | apply vn | apply vd)); exact (Kd.V_mono (Kd.V_far (p := ⟨gb669, 4, none⟩) (Kd.V_far (p := ⟨gb669, 3, none⟩) (Kd.V_far (p := ⟨gb669, 2, none⟩) (Kd.V_far (p := ⟨gb669, 1, none⟩) (Kd.V_far (p := ⟨gb669, 0, none⟩) (Kd.V_mono HO656.out (fun k_ hk => (⟨hk, hk.2⟩ : _ ∧ k_ ≠ gb669))) (fun _ hk => hk.2) (.int .i64 t658)) (fun _ hk => hk.2) (.string t659)) (fun _ hk => hk.2) (.slice Ao115 t660.length co115)) (fun _ hk => hk.2) (.string t663)) (fun _ hk => hk.2) (.slice Ao116 t664.length co116)) (fun _ h_ => h_.1))) hb) (Kd.R_base ho0)) (Kd.R_base ho1)) (fun _ h_ => h_.1)); have n1_ := aM (rM (Kd.R_told (Kd.R_told (Kd.R_old (by (with_reducible repeat (first | apply ra | apply rn | apply rd_)); exact (rM (rF (p := ⟨gb669, 4, none⟩) (rF (p := ⟨gb669, 3, none⟩) (rF (p := ⟨gb669, 2, none⟩) (rF (p := ⟨gb669, 1, none⟩) (rF (p := ⟨gb669, 0, none⟩) (rT HO662.out BK669.out (by decide)) (fun _ hk => hk.2) (.int .i64 t658)) (fun _ hk => hk.2) (.string t659)) (fun _ hk => hk.2) (.slice Ao115 t660.length co115)) (fun _ hk => hk.2) (.string t663)) (fun _ hk => hk.2) (.slice Ao116 t664.length co116)) (fun _ h_ => h_.1))) hb) (Kd.R_base ho0)) (Kd.R_base ho1)) (fun _ h_ => h_.1)); have n2_ := aM (rM (Kd.R_told (Kd.R_told (Kd.R_old (by (with_reducible repeat (first | apply ra | apply rn | apply rd_)); exact (rM (rF (p := ⟨gb669, 4, none⟩) (rF (p := ⟨gb669, 3, none⟩) (rF (p := ⟨gb669, 2, none⟩) (rF (p := ⟨gb669, 1, none⟩) (rF (p := ⟨gb669, 0, none⟩) (rT HO666.out BK669.out (by decide)) (fun _ hk => hk.2) (.int .i64 t658)) (fun _ hk => hk.2) (.string t659)) (fun _ hk => hk.2) (.slice Ao115 t660.length co115)) (fun _ hk => hk.2) (.string t663)) (fun _ hk => hk.2) (.slice Ao116 t664.length co116)) (fun _ h_ => h_.1))) hb) (Kd.R_base ho0)) (Kd.R_base ho1)) (fun _ h_ => h_.1)); have n3_ := aM (rL (Kd.R_new' (Kd.R_new' ho0 (Kd.R_lt (by (with_reducible repeat (first | apply ra | apply rn | apply rd_)); exact (rM (rF (p := ⟨gb669, 4, none⟩) (rF (p := ⟨gb669, 3, none⟩) (rF (p := ⟨gb669, 2, none⟩) (rF (p := ⟨gb669, 1, none⟩) (rF (p := ⟨gb669, 0, none⟩) (rT HO662.out BK669.out (by decide)) (fun _ hk => hk.2) (.int .i64 t658)) (fun _ hk => hk.2) (.string t659)) (fun _ hk => hk.2) (.slice Ao115 t660.length co115)) (fun _ hk => hk.2) (.string t663)) (fun _ hk => hk.2) (.slice Ao116 t664.length co116)) (fun _ h_ => h_.1))))) (Kd.R_lt (by (with_reducible repeat (first | apply ra | apply rn | apply rd_)); exact (rM (rF (p := ⟨gb669, 4, none⟩) (rF (p := ⟨gb669, 3, none⟩) (rF (p := ⟨gb669, 2, none⟩) (rF (p := ⟨gb669, 1, none⟩) (rF (p := ⟨gb669, 0, none⟩) (rT HO666.out BK669.out (by decide)) (fun _ hk => hk.2) (.int .i64 t658)) (fun _ hk => hk.2) (.string t659)) (fun _ hk => hk.2) (.slice Ao115 t660.length co115)) (fun _ hk => hk.2) (.string t663)) (fun _ hk => hk.2) (.slice Ao116 t664.length co116)) (fun _ h_ => h_.1))))) (bZ (by repeat (first | (with_reducible first | exact HB.out | apply ea | apply en | apply ed | refine es ?_ GE649.out | refine es ?_ GE650.out | refine es ?_ GE657.out | refine es ?_ GE669.out) | exact HB.out)))); have n4_ := aM (rL (Kd.R_new' (Kd.R_new' ho1 (Kd.R_lt (by (with_reducible repeat (first | apply ra | apply rn | apply rd_)); exact (rM (rF (p := ⟨gb669, 4, none⟩) (rF (p := ⟨gb669, 3, none⟩) (rF (p := ⟨gb669, 2, none⟩) (rF (p := ⟨gb669, 1, none⟩) (rF (p := ⟨gb669, 0, none⟩) (rT HO662.out BK669.out (by decide)) (fun _ hk => hk.2) (.int .i64 t658)) (fun _ hk => hk.2) (.string t659)) (fun _ hk => hk.2) (.slice Ao115 t660.length co115)) (fun _ hk => hk.2) (.string t663)) (fun _ hk => hk.2) (.slice Ao116 t664.length co116)) (fun _ h_ => h_.1))))) (Kd.R_lt (by (with_reducible repeat (first | apply ra | apply rn | apply rd_)); exact (rM (rF (p := ⟨gb669, 4, none⟩) (rF (p := ⟨gb669, 3, none⟩) (rF (p := ⟨gb669, 2, none⟩) (rF (p := ⟨gb669, 1, none⟩) (rF (p := ⟨gb669, 0, none⟩) (rT HO666.out BK669.out (by decide)) (fun _ hk => hk.2) (.int .i64 t658)) (fun _ hk => hk.2) (.string t659)) (fun _ hk => hk.2) (.slice Ao115 t660.length co115)) (fun _ hk => hk.2) (.string t663)) (fun _ hk => hk.2) (.slice Ao116 t664.length co116)) (fun _ h_ => h_.1))))) (bZ (by repeat (first | (with_reducible first | exact HB.out | apply ea | apply en | apply ed | refine es ?_ GE649.out | refine es ?_ GE650.out | refine es ?_ GE657.out | refine es ?_ GE669.out) | exact HB.out)))); have n5_ := aM (bB (g := gb649) (o := .cells #[.string a0_0, .slice A0_1 l0_1.length c0_1] 24 (0, 0)) (by (with_reducible repeat (first | apply qn | apply qd | apply qa)); refine bR ?_ NB649_669.out _; (with_reducible repeat (first | apply qn | apply qd | apply qa)); refine bR ?_ NB649_669.out _; (with_reducible repeat (first | apply qn | apply qd | apply qa)); refine bR ?_ NB649_669.out _; (with_reducible repeat (first | apply qn | apply qd | apply qa)); refine bR ?_ NB649_669.out _; (with_reducible repeat (first | apply qn | apply qd | apply qa)); refine bR ?_ NB649_669.out _; exact qy BK649.out) hb); have n6_ := aM (bB (g := gb650) (o := .cells #[.int .i64 a2_0, .int .i64 a2_1, .string a2_2, .string a2_3, .bool a2_4, .string a2_5] 46 (0, 0)) (by (with_reducible repeat (first | apply qn | apply qd | apply qa)); refine bR ?_ NB650_669.out _; (with_reducible repeat (first | apply qn | apply qd | apply qa)); refine bR ?_ NB650_669.out _; (with_reducible repeat (first | apply qn | apply qd | apply qa)); refine bR ?_ NB650_669.out _; (with_reducible repeat (first | apply qn | apply qd | apply qa)); refine bR ?_ NB650_669.out _; (with_reducible repeat (first | apply qn | apply qd | apply qa)); refine bR ?_ NB650_669.out _; exact qy BK650.out) hb); have n7_ := aM (bB (g := gb657) (o := .cells #[.string t653, .slice Ao106 t654.length co106] 24 (0, 0)) (by (with_reducible repeat (first | apply qn | apply qd | apply qa)); refine bR ?_ NB657_669.out _; (with_reducible repeat (first | apply qn | apply qd | apply qa)); refine bR ?_ NB657_669.out _; (with_reducible repeat (first | apply qn | apply qd | apply qa)); refine bR ?_ NB657_669.out _; (with_reducible repeat (first | apply qn | apply qd | apply qa)); refine bR ?_ NB657_669.out _; (with_reducible repeat (first | apply qn | apply qd | apply qa)); refine bR ?_ NB657_669.out _; exact qy BK657.out) hb); have n8_ := aM (bB (g := gb669) (o := .cells #[.int .i64 t658, .string t659, .slice Ao115 t660.length co115, .string t663, .slice Ao116 t664.length co116] 32 (0, 0)) (by (with_reducible repeat (first | apply qn | apply qd | apply qa)); refine bU (cs := #[.int .i64 t658, .string t659, .slice Ao115 t660.length co115, .string t663, .slice none 0 0]) ?_ 4 _ rfl; (with_reducible repeat (first | apply qn | apply qd | apply qa)); refine bU (cs := #[.int .i64 t658, .string t659, .slice Ao115 t660.length co115, .string (⟨#[]⟩ : ByteArray), .slice none 0 0]) ?_ 3 _ rfl; (with_reducible repeat (first | apply qn | apply qd | apply qa)); refine bU (cs := #[.int .i64 t658, .string t659, .slice none 0 0, .string (⟨#[]⟩ : ByteArray), .slice none 0 0]) ?_ 2 _ rfl; (with_reducible repeat (first | apply qn | apply qd | apply qa)); refine bU (cs := #[.int .i64 t658, .string (⟨#[]⟩ : ByteArray), .slice none 0 0, .string (⟨#[]⟩ : ByteArray), .slice none 0 0]) ?_ 1 _ rfl; (with_reducible repeat (first | apply qn | apply qd | apply qa)); refine bU (cs := #[.int .i64 0, .string (⟨#[]⟩ : ByteArray), .slice none 0 0, .string (⟨#[]⟩ : ByteArray), .slice none 0 0]) ?_ 0 _ rfl; exact qy BK669.out) hb); have n9_ := aM (bP (by repeat (first | (with_reducible first | exact HB.out | apply ea | apply en | apply ed | refine es ?_ GE649.out | refine es ?_ GE650.out | refine es ?_ GE657.out | refine es ?_ GE669.out) | exact HB.out)) hb); clear HO656 HO662 HO666 BK649 BK650 BK657 BK669 HB; have HO656 := n0_; have HO662 := n1_; have HO666 := n2_; have HO674 := n3_; have HO678 := n4_; have BK649 := n5_; have BK650 := n6_; have BK657 := n7_; have BK669 := n8_; have HB := n9_; clear n0_ n1_ n2_ n3_ n4_ n5_ n6_ n7_ n8_ n9_; (try clear hb); (try clear hb2); (try clear hk); (try clear hi); (try clear ho0); (try clear ho1)) | ((with_reducible refine gate_dst (N := 11) rfl ?_); (try (refine gate_guard (by rfl) ?_; dsimp only)); refine box_event ?hg (N := 11) ?hd (cs := #[.int .i64 0, .string (⟨#[]⟩ : ByteArray), .slice none 0 0, .string (⟨#[]⟩ : ByteArray), .slice none 0 0]) (t := 32) ?hr ?_; (case hd | hg => rfl); (case hr => first | (go_simp; done) | (go_simp; rfl)); intro gb681 hg w120 hbox hb; have n0_ := aM (Kd.V_below (Kd.V_elderB (by (with_reducible repeat (first | apply va | apply vn | apply vd)); exact HO656.out) gb681 (Nat.le_of_eq hg.symm)) hb); have n1_ := aM (Kd.R_below (ry HO662.out) hb); have n2_ := aM (Kd.R_below (ry HO666.out) hb); have n3_ := aM (Kd.R_below (ry HO674.out) hb); have n4_ := aM (Kd.R_below (ry HO678.out) hb); have n5_ := aM (bB (g := gb649) (qy BK649.out) hb); have n6_ := aM (bB (g := gb650) (qy BK650.out) hb); have n7_ := aM (bB (g := gb657) (qy BK657.out) hb); have n8_ := aM (bB (g := gb669) (qy BK669.out) hb); have n9_ := aM (bP (by repeat (first | (with_reducible first | exact HB.out | apply ea | apply en | apply ed | refine es ?_ GE649.out | refine es ?_ GE650.out | refine es ?_ GE657.out | refine es ?_ GE669.out) | exact HB.out)) hb); have n10_ := aM (hbox); have n11_ := aM ((by rw [hg]; exact (bZ (by repeat (first | (with_reducible first | exact HB.out | apply ea | apply en | apply ed | refine es ?_ GE649.out | refine es ?_ GE650.out | refine es ?_ GE657.out | refine es ?_ GE669.out) | exact HB.out))) : w.heap.size ≤ gb681)); have n12_ := n11_; have n13_ := aM ((by rw [hg]; exact Nat.ne_of_lt (blk_lt (g := gb649) (qy BK649.out)) : gb649 ≠ gb681)); have n14_ := aM ((by rw [hg]; exact Nat.ne_of_gt (blk_lt (g := gb649) (qy BK649.out)) : gb681 ≠ gb649)); have n15_ := aM ((by rw [hg]; exact Nat.ne_of_lt (blk_lt (g := gb650) (qy BK650.out)) : gb650 ≠ gb681)); have n16_ := aM ((by rw [hg]; exact Nat.ne_of_gt (blk_lt (g := gb650) (qy BK650.out)) : gb681 ≠ gb650)); have n17_ := aM ((by rw [hg]; exact Nat.ne_of_lt (blk_lt (g := gb657) (qy BK657.out)) : gb657 ≠ gb681)); have n18_ := aM ((by rw [hg]; exact Nat.ne_of_gt (blk_lt (g := gb657) (qy BK657.out)) : gb681 ≠ gb657)); have n19_ := aM ((by rw [hg]; exact Nat.ne_of_lt (blk_lt (g := gb669) (qy BK669.out)) : gb669 ≠ gb681)); have n20_ := aM ((by rw [hg]; exact Nat.ne_of_gt (blk_lt (g := gb669) (qy BK669.out)) : gb681 ≠ gb669)); clear HO656 HO662 HO666 HO674 HO678 BK649 BK650 BK657 BK669 HB; have HO656 := n0_; have HO662 := n1_; have HO666 := n2_; have HO674 := n3_; have HO678 := n4_; have BK649 := n5_; have BK650 := n6_; have BK657 := n7_; have BK669 := n8_; have HB := n9_; have BK681 := n10_; have GW681 := n11_; have GE681 := n12_; have NB649_681 := n13_; have NB681_649 := n14_; have NB650_681 := n15_; have NB681_650 := n16_; have NB657_681 := n17_; have NB681_657 := n18_; have NB669_681 := n19_; have NB681_669 := n20_; clear n0_ n1_ n2_ n3_ n4_ n5_ n6_ n7_ n8_ n9_ n10_ n11_ n12_ n13_ n14_ n15_ n16_ n17_ n18_ n19_ n20_; clear hb hbox hg; have hnb121 := NB681_649.out; have hnc121 := NB649_681.out; have hnb122 := NB681_650.out; have hnc122 := NB650_681.out; have hnb123 := NB681_657.out; have hnc123 := NB657_681.out; have hnb124 := NB681_669.out; have hnc124 := NB669_681.out; have hcz125_0 : w120.cell? ⟨gb681, 0, none⟩ = some (.int .i64 0) := (bC BK681.out 0).trans rfl; have hcz125_1 : w120.cell? ⟨gb681, 1, none⟩ = some (.string (⟨#[]⟩ : ByteArray)) := (bC BK681.out 1).trans rfl; have hcz125_2 : w120.cell? ⟨gb681, 2, none⟩ = some (.slice none 0 0) := (bC BK681.out 2).trans rfl; have hcz125_3 : w120.cell? ⟨gb681, 3, none⟩ = some (.string (⟨#[]⟩ : ByteArray)) := (bC BK681.out 3).trans rfl; have hcz125_4 : w120.cell? ⟨gb681, 4, none⟩ = some (.slice none 0 0) := (bC BK681.out 4).trans rfl; have hfz125_0 := bF BK681.out 0; have hfz125_1 := bF BK681.out 1; have hfz125_2 := bF BK681.out 2; have hfz125_3 := bF BK681.out 3; have hfz125_4 := bF BK681.out 4; obtain ⟨Ao126, co126, eo126⟩ := Kd.R_slice HO674.out; subst eo126; obtain ⟨Ao127, co127, eo127⟩ := Kd.R_slice HO678.out; subst eo127; have hcz128_0 : w120.cell? ⟨gb669, 0, none⟩ = some (.int .i64 t658) := (bC BK669.out 0).trans rfl; have hcz128_1 : w120.cell? ⟨gb669, 1, none⟩ = some (.string t659) := (bC BK669.out 1).trans rfl; have hcz128_2 : w120.cell? ⟨gb669, 2, none⟩ = some (.slice Ao115 t660.length co115) := (bC BK669.out 2).trans rfl; have hcz128_3 : w120.cell? ⟨gb669, 3, none⟩ = some (.string t663) := (bC BK669.out 3).trans rfl; have hcz128_4 : w120.cell? ⟨gb669, 4, none⟩ = some (.slice Ao116 t664.length co116) := (bC BK669.out 4).trans rfl; have hfz128_0 := bF BK669.out 0; have hfz128_1 := bF BK669.out 1; have hfz128_2 := bF BK669.out 2; have hfz128_3 := bF BK669.out 3; have hfz128_4 := bF BK669.out 4))
        go_ret
        exact ⟨by first | rfl | (simp [errW_none, errW_some] <;> rfl) | (simp [*, errW_none, errW_some] <;> rfl), by repeat (first | (with_reducible first | exact HB.out | apply ea | apply en | apply ed | refine es ?_ GE649.out | refine es ?_ GE650.out | refine es ?_ GE657.out | refine es ?_ GE669.out | refine es ?_ GE681.out) | exact HB.out)⟩
      ·rw [if_neg c26] at H
       have c26b0 : (t667 == t679) = false := beq_eq_false_iff_ne.mpr c26
       have c26b1 : (t667 != t679) = true := bne_iff_ne.mpr c26
       obtain rfl := Option.some.inj H
       have hnb129 := NB649_650.out
       have hnc129 := NB650_649.out
       have hcz130_0 : wc.cell? ⟨gb649, 0, none⟩ = some (.string a0_0) := (bC BK649.out 0).trans rfl
       have hcz130_1 : wc.cell? ⟨gb649, 1, none⟩ = some (.slice A0_1 l0_1.length c0_1) := (bC BK649.out 1).trans rfl
       have hfz130_0 := bF BK649.out 0
       have hfz130_1 := bF BK649.out 1
       have hcz131_0 : wc.cell? ⟨gb650, 0, none⟩ = some (.int .i64 a2_0) := (bC BK650.out 0).trans rfl
       have hcz131_1 : wc.cell? ⟨gb650, 1, none⟩ = some (.int .i64 a2_1) := (bC BK650.out 1).trans rfl
       have hcz131_2 : wc.cell? ⟨gb650, 2, none⟩ = some (.string a2_2) := (bC BK650.out 2).trans rfl
       have hcz131_3 : wc.cell? ⟨gb650, 3, none⟩ = some (.string a2_3) := (bC BK650.out 3).trans rfl
       have hcz131_4 : wc.cell? ⟨gb650, 4, none⟩ = some (.bool a2_4) := (bC BK650.out 4).trans rfl
       have hcz131_5 : wc.cell? ⟨gb650, 5, none⟩ = some (.string a2_5) := (bC BK650.out 5).trans rfl
       have hfz131_0 := bF BK650.out 0
       have hfz131_1 := bF BK650.out 1
       have hfz131_2 := bF BK650.out 2
       have hfz131_3 := bF BK650.out 3
       have hfz131_4 := bF BK650.out 4
       have hfz131_5 := bF BK650.out 5
       go_wp2_with (first | ((with_reducible refine gate_callee (f := 16) rfl ?_); refine goesL_ (some 31) rfl rfl Try.func16 (by kernel_rfl) rfl #[.agg #[.string a0_0, .slice A0_1 l0_1.length c0_1], .int .u64 a1, .string a2_5] rfl (by (try simp only [mT, mC, mN]); first | done | rfl | (simp only [lD, lT]; rfl)) ?_; (with_reducible refine (bureauref04_Other.calls kj5 a0_0 (fun k_ => k_ < w.heap.size) _ _ l0_1 a1 a2_5 t653 t654 _ ?side1 A22.out).mono ?_); (case side1 => exact Kd.V_mk HC0_1.out (Kd.F_below (Kd.C_F k51_heap HR0_1.out) (by repeat (first | (with_reducible first | exact HB.out | apply ea | apply en | apply ed | refine es ?_ GE649.out | refine es ?_ GE650.out) | exact HB.out)))); rintro e w132 ⟨v655, rfl, ho0, hb⟩; refine ⟨_, rfl, ?_⟩; have n0_ := aM (Kd.V_lower (Kd.V_mono (ok' := fun k_ => k_ ≠ gb649 ∧ k_ ≠ gb650) ho0 (fun k_ hk_ => ⟨Or.elim hk_ (fun hs_ => fun e_ => Nat.not_le.2 hs_ (by rw [e_]; exact GW649.out)) (fun hn_ => (Kd.freshB (g := gb649) (qy BK649.out) k_ hn_)), Or.elim hk_ (fun hs_ => fun e_ => Nat.not_le.2 hs_ (by rw [e_]; exact GW650.out)) (fun hn_ => (Kd.freshB (g := gb650) (qy BK650.out) k_ hn_))⟩)) (bZ (by repeat (first | (with_reducible first | exact HB.out | apply ea | apply en | apply ed | refine es ?_ GE649.out | refine es ?_ GE650.out) | exact HB.out)))); have n1_ := aM (bB (g := gb649) (qy BK649.out) hb); have n2_ := aM (bB (g := gb650) (qy BK650.out) hb); have n3_ := aM (bP (by repeat (first | (with_reducible first | exact HB.out | apply ea | apply en | apply ed | refine es ?_ GE649.out | refine es ?_ GE650.out) | exact HB.out)) hb); clear BK649 BK650 HB; have HO656 := n0_; have BK649 := n1_; have BK650 := n2_; have HB := n3_; clear n0_ n1_ n2_ n3_; (try clear hb); (try clear hb2); (try clear hk); (try clear hi); (try clear ho0)) | ((with_reducible refine gate_dst (N := 7) rfl ?_); (try (refine gate_guard (by rfl) ?_; dsimp only)); refine box_event ?hg (N := 7) ?hd (cs := #[.string (⟨#[]⟩ : ByteArray), .slice none 0 0]) (t := 24) ?hr ?_; (case hd | hg => rfl); (case hr => first | (go_simp; done) | (go_simp; rfl)); intro gb657 hg w133 hbox hb; have n0_ := aM (Kd.V_below (Kd.V_elderB (by (with_reducible repeat (first | apply va | apply vn | apply vd)); exact HO656.out) gb657 (Nat.le_of_eq hg.symm)) hb); have n1_ := aM (bB (g := gb649) (qy BK649.out) hb); have n2_ := aM (bB (g := gb650) (qy BK650.out) hb); have n3_ := aM (bP (by repeat (first | (with_reducible first | exact HB.out | apply ea | apply en | apply ed | refine es ?_ GE649.out | refine es ?_ GE650.out) | exact HB.out)) hb); have n4_ := aM (hbox); have n5_ := aM ((by rw [hg]; exact (bZ (by repeat (first | (with_reducible first | exact HB.out | apply ea | apply en | apply ed | refine es ?_ GE649.out | refine es ?_ GE650.out) | exact HB.out))) : w.heap.size ≤ gb657)); have n6_ := n5_; have n7_ := aM ((by rw [hg]; exact Nat.ne_of_lt (blk_lt (g := gb649) (qy BK649.out)) : gb649 ≠ gb657)); have n8_ := aM ((by rw [hg]; exact Nat.ne_of_gt (blk_lt (g := gb649) (qy BK649.out)) : gb657 ≠ gb649)); have n9_ := aM ((by rw [hg]; exact Nat.ne_of_lt (blk_lt (g := gb650) (qy BK650.out)) : gb650 ≠ gb657)); have n10_ := aM ((by rw [hg]; exact Nat.ne_of_gt (blk_lt (g := gb650) (qy BK650.out)) : gb657 ≠ gb650)); clear HO656 BK649 BK650 HB; have HO656 := n0_; have BK649 := n1_; have BK650 := n2_; have HB := n3_; have BK657 := n4_; have GW657 := n5_; have GE657 := n6_; have NB649_657 := n7_; have NB657_649 := n8_; have NB650_657 := n9_; have NB657_650 := n10_; clear n0_ n1_ n2_ n3_ n4_ n5_ n6_ n7_ n8_ n9_ n10_; clear hb hbox hg; have hnb134 := NB657_649.out; have hnc134 := NB649_657.out; have hnb135 := NB657_650.out; have hnc135 := NB650_657.out; have hcz136_0 : w133.cell? ⟨gb657, 0, none⟩ = some (.string (⟨#[]⟩ : ByteArray)) := (bC BK657.out 0).trans rfl; have hcz136_1 : w133.cell? ⟨gb657, 1, none⟩ = some (.slice none 0 0) := (bC BK657.out 1).trans rfl; have hfz136_0 := bF BK657.out 0; have hfz136_1 := bF BK657.out 1; obtain ⟨Ao137, co137, eo137⟩ := Kd.V_slice HO656.out; subst eo137; have hcz138_0 : w133.cell? ⟨gb649, 0, none⟩ = some (.string a0_0) := (bC BK649.out 0).trans rfl; have hcz138_1 : w133.cell? ⟨gb649, 1, none⟩ = some (.slice A0_1 l0_1.length c0_1) := (bC BK649.out 1).trans rfl; have hfz138_0 := bF BK649.out 0; have hfz138_1 := bF BK649.out 1; have hcz139_0 : w133.cell? ⟨gb650, 0, none⟩ = some (.int .i64 a2_0) := (bC BK650.out 0).trans rfl; have hcz139_1 : w133.cell? ⟨gb650, 1, none⟩ = some (.int .i64 a2_1) := (bC BK650.out 1).trans rfl; have hcz139_2 : w133.cell? ⟨gb650, 2, none⟩ = some (.string a2_2) := (bC BK650.out 2).trans rfl; have hcz139_3 : w133.cell? ⟨gb650, 3, none⟩ = some (.string a2_3) := (bC BK650.out 3).trans rfl; have hcz139_4 : w133.cell? ⟨gb650, 4, none⟩ = some (.bool a2_4) := (bC BK650.out 4).trans rfl; have hcz139_5 : w133.cell? ⟨gb650, 5, none⟩ = some (.string a2_5) := (bC BK650.out 5).trans rfl; have hfz139_0 := bF BK650.out 0; have hfz139_1 := bF BK650.out 1; have hfz139_2 := bF BK650.out 2; have hfz139_3 := bF BK650.out 3; have hfz139_4 := bF BK650.out 4; have hfz139_5 := bF BK650.out 5) | ((with_reducible refine gate_callee (f := 10) rfl ?_); refine goesL_ (some 37) rfl rfl Try.func10 (by kernel_rfl) rfl #[.agg #[.string a0_0, .slice A0_1 l0_1.length c0_1], .int .u64 a1, .agg #[.int .i64 a2_0, .int .i64 a2_1, .string a2_2, .string a2_3, .bool a2_4]] rfl (by (try simp only [mT, mC, mN]); first | done | rfl | (simp only [lD, lT]; rfl)) ?_; (with_reducible refine (subst_Do.calls kj5 a0_0 _ _ l0_1 a1 a2_0 a2_1 a2_2 a2_3 a2_4 t658 t659 t660 t663 t664 t667 t668 _ ?mx56 ?side1 ?side2 A23.out).mono ?_); (case mx56 => exact MaxOk.below HMX.out (by repeat (first | (with_reducible first | exact HB.out | apply ea | apply en | apply ed | refine es ?_ GE649.out | refine es ?_ GE650.out | refine es ?_ GE657.out) | exact HB.out))); (case side1 => exact cB_ HR0_1.out (by repeat (first | (with_reducible first | exact HB.out | apply ea | apply en | apply ed | refine es ?_ GE649.out | refine es ?_ GE650.out | refine es ?_ GE657.out) | exact HB.out))); (case side2 => exact HC0_1.out); rintro e w140 ⟨v661, v665, rfl, ho0, ho1, hb⟩; refine ⟨_, rfl, ?_⟩; have n0_ := aM (Kd.V_mono (Kd.V_told (Kd.V_told (Kd.V_old (by (with_reducible repeat (first | apply va | apply vn | apply vd)); exact (Kd.V_mono (Kd.V_far (p := ⟨gb657, 1, none⟩) (Kd.V_far (p := ⟨gb657, 0, none⟩) (Kd.V_mono HO656.out (fun k_ hk => (⟨hk, hk.2⟩ : _ ∧ k_ ≠ gb657))) (fun _ hk => hk.2) (.string t653)) (fun _ hk => hk.2) (.slice Ao137 t654.length co137)) (fun _ h_ => h_.1))) hb) (Kd.R_base ho0)) (Kd.R_base ho1)) (fun _ h_ => h_.1)); have n1_ := aM (rL ho0 (bZ (by repeat (first | (with_reducible first | exact HB.out | apply ea | apply en | apply ed | refine es ?_ GE649.out | refine es ?_ GE650.out | refine es ?_ GE657.out) | exact HB.out)))); have n2_ := aM (rL ho1 (bZ (by repeat (first | (with_reducible first | exact HB.out | apply ea | apply en | apply ed | refine es ?_ GE649.out | refine es ?_ GE650.out | refine es ?_ GE657.out) | exact HB.out)))); have n3_ := aM (bB (g := gb649) (o := .cells #[.string a0_0, .slice A0_1 l0_1.length c0_1] 24 (0, 0)) (by (with_reducible repeat (first | apply qn | apply qd | apply qa)); refine bR ?_ NB649_657.out _; (with_reducible repeat (first | apply qn | apply qd | apply qa)); refine bR ?_ NB649_657.out _; exact qy BK649.out) hb); have n4_ := aM (bB (g := gb650) (o := .cells #[.int .i64 a2_0, .int .i64 a2_1, .string a2_2, .string a2_3, .bool a2_4, .string a2_5] 46 (0, 0)) (by (with_reducible repeat (first | apply qn | apply qd | apply qa)); refine bR ?_ NB650_657.out _; (with_reducible repeat (first | apply qn | apply qd | apply qa)); refine bR ?_ NB650_657.out _; exact qy BK650.out) hb); have n5_ := aM (bB (g := gb657) (o := .cells #[.string t653, .slice Ao137 t654.length co137] 24 (0, 0)) (by (with_reducible repeat (first | apply qn | apply qd | apply qa)); refine bU (cs := #[.string t653, .slice none 0 0]) ?_ 1 _ rfl; (with_reducible repeat (first | apply qn | apply qd | apply qa)); refine bU (cs := #[.string (⟨#[]⟩ : ByteArray), .slice none 0 0]) ?_ 0 _ rfl; exact qy BK657.out) hb); have n6_ := aM (bP (by repeat (first | (with_reducible first | exact HB.out | apply ea | apply en | apply ed | refine es ?_ GE649.out | refine es ?_ GE650.out | refine es ?_ GE657.out) | exact HB.out)) hb); clear HO656 BK649 BK650 BK657 HB; have HO656 := n0_; have HO662 := n1_; have HO666 := n2_; have BK649 := n3_; have BK650 := n4_; have BK657 := n5_; have HB := n6_; clear n0_ n1_ n2_ n3_ n4_ n5_ n6_; (try clear hb); (try clear hb2); (try clear hk); (try clear hi); (try clear ho0); (try clear ho1)) | ((with_reducible refine gate_dst (N := 8) rfl ?_); (try (refine gate_guard (by rfl) ?_; dsimp only)); refine box_event ?hg (N := 8) ?hd (cs := #[.int .i64 0, .string (⟨#[]⟩ : ByteArray), .slice none 0 0, .string (⟨#[]⟩ : ByteArray), .slice none 0 0]) (t := 32) ?hr ?_; (case hd | hg => rfl); (case hr => first | (go_simp; done) | (go_simp; rfl)); intro gb669 hg w141 hbox hb; have n0_ := aM (Kd.V_below (Kd.V_elderB (by (with_reducible repeat (first | apply va | apply vn | apply vd)); exact HO656.out) gb669 (Nat.le_of_eq hg.symm)) hb); have n1_ := aM (Kd.R_below (ry HO662.out) hb); have n2_ := aM (Kd.R_below (ry HO666.out) hb); have n3_ := aM (bB (g := gb649) (qy BK649.out) hb); have n4_ := aM (bB (g := gb650) (qy BK650.out) hb); have n5_ := aM (bB (g := gb657) (qy BK657.out) hb); have n6_ := aM (bP (by repeat (first | (with_reducible first | exact HB.out | apply ea | apply en | apply ed | refine es ?_ GE649.out | refine es ?_ GE650.out | refine es ?_ GE657.out) | exact HB.out)) hb); have n7_ := aM (hbox); have n8_ := aM ((by rw [hg]; exact (bZ (by repeat (first | (with_reducible first | exact HB.out | apply ea | apply en | apply ed | refine es ?_ GE649.out | refine es ?_ GE650.out | refine es ?_ GE657.out) | exact HB.out))) : w.heap.size ≤ gb669)); have n9_ := n8_; have n10_ := aM ((by rw [hg]; exact Nat.ne_of_lt (blk_lt (g := gb649) (qy BK649.out)) : gb649 ≠ gb669)); have n11_ := aM ((by rw [hg]; exact Nat.ne_of_gt (blk_lt (g := gb649) (qy BK649.out)) : gb669 ≠ gb649)); have n12_ := aM ((by rw [hg]; exact Nat.ne_of_lt (blk_lt (g := gb650) (qy BK650.out)) : gb650 ≠ gb669)); have n13_ := aM ((by rw [hg]; exact Nat.ne_of_gt (blk_lt (g := gb650) (qy BK650.out)) : gb669 ≠ gb650)); have n14_ := aM ((by rw [hg]; exact Nat.ne_of_lt (blk_lt (g := gb657) (qy BK657.out)) : gb657 ≠ gb669)); have n15_ := aM ((by rw [hg]; exact Nat.ne_of_gt (blk_lt (g := gb657) (qy BK657.out)) : gb669 ≠ gb657)); clear HO656 HO662 HO666 BK649 BK650 BK657 HB; have HO656 := n0_; have HO662 := n1_; have HO666 := n2_; have BK649 := n3_; have BK650 := n4_; have BK657 := n5_; have HB := n6_; have BK669 := n7_; have GW669 := n8_; have GE669 := n9_; have NB649_669 := n10_; have NB669_649 := n11_; have NB650_669 := n12_; have NB669_650 := n13_; have NB657_669 := n14_; have NB669_657 := n15_; clear n0_ n1_ n2_ n3_ n4_ n5_ n6_ n7_ n8_ n9_ n10_ n11_ n12_ n13_ n14_ n15_; clear hb hbox hg; have hnb142 := NB669_649.out; have hnc142 := NB649_669.out; have hnb143 := NB669_650.out; have hnc143 := NB650_669.out; have hnb144 := NB669_657.out; have hnc144 := NB657_669.out; have hcz145_0 : w141.cell? ⟨gb669, 0, none⟩ = some (.int .i64 0) := (bC BK669.out 0).trans rfl; have hcz145_1 : w141.cell? ⟨gb669, 1, none⟩ = some (.string (⟨#[]⟩ : ByteArray)) := (bC BK669.out 1).trans rfl; have hcz145_2 : w141.cell? ⟨gb669, 2, none⟩ = some (.slice none 0 0) := (bC BK669.out 2).trans rfl; have hcz145_3 : w141.cell? ⟨gb669, 3, none⟩ = some (.string (⟨#[]⟩ : ByteArray)) := (bC BK669.out 3).trans rfl; have hcz145_4 : w141.cell? ⟨gb669, 4, none⟩ = some (.slice none 0 0) := (bC BK669.out 4).trans rfl; have hfz145_0 := bF BK669.out 0; have hfz145_1 := bF BK669.out 1; have hfz145_2 := bF BK669.out 2; have hfz145_3 := bF BK669.out 3; have hfz145_4 := bF BK669.out 4; obtain ⟨Ao146, co146, eo146⟩ := Kd.R_slice HO662.out; subst eo146; obtain ⟨Ao147, co147, eo147⟩ := Kd.R_slice HO666.out; subst eo147; have hcz148_0 : w141.cell? ⟨gb657, 0, none⟩ = some (.string t653) := (bC BK657.out 0).trans rfl; have hcz148_1 : w141.cell? ⟨gb657, 1, none⟩ = some (.slice Ao137 t654.length co137) := (bC BK657.out 1).trans rfl; have hfz148_0 := bF BK657.out 0; have hfz148_1 := bF BK657.out 1; have hcz149_0 : w141.cell? ⟨gb650, 0, none⟩ = some (.int .i64 a2_0) := (bC BK650.out 0).trans rfl; have hcz149_1 : w141.cell? ⟨gb650, 1, none⟩ = some (.int .i64 a2_1) := (bC BK650.out 1).trans rfl; have hcz149_2 : w141.cell? ⟨gb650, 2, none⟩ = some (.string a2_2) := (bC BK650.out 2).trans rfl; have hcz149_3 : w141.cell? ⟨gb650, 3, none⟩ = some (.string a2_3) := (bC BK650.out 3).trans rfl; have hcz149_4 : w141.cell? ⟨gb650, 4, none⟩ = some (.bool a2_4) := (bC BK650.out 4).trans rfl; have hcz149_5 : w141.cell? ⟨gb650, 5, none⟩ = some (.string a2_5) := (bC BK650.out 5).trans rfl; have hfz149_0 := bF BK650.out 0; have hfz149_1 := bF BK650.out 1; have hfz149_2 := bF BK650.out 2; have hfz149_3 := bF BK650.out 3; have hfz149_4 := bF BK650.out 4; have hfz149_5 := bF BK650.out 5) | ((with_reducible refine gate_callee (f := 10) rfl ?_); refine goesL_ (some 46) rfl rfl Try.func10 (by kernel_rfl) rfl #[.agg #[.string t653, .slice Ao137 t654.length co137], .int .u64 a1, .agg #[.int .i64 a2_0, .int .i64 a2_1, .string a2_2, .string a2_3, .bool a2_4]] rfl (by (try simp only [mT, mC, mN]); first | done | rfl | (simp only [lD, lT]; rfl)) ?_; (with_reducible refine (subst_Do.calls kj5 t653 _ _ t654 a1 a2_0 a2_1 a2_2 a2_3 a2_4 t670 t671 t672 t675 t676 t679 t680 _ ?mx57 ?side1 ?side2 A24.out).mono ?_); (case mx57 => exact MaxOk.below HMX.out (by repeat (first | (with_reducible first | exact HB.out | apply ea | apply en | apply ed | refine es ?_ GE649.out | refine es ?_ GE650.out | refine es ?_ GE657.out | refine es ?_ GE669.out) | exact HB.out))); (case side1 => refine (Kd.V_reads' (e := 51) (base := w.heap.size) (ok := fun k_ => (((((k_ ≠ gb649 ∧ k_ ≠ gb650) ∧ k_ ≠ gb657) ∧ some k_ ≠ (.slice Ao146 t660.length co146 : Value).ownBlock) ∧ some k_ ≠ (.slice Ao147 t664.length co147 : Value).ownBlock) ∧ k_ ≠ gb669)) (n := t654.length) (c := co137) ?_).2.2; exact (by (with_reducible repeat (first | apply va | apply vn | apply vd)); exact (Kd.V_mono (Kd.V_far (p := ⟨gb669, 4, none⟩) (Kd.V_far (p := ⟨gb669, 3, none⟩) (Kd.V_far (p := ⟨gb669, 2, none⟩) (Kd.V_far (p := ⟨gb669, 1, none⟩) (Kd.V_far (p := ⟨gb669, 0, none⟩) (Kd.V_mono HO656.out (fun k_ hk => (⟨hk, hk.2⟩ : _ ∧ k_ ≠ gb669))) (fun _ hk => hk.2) (.int .i64 t658)) (fun _ hk => hk.2) (.string t659)) (fun _ hk => hk.2) (.slice Ao146 t660.length co146)) (fun _ hk => hk.2) (.string t663)) (fun _ hk => hk.2) (.slice Ao147 t664.length co147)) (fun _ h_ => h_.1)))); (case side2 => exact (Kd.V_reads' HO656.out).2.1); rintro e w150 ⟨v673, v677, rfl, ho0, ho1, hb⟩; refine ⟨_, rfl, ?_⟩; have n0_ := aM (Kd.V_mono (Kd.V_told (Kd.V_told (Kd.V_old (by (with_reducible repeat (first | apply va | apply vn | apply vd)); exact (Kd.V_mono (Kd.V_far (p := ⟨gb669, 4, none⟩) (Kd.V_far (p := ⟨gb669, 3, none⟩) (Kd.V_far (p := ⟨gb669, 2, none⟩) (Kd.V_far (p := ⟨gb669, 1, none⟩) (Kd.V_far (p := ⟨gb669, 0, none⟩) (Kd.V_mono HO656.out (fun k_ hk => (⟨hk, hk.2⟩ : _ ∧ k_ ≠ gb669))) (fun _ hk => hk.2) (.int .i64 t658)) (fun _ hk => hk.2) (.string t659)) (fun _ hk => hk.2) (.slice Ao146 t660.length co146)) (fun _ hk => hk.2) (.string t663)) (fun _ hk => hk.2) (.slice Ao147 t664.length co147)) (fun _ h_ => h_.1))) hb) (Kd.R_base ho0)) (Kd.R_base ho1)) (fun _ h_ => h_.1)); have n1_ := aM (rM (Kd.R_told (Kd.R_told (Kd.R_old (by (with_reducible repeat (first | apply ra | apply rn | apply rd_)); exact (rM (rF (p := ⟨gb669, 4, none⟩) (rF (p := ⟨gb669, 3, none⟩) (rF (p := ⟨gb669, 2, none⟩) (rF (p := ⟨gb669, 1, none⟩) (rF (p := ⟨gb669, 0, none⟩) (rT HO662.out BK669.out (by decide)) (fun _ hk => hk.2) (.int .i64 t658)) (fun _ hk => hk.2) (.string t659)) (fun _ hk => hk.2) (.slice Ao146 t660.length co146)) (fun _ hk => hk.2) (.string t663)) (fun _ hk => hk.2) (.slice Ao147 t664.length co147)) (fun _ h_ => h_.1))) hb) (Kd.R_base ho0)) (Kd.R_base ho1)) (fun _ h_ => h_.1)); have n2_ := aM (rM (Kd.R_told (Kd.R_told (Kd.R_old (by (with_reducible repeat (first | apply ra | apply rn | apply rd_)); exact (rM (rF (p := ⟨gb669, 4, none⟩) (rF (p := ⟨gb669, 3, none⟩) (rF (p := ⟨gb669, 2, none⟩) (rF (p := ⟨gb669, 1, none⟩) (rF (p := ⟨gb669, 0, none⟩) (rT HO666.out BK669.out (by decide)) (fun _ hk => hk.2) (.int .i64 t658)) (fun _ hk => hk.2) (.string t659)) (fun _ hk => hk.2) (.slice Ao146 t660.length co146)) (fun _ hk => hk.2) (.string t663)) (fun _ hk => hk.2) (.slice Ao147 t664.length co147)) (fun _ h_ => h_.1))) hb) (Kd.R_base ho0)) (Kd.R_base ho1)) (fun _ h_ => h_.1)); have n3_ := aM (rL (Kd.R_new' (Kd.R_new' ho0 (Kd.R_lt (by (with_reducible repeat (first | apply ra | apply rn | apply rd_)); exact (rM (rF (p := ⟨gb669, 4, none⟩) (rF (p := ⟨gb669, 3, none⟩) (rF (p := ⟨gb669, 2, none⟩) (rF (p := ⟨gb669, 1, none⟩) (rF (p := ⟨gb669, 0, none⟩) (rT HO662.out BK669.out (by decide)) (fun _ hk => hk.2) (.int .i64 t658)) (fun _ hk => hk.2) (.string t659)) (fun _ hk => hk.2) (.slice Ao146 t660.length co146)) (fun _ hk => hk.2) (.string t663)) (fun _ hk => hk.2) (.slice Ao147 t664.length co147)) (fun _ h_ => h_.1))))) (Kd.R_lt (by (with_reducible repeat (first | apply ra | apply rn | apply rd_)); exact (rM (rF (p := ⟨gb669, 4, none⟩) (rF (p := ⟨gb669, 3, none⟩) (rF (p := ⟨gb669, 2, none⟩) (rF (p := ⟨gb669, 1, none⟩) (rF (p := ⟨gb669, 0, none⟩) (rT HO666.out BK669.out (by decide)) (fun _ hk => hk.2) (.int .i64 t658)) (fun _ hk => hk.2) (.string t659)) (fun _ hk => hk.2) (.slice Ao146 t660.length co146)) (fun _ hk => hk.2) (.string t663)) (fun _ hk => hk.2) (.slice Ao147 t664.length co147)) (fun _ h_ => h_.1))))) (bZ (by repeat (first | (with_reducible first | exact HB.out | apply ea | apply en | apply ed | refine es ?_ GE649.out | refine es ?_ GE650.out | refine es ?_ GE657.out | refine es ?_ GE669.out) | exact HB.out)))); have n4_ := aM (rL (Kd.R_new' (Kd.R_new' ho1 (Kd.R_lt (by (with_reducible repeat (first | apply ra | apply rn | apply rd_)); exact (rM (rF (p := ⟨gb669, 4, none⟩) (rF (p := ⟨gb669, 3, none⟩) (rF (p := ⟨gb669, 2, none⟩) (rF (p := ⟨gb669, 1, none⟩) (rF (p := ⟨gb669, 0, none⟩) (rT HO662.out BK669.out (by decide)) (fun _ hk => hk.2) (.int .i64 t658)) (fun _ hk => hk.2) (.string t659)) (fun _ hk => hk.2) (.slice Ao146 t660.length co146)) (fun _ hk => hk.2) (.string t663)) (fun _ hk => hk.2) (.slice Ao147 t664.length co147)) (fun _ h_ => h_.1))))) (Kd.R_lt (by (with_reducible repeat (first | apply ra | apply rn | apply rd_)); exact (rM (rF (p := ⟨gb669, 4, none⟩) (rF (p := ⟨gb669, 3, none⟩) (rF (p := ⟨gb669, 2, none⟩) (rF (p := ⟨gb669, 1, none⟩) (rF (p := ⟨gb669, 0, none⟩) (rT HO666.out BK669.out (by decide)) (fun _ hk => hk.2) (.int .i64 t658)) (fun _ hk => hk.2) (.string t659)) (fun _ hk => hk.2) (.slice Ao146 t660.length co146)) (fun _ hk => hk.2) (.string t663)) (fun _ hk => hk.2) (.slice Ao147 t664.length co147)) (fun _ h_ => h_.1))))) (bZ (by repeat (first | (with_reducible first | exact HB.out | apply ea | apply en | apply ed | refine es ?_ GE649.out | refine es ?_ GE650.out | refine es ?_ GE657.out | refine es ?_ GE669.out) | exact HB.out)))); have n5_ := aM (bB (g := gb649) (o := .cells #[.string a0_0, .slice A0_1 l0_1.length c0_1] 24 (0, 0)) (by (with_reducible repeat (first | apply qn | apply qd | apply qa)); refine bR ?_ NB649_669.out _; (with_reducible repeat (first | apply qn | apply qd | apply qa)); refine bR ?_ NB649_669.out _; (with_reducible repeat (first | apply qn | apply qd | apply qa)); refine bR ?_ NB649_669.out _; (with_reducible repeat (first | apply qn | apply qd | apply qa)); refine bR ?_ NB649_669.out _; (with_reducible repeat (first | apply qn | apply qd | apply qa)); refine bR ?_ NB649_669.out _; exact qy BK649.out) hb); have n6_ := aM (bB (g := gb650) (o := .cells #[.int .i64 a2_0, .int .i64 a2_1, .string a2_2, .string a2_3, .bool a2_4, .string a2_5] 46 (0, 0)) (by (with_reducible repeat (first | apply qn | apply qd | apply qa)); refine bR ?_ NB650_669.out _; (with_reducible repeat (first | apply qn | apply qd | apply qa)); refine bR ?_ NB650_669.out _; (with_reducible repeat (first | apply qn | apply qd | apply qa)); refine bR ?_ NB650_669.out _; (with_reducible repeat (first | apply qn | apply qd | apply qa)); refine bR ?_ NB650_669.out _; (with_reducible repeat (first | apply qn | apply qd | apply qa)); refine bR ?_ NB650_669.out _; exact qy BK650.out) hb); have n7_ := aM (bB (g := gb657) (o := .cells #[.string t653, .slice Ao137 t654.length co137] 24 (0, 0)) (by (with_reducible repeat (first | apply qn | apply qd | apply qa)); refine bR ?_ NB657_669.out _; (with_reducible repeat (first | apply qn | apply qd | apply qa)); refine bR ?_ NB657_669.out _; (with_reducible repeat (first | apply qn | apply qd | apply qa)); refine bR ?_ NB657_669.out _; (with_reducible repeat (first | apply qn | apply qd | apply qa)); refine bR ?_ NB657_669.out _; (with_reducible repeat (first | apply qn | apply qd | apply qa)); refine bR ?_ NB657_669.out _; exact qy BK657.out) hb); have n8_ := aM (bB (g := gb669) (o := .cells #[.int .i64 t658, .string t659, .slice Ao146 t660.length co146, .string t663, .slice Ao147 t664.length co147] 32 (0, 0)) (by (with_reducible repeat (first | apply qn | apply qd | apply qa)); refine bU (cs := #[.int .i64 t658, .string t659, .slice Ao146 t660.length co146, .string t663, .slice none 0 0]) ?_ 4 _ rfl; (with_reducible repeat (first | apply qn | apply qd | apply qa)); refine bU (cs := #[.int .i64 t658, .string t659, .slice Ao146 t660.length co146, .string (⟨#[]⟩ : ByteArray), .slice none 0 0]) ?_ 3 _ rfl; (with_reducible repeat (first | apply qn | apply qd | apply qa)); refine bU (cs := #[.int .i64 t658, .string t659, .slice none 0 0, .string (⟨#[]⟩ : ByteArray), .slice none 0 0]) ?_ 2 _ rfl; (with_reducible repeat (first | apply qn | apply qd | apply qa)); refine bU (cs := #[.int .i64 t658, .string (⟨#[]⟩ : ByteArray), .slice none 0 0, .string (⟨#[]⟩ : ByteArray), .slice none 0 0]) ?_ 1 _ rfl; (with_reducible repeat (first | apply qn | apply qd | apply qa)); refine bU (cs := #[.int .i64 0, .string (⟨#[]⟩ : ByteArray), .slice none 0 0, .string (⟨#[]⟩ : ByteArray), .slice none 0 0]) ?_ 0 _ rfl; exact qy BK669.out) hb); have n9_ := aM (bP (by repeat (first | (with_reducible first | exact HB.out | apply ea | apply en | apply ed | refine es ?_ GE649.out | refine es ?_ GE650.out | refine es ?_ GE657.out | refine es ?_ GE669.out) | exact HB.out)) hb); clear HO656 HO662 HO666 BK649 BK650 BK657 BK669 HB; have HO656 := n0_; have HO662 := n1_; have HO666 := n2_; have HO674 := n3_; have HO678 := n4_; have BK649 := n5_; have BK650 := n6_; have BK657 := n7_; have BK669 := n8_; have HB := n9_; clear n0_ n1_ n2_ n3_ n4_ n5_ n6_ n7_ n8_ n9_; (try clear hb); (try clear hb2); (try clear hk); (try clear hi); (try clear ho0); (try clear ho1)) | ((with_reducible refine gate_dst (N := 11) rfl ?_); (try (refine gate_guard (by rfl) ?_; dsimp only)); refine box_event ?hg (N := 11) ?hd (cs := #[.int .i64 0, .string (⟨#[]⟩ : ByteArray), .slice none 0 0, .string (⟨#[]⟩ : ByteArray), .slice none 0 0]) (t := 32) ?hr ?_; (case hd | hg => rfl); (case hr => first | (go_simp; done) | (go_simp; rfl)); intro gb681 hg w151 hbox hb; have n0_ := aM (Kd.V_below (Kd.V_elderB (by (with_reducible repeat (first | apply va | apply vn | apply vd)); exact HO656.out) gb681 (Nat.le_of_eq hg.symm)) hb); have n1_ := aM (Kd.R_below (ry HO662.out) hb); have n2_ := aM (Kd.R_below (ry HO666.out) hb); have n3_ := aM (Kd.R_below (ry HO674.out) hb); have n4_ := aM (Kd.R_below (ry HO678.out) hb); have n5_ := aM (bB (g := gb649) (qy BK649.out) hb); have n6_ := aM (bB (g := gb650) (qy BK650.out) hb); have n7_ := aM (bB (g := gb657) (qy BK657.out) hb); have n8_ := aM (bB (g := gb669) (qy BK669.out) hb); have n9_ := aM (bP (by repeat (first | (with_reducible first | exact HB.out | apply ea | apply en | apply ed | refine es ?_ GE649.out | refine es ?_ GE650.out | refine es ?_ GE657.out | refine es ?_ GE669.out) | exact HB.out)) hb); have n10_ := aM (hbox); have n11_ := aM ((by rw [hg]; exact (bZ (by repeat (first | (with_reducible first | exact HB.out | apply ea | apply en | apply ed | refine es ?_ GE649.out | refine es ?_ GE650.out | refine es ?_ GE657.out | refine es ?_ GE669.out) | exact HB.out))) : w.heap.size ≤ gb681)); have n12_ := n11_; have n13_ := aM ((by rw [hg]; exact Nat.ne_of_lt (blk_lt (g := gb649) (qy BK649.out)) : gb649 ≠ gb681)); have n14_ := aM ((by rw [hg]; exact Nat.ne_of_gt (blk_lt (g := gb649) (qy BK649.out)) : gb681 ≠ gb649)); have n15_ := aM ((by rw [hg]; exact Nat.ne_of_lt (blk_lt (g := gb650) (qy BK650.out)) : gb650 ≠ gb681)); have n16_ := aM ((by rw [hg]; exact Nat.ne_of_gt (blk_lt (g := gb650) (qy BK650.out)) : gb681 ≠ gb650)); have n17_ := aM ((by rw [hg]; exact Nat.ne_of_lt (blk_lt (g := gb657) (qy BK657.out)) : gb657 ≠ gb681)); have n18_ := aM ((by rw [hg]; exact Nat.ne_of_gt (blk_lt (g := gb657) (qy BK657.out)) : gb681 ≠ gb657)); have n19_ := aM ((by rw [hg]; exact Nat.ne_of_lt (blk_lt (g := gb669) (qy BK669.out)) : gb669 ≠ gb681)); have n20_ := aM ((by rw [hg]; exact Nat.ne_of_gt (blk_lt (g := gb669) (qy BK669.out)) : gb681 ≠ gb669)); clear HO656 HO662 HO666 HO674 HO678 BK649 BK650 BK657 BK669 HB; have HO656 := n0_; have HO662 := n1_; have HO666 := n2_; have HO674 := n3_; have HO678 := n4_; have BK649 := n5_; have BK650 := n6_; have BK657 := n7_; have BK669 := n8_; have HB := n9_; have BK681 := n10_; have GW681 := n11_; have GE681 := n12_; have NB649_681 := n13_; have NB681_649 := n14_; have NB650_681 := n15_; have NB681_650 := n16_; have NB657_681 := n17_; have NB681_657 := n18_; have NB669_681 := n19_; have NB681_669 := n20_; clear n0_ n1_ n2_ n3_ n4_ n5_ n6_ n7_ n8_ n9_ n10_ n11_ n12_ n13_ n14_ n15_ n16_ n17_ n18_ n19_ n20_; clear hb hbox hg; have hnb152 := NB681_649.out; have hnc152 := NB649_681.out; have hnb153 := NB681_650.out; have hnc153 := NB650_681.out; have hnb154 := NB681_657.out; have hnc154 := NB657_681.out; have hnb155 := NB681_669.out; have hnc155 := NB669_681.out; have hcz156_0 : w151.cell? ⟨gb681, 0, none⟩ = some (.int .i64 0) := (bC BK681.out 0).trans rfl; have hcz156_1 : w151.cell? ⟨gb681, 1, none⟩ = some (.string (⟨#[]⟩ : ByteArray)) := (bC BK681.out 1).trans rfl; have hcz156_2 : w151.cell? ⟨gb681, 2, none⟩ = some (.slice none 0 0) := (bC BK681.out 2).trans rfl; have hcz156_3 : w151.cell? ⟨gb681, 3, none⟩ = some (.string (⟨#[]⟩ : ByteArray)) := (bC BK681.out 3).trans rfl; have hcz156_4 : w151.cell? ⟨gb681, 4, none⟩ = some (.slice none 0 0) := (bC BK681.out 4).trans rfl; have hfz156_0 := bF BK681.out 0; have hfz156_1 := bF BK681.out 1; have hfz156_2 := bF BK681.out 2; have hfz156_3 := bF BK681.out 3; have hfz156_4 := bF BK681.out 4; obtain ⟨Ao157, co157, eo157⟩ := Kd.R_slice HO674.out; subst eo157; obtain ⟨Ao158, co158, eo158⟩ := Kd.R_slice HO678.out; subst eo158))
       go_ret
       exact ⟨by first | rfl | (simp [errW_none, errW_some] <;> rfl) | (simp [*, errW_none, errW_some] <;> rfl), by repeat (first | (with_reducible first | exact HB.out | apply ea | apply en | apply ed | refine es ?_ GE649.out | refine es ?_ GE650.out | refine es ?_ GE657.out | refine es ?_ GE669.out | refine es ?_ GE681.out) | exact HB.out)⟩
     ·rw [if_neg c25] at H
      have c25b0 : (t668 == t680) = false := beq_eq_false_iff_ne.mpr c25
      have c25b1 : (t668 != t680) = true := bne_iff_ne.mpr c25
      obtain rfl := Option.some.inj H
      have hnb159 := NB649_650.out
      have hnc159 := NB650_649.out
      have hcz160_0 : wc.cell? ⟨gb649, 0, none⟩ = some (.string a0_0) := (bC BK649.out 0).trans rfl
      have hcz160_1 : wc.cell? ⟨gb649, 1, none⟩ = some (.slice A0_1 l0_1.length c0_1) := (bC BK649.out 1).trans rfl
      have hfz160_0 := bF BK649.out 0
      have hfz160_1 := bF BK649.out 1
      have hcz161_0 : wc.cell? ⟨gb650, 0, none⟩ = some (.int .i64 a2_0) := (bC BK650.out 0).trans rfl
      have hcz161_1 : wc.cell? ⟨gb650, 1, none⟩ = some (.int .i64 a2_1) := (bC BK650.out 1).trans rfl
      have hcz161_2 : wc.cell? ⟨gb650, 2, none⟩ = some (.string a2_2) := (bC BK650.out 2).trans rfl
      have hcz161_3 : wc.cell? ⟨gb650, 3, none⟩ = some (.string a2_3) := (bC BK650.out 3).trans rfl
      have hcz161_4 : wc.cell? ⟨gb650, 4, none⟩ = some (.bool a2_4) := (bC BK650.out 4).trans rfl
      have hcz161_5 : wc.cell? ⟨gb650, 5, none⟩ = some (.string a2_5) := (bC BK650.out 5).trans rfl
      have hfz161_0 := bF BK650.out 0
      have hfz161_1 := bF BK650.out 1
      have hfz161_2 := bF BK650.out 2
      have hfz161_3 := bF BK650.out 3
      have hfz161_4 := bF BK650.out 4
      have hfz161_5 := bF BK650.out 5
      go_wp2_with (first | ((with_reducible refine gate_callee (f := 16) rfl ?_); refine goesL_ (some 31) rfl rfl Try.func16 (by kernel_rfl) rfl #[.agg #[.string a0_0, .slice A0_1 l0_1.length c0_1], .int .u64 a1, .string a2_5] rfl (by (try simp only [mT, mC, mN]); first | done | rfl | (simp only [lD, lT]; rfl)) ?_; (with_reducible refine (bureauref04_Other.calls kj5 a0_0 (fun k_ => k_ < w.heap.size) _ _ l0_1 a1 a2_5 t653 t654 _ ?side1 A22.out).mono ?_); (case side1 => exact Kd.V_mk HC0_1.out (Kd.F_below (Kd.C_F k51_heap HR0_1.out) (by repeat (first | (with_reducible first | exact HB.out | apply ea | apply en | apply ed | refine es ?_ GE649.out | refine es ?_ GE650.out) | exact HB.out)))); rintro e w162 ⟨v655, rfl, ho0, hb⟩; refine ⟨_, rfl, ?_⟩; have n0_ := aM (Kd.V_lower (Kd.V_mono (ok' := fun k_ => k_ ≠ gb649 ∧ k_ ≠ gb650) ho0 (fun k_ hk_ => ⟨Or.elim hk_ (fun hs_ => fun e_ => Nat.not_le.2 hs_ (by rw [e_]; exact GW649.out)) (fun hn_ => (Kd.freshB (g := gb649) (qy BK649.out) k_ hn_)), Or.elim hk_ (fun hs_ => fun e_ => Nat.not_le.2 hs_ (by rw [e_]; exact GW650.out)) (fun hn_ => (Kd.freshB (g := gb650) (qy BK650.out) k_ hn_))⟩)) (bZ (by repeat (first | (with_reducible first | exact HB.out | apply ea | apply en | apply ed | refine es ?_ GE649.out | refine es ?_ GE650.out) | exact HB.out)))); have n1_ := aM (bB (g := gb649) (qy BK649.out) hb); have n2_ := aM (bB (g := gb650) (qy BK650.out) hb); have n3_ := aM (bP (by repeat (first | (with_reducible first | exact HB.out | apply ea | apply en | apply ed | refine es ?_ GE649.out | refine es ?_ GE650.out) | exact HB.out)) hb); clear BK649 BK650 HB; have HO656 := n0_; have BK649 := n1_; have BK650 := n2_; have HB := n3_; clear n0_ n1_ n2_ n3_; (try clear hb); (try clear hb2); (try clear hk); (try clear hi); (try clear ho0)) | ((with_reducible refine gate_dst (N := 7) rfl ?_); (try (refine gate_guard (by rfl) ?_; dsimp only)); refine box_event ?hg (N := 7) ?hd (cs := #[.string (⟨#[]⟩ : ByteArray), .slice none 0 0]) (t := 24) ?hr ?_; (case hd | hg => rfl); (case hr => first | (go_simp; done) | (go_simp; rfl)); intro gb657 hg w163 hbox hb; have n0_ := aM (Kd.V_below (Kd.V_elderB (by (with_reducible repeat (first | apply va | apply vn | apply vd)); exact HO656.out) gb657 (Nat.le_of_eq hg.symm)) hb); have n1_ := aM (bB (g := gb649) (qy BK649.out) hb); have n2_ := aM (bB (g := gb650) (qy BK650.out) hb); have n3_ := aM (bP (by repeat (first | (with_reducible first | exact HB.out | apply ea | apply en | apply ed | refine es ?_ GE649.out | refine es ?_ GE650.out) | exact HB.out)) hb); have n4_ := aM (hbox); have n5_ := aM ((by rw [hg]; exact (bZ (by repeat (first | (with_reducible first | exact HB.out | apply ea | apply en | apply ed | refine es ?_ GE649.out | refine es ?_ GE650.out) | exact HB.out))) : w.heap.size ≤ gb657)); have n6_ := n5_; have n7_ := aM ((by rw [hg]; exact Nat.ne_of_lt (blk_lt (g := gb649) (qy BK649.out)) : gb649 ≠ gb657)); have n8_ := aM ((by rw [hg]; exact Nat.ne_of_gt (blk_lt (g := gb649) (qy BK649.out)) : gb657 ≠ gb649)); have n9_ := aM ((by rw [hg]; exact Nat.ne_of_lt (blk_lt (g := gb650) (qy BK650.out)) : gb650 ≠ gb657)); have n10_ := aM ((by rw [hg]; exact Nat.ne_of_gt (blk_lt (g := gb650) (qy BK650.out)) : gb657 ≠ gb650)); clear HO656 BK649 BK650 HB; have HO656 := n0_; have BK649 := n1_; have BK650 := n2_; have HB := n3_; have BK657 := n4_; have GW657 := n5_; have GE657 := n6_; have NB649_657 := n7_; have NB657_649 := n8_; have NB650_657 := n9_; have NB657_650 := n10_; clear n0_ n1_ n2_ n3_ n4_ n5_ n6_ n7_ n8_ n9_ n10_; clear hb hbox hg; have hnb164 := NB657_649.out; have hnc164 := NB649_657.out; have hnb165 := NB657_650.out; have hnc165 := NB650_657.out; have hcz166_0 : w163.cell? ⟨gb657, 0, none⟩ = some (.string (⟨#[]⟩ : ByteArray)) := (bC BK657.out 0).trans rfl; have hcz166_1 : w163.cell? ⟨gb657, 1, none⟩ = some (.slice none 0 0) := (bC BK657.out 1).trans rfl; have hfz166_0 := bF BK657.out 0; have hfz166_1 := bF BK657.out 1; obtain ⟨Ao167, co167, eo167⟩ := Kd.V_slice HO656.out; subst eo167; have hcz168_0 : w163.cell? ⟨gb649, 0, none⟩ = some (.string a0_0) := (bC BK649.out 0).trans rfl; have hcz168_1 : w163.cell? ⟨gb649, 1, none⟩ = some (.slice A0_1 l0_1.length c0_1) := (bC BK649.out 1).trans rfl; have hfz168_0 := bF BK649.out 0; have hfz168_1 := bF BK649.out 1; have hcz169_0 : w163.cell? ⟨gb650, 0, none⟩ = some (.int .i64 a2_0) := (bC BK650.out 0).trans rfl; have hcz169_1 : w163.cell? ⟨gb650, 1, none⟩ = some (.int .i64 a2_1) := (bC BK650.out 1).trans rfl; have hcz169_2 : w163.cell? ⟨gb650, 2, none⟩ = some (.string a2_2) := (bC BK650.out 2).trans rfl; have hcz169_3 : w163.cell? ⟨gb650, 3, none⟩ = some (.string a2_3) := (bC BK650.out 3).trans rfl; have hcz169_4 : w163.cell? ⟨gb650, 4, none⟩ = some (.bool a2_4) := (bC BK650.out 4).trans rfl; have hcz169_5 : w163.cell? ⟨gb650, 5, none⟩ = some (.string a2_5) := (bC BK650.out 5).trans rfl; have hfz169_0 := bF BK650.out 0; have hfz169_1 := bF BK650.out 1; have hfz169_2 := bF BK650.out 2; have hfz169_3 := bF BK650.out 3; have hfz169_4 := bF BK650.out 4; have hfz169_5 := bF BK650.out 5) | ((with_reducible refine gate_callee (f := 10) rfl ?_); refine goesL_ (some 37) rfl rfl Try.func10 (by kernel_rfl) rfl #[.agg #[.string a0_0, .slice A0_1 l0_1.length c0_1], .int .u64 a1, .agg #[.int .i64 a2_0, .int .i64 a2_1, .string a2_2, .string a2_3, .bool a2_4]] rfl (by (try simp only [mT, mC, mN]); first | done | rfl | (simp only [lD, lT]; rfl)) ?_; (with_reducible refine (subst_Do.calls kj5 a0_0 _ _ l0_1 a1 a2_0 a2_1 a2_2 a2_3 a2_4 t658 t659 t660 t663 t664 t667 t668 _ ?mx58 ?side1 ?side2 A23.out).mono ?_); (case mx58 => exact MaxOk.below HMX.out (by repeat (first | (with_reducible first | exact HB.out | apply ea | apply en | apply ed | refine es ?_ GE649.out | refine es ?_ GE650.out | refine es ?_ GE657.out) | exact HB.out))); (case side1 => exact cB_ HR0_1.out (by repeat (first | (with_reducible first | exact HB.out | apply ea | apply en | apply ed | refine es ?_ GE649.out | refine es ?_ GE650.out | refine es ?_ GE657.out) | exact HB.out))); (case side2 => exact HC0_1.out); rintro e w170 ⟨v661, v665, rfl, ho0, ho1, hb⟩; refine ⟨_, rfl, ?_⟩; have n0_ := aM (Kd.V_mono (Kd.V_told (Kd.V_told (Kd.V_old (by (with_reducible repeat (first | apply va | apply vn | apply vd)); exact (Kd.V_mono (Kd.V_far (p := ⟨gb657, 1, none⟩) (Kd.V_far (p := ⟨gb657, 0, none⟩) (Kd.V_mono HO656.out (fun k_ hk => (⟨hk, hk.2⟩ : _ ∧ k_ ≠ gb657))) (fun _ hk => hk.2) (.string t653)) (fun _ hk => hk.2) (.slice Ao167 t654.length co167)) (fun _ h_ => h_.1))) hb) (Kd.R_base ho0)) (Kd.R_base ho1)) (fun _ h_ => h_.1)); have n1_ := aM (rL ho0 (bZ (by repeat (first | (with_reducible first | exact HB.out | apply ea | apply en | apply ed | refine es ?_ GE649.out | refine es ?_ GE650.out | refine es ?_ GE657.out) | exact HB.out)))); have n2_ := aM (rL ho1 (bZ (by repeat (first | (with_reducible first | exact HB.out | apply ea | apply en | apply ed | refine es ?_ GE649.out | refine es ?_ GE650.out | refine es ?_ GE657.out) | exact HB.out)))); have n3_ := aM (bB (g := gb649) (o := .cells #[.string a0_0, .slice A0_1 l0_1.length c0_1] 24 (0, 0)) (by (with_reducible repeat (first | apply qn | apply qd | apply qa)); refine bR ?_ NB649_657.out _; (with_reducible repeat (first | apply qn | apply qd | apply qa)); refine bR ?_ NB649_657.out _; exact qy BK649.out) hb); have n4_ := aM (bB (g := gb650) (o := .cells #[.int .i64 a2_0, .int .i64 a2_1, .string a2_2, .string a2_3, .bool a2_4, .string a2_5] 46 (0, 0)) (by (with_reducible repeat (first | apply qn | apply qd | apply qa)); refine bR ?_ NB650_657.out _; (with_reducible repeat (first | apply qn | apply qd | apply qa)); refine bR ?_ NB650_657.out _; exact qy BK650.out) hb); have n5_ := aM (bB (g := gb657) (o := .cells #[.string t653, .slice Ao167 t654.length co167] 24 (0, 0)) (by (with_reducible repeat (first | apply qn | apply qd | apply qa)); refine bU (cs := #[.string t653, .slice none 0 0]) ?_ 1 _ rfl; (with_reducible repeat (first | apply qn | apply qd | apply qa)); refine bU (cs := #[.string (⟨#[]⟩ : ByteArray), .slice none 0 0]) ?_ 0 _ rfl; exact qy BK657.out) hb); have n6_ := aM (bP (by repeat (first | (with_reducible first | exact HB.out | apply ea | apply en | apply ed | refine es ?_ GE649.out | refine es ?_ GE650.out | refine es ?_ GE657.out) | exact HB.out)) hb); clear HO656 BK649 BK650 BK657 HB; have HO656 := n0_; have HO662 := n1_; have HO666 := n2_; have BK649 := n3_; have BK650 := n4_; have BK657 := n5_; have HB := n6_; clear n0_ n1_ n2_ n3_ n4_ n5_ n6_; (try clear hb); (try clear hb2); (try clear hk); (try clear hi); (try clear ho0); (try clear ho1)) | ((with_reducible refine gate_dst (N := 8) rfl ?_); (try (refine gate_guard (by rfl) ?_; dsimp only)); refine box_event ?hg (N := 8) ?hd (cs := #[.int .i64 0, .string (⟨#[]⟩ : ByteArray), .slice none 0 0, .string (⟨#[]⟩ : ByteArray), .slice none 0 0]) (t := 32) ?hr ?_; (case hd | hg => rfl); (case hr => first | (go_simp; done) | (go_simp; rfl)); intro gb669 hg w171 hbox hb; have n0_ := aM (Kd.V_below (Kd.V_elderB (by (with_reducible repeat (first | apply va | apply vn | apply vd)); exact HO656.out) gb669 (Nat.le_of_eq hg.symm)) hb); have n1_ := aM (Kd.R_below (ry HO662.out) hb); have n2_ := aM (Kd.R_below (ry HO666.out) hb); have n3_ := aM (bB (g := gb649) (qy BK649.out) hb); have n4_ := aM (bB (g := gb650) (qy BK650.out) hb); have n5_ := aM (bB (g := gb657) (qy BK657.out) hb); have n6_ := aM (bP (by repeat (first | (with_reducible first | exact HB.out | apply ea | apply en | apply ed | refine es ?_ GE649.out | refine es ?_ GE650.out | refine es ?_ GE657.out) | exact HB.out)) hb); have n7_ := aM (hbox); have n8_ := aM ((by rw [hg]; exact (bZ (by repeat (first | (with_reducible first | exact HB.out | apply ea | apply en | apply ed | refine es ?_ GE649.out | refine es ?_ GE650.out | refine es ?_ GE657.out) | exact HB.out))) : w.heap.size ≤ gb669)); have n9_ := n8_; have n10_ := aM ((by rw [hg]; exact Nat.ne_of_lt (blk_lt (g := gb649) (qy BK649.out)) : gb649 ≠ gb669)); have n11_ := aM ((by rw [hg]; exact Nat.ne_of_gt (blk_lt (g := gb649) (qy BK649.out)) : gb669 ≠ gb649)); have n12_ := aM ((by rw [hg]; exact Nat.ne_of_lt (blk_lt (g := gb650) (qy BK650.out)) : gb650 ≠ gb669)); have n13_ := aM ((by rw [hg]; exact Nat.ne_of_gt (blk_lt (g := gb650) (qy BK650.out)) : gb669 ≠ gb650)); have n14_ := aM ((by rw [hg]; exact Nat.ne_of_lt (blk_lt (g := gb657) (qy BK657.out)) : gb657 ≠ gb669)); have n15_ := aM ((by rw [hg]; exact Nat.ne_of_gt (blk_lt (g := gb657) (qy BK657.out)) : gb669 ≠ gb657)); clear HO656 HO662 HO666 BK649 BK650 BK657 HB; have HO656 := n0_; have HO662 := n1_; have HO666 := n2_; have BK649 := n3_; have BK650 := n4_; have BK657 := n5_; have HB := n6_; have BK669 := n7_; have GW669 := n8_; have GE669 := n9_; have NB649_669 := n10_; have NB669_649 := n11_; have NB650_669 := n12_; have NB669_650 := n13_; have NB657_669 := n14_; have NB669_657 := n15_; clear n0_ n1_ n2_ n3_ n4_ n5_ n6_ n7_ n8_ n9_ n10_ n11_ n12_ n13_ n14_ n15_; clear hb hbox hg; have hnb172 := NB669_649.out; have hnc172 := NB649_669.out; have hnb173 := NB669_650.out; have hnc173 := NB650_669.out; have hnb174 := NB669_657.out; have hnc174 := NB657_669.out; have hcz175_0 : w171.cell? ⟨gb669, 0, none⟩ = some (.int .i64 0) := (bC BK669.out 0).trans rfl; have hcz175_1 : w171.cell? ⟨gb669, 1, none⟩ = some (.string (⟨#[]⟩ : ByteArray)) := (bC BK669.out 1).trans rfl; have hcz175_2 : w171.cell? ⟨gb669, 2, none⟩ = some (.slice none 0 0) := (bC BK669.out 2).trans rfl; have hcz175_3 : w171.cell? ⟨gb669, 3, none⟩ = some (.string (⟨#[]⟩ : ByteArray)) := (bC BK669.out 3).trans rfl; have hcz175_4 : w171.cell? ⟨gb669, 4, none⟩ = some (.slice none 0 0) := (bC BK669.out 4).trans rfl; have hfz175_0 := bF BK669.out 0; have hfz175_1 := bF BK669.out 1; have hfz175_2 := bF BK669.out 2; have hfz175_3 := bF BK669.out 3; have hfz175_4 := bF BK669.out 4; obtain ⟨Ao176, co176, eo176⟩ := Kd.R_slice HO662.out; subst eo176; obtain ⟨Ao177, co177, eo177⟩ := Kd.R_slice HO666.out; subst eo177; have hcz178_0 : w171.cell? ⟨gb657, 0, none⟩ = some (.string t653) := (bC BK657.out 0).trans rfl; have hcz178_1 : w171.cell? ⟨gb657, 1, none⟩ = some (.slice Ao167 t654.length co167) := (bC BK657.out 1).trans rfl; have hfz178_0 := bF BK657.out 0; have hfz178_1 := bF BK657.out 1; have hcz179_0 : w171.cell? ⟨gb650, 0, none⟩ = some (.int .i64 a2_0) := (bC BK650.out 0).trans rfl; have hcz179_1 : w171.cell? ⟨gb650, 1, none⟩ = some (.int .i64 a2_1) := (bC BK650.out 1).trans rfl; have hcz179_2 : w171.cell? ⟨gb650, 2, none⟩ = some (.string a2_2) := (bC BK650.out 2).trans rfl; have hcz179_3 : w171.cell? ⟨gb650, 3, none⟩ = some (.string a2_3) := (bC BK650.out 3).trans rfl; have hcz179_4 : w171.cell? ⟨gb650, 4, none⟩ = some (.bool a2_4) := (bC BK650.out 4).trans rfl; have hcz179_5 : w171.cell? ⟨gb650, 5, none⟩ = some (.string a2_5) := (bC BK650.out 5).trans rfl; have hfz179_0 := bF BK650.out 0; have hfz179_1 := bF BK650.out 1; have hfz179_2 := bF BK650.out 2; have hfz179_3 := bF BK650.out 3; have hfz179_4 := bF BK650.out 4; have hfz179_5 := bF BK650.out 5) | ((with_reducible refine gate_callee (f := 10) rfl ?_); refine goesL_ (some 46) rfl rfl Try.func10 (by kernel_rfl) rfl #[.agg #[.string t653, .slice Ao167 t654.length co167], .int .u64 a1, .agg #[.int .i64 a2_0, .int .i64 a2_1, .string a2_2, .string a2_3, .bool a2_4]] rfl (by (try simp only [mT, mC, mN]); first | done | rfl | (simp only [lD, lT]; rfl)) ?_; (with_reducible refine (subst_Do.calls kj5 t653 _ _ t654 a1 a2_0 a2_1 a2_2 a2_3 a2_4 t670 t671 t672 t675 t676 t679 t680 _ ?mx59 ?side1 ?side2 A24.out).mono ?_); (case mx59 => exact MaxOk.below HMX.out (by repeat (first | (with_reducible first | exact HB.out | apply ea | apply en | apply ed | refine es ?_ GE649.out | refine es ?_ GE650.out | refine es ?_ GE657.out | refine es ?_ GE669.out) | exact HB.out))); (case side1 => refine (Kd.V_reads' (e := 51) (base := w.heap.size) (ok := fun k_ => (((((k_ ≠ gb649 ∧ k_ ≠ gb650) ∧ k_ ≠ gb657) ∧ some k_ ≠ (.slice Ao176 t660.length co176 : Value).ownBlock) ∧ some k_ ≠ (.slice Ao177 t664.length co177 : Value).ownBlock) ∧ k_ ≠ gb669)) (n := t654.length) (c := co167) ?_).2.2; exact (by (with_reducible repeat (first | apply va | apply vn | apply vd)); exact (Kd.V_mono (Kd.V_far (p := ⟨gb669, 4, none⟩) (Kd.V_far (p := ⟨gb669, 3, none⟩) (Kd.V_far (p := ⟨gb669, 2, none⟩) (Kd.V_far (p := ⟨gb669, 1, none⟩) (Kd.V_far (p := ⟨gb669, 0, none⟩) (Kd.V_mono HO656.out (fun k_ hk => (⟨hk, hk.2⟩ : _ ∧ k_ ≠ gb669))) (fun _ hk => hk.2) (.int .i64 t658)) (fun _ hk => hk.2) (.string t659)) (fun _ hk => hk.2) (.slice Ao176 t660.length co176)) (fun _ hk => hk.2) (.string t663)) (fun _ hk => hk.2) (.slice Ao177 t664.length co177)) (fun _ h_ => h_.1)))); (case side2 => exact (Kd.V_reads' HO656.out).2.1); rintro e w180 ⟨v673, v677, rfl, ho0, ho1, hb⟩; refine ⟨_, rfl, ?_⟩; have n0_ := aM (Kd.V_mono (Kd.V_told (Kd.V_told (Kd.V_old (by (with_reducible repeat (first | apply va | apply vn | apply vd)); exact (Kd.V_mono (Kd.V_far (p := ⟨gb669, 4, none⟩) (Kd.V_far (p := ⟨gb669, 3, none⟩) (Kd.V_far (p := ⟨gb669, 2, none⟩) (Kd.V_far (p := ⟨gb669, 1, none⟩) (Kd.V_far (p := ⟨gb669, 0, none⟩) (Kd.V_mono HO656.out (fun k_ hk => (⟨hk, hk.2⟩ : _ ∧ k_ ≠ gb669))) (fun _ hk => hk.2) (.int .i64 t658)) (fun _ hk => hk.2) (.string t659)) (fun _ hk => hk.2) (.slice Ao176 t660.length co176)) (fun _ hk => hk.2) (.string t663)) (fun _ hk => hk.2) (.slice Ao177 t664.length co177)) (fun _ h_ => h_.1))) hb) (Kd.R_base ho0)) (Kd.R_base ho1)) (fun _ h_ => h_.1)); have n1_ := aM (rM (Kd.R_told (Kd.R_told (Kd.R_old (by (with_reducible repeat (first | apply ra | apply rn | apply rd_)); exact (rM (rF (p := ⟨gb669, 4, none⟩) (rF (p := ⟨gb669, 3, none⟩) (rF (p := ⟨gb669, 2, none⟩) (rF (p := ⟨gb669, 1, none⟩) (rF (p := ⟨gb669, 0, none⟩) (rT HO662.out BK669.out (by decide)) (fun _ hk => hk.2) (.int .i64 t658)) (fun _ hk => hk.2) (.string t659)) (fun _ hk => hk.2) (.slice Ao176 t660.length co176)) (fun _ hk => hk.2) (.string t663)) (fun _ hk => hk.2) (.slice Ao177 t664.length co177)) (fun _ h_ => h_.1))) hb) (Kd.R_base ho0)) (Kd.R_base ho1)) (fun _ h_ => h_.1)); have n2_ := aM (rM (Kd.R_told (Kd.R_told (Kd.R_old (by (with_reducible repeat (first | apply ra | apply rn | apply rd_)); exact (rM (rF (p := ⟨gb669, 4, none⟩) (rF (p := ⟨gb669, 3, none⟩) (rF (p := ⟨gb669, 2, none⟩) (rF (p := ⟨gb669, 1, none⟩) (rF (p := ⟨gb669, 0, none⟩) (rT HO666.out BK669.out (by decide)) (fun _ hk => hk.2) (.int .i64 t658)) (fun _ hk => hk.2) (.string t659)) (fun _ hk => hk.2) (.slice Ao176 t660.length co176)) (fun _ hk => hk.2) (.string t663)) (fun _ hk => hk.2) (.slice Ao177 t664.length co177)) (fun _ h_ => h_.1))) hb) (Kd.R_base ho0)) (Kd.R_base ho1)) (fun _ h_ => h_.1)); have n3_ := aM (rL (Kd.R_new' (Kd.R_new' ho0 (Kd.R_lt (by (with_reducible repeat (first | apply ra | apply rn | apply rd_)); exact (rM (rF (p := ⟨gb669, 4, none⟩) (rF (p := ⟨gb669, 3, none⟩) (rF (p := ⟨gb669, 2, none⟩) (rF (p := ⟨gb669, 1, none⟩) (rF (p := ⟨gb669, 0, none⟩) (rT HO662.out BK669.out (by decide)) (fun _ hk => hk.2) (.int .i64 t658)) (fun _ hk => hk.2) (.string t659)) (fun _ hk => hk.2) (.slice Ao176 t660.length co176)) (fun _ hk => hk.2) (.string t663)) (fun _ hk => hk.2) (.slice Ao177 t664.length co177)) (fun _ h_ => h_.1))))) (Kd.R_lt (by (with_reducible repeat (first | apply ra | apply rn | apply rd_)); exact (rM (rF (p := ⟨gb669, 4, none⟩) (rF (p := ⟨gb669, 3, none⟩) (rF (p := ⟨gb669, 2, none⟩) (rF (p := ⟨gb669, 1, none⟩) (rF (p := ⟨gb669, 0, none⟩) (rT HO666.out BK669.out (by decide)) (fun _ hk => hk.2) (.int .i64 t658)) (fun _ hk => hk.2) (.string t659)) (fun _ hk => hk.2) (.slice Ao176 t660.length co176)) (fun _ hk => hk.2) (.string t663)) (fun _ hk => hk.2) (.slice Ao177 t664.length co177)) (fun _ h_ => h_.1))))) (bZ (by repeat (first | (with_reducible first | exact HB.out | apply ea | apply en | apply ed | refine es ?_ GE649.out | refine es ?_ GE650.out | refine es ?_ GE657.out | refine es ?_ GE669.out) | exact HB.out)))); have n4_ := aM (rL (Kd.R_new' (Kd.R_new' ho1 (Kd.R_lt (by (with_reducible repeat (first | apply ra | apply rn | apply rd_)); exact (rM (rF (p := ⟨gb669, 4, none⟩) (rF (p := ⟨gb669, 3, none⟩) (rF (p := ⟨gb669, 2, none⟩) (rF (p := ⟨gb669, 1, none⟩) (rF (p := ⟨gb669, 0, none⟩) (rT HO662.out BK669.out (by decide)) (fun _ hk => hk.2) (.int .i64 t658)) (fun _ hk => hk.2) (.string t659)) (fun _ hk => hk.2) (.slice Ao176 t660.length co176)) (fun _ hk => hk.2) (.string t663)) (fun _ hk => hk.2) (.slice Ao177 t664.length co177)) (fun _ h_ => h_.1))))) (Kd.R_lt (by (with_reducible repeat (first | apply ra | apply rn | apply rd_)); exact (rM (rF (p := ⟨gb669, 4, none⟩) (rF (p := ⟨gb669, 3, none⟩) (rF (p := ⟨gb669, 2, none⟩) (rF (p := ⟨gb669, 1, none⟩) (rF (p := ⟨gb669, 0, none⟩) (rT HO666.out BK669.out (by decide)) (fun _ hk => hk.2) (.int .i64 t658)) (fun _ hk => hk.2) (.string t659)) (fun _ hk => hk.2) (.slice Ao176 t660.length co176)) (fun _ hk => hk.2) (.string t663)) (fun _ hk => hk.2) (.slice Ao177 t664.length co177)) (fun _ h_ => h_.1))))) (bZ (by repeat (first | (with_reducible first | exact HB.out | apply ea | apply en | apply ed | refine es ?_ GE649.out | refine es ?_ GE650.out | refine es ?_ GE657.out | refine es ?_ GE669.out) | exact HB.out)))); have n5_ := aM (bB (g := gb649) (o := .cells #[.string a0_0, .slice A0_1 l0_1.length c0_1] 24 (0, 0)) (by (with_reducible repeat (first | apply qn | apply qd | apply qa)); refine bR ?_ NB649_669.out _; (with_reducible repeat (first | apply qn | apply qd | apply qa)); refine bR ?_ NB649_669.out _; (with_reducible repeat (first | apply qn | apply qd | apply qa)); refine bR ?_ NB649_669.out _; (with_reducible repeat (first | apply qn | apply qd | apply qa)); refine bR ?_ NB649_669.out _; (with_reducible repeat (first | apply qn | apply qd | apply qa)); refine bR ?_ NB649_669.out _; exact qy BK649.out) hb); have n6_ := aM (bB (g := gb650) (o := .cells #[.int .i64 a2_0, .int .i64 a2_1, .string a2_2, .string a2_3, .bool a2_4, .string a2_5] 46 (0, 0)) (by (with_reducible repeat (first | apply qn | apply qd | apply qa)); refine bR ?_ NB650_669.out _; (with_reducible repeat (first | apply qn | apply qd | apply qa)); refine bR ?_ NB650_669.out _; (with_reducible repeat (first | apply qn | apply qd | apply qa)); refine bR ?_ NB650_669.out _; (with_reducible repeat (first | apply qn | apply qd | apply qa)); refine bR ?_ NB650_669.out _; (with_reducible repeat (first | apply qn | apply qd | apply qa)); refine bR ?_ NB650_669.out _; exact qy BK650.out) hb); have n7_ := aM (bB (g := gb657) (o := .cells #[.string t653, .slice Ao167 t654.length co167] 24 (0, 0)) (by (with_reducible repeat (first | apply qn | apply qd | apply qa)); refine bR ?_ NB657_669.out _; (with_reducible repeat (first | apply qn | apply qd | apply qa)); refine bR ?_ NB657_669.out _; (with_reducible repeat (first | apply qn | apply qd | apply qa)); refine bR ?_ NB657_669.out _; (with_reducible repeat (first | apply qn | apply qd | apply qa)); refine bR ?_ NB657_669.out _; (with_reducible repeat (first | apply qn | apply qd | apply qa)); refine bR ?_ NB657_669.out _; exact qy BK657.out) hb); have n8_ := aM (bB (g := gb669) (o := .cells #[.int .i64 t658, .string t659, .slice Ao176 t660.length co176, .string t663, .slice Ao177 t664.length co177] 32 (0, 0)) (by (with_reducible repeat (first | apply qn | apply qd | apply qa)); refine bU (cs := #[.int .i64 t658, .string t659, .slice Ao176 t660.length co176, .string t663, .slice none 0 0]) ?_ 4 _ rfl; (with_reducible repeat (first | apply qn | apply qd | apply qa)); refine bU (cs := #[.int .i64 t658, .string t659, .slice Ao176 t660.length co176, .string (⟨#[]⟩ : ByteArray), .slice none 0 0]) ?_ 3 _ rfl; (with_reducible repeat (first | apply qn | apply qd | apply qa)); refine bU (cs := #[.int .i64 t658, .string t659, .slice none 0 0, .string (⟨#[]⟩ : ByteArray), .slice none 0 0]) ?_ 2 _ rfl; (with_reducible repeat (first | apply qn | apply qd | apply qa)); refine bU (cs := #[.int .i64 t658, .string (⟨#[]⟩ : ByteArray), .slice none 0 0, .string (⟨#[]⟩ : ByteArray), .slice none 0 0]) ?_ 1 _ rfl; (with_reducible repeat (first | apply qn | apply qd | apply qa)); refine bU (cs := #[.int .i64 0, .string (⟨#[]⟩ : ByteArray), .slice none 0 0, .string (⟨#[]⟩ : ByteArray), .slice none 0 0]) ?_ 0 _ rfl; exact qy BK669.out) hb); have n9_ := aM (bP (by repeat (first | (with_reducible first | exact HB.out | apply ea | apply en | apply ed | refine es ?_ GE649.out | refine es ?_ GE650.out | refine es ?_ GE657.out | refine es ?_ GE669.out) | exact HB.out)) hb); clear HO656 HO662 HO666 BK649 BK650 BK657 BK669 HB; have HO656 := n0_; have HO662 := n1_; have HO666 := n2_; have HO674 := n3_; have HO678 := n4_; have BK649 := n5_; have BK650 := n6_; have BK657 := n7_; have BK669 := n8_; have HB := n9_; clear n0_ n1_ n2_ n3_ n4_ n5_ n6_ n7_ n8_ n9_; (try clear hb); (try clear hb2); (try clear hk); (try clear hi); (try clear ho0); (try clear ho1)) | ((with_reducible refine gate_dst (N := 11) rfl ?_); (try (refine gate_guard (by rfl) ?_; dsimp only)); refine box_event ?hg (N := 11) ?hd (cs := #[.int .i64 0, .string (⟨#[]⟩ : ByteArray), .slice none 0 0, .string (⟨#[]⟩ : ByteArray), .slice none 0 0]) (t := 32) ?hr ?_; (case hd | hg => rfl); (case hr => first | (go_simp; done) | (go_simp; rfl)); intro gb681 hg w181 hbox hb; have n0_ := aM (Kd.V_below (Kd.V_elderB (by (with_reducible repeat (first | apply va | apply vn | apply vd)); exact HO656.out) gb681 (Nat.le_of_eq hg.symm)) hb); have n1_ := aM (Kd.R_below (ry HO662.out) hb); have n2_ := aM (Kd.R_below (ry HO666.out) hb); have n3_ := aM (Kd.R_below (ry HO674.out) hb); have n4_ := aM (Kd.R_below (ry HO678.out) hb); have n5_ := aM (bB (g := gb649) (qy BK649.out) hb); have n6_ := aM (bB (g := gb650) (qy BK650.out) hb); have n7_ := aM (bB (g := gb657) (qy BK657.out) hb); have n8_ := aM (bB (g := gb669) (qy BK669.out) hb); have n9_ := aM (bP (by repeat (first | (with_reducible first | exact HB.out | apply ea | apply en | apply ed | refine es ?_ GE649.out | refine es ?_ GE650.out | refine es ?_ GE657.out | refine es ?_ GE669.out) | exact HB.out)) hb); have n10_ := aM (hbox); have n11_ := aM ((by rw [hg]; exact (bZ (by repeat (first | (with_reducible first | exact HB.out | apply ea | apply en | apply ed | refine es ?_ GE649.out | refine es ?_ GE650.out | refine es ?_ GE657.out | refine es ?_ GE669.out) | exact HB.out))) : w.heap.size ≤ gb681)); have n12_ := n11_; have n13_ := aM ((by rw [hg]; exact Nat.ne_of_lt (blk_lt (g := gb649) (qy BK649.out)) : gb649 ≠ gb681)); have n14_ := aM ((by rw [hg]; exact Nat.ne_of_gt (blk_lt (g := gb649) (qy BK649.out)) : gb681 ≠ gb649)); have n15_ := aM ((by rw [hg]; exact Nat.ne_of_lt (blk_lt (g := gb650) (qy BK650.out)) : gb650 ≠ gb681)); have n16_ := aM ((by rw [hg]; exact Nat.ne_of_gt (blk_lt (g := gb650) (qy BK650.out)) : gb681 ≠ gb650)); have n17_ := aM ((by rw [hg]; exact Nat.ne_of_lt (blk_lt (g := gb657) (qy BK657.out)) : gb657 ≠ gb681)); have n18_ := aM ((by rw [hg]; exact Nat.ne_of_gt (blk_lt (g := gb657) (qy BK657.out)) : gb681 ≠ gb657)); have n19_ := aM ((by rw [hg]; exact Nat.ne_of_lt (blk_lt (g := gb669) (qy BK669.out)) : gb669 ≠ gb681)); have n20_ := aM ((by rw [hg]; exact Nat.ne_of_gt (blk_lt (g := gb669) (qy BK669.out)) : gb681 ≠ gb669)); clear HO656 HO662 HO666 HO674 HO678 BK649 BK650 BK657 BK669 HB; have HO656 := n0_; have HO662 := n1_; have HO666 := n2_; have HO674 := n3_; have HO678 := n4_; have BK649 := n5_; have BK650 := n6_; have BK657 := n7_; have BK669 := n8_; have HB := n9_; have BK681 := n10_; have GW681 := n11_; have GE681 := n12_; have NB649_681 := n13_; have NB681_649 := n14_; have NB650_681 := n15_; have NB681_650 := n16_; have NB657_681 := n17_; have NB681_657 := n18_; have NB669_681 := n19_; have NB681_669 := n20_; clear n0_ n1_ n2_ n3_ n4_ n5_ n6_ n7_ n8_ n9_ n10_ n11_ n12_ n13_ n14_ n15_ n16_ n17_ n18_ n19_ n20_; clear hb hbox hg; have hnb182 := NB681_649.out; have hnc182 := NB649_681.out; have hnb183 := NB681_650.out; have hnc183 := NB650_681.out; have hnb184 := NB681_657.out; have hnc184 := NB657_681.out; have hnb185 := NB681_669.out; have hnc185 := NB669_681.out; have hcz186_0 : w181.cell? ⟨gb681, 0, none⟩ = some (.int .i64 0) := (bC BK681.out 0).trans rfl; have hcz186_1 : w181.cell? ⟨gb681, 1, none⟩ = some (.string (⟨#[]⟩ : ByteArray)) := (bC BK681.out 1).trans rfl; have hcz186_2 : w181.cell? ⟨gb681, 2, none⟩ = some (.slice none 0 0) := (bC BK681.out 2).trans rfl; have hcz186_3 : w181.cell? ⟨gb681, 3, none⟩ = some (.string (⟨#[]⟩ : ByteArray)) := (bC BK681.out 3).trans rfl; have hcz186_4 : w181.cell? ⟨gb681, 4, none⟩ = some (.slice none 0 0) := (bC BK681.out 4).trans rfl; have hfz186_0 := bF BK681.out 0; have hfz186_1 := bF BK681.out 1; have hfz186_2 := bF BK681.out 2; have hfz186_3 := bF BK681.out 3; have hfz186_4 := bF BK681.out 4; obtain ⟨Ao187, co187, eo187⟩ := Kd.R_slice HO674.out; subst eo187; obtain ⟨Ao188, co188, eo188⟩ := Kd.R_slice HO678.out; subst eo188))
      go_ret
      exact ⟨by first | rfl | (simp [errW_none, errW_some] <;> rfl) | (simp [*, errW_none, errW_some] <;> rfl), by repeat (first | (with_reducible first | exact HB.out | apply ea | apply en | apply ed | refine es ?_ GE649.out | refine es ?_ GE650.out | refine es ?_ GE657.out | refine es ?_ GE669.out | refine es ?_ GE681.out) | exact HB.out)⟩
 ·replace c5 := Bool.eq_false_iff.mpr c5
  subst c5
  have H1 : (some false) = some r := by rw [if_neg (show ¬ (false = true) by decide)] at H; exact H
  clear H
  have H := H1
  clear H1
  obtain rfl := Option.some.inj H
  go_enter Try.func7, Try.ntmps7
  go_wp2_with (first | ((with_reducible refine gate_dst (N := 3) rfl ?_); (try (refine gate_guard (by rfl) ?_; dsimp only)); refine box_event ?hg (N := 3) ?hd (cs := #[.string a0_0, .slice A0_1 l0_1.length c0_1]) (t := 24) ?hr ?_; (case hd | hg => rfl); (case hr => first | (go_simp; done) | (go_simp; rfl)); intro gb649 hg w189 hbox hb; have n0_ := aM (bP (ey HB.out) hb); have n1_ := aM (hbox); have n2_ := aM ((by rw [hg]; exact (bZ (ey HB.out)) : w.heap.size ≤ gb649)); have n3_ := n2_; clear HB; have HB := n0_; have BK649 := n1_; have GW649 := n2_; have GE649 := n3_; clear n0_ n1_ n2_ n3_; clear hb hbox hg) | ((with_reducible refine gate_dst (N := 5) rfl ?_); (try (refine gate_guard (by rfl) ?_; dsimp only)); refine box_event ?hg (N := 5) ?hd (cs := #[.int .i64 a2_0, .int .i64 a2_1, .string a2_2, .string a2_3, .bool a2_4, .string a2_5]) (t := 46) ?hr ?_; (case hd | hg => rfl); (case hr => first | (go_simp; done) | (go_simp; rfl)); intro gb650 hg w190 hbox hb; have n0_ := aM (bB (g := gb649) (qy BK649.out) hb); have n1_ := aM (bP (by repeat (first | (with_reducible first | exact HB.out | apply ea | apply en | apply ed | refine es ?_ GE649.out) | exact HB.out)) hb); have n2_ := aM (hbox); have n3_ := aM ((by rw [hg]; exact (bZ (by repeat (first | (with_reducible first | exact HB.out | apply ea | apply en | apply ed | refine es ?_ GE649.out) | exact HB.out))) : w.heap.size ≤ gb650)); have n4_ := n3_; have n5_ := aM ((by rw [hg]; exact Nat.ne_of_lt (blk_lt (g := gb649) (qy BK649.out)) : gb649 ≠ gb650)); have n6_ := aM ((by rw [hg]; exact Nat.ne_of_gt (blk_lt (g := gb649) (qy BK649.out)) : gb650 ≠ gb649)); clear BK649 HB; have BK649 := n0_; have HB := n1_; have BK650 := n2_; have GW650 := n3_; have GE650 := n4_; have NB649_650 := n5_; have NB650_649 := n6_; clear n0_ n1_ n2_ n3_ n4_ n5_ n6_; clear hb hbox hg) | ((with_reducible refine gate_callee (f := 8) rfl ?_); refine goesL_ (some 14) rfl rfl Try.func8 (by kernel_rfl) rfl #[] rfl (by (try simp only [mT, mC, mN]); first | done | rfl | (simp only [lD, lT]; rfl)) ?_; (with_reducible refine (bureaulaw15_alive.calls k  false _ ?mx60 A4.out).mono ?_); (case mx60 => exact MaxOk.below HMX.out (by repeat (first | (with_reducible first | exact HB.out | apply ea | apply en | apply ed | refine es ?_ GE649.out | refine es ?_ GE650.out) | exact HB.out))); rintro e w191 ⟨rfl, hb⟩; refine ⟨_, rfl, ?_⟩; have n0_ := aM (bB (g := gb649) (qy BK649.out) hb); have n1_ := aM (bB (g := gb650) (qy BK650.out) hb); have n2_ := aM (bP (by repeat (first | (with_reducible first | exact HB.out | apply ea | apply en | apply ed | refine es ?_ GE649.out | refine es ?_ GE650.out) | exact HB.out)) hb); clear BK649 BK650 HB; have BK649 := n0_; have BK650 := n1_; have HB := n2_; clear n0_ n1_ n2_; (try clear hb); (try clear hb2); (try clear hk); (try clear hi)))
  go_ret
  exact ⟨by first | rfl | (simp [errW_none, errW_some] <;> rfl) | (simp [*, errW_none, errW_some] <;> rfl), by repeat (first | (with_reducible first | exact HB.out | apply ea | apply en | apply ed | refine es ?_ GE649.out | refine es ?_ GE650.out) | exact HB.out)⟩
end Go.Proofs.Ytnbdldpjiofafaa.PB
end

section
namespace Go.Proofs.Ytnbdldpjiofafaa.PB
open Go.Proofs.YtnbdldpjiofafaaW.PrintWords
theorem Ev.pos {α : Type} {c : Prop} [Decidable c] {A B : Nat → Option α} {r : α} (h : c) (k : Ev A r) : Ev (fun n => if c then A n else B n) r := by
  obtain ⟨K, hK⟩ := k
  exact ⟨K, fun n hn => by show (if c then A n else B n) = _; rw [if_pos h]; exact hK n hn⟩
theorem Ev.neg {α : Type} {c : Prop} [Decidable c] {A B : Nat → Option α} {r : α} (h : ¬ c) (k : Ev B r) : Ev (fun n => if c then A n else B n) r := by
  obtain ⟨K, hK⟩ := k
  exact ⟨K, fun n hn => by show (if c then A n else B n) = _; rw [if_neg h]; exact hK n hn⟩
theorem Ev.ite {α : Type} {c : Prop} [Decidable c] {A B : Nat → Option α} {r s : α} (h1 : c → Ev A r) (h2 : ¬ c → Ev B s) : Ev (fun n => if c then A n else B n) (if c then r else s) := by
  by_cases h : c
  · rw [if_pos h]; exact Ev.pos h (h1 h)
  · rw [if_neg h]; exact Ev.neg h (h2 h)
theorem Ev.ite' {α : Type} {c : Prop} [Decidable c] {A B : Nat → Option α} {r : α} (h1 : c → Ev A r) (h2 : ¬ c → Ev B r) : Ev (fun n => if c then A n else B n) r := by
  by_cases h : c
  · exact Ev.pos h (h1 h)
  · exact Ev.neg h (h2 h)
theorem ev_val {α : Type} {g : Nat → Option α} {a b : α} (h : Ev g a) (e : a = b) : Ev g b := e ▸ h
end Go.Proofs.Ytnbdldpjiofafaa.PB
end

section
namespace Go.Proofs.Ytnbdldpjiofafaa.PB
open Go.RowKit Go.Proofs.YtnbdldpjiofafaaW.PrintWords
set_option linter.unusedVariables false
theorem w1n {i n : Nat} (h : i < n) (hn : n ≤ 1000000000000000) : wrap64 ((i : Int) + 1) = ((i + 1 : Nat) : Int) := by unfold wrap64; omega
def lineEnds : List UInt8 → Nat → List Nat
  | [], i => [i]
  | x :: r, i => if x = 10 then i :: lineEnds r (i + 1) else lineEnds r (i + 1)
def ends (v : ByteArray) : List Nat := lineEnds v.data.toList 0
def lineFrom (v : ByteArray) (n : Nat) : Nat := if n = 0 then 0 else (ends v).getD (n - 1) 0 + 1
def lineTo (v : ByteArray) (n : Nat) : Nat := (ends v).getD n 0
theorem lineEnds_ne (l : List UInt8) (i : Nat) : 1 ≤ (lineEnds l i).length := by
  induction l generalizing i with
  | nil => simp [lineEnds]
  | cons x r ih => unfold lineEnds; split; simp; exact ih _
theorem lineEnds_len : ∀ (l : List UInt8) (i : Nat), (lineEnds l i).length = l.count 10 + 1
  | [], i => rfl
  | x :: r, i => by
    unfold lineEnds
    split
    · rename_i h; rw [List.length_cons, lineEnds_len r, h, List.count_cons_self]
    · rename_i h; rw [lineEnds_len r, List.count_cons_of_ne h]
theorem le_none : ∀ (l : List UInt8) (a : Nat), (∀ c ∈ l, c ≠ 10) → lineEnds l a = [a + l.length]
  | [], a, _ => rfl
  | x :: r, a, h => by
    rw [lineEnds, if_neg (h x List.mem_cons_self), le_none r (a + 1) (fun c hc => h c (List.mem_cons_of_mem _ hc)), List.length_cons]
    congr 1; omega
theorem le_some : ∀ (o : Nat) (l : List UInt8) (a : Nat), l[o]? = some 10 → (∀ k, k < o → l[k]? ≠ some 10) → lineEnds l a = (a + o) :: lineEnds (l.drop (o + 1)) (a + o + 1)
  | 0, [], a, h, _ => by simp at h
  | 0, x :: r, a, h, _ => by
    have : x = 10 := by simpa using h
    rw [lineEnds, if_pos this]; rfl
  | o + 1, [], a, h, _ => by simp at h
  | o + 1, x :: r, a, h, hn => by
    have hx : x ≠ 10 := by have := hn 0 (by omega); simpa using this
    rw [lineEnds, if_neg hx, le_some o r (a + 1) (by simpa using h) (fun k hk => by have := hn (k + 1) (by omega); simpa using this)]
    rw [show a + 1 + o = a + (o + 1) by omega]; rfl
theorem ib_cases (l : List UInt8) : (Lib.indexByte l 10 = -1 ∧ ∀ c ∈ l, c ≠ 10) ∨ ∃ o : Nat, Lib.indexByte l 10 = (o : Int) ∧ o < l.length ∧ l[o]? = some 10 ∧ ∀ k, k < o → l[k]? ≠ some 10 := by
  have := Lib.indexByte_ge l 10
  rcases Int.lt_or_le (Lib.indexByte l 10) 0 with h | h
  · have h1 : Lib.indexByte l 10 = -1 := by omega
    refine .inl ⟨h1, fun c hc e => ?_⟩
    obtain ⟨k, hk⟩ := List.getElem?_of_mem hc
    exact Lib.indexByte_none h1 k (by rw [hk, e])
  · have h1 : Lib.indexByte l 10 = ((Lib.indexByte l 10).toNat : Int) := by omega
    obtain ⟨a, b⟩ := Lib.indexByte_some h1
    exact .inr ⟨_, h1, (List.getElem?_eq_some_iff.1 a).1, a, b⟩
theorem ends_drop (v : ByteArray) : ∀ (i : Nat), i < (ends v).length → lineFrom v i ≤ v.size ∧ (ends v).drop i = lineEnds (v.data.toList.drop (lineFrom v i)) (lineFrom v i)
  | 0, _ => ⟨Nat.zero_le _, rfl⟩
  | i + 1, h => by
    obtain ⟨h1, h2⟩ := ends_drop v i (by omega)
    have hsz : v.data.toList.length = v.size := (Lib.size_eq v).symm
    have hlen : ((ends v).drop i).length = (ends v).length - i := List.length_drop
    rcases ib_cases (v.data.toList.drop (lineFrom v i)) with ⟨_, hno⟩ | ⟨o, _, ho, ha, hb⟩
    · rw [le_none _ _ hno] at h2
      rw [h2] at hlen
      simp at hlen
      omega
    · rw [le_some o _ _ ha hb] at h2
      rw [List.length_drop] at ho
      have hg : (ends v).getD i 0 = lineFrom v i + o := by
        have := congrArg (fun q : List Nat => q.getD 0 0) h2
        simpa [List.getD_eq_getElem?_getD] using this
      have hf : lineFrom v (i + 1) = lineFrom v i + o + 1 := by
        unfold lineFrom at hg ⊢
        rw [if_neg (by omega), Nat.add_sub_cancel, hg]
      refine ⟨by omega, ?_⟩
      rw [hf]
      have := congrArg (List.drop 1) h2
      rw [List.drop_drop, List.drop_one, List.tail_cons, List.drop_drop] at this
      rw [this]
      congr 2
theorem line_last (v : ByteArray) (n : Nat) (h : n < (ends v).length) : (Lib.indexByte (v.data.toList.drop (lineFrom v n)) 10 = -1 ∧ lineTo v n = v.size ∧ n + 1 = (ends v).length) ∨
    ∃ o : Nat, Lib.indexByte (v.data.toList.drop (lineFrom v n)) 10 = (o : Int) ∧ lineTo v n = lineFrom v n + o ∧ lineFrom v n + o < v.size ∧ lineFrom v (n + 1) = lineFrom v n + o + 1 ∧ n + 1 < (ends v).length := by
  obtain ⟨h1, h2⟩ := ends_drop v n h
  have hsz : v.data.toList.length = v.size := (Lib.size_eq v).symm
  have hlen : ((ends v).drop n).length = (ends v).length - n := List.length_drop
  have hg : (ends v).getD n 0 = ((ends v).drop n).getD 0 0 := by simp [List.getD_eq_getElem?_getD]
  rcases ib_cases (v.data.toList.drop (lineFrom v n)) with ⟨hi, hno⟩ | ⟨o, hi, ho, ha, hb⟩
  · rw [le_none _ _ hno] at h2
    rw [h2] at hlen hg
    refine .inl ⟨hi, ?_, by simp at hlen; omega⟩
    unfold lineTo
    rw [hg, List.length_drop]
    simp
    omega
  · rw [le_some o _ _ ha hb] at h2
    rw [h2] at hlen hg
    rw [List.length_drop] at ho
    have hne := lineEnds_ne ((v.data.toList.drop (lineFrom v n)).drop (o + 1)) (lineFrom v n + o + 1)
    have hto : lineTo v n = lineFrom v n + o := by unfold lineTo; rw [hg]; rfl
    refine .inr ⟨o, hi, hto, by omega, ?_, by simp only [List.length_cons] at hlen; omega⟩
    unfold lineTo at hto
    have : lineFrom v (n + 1) = (ends v).getD n 0 + 1 := by unfold lineFrom; rw [if_neg (by omega), Nat.add_sub_cancel]
    omega
theorem line_range (v : ByteArray) (n : Nat) (h : n < (ends v).length) : lineFrom v n ≤ lineTo v n ∧ lineTo v n ≤ v.size := by
  have := (ends_drop v n h).1
  rcases line_last v n h with ⟨_, h2, _⟩ | ⟨o, _, h2, h3, _, _⟩ <;> omega
theorem line_next (v : ByteArray) (n : Nat) (h : n + 1 < (ends v).length) : lineFrom v (n + 1) = lineTo v n + 1 := by
  unfold lineFrom lineTo; rw [if_neg (by omega), Nat.add_sub_cancel]
theorem ends_len_le (v : ByteArray) : (ends v).length ≤ v.size + 1 := by
  unfold ends
  rw [lineEnds_len, Lib.size_eq v]
  have := List.count_le_length (a := (10 : UInt8)) (l := v.data.toList)
  omega
theorem count_ev (v : ByteArray) (hv : v.size ≤ 100000) : line_Count.f v = some ((ends v).length : Int) := by
  unfold line_Count.f strings_Count.f
  rw [if_pos (show (⟨#[10]⟩ : ByteArray).size = 1 from rfl), Option.bind_some]
  have h : Lib.countByte v.data.toList ((⟨#[10]⟩ : ByteArray).data.toList.getD 0 0) = ((v.data.toList.count 10 : Nat) : Int) := rfl
  have hl := ends_len_le v
  have he : (ends v).length = v.data.toList.count 10 + 1 := lineEnds_len _ _
  rw [h]
  congr 1
  unfold wrap64
  omega
theorem extract_rest (v : ByteArray) (a : Nat) : (v.extract a v.size).data.toList = v.data.toList.drop a := by
  rw [Lib.extract_data]
  rw [List.take_of_length_le]
  rw [List.length_drop, ← Lib.size_eq]
  exact Nat.le_refl _
theorem bounds_ev (v : ByteArray) (hv : v.size ≤ 100000) (n : Nat) (h : n < (ends v).length) : Ev (fun k => line_Bounds.f k v (n : Int)) ((lineFrom v n : Int), (lineTo v n : Int), 0) := by
  have hl := ends_len_le v
  unfold line_Bounds.f
  refine Ev.neg (by omega) ?_
  rw [count_ev v hv]
  refine Ev.bind (Ev.now _) ?_
  rw [decide_eq_false (by omega)]
  refine Ev.step (fun k => by simp only [line_Bounds.j0]; rfl) ?_
  refine Ev.neg (by simp) ?_
  have loop : ∀ (d i : Nat), i + d = n → Ev (fun k => line_Bounds.l0 k v (lineFrom v i : Int) (n : Int) (i : Int)) ((lineFrom v n : Int), (lineTo v n : Int), 0) := by
    intro d
    induction d with
    | zero =>
      intro i hi
      obtain rfl : i = n := by omega
      have hf := (ends_drop v i h).1
      refine Ev.step (fun k => by simp only [line_Bounds.l0]; rfl) ?_
      refine Ev.neg (by omega) (Ev.pos (by omega) (Ev.pos (by omega) ?_))
      unfold strings_IndexByte.f
      rw [Int.toNat_natCast, extract_rest, show (10 : Int).toNat.toUInt8 = 10 from rfl]
      refine Ev.bind (Ev.now _) ?_
      rcases line_last v i h with ⟨h1, h2, _⟩ | ⟨o, h1, h2, h3, _, _⟩
      · rw [h1]
        refine Ev.pos (by decide) (ev_val (Ev.now _) ?_)
        rw [h2]
      · rw [h1]
        refine Ev.neg (by omega) (ev_val (Ev.now _) ?_)
        rw [h2, show wrap64 ((lineFrom v i : Int) + (o : Int)) = ((lineFrom v i + o : Nat) : Int) by unfold wrap64; omega]
    | succ d ih =>
      intro i hi
      have hin : i < (ends v).length := by omega
      have hf := (ends_drop v i hin).1
      refine Ev.step (fun k => by simp only [line_Bounds.l0]; rfl) ?_
      refine Ev.pos (by omega) (Ev.pos (by omega) (Ev.pos (by omega) ?_))
      unfold strings_IndexByte.f
      rw [Int.toNat_natCast, extract_rest, show (10 : Int).toNat.toUInt8 = 10 from rfl]
      refine Ev.bind (Ev.now _) ?_
      rcases line_last v i hin with ⟨h1, h2, h3⟩ | ⟨o, h1, h2, h3, h4, _⟩
      · omega
      · have e1 : wrap64 ((o : Int) + 1) = ((o + 1 : Nat) : Int) := by unfold wrap64; omega
        have e2 : wrap64 ((lineFrom v i : Int) + ((o + 1 : Nat) : Int)) = ((lineFrom v i + o + 1 : Nat) : Int) := by generalize lineFrom v i = z at *; unfold wrap64; omega
        have hi1 := ih (i + 1) (by omega)
        rw [h4] at hi1
        rw [h1, e1, e2, w1n (show i < n by omega) (by omega)]
        exact hi1
  have := loop n 0 (by omega)
  rw [show lineFrom v 0 = 0 from rfl] at this
  exact this
end Go.Proofs.Ytnbdldpjiofafaa.PB
end

section
namespace Go.Proofs.Ytnbdldpjiofafaa.PB
set_option linter.unusedVariables false
def buildS {α : Type} (w r : List α) (m : Nat) : Nat → List Nat → Nat → List α
  | a, [], e => (w.take e).drop a
  | a, p :: ps, e => (w.take p).drop a ++ (r ++ buildS w r m (p + m) ps e)
def spaced (m : Nat) : Nat → List Nat → Nat → Prop
  | a, [], e => a ≤ e
  | a, p :: ps, e => a ≤ p ∧ spaced m (p + m) ps e
theorem spaced_le {m : Nat} : ∀ {ps : List Nat} {a e : Nat}, spaced m a ps e → a ≤ e
  | [], _, _, h => h
  | p :: ps, a, e, h => by have := spaced_le h.2; have := h.1; omega
theorem spaced_mono {m : Nat} : ∀ {ps : List Nat} {a b e : Nat}, b ≤ a → spaced m a ps e → spaced m b ps e
  | [], _, _, _, h, k => Nat.le_trans h k
  | p :: ps, _, _, _, h, k => ⟨Nat.le_trans h k.1, k.2⟩
theorem spaced_app {m : Nat} : ∀ {ps qs : List Nat} {a b e : Nat}, spaced m a ps b → spaced m b qs e → spaced m a (ps ++ qs) e
  | [], qs, a, b, e, h, k => spaced_mono h k
  | p :: ps, qs, a, b, e, h, k => ⟨h.1, spaced_app h.2 k⟩
theorem spaced_len {m : Nat} (hm : 1 ≤ m) : ∀ {ps : List Nat} {a e : Nat}, spaced m a ps e → a + ps.length * m ≤ e
  | [], _, _, h => by simpa [spaced] using h
  | p :: ps, a, e, h => by
    have := spaced_len hm h.2
    have := h.1
    rw [List.length_cons, Nat.succ_mul]
    omega
theorem build_len {α : Type} (w r : List α) (m : Nat) : ∀ (ps : List Nat) (a e : Nat), e ≤ w.length → spaced m a ps e → (buildS w r m a ps e).length + ps.length * m = (e - a) + ps.length * r.length
  | [], a, e, he, h => by simp [buildS]; omega
  | p :: ps, a, e, he, h => by
    have ih := build_len w r m ps (p + m) e he h.2
    have hle := spaced_le h.2
    have := h.1
    simp only [buildS, List.length_append, List.length_drop, List.length_take, List.length_cons, Nat.succ_mul]
    omega
theorem build_zip {α β γ : Type} (f : α → β → γ) (w r : List α) (w' r' : List β) (m : Nat) (hw : w.length = w'.length) (hr : r.length = r'.length) : ∀ (ps : List Nat) (a e : Nat), List.zipWith f (buildS w r m a ps e) (buildS w' r' m a ps e) = buildS (List.zipWith f w w') (List.zipWith f r r') m a ps e
  | [], a, e => by rw [buildS, buildS, buildS, List.take_zipWith, List.drop_zipWith]
  | p :: ps, a, e => by
    have h1 : ((w.take p).drop a).length = ((w'.take p).drop a).length := by rw [List.length_drop, List.length_drop, List.length_take, List.length_take, hw]
    rw [buildS, buildS, buildS, List.zipWith_append h1, List.zipWith_append hr, build_zip f w r w' r' m hw hr ps, List.take_zipWith, List.drop_zipWith]
theorem build_map {α β : Type} (f : α → β) (w r : List α) (m : Nat) : ∀ (ps : List Nat) (a e : Nat), (buildS w r m a ps e).map f = buildS (w.map f) (r.map f) m a ps e
  | [], a, e => by rw [buildS, buildS, List.map_drop, List.map_take]
  | p :: ps, a, e => by rw [buildS, buildS, List.map_append, List.map_append, build_map f w r m ps, List.map_drop, List.map_take]
def scanP (every : Bool) (hit : Nat → Bool) (m e : Nat) : Nat → Nat → List Nat
  | 0, _ => []
  | d + 1, a => if a < e then (if hit a = true then a :: (if every = true then scanP every hit m e d (a + m) else []) else scanP every hit m e d (a + 1)) else []
theorem scanP_end (every : Bool) (hit : Nat → Bool) (m e : Nat) : ∀ (d a : Nat), e ≤ a → scanP every hit m e d a = []
  | 0, a, _ => rfl
  | d + 1, a, h => by rw [scanP, if_neg (by omega)]
theorem scanP_fuel (every : Bool) (hit : Nat → Bool) (m e : Nat) (hm : 1 ≤ m) : ∀ (d d' a : Nat), e - a ≤ d → e - a ≤ d' → scanP every hit m e d a = scanP every hit m e d' a
  | 0, d', a, h, _ => by rw [scanP_end _ _ _ _ d' a (by omega)]; rfl
  | d + 1, 0, a, _, h => by rw [scanP_end _ _ _ _ (d + 1) a (by omega)]; rfl
  | d + 1, d' + 1, a, h, h' => by
    rw [scanP, scanP]
    by_cases ha : a < e
    · rw [if_pos ha, if_pos ha, scanP_fuel every hit m e hm d d' (a + m) (by omega) (by omega), scanP_fuel every hit m e hm d d' (a + 1) (by omega) (by omega)]
    · rw [if_neg ha, if_neg ha]
def places (every : Bool) (hit : Nat → Bool) (m e a : Nat) : List Nat := scanP every hit m e (e - a) a
theorem places_end {every : Bool} {hit : Nat → Bool} {m e a : Nat} (h : e ≤ a) : places every hit m e a = [] := scanP_end _ _ _ _ _ _ h
theorem places_hit {every : Bool} {hit : Nat → Bool} {m e a : Nat} (hm : 1 ≤ m) (h : a < e) (hh : hit a = true) : places every hit m e a = a :: (if every = true then places every hit m e (a + m) else []) := by
  unfold places
  obtain ⟨d, hd⟩ : ∃ d, e - a = d + 1 := ⟨e - a - 1, by omega⟩
  rw [hd, scanP, if_pos h, if_pos hh, scanP_fuel every hit m e hm d (e - (a + m)) (a + m) (by omega) (by omega)]
theorem places_miss {every : Bool} {hit : Nat → Bool} {m e a : Nat} (hm : 1 ≤ m) (h : a < e) (hh : ¬ hit a = true) : places every hit m e a = places every hit m e (a + 1) := by
  unfold places
  obtain ⟨d, hd⟩ : ∃ d, e - a = d + 1 := ⟨e - a - 1, by omega⟩
  rw [hd, scanP, if_pos h, if_neg hh, scanP_fuel every hit m e hm d (e - (a + 1)) (a + 1) (by omega) (by omega)]
theorem places_skip {every : Bool} {hit : Nat → Bool} {m e : Nat} (hm : 1 ≤ m) : ∀ (i a : Nat), a + i ≤ e → (∀ k, k < i → ¬ hit (a + k) = true) → places every hit m e a = places every hit m e (a + i)
  | 0, a, _, _ => rfl
  | i + 1, a, h, hn => by
    rw [places_miss hm (by omega) (by simpa using hn 0 (by omega)), places_skip hm i (a + 1) (by omega) (fun k hk => by have := hn (k + 1) (by omega); rwa [show a + 1 + k = a + (k + 1) by omega]), show a + 1 + i = a + (i + 1) by omega]
theorem places_none {every : Bool} {hit : Nat → Bool} {m e a : Nat} (hm : 1 ≤ m) (hn : ∀ k, a ≤ k → k < e → ¬ hit k = true) : places every hit m e a = [] := by
  by_cases h : a ≤ e
  · rw [places_skip hm (e - a) a (by omega) (fun k hk => hn _ (by omega) (by omega))]
    exact places_end (by omega)
  · exact places_end (by omega)
theorem places_spaced {every : Bool} {hit : Nat → Bool} {m e : Nat} (hm : 1 ≤ m) (hroom : ∀ k, hit k = true → k + m ≤ e) : ∀ (d a : Nat), e - a ≤ d → a ≤ e → spaced m a (places every hit m e a) e ∧ ∀ p ∈ places every hit m e a, hit p = true := by
  intro d
  induction d with
  | zero => intro a h hle; rw [places_end (by omega)]; exact ⟨hle, fun p hp => absurd hp (by simp)⟩
  | succ d ih =>
    intro a h hle
    by_cases ha : a < e
    · by_cases hh : hit a = true
      · rw [places_hit hm ha hh]
        have hr := hroom a hh
        by_cases he : every = true
        · rw [if_pos he]
          obtain ⟨h1, h2⟩ := ih (a + m) (by omega) hr
          exact ⟨⟨Nat.le_refl _, h1⟩, fun p hp => by rcases List.mem_cons.1 hp with rfl | hp; exact hh; exact h2 p hp⟩
        · rw [if_neg he]
          exact ⟨⟨Nat.le_refl _, hr⟩, fun p hp => by rw [List.mem_singleton.1 hp]; exact hh⟩
      · rw [places_miss hm ha hh]
        obtain ⟨h1, h2⟩ := ih (a + 1) (by omega) (by omega)
        exact ⟨spaced_mono (by omega) h1, h2⟩
    · rw [places_end (by omega)]
      exact ⟨hle, fun p hp => absurd hp (by simp)⟩
end Go.Proofs.Ytnbdldpjiofafaa.PB
end

section
namespace Go.Proofs.Ytnbdldpjiofafaa.PB
open Go.RowKit Go.Proofs.YtnbdldpjiofafaaW.PrintWords
set_option linter.unusedVariables false
instance : DecidableEq S51 := fun a b => decidable_of_iff (a.f0 = b.f0 ∧ a.f1 = b.f1) (by cases a; cases b; simp)
theorem rdT (l : List S51) (i : Nat) : rd_T51 l (i : Int) = l.getD i z51 := by unfold rd_T51; rw [Int.toNat_natCast]
theorem dropT {l : List S51} {i : Nat} (h : i < l.length) : l.drop i = l.getD i z51 :: l.drop (i + 1) := by
  rw [List.drop_eq_getElem_cons h, List.getD_eq_getElem?_getD, List.getElem?_eq_getElem h]; rfl
theorem dropI {l : List Int} {i : Nat} (h : i < l.length) : l.drop i = l.getD i 0 :: l.drop (i + 1) := by
  rw [List.drop_eq_getElem_cons h, List.getD_eq_getElem?_getD, List.getElem?_eq_getElem h]; rfl
theorem w1 {i n : Nat} (h : i < n) (hn : n ≤ 1000000000000000) : wrap64 ((i : Int) + 1) = ((i + 1 : Nat) : Int) := by unfold wrap64; omega
abbrev big : Nat := 1000000000000
theorem total_ev (l : List S51) (hl : l.length ≤ big) : Ev (fun k => runs_Total.f k l) (tot l) := by
  unfold big at hl
  have loop : ∀ (d i : Nat) (n : Int), i + d = l.length → 0 ≤ n → n ≤ 4096 → Ev (fun k => runs_Total.l0 k n l (l.length : Int) (i : Int)) (totF (l.drop i) n) := by
    intro d
    induction d with
    | zero =>
      intro i n hi h0 h1
      refine Ev.step (fun k => by simp only [runs_Total.l0]; rfl) ?_
      refine Ev.neg (by omega) ?_
      rw [List.drop_eq_nil_of_le (by omega)]
      exact Ev.now _
    | succ d ih =>
      intro i n hi h0 h1
      have hlt : i < l.length := by omega
      refine Ev.step (fun k => by simp only [runs_Total.l0]; rfl) ?_
      refine Ev.pos (by omega) (Ev.pos (by omega) (Ev.pos (by omega) ?_))
      rw [dropT hlt, rdT]
      simp only [totF]
      rw [show wrap64 (4096 - n) = 4096 - n by unfold wrap64; omega]
      refine Ev.ite (fun _ => Ev.now _) (fun hc => ?_)
      have hm : wrap64 (n + mx (l.getD i z51).f1 0) = n + (if (l.getD i z51).f1 < 0 then 0 else (l.getD i z51).f1) := by
        unfold mx wrap64
        split <;> omega
      rw [hm, w1 hlt (by omega)]
      exact ih (i + 1) _ (by omega) (by split <;> omega) (by split <;> omega)
  exact loop l.length 0 0 (by omega) (by omega) (by omega)
theorem rtotal_ev (l : List S51) (hl : l.length ≤ big) : Ev (fun k => bureauref03_Total.f k l) (tot l) := by
  unfold big at hl
  have loop : ∀ (d i : Nat) (n : Int), i + d = l.length → 0 ≤ n → n ≤ 4096 → Ev (fun k => bureauref03_Total.l0 k l n (i : Int)) (totF (l.drop i) n) := by
    intro d
    induction d with
    | zero =>
      intro i n hi h0 h1
      refine Ev.step (fun k => by simp only [bureauref03_Total.l0]; rfl) ?_
      refine Ev.neg (by omega) ?_
      rw [List.drop_eq_nil_of_le (by omega)]
      exact Ev.now _
    | succ d ih =>
      intro i n hi h0 h1
      have hlt : i < l.length := by omega
      refine Ev.step (fun k => by simp only [bureauref03_Total.l0]; rfl) ?_
      refine Ev.pos (by omega) (Ev.pos (by omega) ?_)
      rw [dropT hlt, rdT]
      simp only [totF]
      rw [show wrap64 (4096 - n) = 4096 - n by unfold wrap64; omega]
      refine Ev.ite (fun _ => Ev.now _) (fun hc => ?_)
      rw [w1 hlt (by omega)]
      by_cases hp : (l.getD i z51).f1 > 0
      · refine Ev.pos hp ?_
        rw [show wrap64 (n + (l.getD i z51).f1) = n + (if (l.getD i z51).f1 < 0 then 0 else (l.getD i z51).f1) by rw [if_neg (by omega)]; unfold wrap64; omega]
        exact ih (i + 1) _ (by omega) (by split <;> omega) (by split <;> omega)
      · refine Ev.neg hp ?_
        have : n = n + (if (l.getD i z51).f1 < 0 then 0 else (l.getD i z51).f1) := by split <;> omega
        rw [← this]
        exact ih (i + 1) _ (by omega) (by omega) (by omega)
  exact loop l.length 0 0 (by omega) (by omega) (by omega)
theorem same_ev (a b : List S51) (hl : a.length ≤ big) : Ev (fun k => bureauref03_Same.f k a b) (decide (a = b)) := by
  unfold big at hl
  unfold bureauref03_Same.f
  by_cases hab : a.length = b.length
  · refine Ev.pos (by omega) ?_
    have loop : ∀ (d i : Nat), i + d = a.length → Ev (fun k => bureauref03_Same.l0 k a b (i : Int)) (decide (a.drop i = b.drop i)) := by
      intro d
      induction d with
      | zero =>
        intro i hi
        refine Ev.step (fun k => by simp only [bureauref03_Same.l0]; rfl) ?_
        refine Ev.neg (by omega) ?_
        rw [List.drop_eq_nil_of_le (by omega), List.drop_eq_nil_of_le (by omega)]
        exact Ev.now _
      | succ d ih =>
        intro i hi
        have hlt : i < a.length := by omega
        refine Ev.step (fun k => by simp only [bureauref03_Same.l0]; rfl) ?_
        refine Ev.pos (by omega) (Ev.pos (by omega) (Ev.pos (by omega) ?_))
        rw [dropT hlt, dropT (show i < b.length by omega), rdT, rdT, w1 hlt (by omega)]
        by_cases he : a.getD i z51 = b.getD i z51
        · rw [he]
          refine Ev.neg (by simp) ?_
          exact ev_val (ih (i + 1) (by omega)) (by simp)
        · refine Ev.pos ?_ ?_
          · have : ¬ ((a.getD i z51).f0 = (b.getD i z51).f0 ∧ (a.getD i z51).f1 = (b.getD i z51).f1) := fun h => he (by
              cases hx : a.getD i z51; cases hy : b.getD i z51; rw [hx, hy] at h; simp at h; rw [h.1, h.2])
            simp only [Bool.or_eq_true, Bool.not_eq_true', beq_eq_false_iff_ne]
            by_cases h1 : (a.getD i z51).f0 = (b.getD i z51).f0
            · exact .inr (fun h2 => this ⟨h1, h2⟩)
            · exact .inl h1
          · exact ev_val (Ev.now _) (by simp; intro h; exact absurd h he)
    exact loop a.length 0 (by omega)
  · refine Ev.neg (by omega) ?_
    exact ev_val (Ev.now _) (by simp; intro h; exact hab (by rw [h]))
theorem pack_ev (b : List Int) (hb : b.length ≤ 1000000000000) : Ev (fun k => bureauref03_Pack.f k b) (pack b) := by
  have loop : ∀ (d i : Nat) (acc : List S51), i + d = b.length → acc.length ≤ i → (∀ r ∈ acc, r.f1 ≤ i) → (∀ r ∈ acc, 0 ≤ r.f1) → Ev (fun k => bureauref03_Pack.l0 k b acc (i : Int)) (packTo acc (b.drop i)) := by
    intro d
    induction d with
    | zero =>
      intro i acc hi _ _ _
      refine Ev.step (fun k => by simp only [bureauref03_Pack.l0]; rfl) ?_
      refine Ev.neg (by omega) ?_
      rw [List.drop_eq_nil_of_le (by omega)]
      exact Ev.now _
    | succ d ih =>
      intro i acc hi ha hc h0
      have hlt : i < b.length := by omega
      have hstep : step1 acc (b.getD i 0) = step1 acc (b.getD i 0) := rfl
      refine Ev.step (fun k => by simp only [bureauref03_Pack.l0]; rfl) ?_
      refine Ev.pos (by omega) ?_
      have hrd : rd b (i : Int) = b.getD i 0 := by unfold rd; rw [Int.toNat_natCast]
      rw [hrd, dropI hlt, w1 hlt (by omega)]
      have happ : ∀ x : Int, Ev (fun k => if acc.length < 8796093022208 then bureauref03_Pack.l0 k b (acc ++ [(⟨x, 1⟩ : S51)]) ((i + 1 : Nat) : Int) else none) (packTo (acc ++ [⟨x, 1⟩]) (b.drop (i + 1))) := fun x => by
        refine Ev.pos (by omega) (ih (i + 1) _ (by omega) (by simp; omega) ?_ ?_)
        · intro r hr
          rcases List.mem_append.1 hr with hr | hr
          · have := hc r hr; omega
          · obtain rfl := List.mem_singleton.1 hr; show (1 : Int) ≤ ((i + 1 : Nat) : Int); omega
        · intro r hr
          rcases List.mem_append.1 hr with hr | hr
          · exact h0 r hr
          · obtain rfl := List.mem_singleton.1 hr; show (0 : Int) ≤ 1; omega
      show Ev _ (packTo (step1 acc (b.getD i 0)) (b.drop (i + 1)))
      rcases snoc_cases acc with rfl | ⟨pre, q, rfl⟩
      · refine Ev.neg (by simp) (Ev.pos (by omega) ?_)
        rw [step1_nil]
        exact happ _
      · have hlen : (pre ++ [q]).length = pre.length + 1 := by simp
        have hidx : wrap64 (((pre ++ [q]).length : Int) - 1) = ((pre.length : Nat) : Int) := by rw [hlen]; unfold wrap64; omega
        have hget : rd_T51 (pre ++ [q]) ((pre.length : Nat) : Int) = q := by rw [rdT]; simp [List.getD_eq_getElem?_getD]
        refine Ev.pos (by omega) ?_
        rw [hidx, hget]
        refine Ev.pos (by omega) (Ev.pos (by omega) (Ev.pos (by omega) ?_))
        by_cases he : q.f0 = b.getD i 0
        · refine Ev.pos he ?_
          rw [← he, step1_same]
          have hq := hc q (by simp)
          have hq0 := h0 q (by simp)
          rw [Int.toNat_natCast, show (pre ++ [q]).set pre.length (⟨q.f0, wrap64 (q.f1 + 1)⟩ : S51) = pre ++ [⟨q.f0, q.f1 + 1⟩] by
            rw [show wrap64 (q.f1 + 1) = q.f1 + 1 by unfold wrap64; omega]; simp]
          refine ih (i + 1) _ (by omega) (by simp at ha ⊢; omega) ?_ ?_
          · intro r hr
            rcases List.mem_append.1 hr with hr | hr
            · have := hc r (List.mem_append_left _ hr); omega
            · obtain rfl := List.mem_singleton.1 hr; show q.f1 + 1 ≤ ((i + 1 : Nat) : Int); omega
          · intro r hr
            rcases List.mem_append.1 hr with hr | hr
            · exact h0 r (List.mem_append_left _ hr)
            · obtain rfl := List.mem_singleton.1 hr; show 0 ≤ q.f1 + 1; omega
        · refine Ev.neg he ?_
          rw [step1_other _ _ _ he]
          exact happ _
  exact loop b.length 0 [] (by omega) (by simp) (by intro r hr; cases hr) (by intro r hr; cases hr)
theorem bytes_ev (l : List S51) (hl : l.length ≤ big) (hb : (bytes l).length ≤ 1000000000000) : Ev (fun k => bureauref03_Bytes.f k l) (bytes l) := by
  unfold big at hl
  have loop : ∀ (d i : Nat) (acc : List Int), i + d = l.length → acc.length + (bytes (l.drop i)).length ≤ 1000000000000 → Ev (fun k => bureauref03_Bytes.l0 k l acc (i : Int)) (acc ++ bytes (l.drop i)) := by
    intro d
    induction d with
    | zero =>
      intro i acc hi _
      refine Ev.step (fun k => by simp only [bureauref03_Bytes.l0]; rfl) ?_
      refine Ev.neg (by omega) ?_
      rw [List.drop_eq_nil_of_le (by omega)]
      exact ev_val (Ev.now _) (by simp [bytes])
    | succ d ih =>
      intro i acc hi hlen
      have hlt : i < l.length := by omega
      rw [dropT hlt, bytes_cons] at hlen ⊢
      rw [List.length_append, List.length_replicate] at hlen
      refine Ev.step (fun k => by simp only [bureauref03_Bytes.l0]; rfl) ?_
      refine Ev.pos (by omega) ?_
      have inner : ∀ (e j : Nat) (acc' : List Int), j + e = (l.getD i z51).f1.toNat → acc' = acc ++ List.replicate j (l.getD i z51).f0 → Ev (fun k => bureauref03_Bytes.l1 k l acc' (i : Int) (j : Int)) (acc ++ (List.replicate (l.getD i z51).f1.toNat (l.getD i z51).f0 ++ bytes (l.drop (i + 1)))) := by
        intro e
        induction e with
        | zero =>
          intro j acc' hj ha
          refine Ev.step (fun k => by simp only [bureauref03_Bytes.l1]; rfl) ?_
          refine Ev.pos (by omega) (Ev.pos (by omega) ?_)
          rw [rdT, w1 hlt (by omega)]
          refine Ev.neg (by omega) ?_
          have := ih (i + 1) acc' (by omega) (by rw [ha, List.length_append, List.length_replicate]; omega)
          refine ev_val this ?_
          rw [ha, List.append_assoc]
          rw [Nat.add_zero] at hj
          rw [hj]
        | succ e ihe =>
          intro j acc' hj ha
          refine Ev.step (fun k => by simp only [bureauref03_Bytes.l1]; rfl) ?_
          refine Ev.pos (by omega) (Ev.pos (by omega) ?_)
          rw [rdT]
          refine Ev.pos (by omega) (Ev.pos (by have hz := congrArg List.length ha; rw [List.length_append, List.length_replicate] at hz; omega) ?_)
          rw [show wrap64 ((j : Int) + 1) = ((j + 1 : Nat) : Int) by unfold wrap64; omega]
          exact ihe (j + 1) _ (by omega) (by rw [ha, List.replicate_succ', List.append_assoc])
      exact inner (l.getD i z51).f1.toNat 0 acc (by omega) (by simp)
  exact ev_val (loop l.length 0 [] (by omega) (by simpa using hb)) (by simp)
theorem good_ev (l : List S51) (hl : l.length ≤ big) : Ev (fun k => runs_Good.f k l) (good l) := by
  have ht := total_ev l hl
  unfold big at hl
  have loop : ∀ (d i : Nat), i + d = l.length → ∀ b : Bool, (b = true ↔ ((0 < i → i < l.length → (l.getD (i - 1) z51).f0 ≠ (l.getD i z51).f0) ∧ nrm (l.drop i) ∧ tot l ≤ 4096)) → Ev (fun k => runs_Good.l0 k l l (l.length : Int) (i : Int)) b := by
    intro d
    induction d with
    | zero =>
      intro i hi b hb
      refine Ev.step (fun k => by simp only [runs_Good.l0]; rfl) ?_
      refine Ev.neg (by omega) ?_
      rw [List.drop_eq_nil_of_le (by omega)] at hb
      refine Ev.bind ht (ev_val (Ev.now _) ?_)
      rw [Bool.eq_iff_iff, hb, decide_eq_true_iff]
      exact ⟨fun h => ⟨fun _ h2 => absurd h2 (by omega), trivial, h⟩, fun h => h.2.2⟩
    | succ d ih =>
      intro i hi b hb
      have hlt : i < l.length := by omega
      have hn : nrm (l.drop i) ↔ 1 ≤ (l.getD i z51).f1 ∧ (i + 1 < l.length → (l.getD i z51).f0 ≠ (l.getD (i + 1) z51).f0) ∧ nrm (l.drop (i + 1)) := by
        rw [dropT hlt]
        by_cases h2 : i + 1 < l.length
        · rw [dropT h2]
          exact ⟨fun h => ⟨h.1, fun _ => h.2.1, h.2.2⟩, fun h => ⟨h.1, h.2.1 h2, h.2.2⟩⟩
        · rw [List.drop_eq_nil_of_le (show l.length ≤ i + 1 by omega)]
          exact ⟨fun h => ⟨h, fun h3 => absurd h3 h2, trivial⟩, fun h => h.1⟩
      refine Ev.step (fun k => by simp only [runs_Good.l0]; rfl) ?_
      refine Ev.pos (by omega) (Ev.pos (by omega) (Ev.pos (by omega) ?_))
      rw [rdT, w1 hlt (by omega)]
      by_cases h1 : (l.getD i z51).f1 < 1
      · refine Ev.pos h1 (ev_val (Ev.now _) ?_)
        rw [Bool.eq_iff_iff, hb, hn]
        exact ⟨fun h => (by cases h), fun h => (by have := h.2.1.1; omega)⟩
      · refine Ev.neg h1 ?_
        have hrest : ∀ b' : Bool, (b' = true ↔ (nrm (l.drop i) ∧ tot l ≤ 4096)) → Ev (fun k => runs_Good.l0 k l l (l.length : Int) ((i + 1 : Nat) : Int)) b' := fun b' hb' => ih (i + 1) (by omega) b' (by
          rw [hb', hn, show i + 1 - 1 = i by omega]
          exact ⟨fun h => ⟨fun _ => h.1.2.1, h.1.2.2, h.2⟩, fun h => ⟨⟨by omega, h.1 (by omega), h.2.1⟩, h.2.2⟩⟩)
        by_cases h0 : 0 < i
        · refine Ev.pos (by omega) ?_
          rw [show wrap64 ((i : Int) - 1) = ((i - 1 : Nat) : Int) by unfold wrap64; omega]
          refine Ev.pos (by omega) (Ev.pos (by omega) ?_)
          rw [rdT]
          by_cases he : (l.getD (i - 1) z51).f0 = (l.getD i z51).f0
          · refine Ev.pos he (ev_val (Ev.now _) ?_)
            rw [Bool.eq_iff_iff, hb]
            exact ⟨fun h => (by cases h), fun h => absurd he (h.1 h0 hlt)⟩
          · refine Ev.neg he (hrest b ?_)
            rw [hb]
            exact ⟨fun h => h.2, fun h => ⟨fun _ _ => he, h⟩⟩
        · refine Ev.neg (by omega) (hrest b ?_)
          rw [hb]
          exact ⟨fun h => h.2, fun h => ⟨fun h3 => absurd h3 h0, h⟩⟩
  refine loop l.length 0 (by omega) (good l) ?_
  simp [good]
theorem rgood_ev (l : List S51) (hl : l.length ≤ big) : Ev (fun k => bureauref03_Good.f k l) (good l) := by
  unfold bureauref03_Good.f
  refine Ev.bind (rtotal_ev l hl) ?_
  by_cases ht : tot l > 4096
  · exact Ev.pos ht (ev_val (Ev.now _) (by simp [good]; intro _; omega))
  · refine Ev.neg ht ?_
    have hb : (bytes l).length ≤ 4096 := by have := tot_bytes (l := l) (by omega); omega
    refine Ev.bind (bytes_ev l hl (by omega)) (Ev.bind (pack_ev _ (by omega)) (Ev.bind (same_ev _ _ hl) ?_))
    refine ev_val (Ev.now _) ?_
    rw [good, show decide (tot l ≤ 4096) = true by simp; omega, Bool.and_true]
    exact decide_eq_decide.2 nrm_iff.symm
end Go.Proofs.Ytnbdldpjiofafaa.PB
end

section
namespace Go.Proofs.Ytnbdldpjiofafaa.Opn
open Go.ChangeShapes Go.WideShapes Go.Deep Go.Proofs.YtnbdldpjiofafaaW.PrintWords
set_option linter.unusedVariables false
def Opn {α : Type} (P : Program) (w : World) (t : TypeId) (d : Kd α) (wf : α → Prop) : Prop :=
  ∀ (H : Type) (enc : TypeId × Value → H) (base : Nat) (spare : Nat → Bool) (held : Bool) (fuel : Nat) (cs : List Value) (x : DataW H × List MemPlace),
    DataW.trod enc P w base spare held fuel t cs = some x → (∀ n ∈ x.1.weights P t, n ≤ reachBytes) → ∃ a : α, d.K w a cs ∧ wf a
section
variable {P : Program} {w : World}
theorem int {t : TypeId} {k : IntKind} (hu : P.underlying t = some (.int k)) : Opn P w t (Kd.int k) (fun n => (Lit.int k n).wf = true) := by
  intro H enc base spare held fuel cs x h _
  obtain ⟨n, rfl, _, hw⟩ := DataW.trod_int hu h
  exact ⟨n, rfl, hw⟩
theorem bool {t : TypeId} (hu : P.underlying t = some .bool) : Opn P w t Kd.bool (fun _ => True) := by
  intro H enc base spare held fuel cs x h _
  obtain ⟨b, rfl, _⟩ := DataW.trod_bool hu h
  exact ⟨b, rfl, trivial⟩
theorem string {t : TypeId} (hu : P.underlying t = some .string) : Opn P w t Kd.string (fun s => s.size ≤ 140737488351232) := by
  intro H enc base spare held fuel cs x h hz
  obtain ⟨s, rfl, rfl, _⟩ := DataW.trod_string hu h
  refine ⟨s, rfl, ?_⟩
  have := hz s.data.toList.length (by simp [DataW.weights])
  rw [data_length] at this
  exact this
theorem weightsAll_mem {H : Type} {e : TypeId} : ∀ {ds : List (DataW H)} {d : DataW H}, d ∈ ds → ∀ n ∈ d.weights P e, n ∈ DataW.weightsAll P e ds
  | d0 :: ds, d, hd, n, hn => by
    simp only [DataW.weightsAll, List.mem_append]
    rcases List.mem_cons.1 hd with rfl | hd
    · exact .inl hn
    · exact .inr (weightsAll_mem hd n hn)
theorem slice {α : Type} {t e : TypeId} {d : Kd α} {wf : α → Prop} (hu : P.underlying t = some (.slice e)) (hc : P.cellsOf e = d.sz) {B : Nat} (hB : P.bytesOf e = B) (ho : Opn P w e d wf) :
    Opn P w t (Kd.slice e d) (fun xs => xs.length * B ≤ 140737488351232 ∧ ∀ x ∈ xs, wf x) := by
  intro H enc base spare held fuel cs x h hz
  rcases open_slice hu h with ⟨rfl, rfl⟩ | ⟨a, len, cap, m, n, D, Pl, rfl, hb, hl, hm, hmm, rfl, hel⟩
  · exact ⟨[], ⟨none, 0, rfl, Nat.le_refl _, Kd.C_nil _ _⟩, by simp, by intro x hx; cases hx⟩
  · simp only [DataW.weights, hu, List.mem_cons, List.mem_append] at hz
    have hlm : len ≤ m := by rw [hmm]; split <;> omega
    have hall : ∀ i, i < len → ∃ a' : α, (∃ cs', w.cells? base (a.add (i * P.cellsOf e)) (P.cellsOf e) = some cs' ∧ d.K w a' cs') ∧ wf a' := fun i hi => by
      obtain ⟨cs', h1, h2⟩ := hel i (by omega)
      obtain ⟨a', h3, h4⟩ := ho H enc base spare held n cs' _ h2 (fun q hq => hz q (.inr (.inl (weightsAll_mem (List.mem_map.2 ⟨i, List.mem_range.2 hi, rfl⟩) q hq))))
      exact ⟨a', ⟨cs', h1, h3⟩, h4⟩
    obtain ⟨xs, hxs, hx⟩ : ∃ xs : List α, xs.length = len ∧ ∀ i, ∀ h : i < xs.length, (∃ cs', w.cells? base (a.add (i * P.cellsOf e)) (P.cellsOf e) = some cs' ∧ d.K w xs[i] cs') ∧ wf xs[i] := by
      clear hz hel hlm hmm hm hl h
      induction len with
      | zero => exact ⟨[], rfl, fun i h => absurd h (by simp)⟩
      | succ q ih =>
        obtain ⟨xs, h1, h2⟩ := ih (fun i hi => hall i (by omega))
        obtain ⟨a', h3⟩ := hall q (by omega)
        refine ⟨xs ++ [a'], by simp [h1], fun i h => ?_⟩
        by_cases hi : i < xs.length
        · rw [List.getElem_append_left hi]; exact h2 i hi
        · have : i = q := by simp at h; omega
          subst this
          rw [List.getElem_append_right (by omega)]
          simpa using h3
    refine ⟨xs, ⟨some a, cap, by rw [hxs], by omega, rfl, by have : cap ≤ 9223372036854775807 := hm; omega, fun hp => ⟨a, rfl, fun i p hp => ?_⟩⟩, ?_, ?_⟩
    · have hi : i < xs.length := (List.getElem?_eq_some_iff.1 hp).1
      have hpe : p = xs[i] := by rw [List.getElem?_eq_getElem hi] at hp; exact (Option.some.inj hp).symm
      obtain ⟨⟨cs', h1, h2⟩, _⟩ := hx i hi
      rw [hc] at h1
      obtain ⟨_, hcl, hat⟩ := World.cells?_some h1
      refine ⟨cs', by rw [hcl], by rw [hpe]; exact h2, fun j u hu => ?_⟩
      have hj : j < d.sz := by have := (List.getElem?_eq_some_iff.1 hu).1; omega
      have := hat j hj
      rw [← Go.Deep.add_add, this, hu]
    · have := hz _ (.inl rfl)
      rw [hB] at this
      simp only [List.length_map, List.length_range] at this
      rw [hxs]
      exact Nat.le_trans (Nat.mul_le_mul_right _ (by omega)) this
    · intro x hxm
      obtain ⟨i, hi, rfl⟩ := List.mem_iff_getElem.1 hxm
      exact (hx i hi).2
end
end Go.Proofs.Ytnbdldpjiofafaa.Opn
end

section
namespace Go.Proofs.Ytnbdldpjiofafaa.PB
open Go.ChangeShapes Go.WideShapes Go.Proofs.Ytnbdldpjiofafaa Go.Proofs.YtnbdldpjiofafaaW.PrintWords
set_option linter.unusedVariables false
def wf51 (x : S51) : Prop := ((Lit.int .u64 x.f0).wf = true) ∧ ((Lit.int .i64 x.f1).wf = true)
theorem opn51 {w : World} : Opn.Opn Try.prog w 51 k51 wf51 := by
  intro H enc base spare held fuel cs x h hz
  obtain ⟨xs, n, _, rfl, hlen, hyl, hf⟩ := DataW.trod_struct Try.underlying51 h
  have hcl : cs.length = 2 := hlen.trans (by kernel_rfl)
  obtain ⟨y0, y1, rfl⟩ : ∃ y0 y1, xs = [y0, y1] := by
    clear h hz hf hlen hcl; have hyl' : xs.length = 2 := hyl; clear hyl
    match xs, hyl' with | [y0, y1], _ => exact ⟨y0, y1, rfl⟩
  obtain ⟨c0, c1, rfl⟩ : ∃ c0 c1, cs = [c0, c1] := by
    clear h hz hf hlen hyl
    match cs, hcl with | [c0, c1], _ => exact ⟨c0, c1, rfl⟩
  simp only [DataW.weights, Try.underlying51] at hz
  have h0 : DataW.trod enc Try.prog w base spare held n 26 [c0] = some y0 := by have z := hf 0 _ rfl; rwa [show Try.prog.cellsOf _ = 1 from by kernel_rfl] at z
  obtain ⟨a0, k0_, w0⟩ := (Opn.int Try.underlying26) H enc base spare held n _ _ h0 (fun q hq => hz q (by simp [DataW.weightsEach, hq]))
  have h1 : DataW.trod enc Try.prog w base spare held n 3 [c1] = some y1 := by have z := hf 1 _ rfl; rwa [show Try.prog.cellsOf _ = 1 from by kernel_rfl] at z
  obtain ⟨a1, k1_, w1⟩ := (Opn.int Try.underlying3) H enc base spare held n _ _ h1 (fun q hq => hz q (by simp [DataW.weightsEach, hq]))
  exact ⟨⟨a0, a1⟩, ⟨_, _, rfl, k0_, k1_⟩, w0, w1⟩
def wf24 (x : S24) : Prop := (x.f0.size ≤ 140737488351232) ∧ (x.f1.length * 16 ≤ 140737488351232 ∧ ∀ x_ ∈ x.f1, wf51 x_)
theorem opn24 {w : World} : Opn.Opn Try.prog w 24 k24 wf24 := by
  intro H enc base spare held fuel cs x h hz
  obtain ⟨xs, n, _, rfl, hlen, hyl, hf⟩ := DataW.trod_struct Try.underlying24 h
  have hcl : cs.length = 2 := hlen.trans (by kernel_rfl)
  obtain ⟨y0, y1, rfl⟩ : ∃ y0 y1, xs = [y0, y1] := by
    clear h hz hf hlen hcl; have hyl' : xs.length = 2 := hyl; clear hyl
    match xs, hyl' with | [y0, y1], _ => exact ⟨y0, y1, rfl⟩
  obtain ⟨c0, c1, rfl⟩ : ∃ c0 c1, cs = [c0, c1] := by
    clear h hz hf hlen hyl
    match cs, hcl with | [c0, c1], _ => exact ⟨c0, c1, rfl⟩
  simp only [DataW.weights, Try.underlying24] at hz
  have h0 : DataW.trod enc Try.prog w base spare held n 9 [c0] = some y0 := by have z := hf 0 _ rfl; rwa [show Try.prog.cellsOf _ = 1 from by kernel_rfl] at z
  obtain ⟨a0, k0_, w0⟩ := (Opn.string Try.underlying9) H enc base spare held n _ _ h0 (fun q hq => hz q (by simp [DataW.weightsEach, hq]))
  have h1 : DataW.trod enc Try.prog w base spare held n 22 [c1] = some y1 := by have z := hf 1 _ rfl; rwa [show Try.prog.cellsOf _ = 1 from by kernel_rfl] at z
  obtain ⟨a1, k1_, w1⟩ := (Opn.slice Try.underlying22 (by kernel_rfl) (by kernel_rfl : Try.prog.bytesOf 51 = 16) opn51) H enc base spare held n _ _ h1 (fun q hq => hz q (by simp [DataW.weightsEach, hq]))
  exact ⟨⟨a0, a1⟩, ⟨_, _, rfl, k0_, k1_⟩, w0, w1⟩
structure S28 where
  f0 : Int
  f1 : Int
  f2 : ByteArray
  f3 : ByteArray
  f4 : Bool
def z28 : S28 := ⟨(0 : Int), (0 : Int), (⟨#[]⟩ : ByteArray), (⟨#[]⟩ : ByteArray), false⟩
def k28 : Kd S28 := Kd.iso (Kd.pair (Kd.int .i64) (Kd.pair (Kd.int .i64) (Kd.pair Kd.string (Kd.pair Kd.string Kd.bool)))) (fun x : S28 => (x.f0, x.f1, x.f2, x.f3, x.f4))
theorem k28_open {w : World} {x : S28} {cs : List Value} (h : k28.K w x cs) : cs = [.int .i64 x.f0, .int .i64 x.f1, .string x.f2, .string x.f3, .bool x.f4] := by
  obtain ⟨_, _, rfl, rfl, ⟨_, _, rfl, rfl, ⟨_, _, rfl, rfl, ⟨_, _, rfl, rfl, rfl⟩⟩⟩⟩ := h
  exact rfl
def wf28 (x : S28) : Prop := ((Lit.int .i64 x.f0).wf = true) ∧ ((Lit.int .i64 x.f1).wf = true) ∧ (x.f2.size ≤ 140737488351232) ∧ (x.f3.size ≤ 140737488351232) ∧ (True)
theorem opn28 {w : World} : Opn.Opn Try.prog w 28 k28 wf28 := by
  intro H enc base spare held fuel cs x h hz
  obtain ⟨xs, n, _, rfl, hlen, hyl, hf⟩ := DataW.trod_struct Try.underlying28 h
  have hcl : cs.length = 5 := hlen.trans (by kernel_rfl)
  obtain ⟨y0, y1, y2, y3, y4, rfl⟩ : ∃ y0 y1 y2 y3 y4, xs = [y0, y1, y2, y3, y4] := by
    clear h hz hf hlen hcl; have hyl' : xs.length = 5 := hyl; clear hyl
    match xs, hyl' with | [y0, y1, y2, y3, y4], _ => exact ⟨y0, y1, y2, y3, y4, rfl⟩
  obtain ⟨c0, c1, c2, c3, c4, rfl⟩ : ∃ c0 c1 c2 c3 c4, cs = [c0, c1, c2, c3, c4] := by
    clear h hz hf hlen hyl
    match cs, hcl with | [c0, c1, c2, c3, c4], _ => exact ⟨c0, c1, c2, c3, c4, rfl⟩
  simp only [DataW.weights, Try.underlying28] at hz
  have h0 : DataW.trod enc Try.prog w base spare held n 3 [c0] = some y0 := by have z := hf 0 _ rfl; rwa [show Try.prog.cellsOf _ = 1 from by kernel_rfl] at z
  obtain ⟨a0, k0_, w0⟩ := (Opn.int Try.underlying3) H enc base spare held n _ _ h0 (fun q hq => hz q (by simp [DataW.weightsEach, hq]))
  have h1 : DataW.trod enc Try.prog w base spare held n 3 [c1] = some y1 := by have z := hf 1 _ rfl; rwa [show Try.prog.cellsOf _ = 1 from by kernel_rfl] at z
  obtain ⟨a1, k1_, w1⟩ := (Opn.int Try.underlying3) H enc base spare held n _ _ h1 (fun q hq => hz q (by simp [DataW.weightsEach, hq]))
  have h2 : DataW.trod enc Try.prog w base spare held n 9 [c2] = some y2 := by have z := hf 2 _ rfl; rwa [show Try.prog.cellsOf _ = 1 from by kernel_rfl] at z
  obtain ⟨a2, k2_, w2⟩ := (Opn.string Try.underlying9) H enc base spare held n _ _ h2 (fun q hq => hz q (by simp [DataW.weightsEach, hq]))
  have h3 : DataW.trod enc Try.prog w base spare held n 9 [c3] = some y3 := by have z := hf 3 _ rfl; rwa [show Try.prog.cellsOf _ = 1 from by kernel_rfl] at z
  obtain ⟨a3, k3_, w3⟩ := (Opn.string Try.underlying9) H enc base spare held n _ _ h3 (fun q hq => hz q (by simp [DataW.weightsEach, hq]))
  have h4 : DataW.trod enc Try.prog w base spare held n 4 [c4] = some y4 := by have z := hf 4 _ rfl; rwa [show Try.prog.cellsOf _ = 1 from by kernel_rfl] at z
  obtain ⟨a4, k4_, w4⟩ := (Opn.bool Try.underlying4) H enc base spare held n _ _ h4 (fun q hq => hz q (by simp [DataW.weightsEach, hq]))
  exact ⟨⟨a0, a1, a2, a3, a4⟩, ⟨_, _, rfl, k0_, ⟨_, _, rfl, k1_, ⟨_, _, rfl, k2_, ⟨_, _, rfl, k3_, k4_⟩⟩⟩⟩, w0, w1, w2, w3, w4⟩
structure S46 where
  f0 : S28
  f1 : ByteArray
def z46 : S46 := ⟨z28, (⟨#[]⟩ : ByteArray)⟩
def k46 : Kd S46 := Kd.iso (Kd.pair k28 Kd.string) (fun x : S46 => (x.f0, x.f1))
theorem k46_open {w : World} {x : S46} {cs : List Value} (h : k46.K w x cs) : cs = [.int .i64 x.f0.f0, .int .i64 x.f0.f1, .string x.f0.f2, .string x.f0.f3, .bool x.f0.f4, .string x.f1] := by
  obtain ⟨_, _, rfl, s0, rfl⟩ := h
  obtain rfl := k28_open s0
  exact rfl
def wf46 (x : S46) : Prop := (wf28 x.f0) ∧ (x.f1.size ≤ 140737488351232)
theorem opn46 {w : World} : Opn.Opn Try.prog w 46 k46 wf46 := by
  intro H enc base spare held fuel cs x h hz
  obtain ⟨xs, n, _, rfl, hlen, hyl, hf⟩ := DataW.trod_struct Try.underlying46 h
  have hcl : cs.length = 6 := hlen.trans (by kernel_rfl)
  obtain ⟨y0, y1, rfl⟩ : ∃ y0 y1, xs = [y0, y1] := by
    clear h hz hf hlen hcl; have hyl' : xs.length = 2 := hyl; clear hyl
    match xs, hyl' with | [y0, y1], _ => exact ⟨y0, y1, rfl⟩
  obtain ⟨c0, c1, c2, c3, c4, c5, rfl⟩ : ∃ c0 c1 c2 c3 c4 c5, cs = [c0, c1, c2, c3, c4, c5] := by
    clear h hz hf hlen hyl
    match cs, hcl with | [c0, c1, c2, c3, c4, c5], _ => exact ⟨c0, c1, c2, c3, c4, c5, rfl⟩
  simp only [DataW.weights, Try.underlying46] at hz
  have h0 : DataW.trod enc Try.prog w base spare held n 28 [c0, c1, c2, c3, c4] = some y0 := by have z := hf 0 _ rfl; rwa [show Try.prog.cellsOf _ = 5 from by kernel_rfl] at z
  obtain ⟨a0, k0_, w0⟩ := opn28 H enc base spare held n _ _ h0 (fun q hq => hz q (by simp [DataW.weightsEach, hq]))
  have h1 : DataW.trod enc Try.prog w base spare held n 9 [c5] = some y1 := by have z := hf 1 _ rfl; rwa [show Try.prog.cellsOf _ = 1 from by kernel_rfl] at z
  obtain ⟨a1, k1_, w1⟩ := (Opn.string Try.underlying9) H enc base spare held n _ _ h1 (fun q hq => hz q (by simp [DataW.weightsEach, hq]))
  exact ⟨⟨a0, a1⟩, ⟨_, _, rfl, k0_, k1_⟩, w0, w1⟩
end Go.Proofs.Ytnbdldpjiofafaa.PB
end

section
namespace Go.Proofs.Ytnbdldpjiofafaa.PB
open Go.RowKit Go.Proofs.YtnbdldpjiofafaaW.PrintWords
set_option linter.unusedVariables false
theorem capped_nil : capped 0 [] := fun r hr => by cases hr
theorem gather0 (a b : Nat) (l : List S51) (h0 : ∀ r ∈ l, 0 ≤ r.f1) (hl : (bytes l).length ≤ 500000) (ha : a ≤ 500000) (hb : b ≤ 500000) :
    someTo addRun (a : Int) (b : Int) l 0 [] = pack (((bytes l).take b).drop a) := by
  have := someTo_pack a b l 0 [] 0 h0 capped_nil (by omega) (by omega) (by omega) (by omega) (by omega)
  simpa [pack] using this
theorem gather_all (l : List S51) (h0 : ∀ r ∈ l, 0 ≤ r.f1) (hl : (bytes l).length ≤ 4096) : someTo addRun 0 4096 l 0 [] = pack (bytes l) := by
  have := gather0 0 4096 l h0 (by omega) (by omega) (by omega)
  rw [List.take_of_length_le (by omega), List.drop_zero] at this
  exact this
def normalS (l : List S51) : List S51 × Int :=
  if (∃ j : Nat, j < l.length ∧ (rd_T51 l (j : Int)).f1 < 0) then ([], 2) else if tot l > 4096 then ([], 3) else (pack (bytes l), 0)
theorem notneg {l : List S51} (h : ¬ ∃ j : Nat, j < l.length ∧ (rd_T51 l (j : Int)).f1 < 0) : ∀ r ∈ l, 0 ≤ r.f1 := fun r hr => by
  obtain ⟨j, hj, rfl⟩ := List.mem_iff_getElem.1 hr
  have hh : ¬ (rd_T51 l (j : Int)).f1 < 0 := fun hn => h ⟨j, hj, hn⟩
  rw [rdT, List.getD_eq_getElem?_getD, List.getElem?_eq_getElem hj] at hh
  simp at hh
  exact hh
theorem normal_ev (l : List S51) (hl : l.length ≤ big) : Ev (fun k => runs_Normal.f k l) (normalS l) := by
  unfold runs_Normal.f normalS
  refine Ev.ite (fun _ => Ev.now _) (fun hn => ?_)
  refine Ev.bind (total_ev l hl) ?_
  refine Ev.ite (fun _ => Ev.now _) (fun ht => ?_)
  unfold big at hl
  refine Ev.pos (by omega) (ev_val (Ev.now _) ?_)
  have hb := tot_bytes (l := l) (by omega)
  rw [gather_all l (notneg hn) (by omega)]
theorem good_nrm {l : List S51} (h : good l = true) : nrm l ∧ tot l ≤ 4096 := by
  unfold good at h
  simpa using h
theorem nrm_nonneg {l : List S51} (h : nrm l) : ∀ r ∈ l, 0 ≤ r.f1 := fun r hr => by have := nrm_pos h r hr; omega
theorem step1_len (acc : List S51) (x : Int) : (step1 acc x).length ≤ acc.length + 1 := by
  unfold step1
  split
  · simp
  · simp
theorem packTo_len (b : List Int) : ∀ acc : List S51, (packTo acc b).length ≤ acc.length + b.length := by
  induction b with
  | nil => intro acc; simp [packTo]
  | cons x b ih => intro acc; have h1 := ih (step1 acc x); have h2 := step1_len acc x; show (packTo (step1 acc x) b).length ≤ _; rw [List.length_cons]; omega
theorem pack_len (b : List Int) : (pack b).length ≤ b.length := by have := packTo_len b []; simpa [pack] using this
end Go.Proofs.Ytnbdldpjiofafaa.PB
end

section
namespace Go.Proofs.Ytnbdldpjiofafaa.PB
open Go.RowKit Go.Proofs.YtnbdldpjiofafaaW.PrintWords
set_option linter.unusedVariables false
def withinB (l : List S51) (a b : Int) : Bool := good l && (decide (0 ≤ a) && (decide (a ≤ b) && decide (b ≤ tot l)))
theorem withinB_iff {l : List S51} {a b : Int} : withinB l a b = true ↔ good l = true ∧ 0 ≤ a ∧ a ≤ b ∧ b ≤ tot l := by simp [withinB]
theorem within_ev (l : List S51) (hl : l.length ≤ big) (a b : Int) : Ev (fun k => runs_within.f k l a b) (withinB l a b) := by
  unfold runs_within.f
  refine Ev.bind (good_ev l hl) ?_
  by_cases hg : good l = true
  · refine Ev.pos hg ?_
    by_cases h0 : a ≥ 0
    · refine Ev.pos h0 ?_
      by_cases h1 : a ≤ b
      · refine Ev.pos h1 (Ev.bind (total_ev l hl) (ev_val (Ev.now _) ?_))
        simp [withinB, hg, h1, show 0 ≤ a from h0]
      · exact Ev.neg h1 (ev_val (Ev.now _) (by simp [withinB, h1]))
    · exact Ev.neg h0 (ev_val (Ev.now _) (by simp [withinB]; intro _ h; omega))
  · exact Ev.neg hg (ev_val (Ev.now _) (by simp [withinB, hg]))
theorem within_facts {l : List S51} {a b : Int} (h : withinB l a b = true) : ∃ i j : Nat, a = i ∧ b = j ∧ i ≤ j ∧ j ≤ (bytes l).length ∧ (bytes l).length ≤ 4096 ∧ nrm l ∧ tot l = (bytes l).length := by
  obtain ⟨hg, h0, h1, h2⟩ := withinB_iff.1 h
  obtain ⟨hn, ht⟩ := good_nrm hg
  have hb := tot_bytes ht
  obtain ⟨i, rfl⟩ := Int.eq_ofNat_of_zero_le h0
  obtain ⟨j, rfl⟩ := Int.eq_ofNat_of_zero_le (show 0 ≤ b by omega)
  exact ⟨i, j, rfl, rfl, by omega, by omega, by omega, hn, hb⟩
def sliceS (l : List S51) (a b : Int) : List S51 × Int := if withinB l a b = true then (pack (((bytes l).take b.toNat).drop a.toNat), 0) else ([], 2)
theorem slice_ev (l : List S51) (hl : l.length ≤ big) (a b : Int) : Ev (fun k => runs_Slice.f k l a b) (sliceS l a b) := by
  unfold runs_Slice.f sliceS
  refine Ev.bind (within_ev l hl a b) ?_
  refine Ev.ite (fun hw => ?_) (fun _ => Ev.now _)
  obtain ⟨i, j, rfl, rfl, hij, hj, h4, hn, _⟩ := within_facts hw
  unfold big at hl
  refine Ev.pos (by omega) (ev_val (Ev.now _) ?_)
  rw [gather0 i j l (nrm_nonneg hn) (by omega) (by omega) (by omega)]
  rfl
def pos1 (l : List S51) : List Int := (l.filter (fun r => decide (r.f1 > 0))).map (·.f0)
theorem pos1_cons (r : S51) (l : List S51) : pos1 (r :: l) = if r.f1 > 0 then r.f0 :: pos1 l else pos1 l := by
  unfold pos1
  rw [List.filter_cons]
  by_cases h : r.f1 > 0 <;> simp [h]
theorem all_ev (l : List S51) (hl : l.length ≤ big) : Ev (fun k => runs_All.f k l) (orAllI (pos1 l)) := by
  unfold big at hl
  have loop : ∀ (d i : Nat) (n : Int), i + d = l.length → Ev (fun k => runs_All.l0 k n l (l.length : Int) (i : Int)) ((pos1 (l.drop i)).foldl (fun a x => Go.bits .or .u64 a x) n) := by
    intro d
    induction d with
    | zero =>
      intro i n hi
      refine Ev.step (fun k => by simp only [runs_All.l0]; rfl) ?_
      refine Ev.neg (by omega) ?_
      rw [List.drop_eq_nil_of_le (by omega)]
      exact Ev.now _
    | succ d ih =>
      intro i n hi
      have hlt : i < l.length := by omega
      refine Ev.step (fun k => by simp only [runs_All.l0]; rfl) ?_
      refine Ev.pos (by omega) (Ev.pos (by omega) (Ev.pos (by omega) ?_))
      rw [rdT, w1 hlt (by omega), dropT hlt, pos1_cons]
      by_cases hp : (l.getD i z51).f1 > 0
      · refine Ev.pos hp ?_
        rw [if_pos hp]
        unfold label_Join.f
        refine Ev.bind (Ev.now _) ?_
        exact ih (i + 1) _ (by omega)
      · refine Ev.neg hp ?_
        rw [if_neg hp]
        exact ih (i + 1) _ (by omega)
  exact loop l.length 0 0 (by omega)
theorem wf_u64 {n : Int} (h : (Lit.int .u64 n).wf = true) : 0 ≤ n ∧ n < 18446744073709551616 := by
  have hmin : IntKind.u64.min = 0 := rfl
  have hmax : IntKind.u64.max = 18446744073709551615 := rfl
  simp only [Lit.wf, Bool.and_eq_true, decide_eq_true_eq, hmin, hmax] at h
  omega
theorem wf_labels {l : List S51} (h : ∀ x ∈ l, wf51 x) : ∀ r ∈ l, 0 ≤ r.f0 ∧ r.f0 < 18446744073709551616 := fun r hr => wf_u64 (h r hr).1
def spliceS (l : List S51) (a b : Int) (m : List S51) : List S51 × Int :=
  if withinB l a b = true then (if good m = true then (if tot l - (b - a) + tot m > 4096 then ([], 3) else (pack ((bytes l).take a.toNat ++ bytes m ++ (bytes l).drop b.toNat), 0)) else ([], 2)) else ([], 2)
theorem good_facts {m : List S51} (h : good m = true) : nrm m ∧ (bytes m).length ≤ 4096 ∧ tot m = (bytes m).length := by
  obtain ⟨hn, ht⟩ := good_nrm h
  have hb := tot_bytes ht
  exact ⟨hn, by omega, hb⟩
theorem spliceRuns_pack (l m : List S51) (i j : Nat) (hi : i ≤ 4096) (hj : j ≤ 4096) (hl : (bytes l).length ≤ 4096) (hm : (bytes m).length ≤ 4096) (hn : nrm l) (hnm : nrm m) :
    spliceRuns l i j m = pack ((bytes l).take i ++ bytes m ++ (bytes l).drop j) := by
  unfold spliceRuns
  have e1 := someTo_pack 0 i l 0 [] 0 (nrm_nonneg hn) capped_nil (by omega) (by omega) (by omega) (by omega) (by omega)
  rw [show ((0 : Nat) : Int) = 0 from rfl, Nat.sub_zero, Nat.sub_zero, List.drop_zero] at e1
  rw [e1]
  have c1 := packTo_capped ((bytes l).take i) (capped_nil) (show (0 : Int) ≤ 0 by omega)
  have hlen1 : ((bytes l).take i).length ≤ 4096 := by rw [List.length_take]; omega
  have e2 := someTo_pack 0 4096 m 0 _ _ (nrm_nonneg hnm) c1 (by omega) (by omega) (by omega) (by omega) (by omega)
  rw [show ((0 : Nat) : Int) = 0 from rfl, show ((4096 : Nat) : Int) = 4096 from rfl, Nat.sub_zero, Nat.sub_zero, List.drop_zero, List.take_of_length_le hm] at e2
  rw [e2]
  have c2 := packTo_capped (bytes m) c1 (by omega)
  have e3 := someTo_pack j 4096 l 0 _ _ (nrm_nonneg hn) c2 (by omega) (by omega) (by omega) (by omega) (by omega)
  rw [show ((0 : Nat) : Int) = 0 from rfl, show ((4096 : Nat) : Int) = 4096 from rfl, Nat.sub_zero, Nat.sub_zero, List.take_of_length_le hl] at e3
  rw [e3]
  unfold pack
  rw [packTo_append, packTo_append]
theorem splice_ev (l : List S51) (hl : l.length ≤ big) (a b : Int) (m : List S51) (hm : m.length ≤ big) : Ev (fun k => runs_Splice.f k l a b m) (spliceS l a b m) := by
  unfold runs_Splice.f spliceS
  refine Ev.bind (within_ev l hl a b) ?_
  refine Ev.ite (fun hw => ?_) (fun _ => Ev.now _)
  refine Ev.bind (good_ev m hm) ?_
  refine Ev.ite (fun hg => ?_) (fun _ => Ev.now _)
  refine Ev.bind (total_ev l hl) (Ev.bind (total_ev m hm) ?_)
  obtain ⟨i, j, rfl, rfl, hij, hj, h4, hn, ht⟩ := within_facts hw
  obtain ⟨hnm, h4m, htm⟩ := good_facts hg
  rw [show wrap64 (wrap64 (tot l - wrap64 ((j : Int) - (i : Int))) + tot m) = tot l - ((j : Int) - (i : Int)) + tot m by unfold wrap64; omega]
  refine Ev.ite (fun _ => Ev.now _) (fun _ => ?_)
  unfold big at hl hm
  refine Ev.pos (by omega) (ev_val (Ev.now _) ?_)
  rw [spliceRuns_pack l m i j (by omega) (by omega) h4 h4m hn hnm]
  rfl
theorem good_pack {b : List Int} (h : b.length ≤ 4096) : good (pack b) = true ∧ tot (pack b) = b.length := by
  have hn := pack_nrm b
  have ht : tot (pack b) = b.length := by
    rw [tot_of_bytes (nrm_nonneg hn) (by rw [pack_bytes]; exact h), pack_bytes]
  exact ⟨by unfold good; rw [Bool.and_eq_true, decide_eq_true_iff, decide_eq_true_iff]; exact ⟨hn, by omega⟩, ht⟩
end Go.Proofs.Ytnbdldpjiofafaa.PB
end

section
namespace Go.Proofs.Ytnbdldpjiofafaa.PB
open Go.RowKit Go.Proofs.YtnbdldpjiofafaaW.PrintWords
set_option linter.unusedVariables false
theorem bytes_mem {l : List S51} {x : Int} (h : x ∈ bytes l) : ∃ r ∈ l, r.f0 = x := by
  obtain ⟨r, hr, hx⟩ := List.mem_flatMap.1 h
  exact ⟨r, hr, (List.eq_of_mem_replicate hx).symm⟩
end Go.Proofs.Ytnbdldpjiofafaa.PB
end

section
namespace Go.Proofs.Ytnbdldpjiofafaa.PB
open Go.RowKit Go.Proofs.YtnbdldpjiofafaaW.PrintWords
set_option linter.unusedVariables false
def goodT (s : ByteArray) (l : List S51) : Bool := good l && decide (tot l = (s.size : Int))
theorem goodT_iff {s : ByteArray} {l : List S51} : goodT s l = true ↔ good l = true ∧ tot l = (s.size : Int) := by simp [goodT]
theorem goodT_facts {s : ByteArray} {l : List S51} (h : goodT s l = true) : good l = true ∧ nrm l ∧ (bytes l).length = s.size ∧ s.size ≤ 4096 ∧ tot l = (s.size : Int) := by
  obtain ⟨h1, h2⟩ := goodT_iff.1 h
  obtain ⟨h3, h4, h5⟩ := good_facts h1
  exact ⟨h1, h3, by omega, by omega, h2⟩
theorem goodT_ev (s : ByteArray) (l : List S51) (hl : l.length ≤ big) : Ev (fun k => strip_Good.f k s l) (goodT s l) := by
  unfold strip_Good.f
  refine Ev.bind (good_ev l hl) ?_
  by_cases hg : good l = true
  · rw [hg]
    exact Ev.pos rfl (Ev.bind (total_ev l hl) (ev_val (Ev.now _) (by rw [Bool.eq_iff_iff]; simp [goodT, hg])))
  · exact Ev.neg hg (ev_val (Ev.now _) (by simp [goodT, hg]))
theorem rgoodT_ev (s : ByteArray) (l : List S51) (hl : l.length ≤ big) : Ev (fun k => bureauref04_Good.f k s l) (goodT s l) := by
  unfold bureauref04_Good.f
  refine Ev.bind (rgood_ev l hl) ?_
  by_cases hg : good l = true
  · rw [hg]
    exact Ev.pos rfl (Ev.bind (rtotal_ev l hl) (ev_val (Ev.now _) (by rw [Bool.eq_iff_iff]; simp [goodT, hg])))
  · exact Ev.neg hg (ev_val (Ev.now _) (by simp [goodT, hg]))
def withinT (s : ByteArray) (l : List S51) (a b : Int) : Bool := goodT s l && (decide (0 ≤ a) && (decide (a ≤ b) && decide (b ≤ (s.size : Int))))
theorem withinT_iff {s : ByteArray} {l : List S51} {a b : Int} : withinT s l a b = true ↔ goodT s l = true ∧ 0 ≤ a ∧ a ≤ b ∧ b ≤ (s.size : Int) := by simp [withinT]
theorem withinT_ev (s : ByteArray) (l : List S51) (hl : l.length ≤ big) (a b : Int) : Ev (fun k => strip_within.f k s l a b) (withinT s l a b) := by
  unfold strip_within.f
  refine Ev.bind (goodT_ev s l hl) ?_
  by_cases hg : goodT s l = true
  · refine Ev.pos hg ?_
    by_cases h0 : 0 ≤ a
    · refine Ev.pos h0 ?_
      by_cases h1 : a ≤ b
      · exact Ev.pos h1 (ev_val (Ev.now _) (by simp [withinT, hg, h0, h1]))
      · exact Ev.neg h1 (ev_val (Ev.now _) (by simp [withinT, h1]))
    · exact Ev.neg h0 (ev_val (Ev.now _) (by simp [withinT, h0]))
  · exact Ev.neg hg (ev_val (Ev.now _) (by simp [withinT, hg]))
theorem withinT_facts {s : ByteArray} {l : List S51} {a b : Int} (h : withinT s l a b = true) : ∃ i j : Nat, a = i ∧ b = j ∧ i ≤ j ∧ j ≤ s.size ∧ goodT s l = true ∧ withinB l a b = true := by
  obtain ⟨h1, h2, h3, h4⟩ := withinT_iff.1 h
  obtain ⟨g1, g2, g3, g4, g5⟩ := goodT_facts h1
  obtain ⟨i, rfl⟩ := Int.eq_ofNat_of_zero_le h2
  obtain ⟨j, rfl⟩ := Int.eq_ofNat_of_zero_le (show 0 ≤ b by omega)
  exact ⟨i, j, rfl, rfl, by omega, by omega, h1, withinB_iff.2 ⟨g1, by omega, by omega, by omega⟩⟩
abbrev TX := ByteArray × List S51 × Int
def makeS (s : ByteArray) (y : Int) : TX := if (s.size : Int) > 4096 then (⟨#[]⟩, [], 3) else (s, pack (List.replicate s.size y), 0)
theorem normal_one (y : Int) (n : Nat) : normalS [⟨y, (n : Int)⟩] = if (n : Int) > 4096 then ([], 3) else (pack (List.replicate n y), 0) := by
  unfold normalS
  rw [if_neg (fun ⟨j, hj, hh⟩ => by
    have : j = 0 := by simpa using hj
    subst this
    have : ((n : Nat) : Int) < 0 := hh
    omega)]
  have ht : tot [(⟨y, (n : Int)⟩ : S51)] = if (n : Int) > 4096 then 4097 else (n : Int) := by
    simp only [tot, totF]
    by_cases h : (n : Int) > 4096
    · rw [if_pos h, if_pos (by omega)]
    · rw [if_neg h, if_neg (by omega), if_neg (by omega)]; omega
  rw [ht]
  by_cases h : (n : Int) > 4096
  · rw [if_pos h, if_pos h, if_pos (by omega)]
  · rw [if_neg h, if_neg h, if_neg h]
    simp [bytes]
theorem make_ev (s : ByteArray) (y : Int) : Ev (fun k => strip_Make.f k s y) (makeS s y) := by
  unfold strip_Make.f makeS
  refine Ev.bind (normal_ev _ (by simp [big])) ?_
  rw [normal_one]
  by_cases h : (s.size : Int) > 4096
  · rw [if_pos h, if_pos h]
    exact Ev.neg (by decide) (Ev.now _)
  · rw [if_neg h, if_neg h]
    exact Ev.pos rfl (Ev.now _)
theorem or_rep (a x : Nat) : ∀ n, (List.replicate (n + 1) x).foldl (· ||| ·) a = a ||| x
  | 0 => rfl
  | n + 1 => by
    rw [List.replicate_succ, List.foldl_cons, or_rep (a ||| x) x n, Nat.or_assoc, Nat.or_self]
theorem or_bytes : ∀ (l : List S51) (a : Nat), ((bytes l).map Int.toNat).foldl (· ||| ·) a = ((pos1 l).map Int.toNat).foldl (· ||| ·) a
  | [], _ => rfl
  | r :: l, a => by
    rw [bytes_cons, pos1_cons, List.map_append, List.map_replicate, List.foldl_append]
    by_cases h : r.f1 > 0
    · obtain ⟨n, hn⟩ : ∃ n, r.f1.toNat = n + 1 := ⟨r.f1.toNat - 1, by omega⟩
      rw [if_pos h, hn, or_rep, List.map_cons, List.foldl_cons, or_bytes l]
    · rw [if_neg h, show r.f1.toNat = 0 by omega]
      exact or_bytes l a
theorem toNat_map {L : List Int} (h : ∀ x ∈ L, 0 ≤ x ∧ x < 18446744073709551616) : L = (L.map Int.toNat).map (fun x : Nat => (x : Int)) := by
  induction L with
  | nil => rfl
  | cons x L ih =>
    rw [List.map_cons, List.map_cons, ← ih (fun z hz => h z (List.mem_cons_of_mem _ hz))]
    have := h x List.mem_cons_self
    congr 1
    omega
theorem orAllI_bytes {l : List S51} (hw : ∀ r ∈ l, 0 ≤ r.f0 ∧ r.f0 < 18446744073709551616) : orAllI (bytes l) = orAllI (pos1 l) := by
  have h1 : ∀ x ∈ bytes l, 0 ≤ x ∧ x < 18446744073709551616 := fun x hx => by obtain ⟨r, hr, rfl⟩ := bytes_mem hx; exact hw r hr
  have h2 : ∀ x ∈ pos1 l, 0 ≤ x ∧ x < 18446744073709551616 := fun x hx => by
    obtain ⟨r, hr, rfl⟩ := List.mem_map.1 hx
    exact hw r (List.mem_filter.1 hr).1
  rw [toNat_map h1, toNat_map h2, orAllI_nat _ (fun x hx => by obtain ⟨y, hy, rfl⟩ := List.mem_map.1 hx; have := h1 y hy; omega), orAllI_nat _ (fun x hx => by obtain ⟨y, hy, rfl⟩ := List.mem_map.1 hx; have := h2 y hy; omega)]
  congr 1
  exact or_bytes l 0
def cutS (s : ByteArray) (l : List S51) (a b : Int) : TX := if withinT s l a b = true then (s.extract a.toNat b.toNat, pack (((bytes l).take b.toNat).drop a.toNat), 0) else (⟨#[]⟩, [], 2)
theorem cut_ev (s : ByteArray) (l : List S51) (hl : l.length ≤ big) (a b : Int) : Ev (fun k => strip_Cut.f k s l a b) (cutS s l a b) := by
  unfold strip_Cut.f cutS
  refine Ev.bind (withinT_ev s l hl a b) ?_
  refine Ev.ite (fun hw => ?_) (fun _ => Ev.now _)
  obtain ⟨h1, h2, h3, h4⟩ := withinT_iff.1 hw
  obtain ⟨i, j, rfl, rfl, hij, hj, hg, hwb⟩ := withinT_facts hw
  refine Ev.bind (slice_ev l hl _ _) (Ev.pos h2 (Ev.pos h3 (Ev.pos h4 (ev_val (Ev.now _) ?_))))
  unfold sliceS
  rw [if_pos hwb]
def spliceT (s : ByteArray) (l : List S51) (a b : Int) (x : ByteArray) (m : List S51) : TX :=
  if withinT s l a b = true then (if goodT x m = true then (if (s.size : Int) - (b - a) + (x.size : Int) > 4096 then (⟨#[]⟩, [], 3) else
    (s.extract 0 a.toNat ++ x ++ s.extract b.toNat s.size, pack ((bytes l).take a.toNat ++ bytes m ++ (bytes l).drop b.toNat), 0)) else (⟨#[]⟩, [], 2)) else (⟨#[]⟩, [], 2)
theorem ext_size (s : ByteArray) (i j : Nat) : (s.extract i j).size ≤ s.size := by rw [ByteArray.size_extract]; omega
theorem splice4_ev (s : ByteArray) (l : List S51) (hl : l.length ≤ big) (a b : Int) (x : ByteArray) (m : List S51) (hm : m.length ≤ big) : Ev (fun k => strip_Splice.f k s l a b x m) (spliceT s l a b x m) := by
  unfold strip_Splice.f spliceT
  refine Ev.bind (withinT_ev s l hl a b) ?_
  have bad : Ev (fun k => strip_Splice.j0 k a b true s l x m) (⟨#[]⟩, [], 2) := by
    refine Ev.step (fun k => by simp only [strip_Splice.j0]; rfl) ?_
    exact Ev.pos (by simp) (Ev.now _)
  refine Ev.ite (fun hw => ?_) (fun _ => bad)
  refine Ev.bind (goodT_ev x m hm) ?_
  by_cases hg : goodT x m = true
  · rw [if_pos hg, hg]
    refine Ev.step (fun k => by simp only [strip_Splice.j0]; rfl) ?_
    refine Ev.neg (by simp) (Ev.bind (splice_ev l hl a b m hm) ?_)
    obtain ⟨h1, h2, h3, h4⟩ := withinT_iff.1 hw
    obtain ⟨i, j, rfl, rfl, hij, hj, hgl, hwb⟩ := withinT_facts hw
    obtain ⟨g1, g2, g3, g4, g5⟩ := goodT_facts hgl
    obtain ⟨q1, q2, q3, q4, q5⟩ := goodT_facts hg
    have he : spliceS l (i : Int) (j : Int) m = if (s.size : Int) - ((j : Int) - (i : Int)) + (x.size : Int) > 4096 then ([], 3) else (pack ((bytes l).take (i : Int).toNat ++ bytes m ++ (bytes l).drop (j : Int).toNat), 0) := by
      unfold spliceS
      rw [if_pos hwb, if_pos q1, g5, q5]
    rw [he]
    by_cases hb : (s.size : Int) - ((j : Int) - (i : Int)) + (x.size : Int) > 4096
    · rw [if_pos hb, if_pos hb]
      exact Ev.neg (by decide) (Ev.now _)
    · rw [if_neg hb, if_neg hb]
      have e1 := ext_size s 0 (i : Int).toNat
      have e2 := ext_size s (j : Int).toNat s.size
      refine Ev.pos rfl (Ev.pos h2 (Ev.pos (by omega) (Ev.pos (by omega) (Ev.pos (by omega) (Ev.pos h4 (Ev.pos ?_ (Ev.now _)))))))
      rw [ByteArray.size_append]
      omega
  · rw [if_neg hg, show goodT x m = false by simpa using hg]
    exact bad
def catT (s : ByteArray) (l : List S51) (x : ByteArray) (m : List S51) : TX := spliceT s l (s.size : Int) (s.size : Int) x m
theorem cat4_ev (s : ByteArray) (l : List S51) (hl : l.length ≤ big) (x : ByteArray) (m : List S51) (hm : m.length ≤ big) : Ev (fun k => strip_Cat.f k s l x m) (catT s l x m) := by
  unfold strip_Cat.f catT
  exact Ev.bind (splice4_ev s l hl _ _ x m hm) (Ev.now _)
theorem toList_loop (a : ByteArray) : ∀ (n i : Nat) (r : List UInt8), i + n = a.size → ByteArray.toList.loop a i r = r.reverse ++ a.data.toList.drop i
  | 0, i, r, h => by
    unfold ByteArray.toList.loop
    rw [if_neg (by omega), List.drop_eq_nil_of_le (by rw [Array.length_toList]; show a.size ≤ i; omega), List.append_nil]
  | n + 1, i, r, h => by
    unfold ByteArray.toList.loop
    have hi : i < a.data.toList.length := by rw [Array.length_toList]; show i < a.size; omega
    rw [if_pos (by omega), toList_loop a n (i + 1) _ (by omega), List.reverse_cons, List.append_assoc, List.drop_eq_getElem_cons hi]
    congr 1
    show [a.get! i] ++ _ = _
    rw [List.singleton_append]
    congr 1
    show a.data[i]! = _
    rw [getElem!_pos a.data i (by rw [Array.length_toList] at hi; exact hi)]
    simp
theorem toList_data (a : ByteArray) : a.toList = a.data.toList := by
  unfold ByteArray.toList
  rw [toList_loop a a.size 0 [] (by omega)]
  rfl
theorem toList_inj {a b : ByteArray} (h : a.toList = b.toList) : a = b := by
  rw [toList_data, toList_data] at h
  exact ByteArray.ext (Array.toList_inj.1 h)
end Go.Proofs.Ytnbdldpjiofafaa.PB
end

section
namespace Go.Proofs.Ytnbdldpjiofafaa.PB
open Go.RowKit Go.Proofs.YtnbdldpjiofafaaW.PrintWords
set_option linter.unusedVariables false
def seen (x y : Int) : Bool := Go.bits .andNot .u64 x y == 0
def hide (y x c : Int) : Int := if seen x y = true then c else 35
def hideAll (y : Int) (L B : List Int) : List Int := List.zipWith (hide y) L B
theorem hideAll_len (y : Int) (L B : List Int) : (hideAll y L B).length = min L.length B.length := List.length_zipWith
theorem paintN_app : ∀ (n : Nat) (P B : List Int), n ≤ B.length → paintN P.length n (P ++ B) = P ++ (List.replicate n 35 ++ B.drop n)
  | 0, P, B, _ => by simp [paintN]
  | n + 1, P, [], h => by simp at h
  | n + 1, P, b :: B, h => by
    have := paintN_app n (P ++ [35]) B (by simpa using h)
    rw [List.length_append, List.length_singleton] at this
    simp only [paintN]
    rw [show (P ++ b :: B).set P.length 35 = P ++ [35] ++ B by simp, this]
    simp [List.replicate_succ]
theorem hide_rep (y x : Int) : ∀ (n : Nat) (B : List Int), n ≤ B.length → List.zipWith (hide y) (List.replicate n x) (B.take n) = if seen x y = true then B.take n else List.replicate n 35
  | 0, B, _ => by simp
  | n + 1, [], h => by simp at h
  | n + 1, b :: B, h => by
    rw [List.replicate_succ, List.take_succ_cons, List.zipWith_cons_cons, hide_rep y x n B (by simpa using h)]
    unfold hide
    by_cases hs : seen x y = true
    · rw [if_pos hs, if_pos hs, if_pos hs]
    · rw [if_neg hs, if_neg hs, if_neg hs, List.replicate_succ]
theorem viewTo_app (y : Int) : ∀ (l : List S51) (P B : List Int), B.length = (bytes l).length → viewTo y l P.length (P ++ B) = P ++ hideAll y (bytes l) B
  | [], P, B, h => by
    have : B = [] := List.eq_nil_of_length_eq_zero (by simpa [bytes] using h)
    subst this
    simp [viewTo, hideAll, bytes]
  | r :: l, P, B, h => by
    rw [bytes_cons, List.length_append, List.length_replicate] at h
    have hn : r.f1.toNat ≤ B.length := by omega
    have hz : hideAll y (bytes (r :: l)) B = List.zipWith (hide y) (List.replicate r.f1.toNat r.f0) (B.take r.f1.toNat) ++ hideAll y (bytes l) (B.drop r.f1.toNat) := by
      unfold hideAll
      rw [bytes_cons]
      conv => lhs; rw [← List.take_append_drop r.f1.toNat B]
      rw [List.zipWith_append]
      rw [List.length_replicate, List.length_take]
      omega
    rw [hz, hide_rep _ _ _ _ hn]
    simp only [viewTo]
    by_cases hs : seen r.f0 y = true
    · rw [if_pos (show (Go.bits .andNot .u64 r.f0 y == 0) = true from hs), if_pos hs]
      have := viewTo_app y l (P ++ B.take r.f1.toNat) (B.drop r.f1.toNat) (by rw [List.length_drop]; omega)
      rw [List.length_append, List.length_take, show min r.f1.toNat B.length = r.f1.toNat by omega, List.append_assoc, List.take_append_drop, List.append_assoc] at this
      exact this
    · rw [if_neg (show ¬ (Go.bits .andNot .u64 r.f0 y == 0) = true from hs), if_neg hs, paintN_app _ _ _ hn]
      have := viewTo_app y l (P ++ List.replicate r.f1.toNat 35) (B.drop r.f1.toNat) (by rw [List.length_drop]; omega)
      rw [List.length_append, List.length_replicate, List.append_assoc, List.append_assoc] at this
      exact this
def viewS (s : ByteArray) (l : List S51) (y : Int) : ByteArray × Int := if goodT s l = true then (strOfNums (hideAll y (bytes l) (bytesOf s)), 0) else (⟨#[]⟩, 2)
theorem view_ev (s : ByteArray) (l : List S51) (hl : l.length ≤ big) (y : Int) : Ev (fun k => strip_View.f k s l y) (viewS s l y) := by
  unfold strip_View.f viewS
  refine Ev.bind (goodT_ev s l hl) ?_
  refine Ev.ite (fun hg => ?_) (fun _ => Ev.now _)
  obtain ⟨g1, g2, g3, g4, g5⟩ := goodT_facts hg
  refine Ev.pos ⟨nrm_nonneg g2, by omega, by omega⟩ (ev_val (Ev.now _) ?_)
  have := viewTo_app y l [] (bytesOf s) (by rw [bytesOf_len, g3])
  simp only [List.length_nil, List.nil_append] at this
  rw [this]
theorem bt_bytesOf (s : ByteArray) (i : Nat) (hi : i < s.size) : (bytesOf s).getD i 0 = bt s (i : Int) := by
  rw [bytesOf_getD s i hi]
  unfold bt
  rw [dif_pos (show ((i : Int).toNat) < s.size by rw [Int.toNat_natCast]; exact hi)]
  have hd : i < s.data.toList.length := by rw [Array.length_toList]; exact hi
  rw [List.getD_eq_getElem?_getD, List.getElem?_eq_getElem hd]
  rfl
theorem rview_ev (s : ByteArray) (l : List S51) (hl : l.length ≤ big) (y : Int) (hw : ∀ r ∈ l, 0 ≤ r.f0 ∧ r.f0 < 18446744073709551616) (hy : 0 ≤ y ∧ y < 18446744073709551616) : Ev (fun k => bureauref04_View.f k s l y) (viewS s l y) := by
  unfold bureauref04_View.f viewS
  refine Ev.bind (rgoodT_ev s l hl) ?_
  refine Ev.ite (fun hg => ?_) (fun _ => Ev.now _)
  obtain ⟨g1, g2, g3, g4, g5⟩ := goodT_facts hg
  refine Ev.bind (bytes_ev l hl (by omega)) ?_
  have hwb : ∀ x ∈ bytes l, 0 ≤ x ∧ x < 18446744073709551616 := fun x hx => by obtain ⟨r, hr, rfl⟩ := bytes_mem hx; exact hw r hr
  generalize bytes l = L at *
  have loop : ∀ (d i : Nat) (acc : List Int), i + d = L.length → acc.length = i → Ev (fun k => bureauref04_View.l0 k y L acc (i : Int) s l) (strOfNums (acc ++ hideAll y (L.drop i) ((bytesOf s).drop i)), 0) := by
    intro d
    induction d with
    | zero =>
      intro i acc hi ha
      refine Ev.step (fun k => by simp only [bureauref04_View.l0]; rfl) ?_
      refine Ev.neg (by omega) (ev_val (Ev.now _) ?_)
      rw [List.drop_eq_nil_of_le (by omega)]
      simp [hideAll]
    | succ d ih =>
      intro i acc hi ha
      have hlt : i < L.length := by omega
      have hls : i < s.size := by omega
      have hrd : rd L (i : Int) = L.getD i 0 := by unfold rd; rw [Int.toNat_natCast]
      refine Ev.step (fun k => by simp only [bureauref04_View.l0]; rfl) ?_
      refine Ev.pos (by omega) (Ev.pos (by omega) ?_)
      rw [hrd, w1 hlt (by omega)]
      have hx := hwb (L.getD i 0) (by rw [List.getD_eq_getElem?_getD, List.getElem?_eq_getElem hlt]; exact List.getElem_mem hlt)
      have hj : bureauref01_Below.f (L.getD i 0) y = some (seen (L.getD i 0) y) := by unfold bureauref01_Below.f; rw [if_pos ⟨hx.1, hx.2, hy.1, hy.2⟩]; rfl
      rw [hj, dropI hlt, dropI (show i < (bytesOf s).length by rw [bytesOf_len]; exact hls)]
      refine Ev.bind (Ev.now _) ?_
      by_cases hs : seen (L.getD i 0) y = true
      · refine Ev.pos hs (Ev.pos (by omega) (Ev.pos (by omega) ?_))
        refine ev_val (ih (i + 1) _ (by omega) (by simp [ha])) ?_
        rw [bt_bytesOf s i hls, List.append_assoc]
        generalize L.getD i 0 = xx at *
        simp [hideAll, hide, hs]
      · refine Ev.neg hs (Ev.pos (by omega) ?_)
        refine ev_val (ih (i + 1) _ (by omega) (by simp [ha])) ?_
        rw [List.append_assoc]
        generalize L.getD i 0 = xx at *
        simp [hideAll, hide, hs]
  exact loop L.length 0 [] (by omega) rfl
def lowT (s : ByteArray) (l : List S51) (t : ByteArray) (m : List S51) (y : Int) : Bool :=
  if (viewS s l y).2 = 0 then (if (viewS t m y).2 = 0 then (if (viewS s l y).1.toList = (viewS t m y).1.toList then decide (l = m) else false) else false) else false
theorem rlow_ev (s : ByteArray) (l : List S51) (hl : l.length ≤ big) (t : ByteArray) (m : List S51) (hm : m.length ≤ big) (y : Int) (hw : ∀ r ∈ l, 0 ≤ r.f0 ∧ r.f0 < 18446744073709551616) (hwm : ∀ r ∈ m, 0 ≤ r.f0 ∧ r.f0 < 18446744073709551616) (hy : 0 ≤ y ∧ y < 18446744073709551616) :
    Ev (fun k => bureauref04_Low.f k s l t m y) (lowT s l t m y) := by
  unfold bureauref04_Low.f lowT
  refine Ev.bind (rview_ev s l hl y hw hy) (Ev.bind (rview_ev t m hm y hwm hy) ?_)
  refine Ev.ite (fun _ => Ev.ite (fun _ => Ev.bind (same_ev l m hl) ?_) (fun _ => Ev.now _)) (fun _ => Ev.now _)
  by_cases h : l = m
  · rw [decide_eq_true h]
    refine Ev.pos rfl (ev_val (Ev.now _) ?_)
    rw [Bool.eq_iff_iff]
    simp
  · rw [decide_eq_false h]
    exact Ev.neg (by simp) (ev_val (Ev.now _) (by simp))
theorem byte_range {s : ByteArray} {x : Int} (h : x ∈ bytesOf s) : 0 ≤ x ∧ x ≤ 255 := by
  obtain ⟨b, hb, rfl⟩ := List.mem_map.1 h
  have := b.toNat_lt
  omega
theorem strOf_bt (xs : List Int) (i : Nat) (hi : i < xs.length) (hr : 0 ≤ xs.getD i 0 ∧ xs.getD i 0 ≤ 255) : bt (strOfNums xs) (i : Int) = xs.getD i 0 := by
  have hs : i < (strOfNums xs).size := by rw [strOfNums_size]; exact hi
  rw [← bt_bytesOf _ _ hs, bytesOf_getD _ _ hs, strOfNums_data]
  have hg : xs.getD i 0 = xs[i] := by rw [List.getD_eq_getElem?_getD, List.getElem?_eq_getElem hi]; rfl
  rw [hg] at hr ⊢
  rw [List.getD_eq_getElem?_getD, List.getElem?_map, List.getElem?_eq_getElem hi]
  simp only [Option.map_some, Option.getD_some]
  rw [UInt8.toNat_ofNat']
  omega
theorem hideAll_getD (y : Int) (L B : List Int) (i : Nat) (h1 : i < L.length) (h2 : i < B.length) : (hideAll y L B).getD i 0 = hide y (L.getD i 0) (B.getD i 0) := by
  unfold hideAll
  rw [List.getD_eq_getElem?_getD, List.getElem?_zipWith, List.getD_eq_getElem?_getD, List.getD_eq_getElem?_getD, List.getElem?_eq_getElem h1, List.getElem?_eq_getElem h2]
  rfl
end Go.Proofs.Ytnbdldpjiofafaa.PB
end

section
namespace Go.Proofs.Ytnbdldpjiofafaa.PB
open Go.RowKit Go.Proofs.YtnbdldpjiofafaaW.PrintWords
set_option linter.unusedVariables false
theorem wfT {x : S24} (h : wf24 x) : ∀ r ∈ x.f1, 0 ≤ r.f0 ∧ r.f0 < 18446744073709551616 := wf_labels h.2.2
theorem ext_all (s : ByteArray) : s.extract 0 s.size = s := by
  apply ByteArray.ext
  rw [ByteArray.data_extract]
  exact Array.extract_size
theorem ext_none (s : ByteArray) : s.extract s.size s.size = ByteArray.empty := by
  apply ByteArray.ext
  rw [ByteArray.data_extract]
  simp
theorem goodT_pack {s : ByteArray} {B : List Int} (h : B.length = s.size) (h4 : s.size ≤ 4096) : goodT s (pack B) = true := by
  obtain ⟨g1, t1⟩ := good_pack (show B.length ≤ 4096 by omega)
  exact goodT_iff.2 ⟨g1, by omega⟩
theorem catT_pack (s x : ByteArray) (B C : List Int) (hB : B.length = s.size) (hC : C.length = x.size) (h : s.size + x.size ≤ 4096) : catT s (pack B) x (pack C) = (s ++ x, pack (B ++ C), 0) := by
  have g1 := goodT_pack hB (by omega)
  have g2 := goodT_pack hC (by omega)
  unfold catT spliceT
  rw [if_pos (withinT_iff.2 ⟨g1, by omega, by omega, by omega⟩), if_pos g2, if_neg (by omega), Int.toNat_natCast, pack_bytes, pack_bytes, ext_all, ext_none, ← hB, List.take_length, List.drop_length, List.append_nil, ByteArray.append_empty]
end Go.Proofs.Ytnbdldpjiofafaa.PB
end

section
namespace Go.Proofs.Ytnbdldpjiofafaa.PB
open Go.RowKit Go.Proofs.YtnbdldpjiofafaaW.PrintWords
set_option linter.unusedVariables false
theorem own_eq (s : ByteArray) (l : List S51) (hl : l.length ≤ big) : edit_own.f s l = some (s, l) := by
  unfold edit_own.f
  unfold big at hl
  rw [if_pos (by omega)]
theorem ext_list (s : ByteArray) (i j : Nat) : (s.extract i j).data.toList = (s.data.toList.take j).drop i := by
  rw [ByteArray.data_extract, Array.toList_extract, List.extract_eq_take_drop, List.drop_take]
theorem app_list (s t : ByteArray) : (s ++ t).data.toList = s.data.toList ++ t.data.toList := by rw [ByteArray.data_append, Array.toList_append]
theorem data_inj {a b : ByteArray} (h : a.data.toList = b.data.toList) : a = b := ByteArray.ext (Array.toList_inj.1 h)
end Go.Proofs.Ytnbdldpjiofafaa.PB
end

section
namespace Go.Proofs.Ytnbdldpjiofafaa.PB
open Go.RowKit Go.Proofs.YtnbdldpjiofafaaW.PrintWords
set_option linter.unusedVariables false
def fitE (o : ByteArray) (ol : List S51) (n : ByteArray) (nl : List S51) : Prop := (o.size ≤ 5000 ∧ ol.length ≤ 5000) ∧ (n.size ≤ 5000 ∧ nl.length ≤ 5000)
instance (o : ByteArray) (ol : List S51) (n : ByteArray) (nl : List S51) : Decidable (fitE o ol n nl) := inferInstanceAs (Decidable (_ ∧ _))
end Go.Proofs.Ytnbdldpjiofafaa.PB
end

section
namespace Go.Proofs.Ytnbdldpjiofafaa.PB
open Go.RowKit Go.Proofs.YtnbdldpjiofafaaW.PrintWords
set_option linter.unusedVariables false
abbrev EX := Int × ByteArray × List S51 × ByteArray × List S51 × Int
def ofS (s : ByteArray) (l : List S51) (a b : Int) (x : ByteArray) (m : List S51) : EX :=
  if (spliceT s l a b x m).2.2 = 0 then (a, (cutS s l a b).1, (cutS s l a b).2.1, x, m, 0) else (0, ⟨#[]⟩, [], ⟨#[]⟩, [], (spliceT s l a b x m).2.2)
theorem splice_cut {s : ByteArray} {l : List S51} {a b : Int} {x : ByteArray} {m : List S51} (h : (spliceT s l a b x m).2.2 = 0) : withinT s l a b = true ∧ goodT x m = true ∧ ¬ (s.size : Int) - (b - a) + (x.size : Int) > 4096 ∧ (cutS s l a b).2.2 = 0 := by
  unfold spliceT at h
  by_cases hw : withinT s l a b = true
  · rw [if_pos hw] at h
    by_cases hg : goodT x m = true
    · rw [if_pos hg] at h
      by_cases hb : (s.size : Int) - (b - a) + (x.size : Int) > 4096
      · rw [if_pos hb] at h; cases h
      · exact ⟨hw, hg, hb, by unfold cutS; rw [if_pos hw]⟩
    · rw [if_neg hg] at h; cases h
  · rw [if_neg hw] at h; cases h
theorem of_ev (s : ByteArray) (l : List S51) (hl : l.length ≤ big) (a b : Int) (x : ByteArray) (m : List S51) (hm : m.length ≤ big) : Ev (fun k => edit_Of.f k s l a b x m) (ofS s l a b x m) := by
  unfold edit_Of.f ofS
  refine Ev.bind (splice4_ev s l hl a b x m hm) (Ev.ite (fun h => ?_) (fun _ => Ev.now _))
  refine Ev.bind (cut_ev s l hl a b) ?_
  rw [own_eq x m hm]
  refine Ev.bind (Ev.now _) (ev_val (Ev.now _) ?_)
  rw [(splice_cut h).2.2.2]
end Go.Proofs.Ytnbdldpjiofafaa.PB
end
