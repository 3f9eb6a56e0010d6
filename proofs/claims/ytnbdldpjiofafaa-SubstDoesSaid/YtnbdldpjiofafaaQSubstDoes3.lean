/- What the row hangs on, part 3. -/
import Derived.Test.YtnbdldpjiofafaaQSubstDoes2
section
namespace Go.Proofs.Ytnbdldpjiofafaa.PB
open Go.RowKit Go.Proofs.YtnbdldpjiofafaaW.PrintWords Go.Proofs.YtnbdldpjiofafaaW.PrintLast Go.Proofs.YtnbdldpjiofafaaW.PrintMore
attribute [local go_sem] max2_int min2_int max_two min_two max_three min_three max_four min_four   
set_option linter.unusedVariables false
set_option linter.unusedSimpArgs false
def strip_within.f (k : Nat) (a0_0 : ByteArray) (l0_1 : List (S51)) (a1 : Int) (a2 : Int) : Option (Bool) := (strip_Good.f k a0_0 l0_1).bind fun t142 => (if t142 = true then (if a1 ≥ 0 then (if a1 ≤ a2 then (some (decide (a2 ≤ (a0_0.size : Int)))) else (some false)) else (some false)) else (some false))
theorem strip_within.mono : ∀ a0 a1 a2 a3 k, LeO (strip_within.f k a0 a1 a2 a3) (strip_within.f (k + 1) a0 a1 a2 a3) := by
 intro a0 a1 a2 a3 k
 unfold strip_within.f
 repeat' first
   | (with_reducible exact strip_Good.mono _ _ _)
   | (with_reducible exact LeO.refl _)
   | (with_reducible exact LeO.none _)
   | (with_reducible refine LeO.ite ?_ ?_)
   | (with_reducible refine LeO.bind ?_ (fun _ => ?_))
   | exact strip_Good.mono _ _ _
   | exact LeO.none _
   | refine LeO.ite ?_ ?_
   | refine LeO.bind ?_ (fun _ => ?_)
set_option maxHeartbeats 8000000 in
set_option maxRecDepth 100000 in
theorem strip_within.calls (k : Nat) (a0_0 : ByteArray) (A0_1 : Option Addr) (c0_1 : Nat) (l0_1 : List (S51)) (a1 : Int) (a2 : Int) (r : Bool) (w : World) (hr0_1 : Kd.C k51 w A0_1 l0_1.length l0_1) (hc0_1 : l0_1.length ≤ c0_1) (h : strip_within.f k a0_0 l0_1 a1 a2 = some r) :
  Calls Try.prog 50 #[.agg #[.string a0_0, .slice A0_1 l0_1.length c0_1], .int .i64 a1, .int .i64 a2] w fun e w' => e = .returned (.bool r) ∧ Below w.heap.size w w' := by
 have hu24 := Try.underlying24
 have HR0_1 := aM hr0_1
 have HC0_1 := aM hc0_1
 clear hr0_1 hc0_1
 have HB := aM (Below.refl w.heap.size w)
 have H : ((strip_Good.f k a0_0 l0_1).bind fun t142 => (if t142 = true then (if a1 ≥ 0 then (if a1 ≤ a2 then (some (decide (a2 ≤ (a0_0.size : Int)))) else (some false)) else (some false)) else (some false))) = some r := h
 clear h
 replace H := Option.bind_eq_some_iff.mp H
 obtain ⟨t142, A40, H⟩ := H
 replace H : (if t142 = true then (if a1 ≥ 0 then (if a1 ≤ a2 then (some (decide (a2 ≤ (a0_0.size : Int)))) else (some false)) else (some false)) else (some false)) = some r := H
 have A4 := aM A40
 clear A40
 by_cases c5 : t142 = true
 ·subst c5
  have H1 : (if a1 ≥ 0 then (if a1 ≤ a2 then (some (decide (a2 ≤ (a0_0.size : Int)))) else (some false)) else (some false)) = some r := by rw [if_pos rfl] at H; exact H
  clear H
  have H := H1
  clear H1
  by_cases c6 : a1 ≥ 0
  ·rw [if_pos c6] at H
   have c6b0 : decide (0 ≤ a1) = true := decide_eq_true c6
   clear c6
   by_cases c7 : a1 ≤ a2
   ·rw [if_pos c7] at H
    have c7b0 : decide (a1 ≤ a2) = true := decide_eq_true c7
    clear c7
    obtain rfl := Option.some.inj H
    go_enter Try.func50, Try.ntmps50
    go_wp2_with (first | ((with_reducible refine gate_dst (N := 3) rfl ?_); (try (refine gate_guard (by rfl) ?_; dsimp only)); refine box_event ?hg (N := 3) ?hd (cs := #[.string a0_0, .slice A0_1 l0_1.length c0_1]) (t := 24) ?hr ?_; (case hd | hg => rfl); (case hr => first | (go_simp; done) | (go_simp; rfl)); intro gb141 hg w8 hbox hb; have n0_ := aM (bP (ey HB.out) hb); have n1_ := aM (hbox); have n2_ := aM ((by rw [hg]; exact (bZ (ey HB.out)) : w.heap.size ≤ gb141)); have n3_ := n2_; clear HB; have HB := n0_; have BK141 := n1_; have GW141 := n2_; have GE141 := n3_; clear n0_ n1_ n2_ n3_; clear hb hbox hg; have hcz9_0 := zC BK141.out 0 (.string a0_0); have hcz9_1 := zC BK141.out 1 (.slice A0_1 l0_1.length c0_1); have hfz9_0 := bF BK141.out 0; have hfz9_1 := bF BK141.out 1) | ((with_reducible refine gate_callee (f := 43) rfl ?_); refine goesL_ (some 8) rfl rfl Try.func43 (by kernel_rfl) rfl #[.agg #[.string a0_0, .slice A0_1 l0_1.length c0_1]] rfl (by (try simp only [mT, mC, mN]); first | done | rfl | (simp only [lD, lT]; rfl)) ?_; (with_reducible refine (strip_Good.calls k a0_0 _ _ l0_1 true _ ?side1 ?side2 A4.out).mono ?_); (case side1 => repeat (first | exact (cB_ HR0_1.out HB.out) | (with_reducible refine Kd.C_alloc ?_ _) | (with_reducible refine Kd.C_drewN ?_ _) | (with_reducible refine Kd.C_drew ?_))); (case side2 => exact HC0_1.out); rintro e w10 ⟨rfl, hb⟩; refine ⟨_, rfl, ?_⟩; have n0_ := aM (bB (g := gb141) (qy BK141.out) hb); have n1_ := aM (bP (by repeat (first | (with_reducible first | exact HB.out | apply ea | apply en | apply ed | refine es ?_ GE141.out) | exact HB.out)) hb); clear BK141 HB; have BK141 := n0_; have HB := n1_; clear n0_ n1_; (try clear hb); (try clear hb2); (try clear hk); (try clear hi); have hcz11_0 := zC BK141.out 0 (.string a0_0); have hcz11_1 := zC BK141.out 1 (.slice A0_1 l0_1.length c0_1); have hfz11_0 := bF BK141.out 0; have hfz11_1 := bF BK141.out 1))
    go_ret
    exact ⟨by first | rfl | (simp [errW_none, errW_some] <;> rfl) | (simp [*, errW_none, errW_some] <;> rfl), by repeat (first | (with_reducible first | exact HB.out | apply ea | apply en | apply ed | refine es ?_ GE141.out) | exact HB.out)⟩
   ·rw [if_neg c7] at H
    have c7b0 : decide (a1 ≤ a2) = false := decide_eq_false c7
    clear c7
    obtain rfl := Option.some.inj H
    go_enter Try.func50, Try.ntmps50
    go_wp2_with (first | ((with_reducible refine gate_dst (N := 3) rfl ?_); (try (refine gate_guard (by rfl) ?_; dsimp only)); refine box_event ?hg (N := 3) ?hd (cs := #[.string a0_0, .slice A0_1 l0_1.length c0_1]) (t := 24) ?hr ?_; (case hd | hg => rfl); (case hr => first | (go_simp; done) | (go_simp; rfl)); intro gb141 hg w12 hbox hb; have n0_ := aM (bP (ey HB.out) hb); have n1_ := aM (hbox); have n2_ := aM ((by rw [hg]; exact (bZ (ey HB.out)) : w.heap.size ≤ gb141)); have n3_ := n2_; clear HB; have HB := n0_; have BK141 := n1_; have GW141 := n2_; have GE141 := n3_; clear n0_ n1_ n2_ n3_; clear hb hbox hg; have hcz13_0 := zC BK141.out 0 (.string a0_0); have hcz13_1 := zC BK141.out 1 (.slice A0_1 l0_1.length c0_1); have hfz13_0 := bF BK141.out 0; have hfz13_1 := bF BK141.out 1) | ((with_reducible refine gate_callee (f := 43) rfl ?_); refine goesL_ (some 8) rfl rfl Try.func43 (by kernel_rfl) rfl #[.agg #[.string a0_0, .slice A0_1 l0_1.length c0_1]] rfl (by (try simp only [mT, mC, mN]); first | done | rfl | (simp only [lD, lT]; rfl)) ?_; (with_reducible refine (strip_Good.calls k a0_0 _ _ l0_1 true _ ?side1 ?side2 A4.out).mono ?_); (case side1 => repeat (first | exact (cB_ HR0_1.out HB.out) | (with_reducible refine Kd.C_alloc ?_ _) | (with_reducible refine Kd.C_drewN ?_ _) | (with_reducible refine Kd.C_drew ?_))); (case side2 => exact HC0_1.out); rintro e w14 ⟨rfl, hb⟩; refine ⟨_, rfl, ?_⟩; have n0_ := aM (bB (g := gb141) (qy BK141.out) hb); have n1_ := aM (bP (by repeat (first | (with_reducible first | exact HB.out | apply ea | apply en | apply ed | refine es ?_ GE141.out) | exact HB.out)) hb); clear BK141 HB; have BK141 := n0_; have HB := n1_; clear n0_ n1_; (try clear hb); (try clear hb2); (try clear hk); (try clear hi)))
    go_ret
    exact ⟨by first | rfl | (simp [errW_none, errW_some] <;> rfl) | (simp [*, errW_none, errW_some] <;> rfl), by repeat (first | (with_reducible first | exact HB.out | apply ea | apply en | apply ed | refine es ?_ GE141.out) | exact HB.out)⟩
  ·rw [if_neg c6] at H
   have c6b0 : decide (0 ≤ a1) = false := decide_eq_false c6
   clear c6
   obtain rfl := Option.some.inj H
   go_enter Try.func50, Try.ntmps50
   go_wp2_with (first | ((with_reducible refine gate_dst (N := 3) rfl ?_); (try (refine gate_guard (by rfl) ?_; dsimp only)); refine box_event ?hg (N := 3) ?hd (cs := #[.string a0_0, .slice A0_1 l0_1.length c0_1]) (t := 24) ?hr ?_; (case hd | hg => rfl); (case hr => first | (go_simp; done) | (go_simp; rfl)); intro gb141 hg w15 hbox hb; have n0_ := aM (bP (ey HB.out) hb); have n1_ := aM (hbox); have n2_ := aM ((by rw [hg]; exact (bZ (ey HB.out)) : w.heap.size ≤ gb141)); have n3_ := n2_; clear HB; have HB := n0_; have BK141 := n1_; have GW141 := n2_; have GE141 := n3_; clear n0_ n1_ n2_ n3_; clear hb hbox hg; have hcz16_0 := zC BK141.out 0 (.string a0_0); have hcz16_1 := zC BK141.out 1 (.slice A0_1 l0_1.length c0_1); have hfz16_0 := bF BK141.out 0; have hfz16_1 := bF BK141.out 1) | ((with_reducible refine gate_callee (f := 43) rfl ?_); refine goesL_ (some 8) rfl rfl Try.func43 (by kernel_rfl) rfl #[.agg #[.string a0_0, .slice A0_1 l0_1.length c0_1]] rfl (by (try simp only [mT, mC, mN]); first | done | rfl | (simp only [lD, lT]; rfl)) ?_; (with_reducible refine (strip_Good.calls k a0_0 _ _ l0_1 true _ ?side1 ?side2 A4.out).mono ?_); (case side1 => repeat (first | exact (cB_ HR0_1.out HB.out) | (with_reducible refine Kd.C_alloc ?_ _) | (with_reducible refine Kd.C_drewN ?_ _) | (with_reducible refine Kd.C_drew ?_))); (case side2 => exact HC0_1.out); rintro e w17 ⟨rfl, hb⟩; refine ⟨_, rfl, ?_⟩; have n0_ := aM (bB (g := gb141) (qy BK141.out) hb); have n1_ := aM (bP (by repeat (first | (with_reducible first | exact HB.out | apply ea | apply en | apply ed | refine es ?_ GE141.out) | exact HB.out)) hb); clear BK141 HB; have BK141 := n0_; have HB := n1_; clear n0_ n1_; (try clear hb); (try clear hb2); (try clear hk); (try clear hi)))
   go_ret
   exact ⟨by first | rfl | (simp [errW_none, errW_some] <;> rfl) | (simp [*, errW_none, errW_some] <;> rfl), by repeat (first | (with_reducible first | exact HB.out | apply ea | apply en | apply ed | refine es ?_ GE141.out) | exact HB.out)⟩
 ·replace c5 := Bool.eq_false_iff.mpr c5
  subst c5
  have H1 : (some false) = some r := by rw [if_neg (show ¬ (false = true) by decide)] at H; exact H
  clear H
  have H := H1
  clear H1
  obtain rfl := Option.some.inj H
  go_enter Try.func50, Try.ntmps50
  go_wp2_with (first | ((with_reducible refine gate_dst (N := 3) rfl ?_); (try (refine gate_guard (by rfl) ?_; dsimp only)); refine box_event ?hg (N := 3) ?hd (cs := #[.string a0_0, .slice A0_1 l0_1.length c0_1]) (t := 24) ?hr ?_; (case hd | hg => rfl); (case hr => first | (go_simp; done) | (go_simp; rfl)); intro gb141 hg w18 hbox hb; have n0_ := aM (bP (ey HB.out) hb); have n1_ := aM (hbox); have n2_ := aM ((by rw [hg]; exact (bZ (ey HB.out)) : w.heap.size ≤ gb141)); have n3_ := n2_; clear HB; have HB := n0_; have BK141 := n1_; have GW141 := n2_; have GE141 := n3_; clear n0_ n1_ n2_ n3_; clear hb hbox hg; have hcz19_0 := zC BK141.out 0 (.string a0_0); have hcz19_1 := zC BK141.out 1 (.slice A0_1 l0_1.length c0_1); have hfz19_0 := bF BK141.out 0; have hfz19_1 := bF BK141.out 1) | ((with_reducible refine gate_callee (f := 43) rfl ?_); refine goesL_ (some 8) rfl rfl Try.func43 (by kernel_rfl) rfl #[.agg #[.string a0_0, .slice A0_1 l0_1.length c0_1]] rfl (by (try simp only [mT, mC, mN]); first | done | rfl | (simp only [lD, lT]; rfl)) ?_; (with_reducible refine (strip_Good.calls k a0_0 _ _ l0_1 false _ ?side1 ?side2 A4.out).mono ?_); (case side1 => repeat (first | exact (cB_ HR0_1.out HB.out) | (with_reducible refine Kd.C_alloc ?_ _) | (with_reducible refine Kd.C_drewN ?_ _) | (with_reducible refine Kd.C_drew ?_))); (case side2 => exact HC0_1.out); rintro e w20 ⟨rfl, hb⟩; refine ⟨_, rfl, ?_⟩; have n0_ := aM (bB (g := gb141) (qy BK141.out) hb); have n1_ := aM (bP (by repeat (first | (with_reducible first | exact HB.out | apply ea | apply en | apply ed | refine es ?_ GE141.out) | exact HB.out)) hb); clear BK141 HB; have BK141 := n0_; have HB := n1_; clear n0_ n1_; (try clear hb); (try clear hb2); (try clear hk); (try clear hi)))
  go_ret
  exact ⟨by first | rfl | (simp [errW_none, errW_some] <;> rfl) | (simp [*, errW_none, errW_some] <;> rfl), by repeat (first | (with_reducible first | exact HB.out | apply ea | apply en | apply ed | refine es ?_ GE141.out) | exact HB.out)⟩
end Go.Proofs.Ytnbdldpjiofafaa.PB
end

section
namespace Go.Proofs.Ytnbdldpjiofafaa.PB
open Go.RowKit Go.Proofs.YtnbdldpjiofafaaW.PrintWords Go.Proofs.YtnbdldpjiofafaaW.PrintLast Go.Proofs.YtnbdldpjiofafaaW.PrintMore
attribute [local go_sem] max2_int min2_int max_two min_two max_three min_three max_four min_four   
set_option linter.unusedVariables false
set_option linter.unusedSimpArgs false
def strip_Cut.f (k : Nat) (a0_0 : ByteArray) (l0_1 : List (S51)) (a1 : Int) (a2 : Int) : Option (ByteArray × (List (S51)) × Int) := (strip_within.f k a0_0 l0_1 a1 a2).bind fun t145 => (if t145 = true then ((runs_Slice.f k l0_1 a1 a2).bind fun bt146 => (if 0 ≤ a1 then (if a1 ≤ a2 then (if a2 ≤ (a0_0.size : Int) then (some (a0_0.extract (a1 : Int).toNat (a2 : Int).toNat, bt146.1, bt146.2)) else (none)) else (none)) else (none))) else (some ((⟨#[]⟩ : ByteArray), ([] : List (S51)), 2)))
theorem strip_Cut.mono : ∀ a0 a1 a2 a3 k, LeO (strip_Cut.f k a0 a1 a2 a3) (strip_Cut.f (k + 1) a0 a1 a2 a3) := by
 intro a0 a1 a2 a3 k
 unfold strip_Cut.f
 repeat' first
   | (with_reducible exact runs_Slice.mono _ _ _ _)
   | (with_reducible exact strip_within.mono _ _ _ _ _)
   | (with_reducible exact LeO.refl _)
   | (with_reducible exact LeO.none _)
   | (with_reducible refine LeO.ite ?_ ?_)
   | (with_reducible refine LeO.bind ?_ (fun _ => ?_))
   | exact runs_Slice.mono _ _ _ _
   | exact strip_within.mono _ _ _ _ _
   | exact LeO.none _
   | refine LeO.ite ?_ ?_
   | refine LeO.bind ?_ (fun _ => ?_)
set_option maxHeartbeats 8000000 in
set_option maxRecDepth 100000 in
theorem strip_Cut.calls (k : Nat) (a0_0 : ByteArray) (A0_1 : Option Addr) (c0_1 : Nat) (l0_1 : List (S51)) (a1 : Int) (a2 : Int) (r1 : ByteArray) (r2 : List (S51)) (r3 : Int) (w : World) (hr0_1 : Kd.C k51 w A0_1 l0_1.length l0_1) (hc0_1 : l0_1.length ≤ c0_1) (h : strip_Cut.f k a0_0 l0_1 a1 a2 = some (r1, r2, r3)) :
  Calls Try.prog 25 #[.agg #[.string a0_0, .slice A0_1 l0_1.length c0_1], .int .i64 a1, .int .i64 a2] w fun e w' => ∃ v1_ : Value, e = .returned (.tuple #[.agg #[.string r1, v1_], .int .i64 r3]) ∧ Kd.R k51 51 w' w.heap.size (fun _ => True) v1_ r2 ∧ Below w.heap.size w w' := by
 have hu24 := Try.underlying24
 have HR0_1 := aM hr0_1
 have HC0_1 := aM hc0_1
 clear hr0_1 hc0_1
 have HB := aM (Below.refl w.heap.size w)
 have H : ((strip_within.f k a0_0 l0_1 a1 a2).bind fun t145 => (if t145 = true then ((runs_Slice.f k l0_1 a1 a2).bind fun bt146 => (if 0 ≤ a1 then (if a1 ≤ a2 then (if a2 ≤ (a0_0.size : Int) then (some (a0_0.extract (a1 : Int).toNat (a2 : Int).toNat, bt146.1, bt146.2)) else (none)) else (none)) else (none))) else (some ((⟨#[]⟩ : ByteArray), ([] : List (S51)), 2)))) = some (r1, r2, r3) := h
 clear h
 replace H := Option.bind_eq_some_iff.mp H
 obtain ⟨t145, A40, H⟩ := H
 replace H : (if t145 = true then ((runs_Slice.f k l0_1 a1 a2).bind fun bt146 => (if 0 ≤ a1 then (if a1 ≤ a2 then (if a2 ≤ (a0_0.size : Int) then (some (a0_0.extract (a1 : Int).toNat (a2 : Int).toNat, bt146.1, bt146.2)) else (none)) else (none)) else (none))) else (some ((⟨#[]⟩ : ByteArray), ([] : List (S51)), 2))) = some (r1, r2, r3) := H
 have A4 := aM A40
 clear A40
 by_cases c5 : t145 = true
 ·subst c5
  have H1 : ((runs_Slice.f k l0_1 a1 a2).bind fun bt146 => (if 0 ≤ a1 then (if a1 ≤ a2 then (if a2 ≤ (a0_0.size : Int) then (some (a0_0.extract (a1 : Int).toNat (a2 : Int).toNat, bt146.1, bt146.2)) else (none)) else (none)) else (none))) = some (r1, r2, r3) := by rw [if_pos rfl] at H; exact H
  clear H
  have H := H1
  clear H1
  replace H := Option.bind_eq_some_iff.mp H
  obtain ⟨⟨t146, t147⟩, A60, H⟩ := H
  replace H : (if 0 ≤ a1 then (if a1 ≤ a2 then (if a2 ≤ (a0_0.size : Int) then (some (a0_0.extract (a1 : Int).toNat (a2 : Int).toNat, t146, t147)) else (none)) else (none)) else (none)) = some (r1, r2, r3) := H
  have A6 := aM A60
  clear A60
  by_cases c7 : 0 ≤ a1
  ·rw [if_pos c7] at H
   have c7b0 := eq_true c7
   have c7b1 : decide (0 ≤ a1) = true := decide_eq_true c7
   clear c7
   by_cases c8 : a1 ≤ a2
   ·rw [if_pos c8] at H
    have c8b0 := eq_true c8
    have c8b1 : decide (a1 ≤ a2) = true := decide_eq_true c8
    clear c8
    by_cases c9 : a2 ≤ (a0_0.size : Int)
    ·rw [if_pos c9] at H
     have c9b0 := eq_true c9
     have c9b1 : decide (a2 ≤ (a0_0.size : Int)) = true := decide_eq_true c9
     clear c9
     simp only [Option.some.injEq, Prod.mk.injEq] at H
     obtain ⟨rfl, rfl, rfl⟩ := H
     go_enter Try.func25, Try.ntmps25
     go_wp2_with (first | ((with_reducible refine gate_dst (N := 3) rfl ?_); refine box_event ?hg (N := 3) ?hd (cs := #[.string a0_0, .slice A0_1 l0_1.length c0_1]) (t := 24) ?hr ?_; (case hd | hg => rfl); (case hr => first | (go_simp; done) | (go_simp; rfl)); intro gb143 hg w10 hbox hb; have n0_ := aM (bP (ey HB.out) hb); have n1_ := aM (hbox); have n2_ := aM ((by rw [hg]; exact (bZ (ey HB.out)) : w.heap.size ≤ gb143)); have n3_ := n2_; clear HB; have HB := n0_; have BK143 := n1_; have GW143 := n2_; have GE143 := n3_; clear n0_ n1_ n2_ n3_; clear hb hbox hg) | ((with_reducible refine gate_dst (N := 6) rfl ?_); refine box_event ?hg (N := 6) ?hd (cs := #[.string (⟨#[]⟩ : ByteArray), .slice none 0 0]) (t := 24) ?hr ?_; (case hd | hg => rfl); (case hr => first | (go_simp; done) | (go_simp; rfl)); intro gb144 hg w11 hbox hb; have n0_ := aM (bB (g := gb143) (qy BK143.out) hb); have n1_ := aM (bP (by repeat (first | (with_reducible first | exact HB.out | apply ea | apply en | apply ed | refine es ?_ GE143.out) | exact HB.out)) hb); have n2_ := aM (hbox); have n3_ := aM ((by rw [hg]; exact (bZ (by repeat (first | (with_reducible first | exact HB.out | apply ea | apply en | apply ed | refine es ?_ GE143.out) | exact HB.out))) : w.heap.size ≤ gb144)); have n4_ := n3_; have n5_ := aM ((by rw [hg]; exact Nat.ne_of_lt (blk_lt (g := gb143) (qy BK143.out)) : gb143 ≠ gb144)); have n6_ := aM ((by rw [hg]; exact Nat.ne_of_gt (blk_lt (g := gb143) (qy BK143.out)) : gb144 ≠ gb143)); clear BK143 HB; have BK143 := n0_; have HB := n1_; have BK144 := n2_; have GW144 := n3_; have GE144 := n4_; have NB143_144 := n5_; have NB144_143 := n6_; clear n0_ n1_ n2_ n3_ n4_ n5_ n6_; clear hb hbox hg; have hnb12 := NB143_144.out; have hnc12 := NB144_143.out; have hcz13_0 := zC BK143.out 0 (.string a0_0); have hcz13_1 := zC BK143.out 1 (.slice A0_1 l0_1.length c0_1); have hfz13_0 := bF BK143.out 0; have hfz13_1 := bF BK143.out 1) | ((with_reducible refine gate_callee (f := 50) rfl ?_); refine goesL_ (some 13) rfl rfl Try.func50 (by kernel_rfl) rfl #[.agg #[.string a0_0, .slice A0_1 l0_1.length c0_1], .int .i64 a1, .int .i64 a2] rfl (by (try simp only [mT, mC, mN]); first | done | rfl | (simp only [lD, lT]; rfl)) ?_; (with_reducible refine (strip_within.calls k a0_0 _ _ l0_1 a1 a2 true _ ?side1 ?side2 A4.out).mono ?_); (case side1 => repeat (first | exact (cB_ HR0_1.out HB.out) | (with_reducible refine Kd.C_alloc ?_ _) | (with_reducible refine Kd.C_drewN ?_ _) | (with_reducible refine Kd.C_drew ?_))); (case side2 => exact HC0_1.out); rintro e w14 ⟨rfl, hb⟩; refine ⟨_, rfl, ?_⟩; have n0_ := aM (bB (g := gb143) (qy BK143.out) hb); have n1_ := aM (bB (g := gb144) (qy BK144.out) hb); have n2_ := aM (bP (by repeat (first | (with_reducible first | exact HB.out | apply ea | apply en | apply ed | refine es ?_ GE143.out | refine es ?_ GE144.out) | exact HB.out)) hb); clear BK143 BK144 HB; have BK143 := n0_; have BK144 := n1_; have HB := n2_; clear n0_ n1_ n2_; (try clear hb); (try clear hb2); (try clear hk); (try clear hi); have hcz15_0 := zC BK143.out 0 (.string a0_0); have hcz15_1 := zC BK143.out 1 (.slice A0_1 l0_1.length c0_1); have hfz15_0 := bF BK143.out 0; have hfz15_1 := bF BK143.out 1) | ((with_reducible refine gate_callee (f := 51) rfl ?_); refine goesL_ (some 21) rfl rfl Try.func51 (by kernel_rfl) rfl #[.slice A0_1 l0_1.length c0_1, .int .i64 a1, .int .i64 a2] rfl (by (try simp only [mT, mC, mN]); first | done | rfl | (simp only [lD, lT]; rfl)) ?_; (with_reducible refine (runs_Slice.calls k _ _ l0_1 a1 a2 t146 t147 _ ?side1 ?side2 A6.out).mono ?_); (case side1 => repeat (first | exact (cB_ HR0_1.out HB.out) | (with_reducible refine Kd.C_alloc ?_ _) | (with_reducible refine Kd.C_drewN ?_ _) | (with_reducible refine Kd.C_drew ?_))); (case side2 => exact HC0_1.out); rintro e w16 ⟨v148, rfl, ho0, hb⟩; refine ⟨_, rfl, ?_⟩; have n0_ := aM (rL ho0 (bZ (by repeat (first | (with_reducible first | exact HB.out | apply ea | apply en | apply ed | refine es ?_ GE143.out | refine es ?_ GE144.out) | exact HB.out)))); have n1_ := aM (bB (g := gb143) (qy BK143.out) hb); have n2_ := aM (bB (g := gb144) (qy BK144.out) hb); have n3_ := aM (bP (by repeat (first | (with_reducible first | exact HB.out | apply ea | apply en | apply ed | refine es ?_ GE143.out | refine es ?_ GE144.out) | exact HB.out)) hb); clear BK143 BK144 HB; have HO149 := n0_; have BK143 := n1_; have BK144 := n2_; have HB := n3_; clear n0_ n1_ n2_ n3_; (try clear hb); (try clear hb2); (try clear hk); (try clear hi); (try clear ho0); have hcz17_0 := zC BK143.out 0 (.string a0_0); have hcz17_1 := zC BK143.out 1 (.slice A0_1 l0_1.length c0_1); have hfz17_0 := bF BK143.out 0; have hfz17_1 := bF BK143.out 1; obtain ⟨Ao18, co18, eo18⟩ := Kd.R_slice HO149.out; subst eo18; have hcz19_0 := zC BK144.out 0 (.string (⟨#[]⟩ : ByteArray)); have hcz19_1 := zC BK144.out 1 (.slice none 0 0); have hfz19_0 := bF BK144.out 0; have hfz19_1 := bF BK144.out 1))
     refine bodyPost_ret (results_ct rfl _ _ gb144 24 #[.string (a0_0.extract (a1 : Int).toNat (a2 : Int).toNat), .slice Ao18 t146.length co18] (0, 0) _ rfl (by (with_reducible repeat (first | apply qn | apply qd | apply qa)); refine bU (cs := #[.string (a0_0.extract (a1 : Int).toNat (a2 : Int).toNat), .slice none 0 0]) ?_ 1 _ rfl; (with_reducible repeat (first | apply qn | apply qd | apply qa)); refine bU (cs := #[.string (⟨#[]⟩ : ByteArray), .slice none 0 0]) ?_ 0 _ rfl; exact qy BK144.out) Try.underlying24 rfl (by kernel_rfl)) rfl ?_
     exact ⟨_, by first | rfl | (simp [errW_none, errW_some] <;> rfl) | (simp [*, errW_none, errW_some] <;> rfl), by (with_reducible repeat (first | apply ra | apply rn | apply rd_)); exact rM (rF (p := ⟨gb144, 1, none⟩) (rF (p := ⟨gb144, 0, none⟩) (rT HO149.out BK144.out (by decide)) (fun _ hk => hk.2) (.string (a0_0.extract (a1 : Int).toNat (a2 : Int).toNat))) (fun _ hk => hk.2) (.slice Ao18 t146.length co18)) (fun _ hk => trivial), by repeat (first | (with_reducible first | exact HB.out | apply ea | apply en | apply ed | refine es ?_ GE143.out | refine es ?_ GE144.out) | exact HB.out)⟩
    ·rw [if_neg c9] at H
     exact absurd H (by simp)
   ·rw [if_neg c8] at H
    exact absurd H (by simp)
  ·rw [if_neg c7] at H
   exact absurd H (by simp)
 ·replace c5 := Bool.eq_false_iff.mpr c5
  subst c5
  have H1 : (some ((⟨#[]⟩ : ByteArray), ([] : List (S51)), 2)) = some (r1, r2, r3) := by rw [if_neg (show ¬ (false = true) by decide)] at H; exact H
  clear H
  have H := H1
  clear H1
  simp only [Option.some.injEq, Prod.mk.injEq] at H
  obtain ⟨rfl, rfl, rfl⟩ := H
  go_enter Try.func25, Try.ntmps25
  go_wp2_with (first | ((with_reducible refine gate_dst (N := 3) rfl ?_); refine box_event ?hg (N := 3) ?hd (cs := #[.string a0_0, .slice A0_1 l0_1.length c0_1]) (t := 24) ?hr ?_; (case hd | hg => rfl); (case hr => first | (go_simp; done) | (go_simp; rfl)); intro gb143 hg w20 hbox hb; have n0_ := aM (bP (ey HB.out) hb); have n1_ := aM (hbox); have n2_ := aM ((by rw [hg]; exact (bZ (ey HB.out)) : w.heap.size ≤ gb143)); have n3_ := n2_; clear HB; have HB := n0_; have BK143 := n1_; have GW143 := n2_; have GE143 := n3_; clear n0_ n1_ n2_ n3_; clear hb hbox hg) | ((with_reducible refine gate_dst (N := 6) rfl ?_); refine box_event ?hg (N := 6) ?hd (cs := #[.string (⟨#[]⟩ : ByteArray), .slice none 0 0]) (t := 24) ?hr ?_; (case hd | hg => rfl); (case hr => first | (go_simp; done) | (go_simp; rfl)); intro gb144 hg w21 hbox hb; have n0_ := aM (bB (g := gb143) (qy BK143.out) hb); have n1_ := aM (bP (by repeat (first | (with_reducible first | exact HB.out | apply ea | apply en | apply ed | refine es ?_ GE143.out) | exact HB.out)) hb); have n2_ := aM (hbox); have n3_ := aM ((by rw [hg]; exact (bZ (by repeat (first | (with_reducible first | exact HB.out | apply ea | apply en | apply ed | refine es ?_ GE143.out) | exact HB.out))) : w.heap.size ≤ gb144)); have n4_ := n3_; have n5_ := aM ((by rw [hg]; exact Nat.ne_of_lt (blk_lt (g := gb143) (qy BK143.out)) : gb143 ≠ gb144)); have n6_ := aM ((by rw [hg]; exact Nat.ne_of_gt (blk_lt (g := gb143) (qy BK143.out)) : gb144 ≠ gb143)); clear BK143 HB; have BK143 := n0_; have HB := n1_; have BK144 := n2_; have GW144 := n3_; have GE144 := n4_; have NB143_144 := n5_; have NB144_143 := n6_; clear n0_ n1_ n2_ n3_ n4_ n5_ n6_; clear hb hbox hg; have hnb22 := NB143_144.out; have hnc22 := NB144_143.out; have hcz23_0 := zC BK143.out 0 (.string a0_0); have hcz23_1 := zC BK143.out 1 (.slice A0_1 l0_1.length c0_1); have hfz23_0 := bF BK143.out 0; have hfz23_1 := bF BK143.out 1) | ((with_reducible refine gate_callee (f := 50) rfl ?_); refine goesL_ (some 13) rfl rfl Try.func50 (by kernel_rfl) rfl #[.agg #[.string a0_0, .slice A0_1 l0_1.length c0_1], .int .i64 a1, .int .i64 a2] rfl (by (try simp only [mT, mC, mN]); first | done | rfl | (simp only [lD, lT]; rfl)) ?_; (with_reducible refine (strip_within.calls k a0_0 _ _ l0_1 a1 a2 false _ ?side1 ?side2 A4.out).mono ?_); (case side1 => repeat (first | exact (cB_ HR0_1.out HB.out) | (with_reducible refine Kd.C_alloc ?_ _) | (with_reducible refine Kd.C_drewN ?_ _) | (with_reducible refine Kd.C_drew ?_))); (case side2 => exact HC0_1.out); rintro e w24 ⟨rfl, hb⟩; refine ⟨_, rfl, ?_⟩; have n0_ := aM (bB (g := gb143) (qy BK143.out) hb); have n1_ := aM (bB (g := gb144) (qy BK144.out) hb); have n2_ := aM (bP (by repeat (first | (with_reducible first | exact HB.out | apply ea | apply en | apply ed | refine es ?_ GE143.out | refine es ?_ GE144.out) | exact HB.out)) hb); clear BK143 BK144 HB; have BK143 := n0_; have BK144 := n1_; have HB := n2_; clear n0_ n1_ n2_; (try clear hb); (try clear hb2); (try clear hk); (try clear hi); have hcz25_0 := zC BK144.out 0 (.string (⟨#[]⟩ : ByteArray)); have hcz25_1 := zC BK144.out 1 (.slice none 0 0); have hfz25_0 := bF BK144.out 0; have hfz25_1 := bF BK144.out 1))
  refine bodyPost_ret (results_ct rfl _ _ gb144 24 #[.string (⟨#[]⟩ : ByteArray), .slice none 0 0] (0, 0) _ rfl (by (with_reducible repeat (first | apply qn | apply qd | apply qa)); refine bU (cs := #[.string (⟨#[]⟩ : ByteArray), .slice none 0 0]) ?_ 1 _ rfl; (with_reducible repeat (first | apply qn | apply qd | apply qa)); refine bU (cs := #[.string (⟨#[]⟩ : ByteArray), .slice none 0 0]) ?_ 0 _ rfl; exact qy BK144.out) Try.underlying24 rfl (by kernel_rfl)) rfl ?_
  exact ⟨_, by first | rfl | (simp [errW_none, errW_some] <;> rfl) | (simp [*, errW_none, errW_some] <;> rfl), by first | exact Kd.R_nil _ _ _ _ _ | exact Kd.N_nil _ _ _ _ _ | exact Kd.V_nil _ _ _ _ _ | exact Kd.Q_nil _ _ _ _ _ | exact Kd.S_nil _ _ _ _ _, by repeat (first | (with_reducible first | exact HB.out | apply ea | apply en | apply ed | refine es ?_ GE143.out | refine es ?_ GE144.out) | exact HB.out)⟩
end Go.Proofs.Ytnbdldpjiofafaa.PB
end

section
namespace Go.Proofs.Ytnbdldpjiofafaa.PB
open Go.RowKit Go.Proofs.YtnbdldpjiofafaaW.PrintWords Go.Proofs.YtnbdldpjiofafaaW.PrintLast Go.Proofs.YtnbdldpjiofafaaW.PrintMore
attribute [local go_sem] max2_int min2_int max_two min_two max_three min_three max_four min_four   
set_option linter.unusedVariables false
set_option linter.unusedSimpArgs false
def strip_Splice.j0 : Nat → Int → Int → Bool → ByteArray → List (S51) → ByteArray → List (S51) → Option (ByteArray × (List (S51)) × Int)
 | 0, _, _, _, _, _, _, _ => none
 | k + 1, x1, x2, x21, x151000, x151001, x152000, x152001 => if x21 = true then (some ((⟨#[]⟩ : ByteArray), ([] : List (S51)), 2)) else ((runs_Splice.f k x151001 x1 x2 x152001).bind fun bt155 => (if bt155.2 = 0 then (if 0 ≤ x1 then (if x1 ≤ (x151000.size : Int) then (if (x151000.extract 0 (x1 : Int).toNat).size + x152000.size ≤ 9223372036854775807 then (if 0 ≤ x2 then (if x2 ≤ (x151000.size : Int) then (if ((x151000.extract 0 (x1 : Int).toNat) ++ x152000).size + (x151000.extract (x2 : Int).toNat x151000.size).size ≤ 9223372036854775807 then (some (((x151000.extract 0 (x1 : Int).toNat) ++ x152000) ++ (x151000.extract (x2 : Int).toNat x151000.size), bt155.1, 0)) else (none)) else (none)) else (none)) else (none)) else (none)) else (none)) else (some ((⟨#[]⟩ : ByteArray), ([] : List (S51)), bt155.2))))
def strip_Splice.f (k : Nat) (a0_0 : ByteArray) (l0_1 : List (S51)) (a1 : Int) (a2 : Int) (a3_0 : ByteArray) (l3_1 : List (S51)) : Option (ByteArray × (List (S51)) × Int) := (strip_within.f k a0_0 l0_1 a1 a2).bind fun t153 => (if t153 = true then ((strip_Good.f k a3_0 l3_1).bind fun t154 => (strip_Splice.j0 k a1 a2 (!t154) a0_0 l0_1 a3_0 l3_1)) else (strip_Splice.j0 k a1 a2 true a0_0 l0_1 a3_0 l3_1))
theorem strip_Splice.mono_l : ∀ k, (∀ y0 y1 y2 y3 y4 y5 y6, LeO (strip_Splice.j0 k y0 y1 y2 y3 y4 y5 y6) (strip_Splice.j0 (k + 1) y0 y1 y2 y3 y4 y5 y6))
 | 0 => fun _ _ _ _ _ _ _ r h => by simp [strip_Splice.j0] at h
 | k + 1 => by
  have ih0 := strip_Splice.mono_l k
  ·intro y0 y1 y2 y3 y4 y5 y6
   unfold strip_Splice.j0
   repeat' first
   | (with_reducible exact ih0 _ _ _ _ _ _ _)
   | (with_reducible exact runs_Splice.mono _ _ _ _ _)
   | (with_reducible exact strip_Good.mono _ _ _)
   | (with_reducible exact strip_within.mono _ _ _ _ _)
   | (with_reducible exact LeO.refl _)
   | (with_reducible exact LeO.none _)
   | (with_reducible refine LeO.ite ?_ ?_)
   | (with_reducible refine LeO.bind ?_ (fun _ => ?_))
   | exact ih0 _ _ _ _ _ _ _
   | exact runs_Splice.mono _ _ _ _ _
   | exact strip_Good.mono _ _ _
   | exact strip_within.mono _ _ _ _ _
   | exact LeO.none _
   | refine LeO.ite ?_ ?_
   | refine LeO.bind ?_ (fun _ => ?_)
theorem strip_Splice.mono : ∀ a0 a1 a2 a3 a4 a5 k, LeO (strip_Splice.f k a0 a1 a2 a3 a4 a5) (strip_Splice.f (k + 1) a0 a1 a2 a3 a4 a5) := by
 intro a0 a1 a2 a3 a4 a5 k
 have ih0 := strip_Splice.mono_l k
 unfold strip_Splice.f
 repeat' first
   | (with_reducible exact ih0 _ _ _ _ _ _ _)
   | (with_reducible exact runs_Splice.mono _ _ _ _ _)
   | (with_reducible exact strip_Good.mono _ _ _)
   | (with_reducible exact strip_within.mono _ _ _ _ _)
   | (with_reducible exact LeO.refl _)
   | (with_reducible exact LeO.none _)
   | (with_reducible refine LeO.ite ?_ ?_)
   | (with_reducible refine LeO.bind ?_ (fun _ => ?_))
   | exact ih0 _ _ _ _ _ _ _
   | exact runs_Splice.mono _ _ _ _ _
   | exact strip_Good.mono _ _ _
   | exact strip_within.mono _ _ _ _ _
   | exact LeO.none _
   | refine LeO.ite ?_ ?_
   | refine LeO.bind ?_ (fun _ => ?_)
def strip_Splice.T6 : Bool × List (List Nat × List Nat) := (true, [([], []), ([0], [0]), ([], []), ([1, 2], [1, 2]), ([], []), ([4], [4]), ([3, 5], [3, 5]), ([], []), ([7], [7]), ([], []), ([8, 9], [8, 9]), ([6, 10], [6, 10]), ([], []), ([11, 12], [11, 12]), ([13, 0, 1, 2, 3, 4, 5, 6, 7, 8, 9, 10, 11, 12, 13], [13]), ([14, 0, 1, 2, 3, 4, 5, 6, 7, 8, 9, 10, 11, 12, 13, 14], [])])
def strip_Splice.B6 : List Nat := [0, 1, 0, 7, 0, 16, 63, 0, 128, 0, 896, 2047, 0, 8191, 16383, 32767]
theorem strip_Splice.tab6 : rtab .any (opsOf Try.f52 6) = strip_Splice.T6 := by kernel_rfl
theorem strip_Splice.bits6 : waitsOk strip_Splice.T6.2 strip_Splice.B6 = true := by kernel_rfl
set_option maxHeartbeats 8000000 in
set_option maxRecDepth 100000 in
theorem strip_Splice.calls (k : Nat) (a0_0 : ByteArray) (A0_1 : Option Addr) (c0_1 : Nat) (l0_1 : List (S51)) (a1 : Int) (a2 : Int) (a3_0 : ByteArray) (A3_1 : Option Addr) (c3_1 : Nat) (l3_1 : List (S51)) (r1 : ByteArray) (r2 : List (S51)) (r3 : Int) (w : World) (hr0_1 : Kd.C k51 w A0_1 l0_1.length l0_1) (hc0_1 : l0_1.length ≤ c0_1) (hr3_1 : Kd.C k51 w A3_1 l3_1.length l3_1) (hc3_1 : l3_1.length ≤ c3_1) (h : strip_Splice.f k a0_0 l0_1 a1 a2 a3_0 l3_1 = some (r1, r2, r3)) :
  Calls Try.prog 52 #[.agg #[.string a0_0, .slice A0_1 l0_1.length c0_1], .int .i64 a1, .int .i64 a2, .agg #[.string a3_0, .slice A3_1 l3_1.length c3_1]] w fun e w' => ∃ v1_ : Value, e = .returned (.tuple #[.agg #[.string r1, v1_], .int .i64 r3]) ∧ Kd.R k51 51 w' w.heap.size (fun _ => True) v1_ r2 ∧ Below w.heap.size w w' := by
 have hu24 := Try.underlying24
 have HR0_1 := aM hr0_1
 have HC0_1 := aM hc0_1
 clear hr0_1 hc0_1
 have HR3_1 := aM hr3_1
 have HC3_1 := aM hc3_1
 clear hr3_1 hc3_1
 have HB := aM (Below.refl w.heap.size w)
 have H : ((strip_within.f k a0_0 l0_1 a1 a2).bind fun t153 => (if t153 = true then ((strip_Good.f k a3_0 l3_1).bind fun t154 => (strip_Splice.j0 k a1 a2 (!t154) a0_0 l0_1 a3_0 l3_1)) else (strip_Splice.j0 k a1 a2 true a0_0 l0_1 a3_0 l3_1))) = some (r1, r2, r3) := h
 clear h
 have HC5 := aM H
 clear H
 go_enter Try.func52, Try.ntmps52
 go_upto_region 1 with (first | ((with_reducible refine gate_dst (N := 4) rfl ?_); refine box_event ?hg (N := 4) ?hd (cs := #[.string a0_0, .slice A0_1 l0_1.length c0_1]) (t := 24) ?hr ?_; (case hd | hg => rfl); (case hr => first | (go_simp; done) | (go_simp; rfl)); intro gb150 hg w6 hbox hb; have n0_ := aM (bP (ey HB.out) hb); have n1_ := aM (hbox); have n2_ := aM ((by rw [hg]; exact (bZ (ey HB.out)) : w.heap.size ≤ gb150)); have n3_ := n2_; clear HB; have HB := n0_; have BK150 := n1_; have GW150 := n2_; have GE150 := n3_; clear n0_ n1_ n2_ n3_; clear hb hbox hg) | ((with_reducible refine gate_dst (N := 7) rfl ?_); refine box_event ?hg (N := 7) ?hd (cs := #[.string a3_0, .slice A3_1 l3_1.length c3_1]) (t := 24) ?hr ?_; (case hd | hg => rfl); (case hr => first | (go_simp; done) | (go_simp; rfl)); intro gb151 hg w7 hbox hb; have n0_ := aM (bB (g := gb150) (qy BK150.out) hb); have n1_ := aM (bP (by repeat (first | (with_reducible first | exact HB.out | apply ea | apply en | apply ed | refine es ?_ GE150.out) | exact HB.out)) hb); have n2_ := aM (hbox); have n3_ := aM ((by rw [hg]; exact (bZ (by repeat (first | (with_reducible first | exact HB.out | apply ea | apply en | apply ed | refine es ?_ GE150.out) | exact HB.out))) : w.heap.size ≤ gb151)); have n4_ := n3_; have n5_ := aM ((by rw [hg]; exact Nat.ne_of_lt (blk_lt (g := gb150) (qy BK150.out)) : gb150 ≠ gb151)); have n6_ := aM ((by rw [hg]; exact Nat.ne_of_gt (blk_lt (g := gb150) (qy BK150.out)) : gb151 ≠ gb150)); clear BK150 HB; have BK150 := n0_; have HB := n1_; have BK151 := n2_; have GW151 := n3_; have GE151 := n4_; have NB150_151 := n5_; have NB151_150 := n6_; clear n0_ n1_ n2_ n3_ n4_ n5_ n6_; clear hb hbox hg) | ((with_reducible refine gate_dst (N := 8) rfl ?_); refine box_event ?hg (N := 8) ?hd (cs := #[.string (⟨#[]⟩ : ByteArray), .slice none 0 0]) (t := 24) ?hr ?_; (case hd | hg => rfl); (case hr => first | (go_simp; done) | (go_simp; rfl)); intro gb152 hg w8 hbox hb; have n0_ := aM (bB (g := gb150) (qy BK150.out) hb); have n1_ := aM (bB (g := gb151) (qy BK151.out) hb); have n2_ := aM (bP (by repeat (first | (with_reducible first | exact HB.out | apply ea | apply en | apply ed | refine es ?_ GE150.out | refine es ?_ GE151.out) | exact HB.out)) hb); have n3_ := aM (hbox); have n4_ := aM ((by rw [hg]; exact (bZ (by repeat (first | (with_reducible first | exact HB.out | apply ea | apply en | apply ed | refine es ?_ GE150.out | refine es ?_ GE151.out) | exact HB.out))) : w.heap.size ≤ gb152)); have n5_ := n4_; have n6_ := aM ((by rw [hg]; exact Nat.ne_of_lt (blk_lt (g := gb150) (qy BK150.out)) : gb150 ≠ gb152)); have n7_ := aM ((by rw [hg]; exact Nat.ne_of_gt (blk_lt (g := gb150) (qy BK150.out)) : gb152 ≠ gb150)); have n8_ := aM ((by rw [hg]; exact Nat.ne_of_lt (blk_lt (g := gb151) (qy BK151.out)) : gb151 ≠ gb152)); have n9_ := aM ((by rw [hg]; exact Nat.ne_of_gt (blk_lt (g := gb151) (qy BK151.out)) : gb152 ≠ gb151)); clear BK150 BK151 HB; have BK150 := n0_; have BK151 := n1_; have HB := n2_; have BK152 := n3_; have GW152 := n4_; have GE152 := n5_; have NB150_152 := n6_; have NB152_150 := n7_; have NB151_152 := n8_; have NB152_151 := n9_; clear n0_ n1_ n2_ n3_ n4_ n5_ n6_ n7_ n8_ n9_; clear hb hbox hg))
 (try simp only [Act.put, sA, sZ, sS])
 go_cut [21] (fun v21 wc => ∃ (kq : Nat) (x21_4 : Bool), v21 = .bool x21_4 ∧ Aside0 (strip_Splice.j0 kq a1 a2 x21_4 a0_0 l0_1 a3_0 l3_1 = some (r1, r2, r3)) ∧ Aside0 (kq ≤ k) ∧ Aside0 (wc.heap[gb150]? = some (.cells #[.string a0_0, (.slice A0_1 l0_1.length c0_1)] 24 (0, 0))) ∧ Aside0 (wc.heap[gb151]? = some (.cells #[.string a3_0, (.slice A3_1 l3_1.length c3_1)] 24 (0, 0))) ∧ Aside0 (wc.heap[gb152]? = some (.cells #[.string (⟨#[]⟩ : ByteArray), (.slice none 0 0)] 24 (0, 0))) ∧ Aside0 (Below w.heap.size w wc))
 case first =>
  have H := HC5.out
  clear HC5
  replace H := Option.bind_eq_some_iff.mp H
  obtain ⟨t153, A90, H⟩ := H
  replace H : (if t153 = true then ((strip_Good.f k a3_0 l3_1).bind fun t154 => (strip_Splice.j0 k a1 a2 (!t154) a0_0 l0_1 a3_0 l3_1)) else (strip_Splice.j0 k a1 a2 true a0_0 l0_1 a3_0 l3_1)) = some (r1, r2, r3) := H
  have A9 := aM A90
  clear A90
  by_cases c10 : t153 = true
  ·subst c10
   have H1 : ((strip_Good.f k a3_0 l3_1).bind fun t154 => (strip_Splice.j0 k a1 a2 (!t154) a0_0 l0_1 a3_0 l3_1)) = some (r1, r2, r3) := by rw [if_pos rfl] at H; exact H
   clear H
   have H := H1
   clear H1
   replace H := Option.bind_eq_some_iff.mp H
   obtain ⟨t154, A110, H⟩ := H
   replace H : (strip_Splice.j0 k a1 a2 (!t154) a0_0 l0_1 a3_0 l3_1) = some (r1, r2, r3) := H
   have A11 := aM A110
   clear A110
   have H' := aM H
   clear H
   have hnb12 := NB150_151.out
   have hnc12 := NB151_150.out
   have hnb13 := NB150_152.out
   have hnc13 := NB152_150.out
   have hcz14_0 := zC BK150.out 0 (.string a0_0)
   have hcz14_1 := zC BK150.out 1 (.slice A0_1 l0_1.length c0_1)
   have hfz14_0 := bF BK150.out 0
   have hfz14_1 := bF BK150.out 1
   go_wp2_with (first | ((with_reducible refine gate_callee (f := 50) rfl ?_); refine goesL_ (some 15) rfl rfl Try.func50 (by kernel_rfl) rfl #[.agg #[.string a0_0, .slice A0_1 l0_1.length c0_1], .int .i64 a1, .int .i64 a2] rfl (by (try simp only [mT, mC, mN]); first | done | rfl | (simp only [lD, lT]; rfl)) ?_; (with_reducible refine (strip_within.calls k a0_0 _ _ l0_1 a1 a2 true _ ?side1 ?side2 A9.out).mono ?_); (case side1 => repeat (first | exact (cB_ HR0_1.out HB.out) | (with_reducible refine Kd.C_alloc ?_ _) | (with_reducible refine Kd.C_drewN ?_ _) | (with_reducible refine Kd.C_drew ?_))); (case side2 => exact HC0_1.out); rintro e w15 ⟨rfl, hb⟩; refine ⟨_, rfl, ?_⟩; have n0_ := aM (bB (g := gb150) (qy BK150.out) hb); have n1_ := aM (bB (g := gb151) (qy BK151.out) hb); have n2_ := aM (bB (g := gb152) (qy BK152.out) hb); have n3_ := aM (bP (by repeat (first | (with_reducible first | exact HB.out | apply ea | apply en | apply ed | refine es ?_ GE150.out | refine es ?_ GE151.out | refine es ?_ GE152.out) | exact HB.out)) hb); clear BK150 BK151 BK152 HB; have BK150 := n0_; have BK151 := n1_; have BK152 := n2_; have HB := n3_; clear n0_ n1_ n2_ n3_; (try clear hb); (try clear hb2); (try clear hk); (try clear hi); have hnb16 := NB151_152.out; have hnc16 := NB152_151.out; have hcz17_0 := zC BK151.out 0 (.string a3_0); have hcz17_1 := zC BK151.out 1 (.slice A3_1 l3_1.length c3_1); have hfz17_0 := bF BK151.out 0; have hfz17_1 := bF BK151.out 1) | (go_at_call 43; (with_reducible refine (strip_Good.calls k a3_0 _ _ l3_1 t154 _ ?side1 ?side2 A11.out).mono ?_); (case side1 => repeat (first | exact (cB_ HR3_1.out HB.out) | (with_reducible refine Kd.C_alloc ?_ _) | (with_reducible refine Kd.C_drewN ?_ _) | (with_reducible refine Kd.C_drew ?_))); (case side2 => exact HC3_1.out); rintro e w18 ⟨rfl, hb⟩; have n0_ := aM (bB (g := gb150) (qy BK150.out) hb); have n1_ := aM (bB (g := gb151) (qy BK151.out) hb); have n2_ := aM (bB (g := gb152) (qy BK152.out) hb); have n3_ := aM (bP (by repeat (first | (with_reducible first | exact HB.out | apply ea | apply en | apply ed | refine es ?_ GE150.out | refine es ?_ GE151.out | refine es ?_ GE152.out) | exact HB.out)) hb); clear BK150 BK151 BK152 HB; have BK150 := n0_; have BK151 := n1_; have BK152 := n2_; have HB := n3_; clear n0_ n1_ n2_ n3_; (try clear hb); (try clear hb2); (try clear hk); (try clear hi)))
   go_meet
   case rel => exact ⟨_, (!t154), (by first | rfl | (simp; done) | (simp [*]; done)), H', ⟨by first | omega | exact Nat.le_refl _⟩, ⟨by exact qy BK150.out⟩, ⟨by exact qy BK151.out⟩, ⟨by exact qy BK152.out⟩, ⟨by repeat (first | (with_reducible first | exact HB.out | apply ea | apply en | apply ed | refine es ?_ GE150.out | refine es ?_ GE151.out | refine es ?_ GE152.out) | exact HB.out)⟩⟩
  ·replace c10 := Bool.eq_false_iff.mpr c10
   subst c10
   have H1 : (strip_Splice.j0 k a1 a2 true a0_0 l0_1 a3_0 l3_1) = some (r1, r2, r3) := by rw [if_neg (show ¬ (false = true) by decide)] at H; exact H
   clear H
   have H := H1
   clear H1
   have H' := aM H
   clear H
   have hnb19 := NB150_151.out
   have hnc19 := NB151_150.out
   have hnb20 := NB150_152.out
   have hnc20 := NB152_150.out
   have hcz21_0 := zC BK150.out 0 (.string a0_0)
   have hcz21_1 := zC BK150.out 1 (.slice A0_1 l0_1.length c0_1)
   have hfz21_0 := bF BK150.out 0
   have hfz21_1 := bF BK150.out 1
   go_wp2_with (first | ((with_reducible refine gate_callee (f := 50) rfl ?_); refine goesL_ (some 15) rfl rfl Try.func50 (by kernel_rfl) rfl #[.agg #[.string a0_0, .slice A0_1 l0_1.length c0_1], .int .i64 a1, .int .i64 a2] rfl (by (try simp only [mT, mC, mN]); first | done | rfl | (simp only [lD, lT]; rfl)) ?_; (with_reducible refine (strip_within.calls k a0_0 _ _ l0_1 a1 a2 false _ ?side1 ?side2 A9.out).mono ?_); (case side1 => repeat (first | exact (cB_ HR0_1.out HB.out) | (with_reducible refine Kd.C_alloc ?_ _) | (with_reducible refine Kd.C_drewN ?_ _) | (with_reducible refine Kd.C_drew ?_))); (case side2 => exact HC0_1.out); rintro e w22 ⟨rfl, hb⟩; refine ⟨_, rfl, ?_⟩; have n0_ := aM (bB (g := gb150) (qy BK150.out) hb); have n1_ := aM (bB (g := gb151) (qy BK151.out) hb); have n2_ := aM (bB (g := gb152) (qy BK152.out) hb); have n3_ := aM (bP (by repeat (first | (with_reducible first | exact HB.out | apply ea | apply en | apply ed | refine es ?_ GE150.out | refine es ?_ GE151.out | refine es ?_ GE152.out) | exact HB.out)) hb); clear BK150 BK151 BK152 HB; have BK150 := n0_; have BK151 := n1_; have BK152 := n2_; have HB := n3_; clear n0_ n1_ n2_ n3_; (try clear hb); (try clear hb2); (try clear hk); (try clear hi)))
   go_meet
   case rel => exact ⟨_, (true), (by first | rfl | (simp; done) | (simp [*]; done)), H', ⟨by first | omega | exact Nat.le_refl _⟩, ⟨by exact qy BK150.out⟩, ⟨by exact qy BK151.out⟩, ⟨by exact qy BK152.out⟩, ⟨by repeat (first | (with_reducible first | exact HB.out | apply ea | apply en | apply ed | refine es ?_ GE150.out | refine es ?_ GE151.out | refine es ?_ GE152.out) | exact HB.out)⟩⟩
 case rest =>
  clear HC5
  try clear c1
  try clear c2
  try clear p2
  try clear c3
  try clear c5
  try clear c10
  try clear c12
  try clear c13
  try clear c16
  try clear c19
  try clear c20
  try clear hcz14_0
  try clear hcz14_1
  try clear hcz17_0
  try clear hcz17_1
  try clear hcz21_0
  try clear hcz21_1
  try clear hfz14_0
  try clear hfz14_1
  try clear hfz17_0
  try clear hfz17_1
  try clear hfz21_0
  try clear hfz21_1
  obtain ⟨kq, x21_4, rfl, HA, HJ4, BK150, BK151, BK152, HB⟩ := hcut
  cases kq with
  | zero => exact absurd HA.out (by simp [strip_Splice.j0])
  | succ kj4 =>
   have H := HA.out
   clear HA
   simp only [strip_Splice.j0] at H
   by_cases c23 : x21_4 = true
   ·subst c23
    have H1 : (some ((⟨#[]⟩ : ByteArray), ([] : List (S51)), 2)) = some (r1, r2, r3) := by rw [if_pos rfl] at H; exact H
    clear H
    have H := H1
    clear H1
    simp only [Option.some.injEq, Prod.mk.injEq] at H
    obtain ⟨rfl, rfl, rfl⟩ := H
    have hnb24 := NB152_150.out
    have hnc24 := NB150_152.out
    have hnb25 := NB152_151.out
    have hnc25 := NB151_152.out
    have hcz26_0 := zC BK152.out 0 (.string (⟨#[]⟩ : ByteArray))
    have hcz26_1 := zC BK152.out 1 (.slice none 0 0)
    have hfz26_0 := bF BK152.out 0
    have hfz26_1 := bF BK152.out 1
    go_wp2
    refine bodyPost_ret (results_ct rfl _ _ gb152 24 #[.string (⟨#[]⟩ : ByteArray), .slice none 0 0] (0, 0) _ rfl (by (with_reducible repeat (first | apply qn | apply qd | apply qa)); refine bU (cs := #[.string (⟨#[]⟩ : ByteArray), .slice none 0 0]) ?_ 1 _ rfl; (with_reducible repeat (first | apply qn | apply qd | apply qa)); refine bU (cs := #[.string (⟨#[]⟩ : ByteArray), .slice none 0 0]) ?_ 0 _ rfl; exact qy BK152.out) Try.underlying24 rfl (by kernel_rfl)) rfl ?_
    exact ⟨_, by first | rfl | (simp [errW_none, errW_some] <;> rfl) | (simp [*, errW_none, errW_some] <;> rfl), by first | exact Kd.R_nil _ _ _ _ _ | exact Kd.N_nil _ _ _ _ _ | exact Kd.V_nil _ _ _ _ _ | exact Kd.Q_nil _ _ _ _ _ | exact Kd.S_nil _ _ _ _ _, by repeat (first | (with_reducible first | exact HB.out | apply ea | apply en | apply ed | refine es ?_ GE150.out | refine es ?_ GE151.out | refine es ?_ GE152.out) | exact HB.out)⟩
   ·replace c23 := Bool.eq_false_iff.mpr c23
    subst c23
    have H1 : ((runs_Splice.f kj4 l0_1 a1 a2 l3_1).bind fun bt155 => (if bt155.2 = 0 then (if 0 ≤ a1 then (if a1 ≤ (a0_0.size : Int) then (if (a0_0.extract 0 (a1 : Int).toNat).size + a3_0.size ≤ 9223372036854775807 then (if 0 ≤ a2 then (if a2 ≤ (a0_0.size : Int) then (if ((a0_0.extract 0 (a1 : Int).toNat) ++ a3_0).size + (a0_0.extract (a2 : Int).toNat a0_0.size).size ≤ 9223372036854775807 then (some (((a0_0.extract 0 (a1 : Int).toNat) ++ a3_0) ++ (a0_0.extract (a2 : Int).toNat a0_0.size), bt155.1, 0)) else (none)) else (none)) else (none)) else (none)) else (none)) else (none)) else (some ((⟨#[]⟩ : ByteArray), ([] : List (S51)), bt155.2)))) = some (r1, r2, r3) := by rw [if_neg (show ¬ (false = true) by decide)] at H; exact H
    clear H
    have H := H1
    clear H1
    replace H := Option.bind_eq_some_iff.mp H
    obtain ⟨⟨t155, t156⟩, A270, H⟩ := H
    replace H : (if t156 = 0 then (if 0 ≤ a1 then (if a1 ≤ (a0_0.size : Int) then (if (a0_0.extract 0 (a1 : Int).toNat).size + a3_0.size ≤ 9223372036854775807 then (if 0 ≤ a2 then (if a2 ≤ (a0_0.size : Int) then (if ((a0_0.extract 0 (a1 : Int).toNat) ++ a3_0).size + (a0_0.extract (a2 : Int).toNat a0_0.size).size ≤ 9223372036854775807 then (some (((a0_0.extract 0 (a1 : Int).toNat) ++ a3_0) ++ (a0_0.extract (a2 : Int).toNat a0_0.size), t155, 0)) else (none)) else (none)) else (none)) else (none)) else (none)) else (none)) else (some ((⟨#[]⟩ : ByteArray), ([] : List (S51)), t156))) = some (r1, r2, r3) := H
    have A27 := aM A270
    clear A270
    by_cases c28 : t156 = 0
    ·rw [if_pos c28] at H
     have c28b0 : (t156 == 0) = true := beq_iff_eq.mpr c28
     have c28b1 : (t156 != 0) = false := bne_eq_false_iff_eq.mpr c28
     clear c28
     by_cases c29 : 0 ≤ a1
     ·rw [if_pos c29] at H
      have c29b0 := eq_true c29
      have c29b1 : decide (0 ≤ a1) = true := decide_eq_true c29
      clear c29
      by_cases c30 : a1 ≤ (a0_0.size : Int)
      ·rw [if_pos c30] at H
       have c30b0 := eq_true c30
       have c30b1 : decide (a1 ≤ (a0_0.size : Int)) = true := decide_eq_true c30
       clear c30
       by_cases c31 : (a0_0.extract 0 (a1 : Int).toNat).size + a3_0.size ≤ 9223372036854775807
       ·rw [if_pos c31] at H
        have c31b0 := eq_true c31
        have c31b1 : decide ((a0_0.extract 0 (a1 : Int).toNat).size + a3_0.size ≤ 9223372036854775807) = true := decide_eq_true c31
        try have c31b2 : (9223372036854775807 < (a0_0.extract 0 (a1 : Int).toNat).size + a3_0.size) = False := eq_false (Nat.not_lt.2 c31)
        try (have c31c_ := c31; simp [go_sem, c29b0, c30b0] at c31c_; have c31d_ := eq_false (Nat.not_lt.2 c31c_); clear c31c_)
        by_cases c32 : 0 ≤ a2
        ·rw [if_pos c32] at H
         have c32b0 := eq_true c32
         have c32b1 : decide (0 ≤ a2) = true := decide_eq_true c32
         clear c32
         by_cases c33 : a2 ≤ (a0_0.size : Int)
         ·rw [if_pos c33] at H
          have c33b0 := eq_true c33
          have c33b1 : decide (a2 ≤ (a0_0.size : Int)) = true := decide_eq_true c33
          clear c33
          by_cases c34 : ((a0_0.extract 0 (a1 : Int).toNat) ++ a3_0).size + (a0_0.extract (a2 : Int).toNat a0_0.size).size ≤ 9223372036854775807
          ·rw [if_pos c34] at H
           have c34b0 := eq_true c34
           have c34b1 : decide (((a0_0.extract 0 (a1 : Int).toNat) ++ a3_0).size + (a0_0.extract (a2 : Int).toNat a0_0.size).size ≤ 9223372036854775807) = true := decide_eq_true c34
           try have c34b2 : (9223372036854775807 < ((a0_0.extract 0 (a1 : Int).toNat) ++ a3_0).size + (a0_0.extract (a2 : Int).toNat a0_0.size).size) = False := eq_false (Nat.not_lt.2 c34)
           try (have c34c_ := c34; simp [go_sem, c29b0, c30b0, c31b0, c32b0, c33b0] at c34c_; have c34d_ := eq_false (Nat.not_lt.2 c34c_); clear c34c_)
           simp only [Option.some.injEq, Prod.mk.injEq] at H
           obtain ⟨rfl, rfl, rfl⟩ := H
           have hnb35 := NB150_151.out
           have hnc35 := NB151_150.out
           have hnb36 := NB150_152.out
           have hnc36 := NB152_150.out
           have hcz37_0 := zC BK150.out 0 (.string a0_0)
           have hcz37_1 := zC BK150.out 1 (.slice A0_1 l0_1.length c0_1)
           have hfz37_0 := bF BK150.out 0
           have hfz37_1 := bF BK150.out 1
           have hnb38 := NB151_152.out
           have hnc38 := NB152_151.out
           have hcz39_0 := zC BK151.out 0 (.string a3_0)
           have hcz39_1 := zC BK151.out 1 (.slice A3_1 l3_1.length c3_1)
           have hfz39_0 := bF BK151.out 0
           have hfz39_1 := bF BK151.out 1
           try go_wp2_with (first | ((with_reducible refine gate_callee (f := 75) rfl ?_); refine goesL_ (some 30) rfl rfl Try.func75 (by kernel_rfl) rfl #[.slice A0_1 l0_1.length c0_1, .int .i64 a1, .int .i64 a2, .slice A3_1 l3_1.length c3_1] rfl (by (try simp only [mT, mC, mN]); first | done | rfl | (simp only [lD, lT]; rfl)) ?_; (with_reducible refine (runs_Splice.calls kj4 _ _ l0_1 a1 a2 _ _ l3_1 t155 t156 _ ?side1 ?side2 ?side3 ?side4 A27.out).mono ?_); (case side1 => repeat (first | exact (cB_ HR0_1.out HB.out) | (with_reducible refine Kd.C_alloc ?_ _) | (with_reducible refine Kd.C_drewN ?_ _) | (with_reducible refine Kd.C_drew ?_))); (case side2 => exact HC0_1.out); (case side3 => repeat (first | exact (cB_ HR3_1.out HB.out) | (with_reducible refine Kd.C_alloc ?_ _) | (with_reducible refine Kd.C_drewN ?_ _) | (with_reducible refine Kd.C_drew ?_))); (case side4 => exact HC3_1.out); rintro e w40 ⟨v157, rfl, ho0, hb⟩; refine ⟨_, rfl, ?_⟩; have n0_ := aM (rL ho0 (bZ (by repeat (first | (with_reducible first | exact HB.out | apply ea | apply en | apply ed | refine es ?_ GE150.out | refine es ?_ GE151.out | refine es ?_ GE152.out) | exact HB.out)))); have n1_ := aM (bB (g := gb150) (qy BK150.out) hb); have n2_ := aM (bB (g := gb151) (qy BK151.out) hb); have n3_ := aM (bB (g := gb152) (qy BK152.out) hb); have n4_ := aM (bP (by repeat (first | (with_reducible first | exact HB.out | apply ea | apply en | apply ed | refine es ?_ GE150.out | refine es ?_ GE151.out | refine es ?_ GE152.out) | exact HB.out)) hb); clear BK150 BK151 BK152 HB; have HO158 := n0_; have BK150 := n1_; have BK151 := n2_; have BK152 := n3_; have HB := n4_; clear n0_ n1_ n2_ n3_ n4_; (try clear hb); (try clear hb2); (try clear hk); (try clear hi); (try clear ho0)))
           have n0_ := aM (Kd.R_drew HO158.out)
           have n1_ := aM (blk_drew BK150.out)
           have n2_ := aM (blk_drew BK151.out)
           have n3_ := aM (blk_drew BK152.out)
           have n4_ := aM (below_drew1 HB.out)
           clear HO158
           clear BK150
           clear BK151
           clear BK152
           clear HB
           have HO158 := n0_
           have BK150 := n1_
           have BK151 := n2_
           have BK152 := n3_
           have HB := n4_
           clear n0_ n1_ n2_ n3_ n4_
           obtain ⟨Ao42, co42, eo42⟩ := Kd.R_slice HO158.out
           (first | subst eo42 | (injection eo42 with f1_ f2_ f3_; have f4_ := f1_.symm; have f5_ := f3_.symm; clear f1_ f2_ f3_; subst f4_; subst f5_))
           refine start_ (n := 16) (S := fun w' => w'.cell? ⟨gb150, 0, none⟩ = some (.string a0_0) ∧ w'.cell? ⟨gb150, 1, none⟩ = some (.slice A0_1 l0_1.length c0_1) ∧ w'.cell? ⟨gb151, 0, none⟩ = some (.string a3_0) ∧ w'.cell? ⟨gb151, 1, none⟩ = some (.slice A3_1 l3_1.length c3_1)) (ds := []) b28_ (by kernel_rfl) rfl rfl ⟨(bC BK150.out 0).trans rfl, (bC BK150.out 1).trans rfl, (bC BK151.out 0).trans rfl, (bC BK151.out 1).trans rfl⟩ (fun hHeld => ?_); refine with_tabW strip_Splice.tab6 strip_Splice.bits6 (fun HT_ HW_ => ?_)
           generalize w40.drew = w41 at HO158 BK150 BK151 BK152 HB hHeld ⊢
           refine pv 0 37 b29_ HT_ ?_
           refine pv 2 39 b30_ HT_ ?_
           refine pv 4 41 b31_ HT_ ?_
           refine pv 7 44 b32_ HT_ ?_
           refine pv 9 46 b33_ HT_ ?_
           refine pv 12 49 b34_ HT_ ?_
           refine pt 1 38 b35_ HT_ HW_ hHeld ?_
           refine pv 3 40 b36_ HT_ ?_
           refine pt 5 42 b37_ HT_ HW_ hHeld ?_
           refine pv 6 43 b38_ HT_ ?_
           refine pt 8 45 b39_ HT_ HW_ hHeld ?_
           refine pv 10 47 b40_ HT_ ?_
           refine pv 11 48 b41_ HT_ ?_
           refine pv 13 50 b42_ HT_ ?_
           refine one_ (i := 14) (N := none) b43_ rfl rfl (one_of HT_.out (by kernel_rfl)) (by decide) (fun K hK => ?_)
           have hs43 : w41.cell? ⟨gb152, 0, none⟩ = some (.string (⟨#[]⟩ : ByteArray)) := (bC BK152.out 0).trans rfl
           have hfs43 := bF BK152.out 0
           have hns43_0 := NB150_152.out
           have hns43_1 := NB151_152.out
           have hms43_0 := NB152_150.out
           have hms43_1 := NB152_151.out
           have hs44 : w41.cell? ⟨gb152, 1, none⟩ = some (.slice none 0 0) := (bC BK152.out 1).trans rfl
           have hfs44 := bF BK152.out 1
           have hns44_0 := NB150_152.out
           have hns44_1 := NB151_152.out
           have hms44_0 := NB152_150.out
           have hms44_1 := NB152_151.out
           refine skip_ (w1 := ?_) (by rfl) rfl ?_ ?_
           rotate_left
           ·go_simp
            rfl
           refine hK.out _ _ ⟨((cell_far (p := ⟨gb152, _, none⟩) NB150_152.out _).trans (((cell_far (p := ⟨gb152, _, none⟩) NB150_152.out _).trans (hHeld.1)))), ((cell_far (p := ⟨gb152, _, none⟩) NB150_152.out _).trans (((cell_far (p := ⟨gb152, _, none⟩) NB150_152.out _).trans (hHeld.2.1)))), ((cell_far (p := ⟨gb152, _, none⟩) NB151_152.out _).trans (((cell_far (p := ⟨gb152, _, none⟩) NB151_152.out _).trans (hHeld.2.2.1)))), ((cell_far (p := ⟨gb152, _, none⟩) NB151_152.out _).trans (((cell_far (p := ⟨gb152, _, none⟩) NB151_152.out _).trans (hHeld.2.2.2))))⟩ (fun hHeld => ?_)
           clear hK K
           refine pv 15 9 b44_ HT_ ?_
           refine done_ (done_of HT_.out (by kernel_rfl)) ?_
           try go_wp2
           refine bodyPost_ret (results_ct rfl _ _ gb152 24 #[.string (((a0_0.extract 0 (a1 : Int).toNat) ++ a3_0) ++ (a0_0.extract (a2 : Int).toNat a0_0.size)), .slice Ao42 t155.length co42] (0, 0) _ rfl (by (with_reducible repeat (first | apply qn | apply qd | apply qa)); refine bU (cs := #[.string (((a0_0.extract 0 (a1 : Int).toNat) ++ a3_0) ++ (a0_0.extract (a2 : Int).toNat a0_0.size)), .slice none 0 0]) ?_ 1 _ rfl; (with_reducible repeat (first | apply qn | apply qd | apply qa)); refine bU (cs := #[.string (⟨#[]⟩ : ByteArray), .slice none 0 0]) ?_ 0 _ rfl; exact qy BK152.out) Try.underlying24 rfl (by kernel_rfl)) rfl ?_
           exact ⟨_, by first | rfl | (simp [errW_none, errW_some] <;> rfl) | (simp [*, errW_none, errW_some] <;> rfl), by (with_reducible repeat (first | apply ra | apply rn | apply rd_)); exact rM (rF (p := ⟨gb152, 1, none⟩) (rF (p := ⟨gb152, 0, none⟩) (rT HO158.out BK152.out (by decide)) (fun _ hk => hk.2) (.string (((a0_0.extract 0 (a1 : Int).toNat) ++ a3_0) ++ (a0_0.extract (a2 : Int).toNat a0_0.size)))) (fun _ hk => hk.2) (.slice Ao42 t155.length co42)) (fun _ hk => trivial), by repeat (first | (with_reducible first | exact HB.out | apply ea | apply en | apply ed | refine es ?_ GE150.out | refine es ?_ GE151.out | refine es ?_ GE152.out) | exact HB.out)⟩
          ·rw [if_neg c34] at H
           exact absurd H (by simp)
         ·rw [if_neg c33] at H
          exact absurd H (by simp)
        ·rw [if_neg c32] at H
         exact absurd H (by simp)
       ·rw [if_neg c31] at H
        exact absurd H (by simp)
      ·rw [if_neg c30] at H
       exact absurd H (by simp)
     ·rw [if_neg c29] at H
      exact absurd H (by simp)
    ·rw [if_neg c28] at H
     have c28b0 : (t156 == 0) = false := beq_eq_false_iff_ne.mpr c28
     have c28b1 : (t156 != 0) = true := bne_iff_ne.mpr c28
     simp only [Option.some.injEq, Prod.mk.injEq] at H
     obtain ⟨rfl, rfl, rfl⟩ := H
     have hnb45 := NB150_151.out
     have hnc45 := NB151_150.out
     have hnb46 := NB150_152.out
     have hnc46 := NB152_150.out
     have hcz47_0 := zC BK150.out 0 (.string a0_0)
     have hcz47_1 := zC BK150.out 1 (.slice A0_1 l0_1.length c0_1)
     have hfz47_0 := bF BK150.out 0
     have hfz47_1 := bF BK150.out 1
     have hnb48 := NB151_152.out
     have hnc48 := NB152_151.out
     have hcz49_0 := zC BK151.out 0 (.string a3_0)
     have hcz49_1 := zC BK151.out 1 (.slice A3_1 l3_1.length c3_1)
     have hfz49_0 := bF BK151.out 0
     have hfz49_1 := bF BK151.out 1
     go_wp2_with (first | ((with_reducible refine gate_callee (f := 75) rfl ?_); refine goesL_ (some 30) rfl rfl Try.func75 (by kernel_rfl) rfl #[.slice A0_1 l0_1.length c0_1, .int .i64 a1, .int .i64 a2, .slice A3_1 l3_1.length c3_1] rfl (by (try simp only [mT, mC, mN]); first | done | rfl | (simp only [lD, lT]; rfl)) ?_; (with_reducible refine (runs_Splice.calls kj4 _ _ l0_1 a1 a2 _ _ l3_1 t155 t156 _ ?side1 ?side2 ?side3 ?side4 A27.out).mono ?_); (case side1 => repeat (first | exact (cB_ HR0_1.out HB.out) | (with_reducible refine Kd.C_alloc ?_ _) | (with_reducible refine Kd.C_drewN ?_ _) | (with_reducible refine Kd.C_drew ?_))); (case side2 => exact HC0_1.out); (case side3 => repeat (first | exact (cB_ HR3_1.out HB.out) | (with_reducible refine Kd.C_alloc ?_ _) | (with_reducible refine Kd.C_drewN ?_ _) | (with_reducible refine Kd.C_drew ?_))); (case side4 => exact HC3_1.out); rintro e w50 ⟨v157, rfl, ho0, hb⟩; refine ⟨_, rfl, ?_⟩; have n0_ := aM (rL ho0 (bZ (by repeat (first | (with_reducible first | exact HB.out | apply ea | apply en | apply ed | refine es ?_ GE150.out | refine es ?_ GE151.out | refine es ?_ GE152.out) | exact HB.out)))); have n1_ := aM (bB (g := gb150) (qy BK150.out) hb); have n2_ := aM (bB (g := gb151) (qy BK151.out) hb); have n3_ := aM (bB (g := gb152) (qy BK152.out) hb); have n4_ := aM (bP (by repeat (first | (with_reducible first | exact HB.out | apply ea | apply en | apply ed | refine es ?_ GE150.out | refine es ?_ GE151.out | refine es ?_ GE152.out) | exact HB.out)) hb); clear BK150 BK151 BK152 HB; have HO158 := n0_; have BK150 := n1_; have BK151 := n2_; have BK152 := n3_; have HB := n4_; clear n0_ n1_ n2_ n3_ n4_; (try clear hb); (try clear hb2); (try clear hk); (try clear hi); (try clear ho0); have hcz51_0 := zC BK152.out 0 (.string (⟨#[]⟩ : ByteArray)); have hcz51_1 := zC BK152.out 1 (.slice none 0 0); have hfz51_0 := bF BK152.out 0; have hfz51_1 := bF BK152.out 1))
     refine bodyPost_ret (results_ct rfl _ _ gb152 24 #[.string (⟨#[]⟩ : ByteArray), .slice none 0 0] (0, 0) _ rfl (by (with_reducible repeat (first | apply qn | apply qd | apply qa)); refine bU (cs := #[.string (⟨#[]⟩ : ByteArray), .slice none 0 0]) ?_ 1 _ rfl; (with_reducible repeat (first | apply qn | apply qd | apply qa)); refine bU (cs := #[.string (⟨#[]⟩ : ByteArray), .slice none 0 0]) ?_ 0 _ rfl; exact qy BK152.out) Try.underlying24 rfl (by kernel_rfl)) rfl ?_
     exact ⟨_, by first | rfl | (simp [errW_none, errW_some] <;> rfl) | (simp [*, errW_none, errW_some] <;> rfl), by first | exact Kd.R_nil _ _ _ _ _ | exact Kd.N_nil _ _ _ _ _ | exact Kd.V_nil _ _ _ _ _ | exact Kd.Q_nil _ _ _ _ _ | exact Kd.S_nil _ _ _ _ _, by repeat (first | (with_reducible first | exact HB.out | apply ea | apply en | apply ed | refine es ?_ GE150.out | refine es ?_ GE151.out | refine es ?_ GE152.out) | exact HB.out)⟩
end Go.Proofs.Ytnbdldpjiofafaa.PB
end

section
namespace Go.Proofs.Ytnbdldpjiofafaa.PB
open Go.RowKit Go.Proofs.YtnbdldpjiofafaaW.PrintWords Go.Proofs.YtnbdldpjiofafaaW.PrintLast Go.Proofs.YtnbdldpjiofafaaW.PrintMore
attribute [local go_sem] max2_int min2_int max_two min_two max_three min_three max_four min_four   
set_option linter.unusedVariables false
set_option linter.unusedSimpArgs false
def strip_Cat.f (k : Nat) (a0_0 : ByteArray) (l0_1 : List (S51)) (a1_0 : ByteArray) (l1_1 : List (S51)) : Option (ByteArray × (List (S51)) × Int) := (strip_Splice.f k a0_0 l0_1 (a0_0.size : Int) (a0_0.size : Int) a1_0 l1_1).bind fun bt162 => (some (bt162.1, bt162.2.1, bt162.2.2))
theorem strip_Cat.mono : ∀ a0 a1 a2 a3 k, LeO (strip_Cat.f k a0 a1 a2 a3) (strip_Cat.f (k + 1) a0 a1 a2 a3) := by
 intro a0 a1 a2 a3 k
 unfold strip_Cat.f
 repeat' first
   | (with_reducible exact strip_Splice.mono _ _ _ _ _ _ _)
   | (with_reducible exact LeO.refl _)
   | (with_reducible exact LeO.none _)
   | (with_reducible refine LeO.ite ?_ ?_)
   | (with_reducible refine LeO.bind ?_ (fun _ => ?_))
   | exact strip_Splice.mono _ _ _ _ _ _ _
   | exact LeO.none _
   | refine LeO.ite ?_ ?_
   | refine LeO.bind ?_ (fun _ => ?_)
set_option maxHeartbeats 8000000 in
set_option maxRecDepth 100000 in
theorem strip_Cat.calls (k : Nat) (a0_0 : ByteArray) (A0_1 : Option Addr) (c0_1 : Nat) (l0_1 : List (S51)) (a1_0 : ByteArray) (A1_1 : Option Addr) (c1_1 : Nat) (l1_1 : List (S51)) (r1 : ByteArray) (r2 : List (S51)) (r3 : Int) (w : World) (hr0_1 : Kd.C k51 w A0_1 l0_1.length l0_1) (hc0_1 : l0_1.length ≤ c0_1) (hr1_1 : Kd.C k51 w A1_1 l1_1.length l1_1) (hc1_1 : l1_1.length ≤ c1_1) (h : strip_Cat.f k a0_0 l0_1 a1_0 l1_1 = some (r1, r2, r3)) :
  Calls Try.prog 26 #[.agg #[.string a0_0, .slice A0_1 l0_1.length c0_1], .agg #[.string a1_0, .slice A1_1 l1_1.length c1_1]] w fun e w' => ∃ v1_ : Value, e = .returned (.tuple #[.agg #[.string r1, v1_], .int .i64 r3]) ∧ Kd.R k51 51 w' w.heap.size (fun _ => True) v1_ r2 ∧ Below w.heap.size w w' := by
 have hu24 := Try.underlying24
 have HR0_1 := aM hr0_1
 have HC0_1 := aM hc0_1
 clear hr0_1 hc0_1
 have HR1_1 := aM hr1_1
 have HC1_1 := aM hc1_1
 clear hr1_1 hc1_1
 have HB := aM (Below.refl w.heap.size w)
 have H : ((strip_Splice.f k a0_0 l0_1 (a0_0.size : Int) (a0_0.size : Int) a1_0 l1_1).bind fun bt162 => (some (bt162.1, bt162.2.1, bt162.2.2))) = some (r1, r2, r3) := h
 clear h
 replace H := Option.bind_eq_some_iff.mp H
 obtain ⟨⟨t162, t163, t166⟩, A30, H⟩ := H
 replace H : (some (t162, t163, t166)) = some (r1, r2, r3) := H
 have A3 := aM A30
 clear A30
 simp only [Option.some.injEq, Prod.mk.injEq] at H
 obtain ⟨rfl, rfl, rfl⟩ := H
 go_enter Try.func26, Try.ntmps26
 go_wp2_with (first | ((with_reducible refine gate_dst (N := 2) rfl ?_); refine box_event ?hg (N := 2) ?hd (cs := #[.string a0_0, .slice A0_1 l0_1.length c0_1]) (t := 24) ?hr ?_; (case hd | hg => rfl); (case hr => first | (go_simp; done) | (go_simp; rfl)); intro gb159 hg w4 hbox hb; have n0_ := aM (bP (ey HB.out) hb); have n1_ := aM (hbox); have n2_ := aM ((by rw [hg]; exact (bZ (ey HB.out)) : w.heap.size ≤ gb159)); have n3_ := n2_; clear HB; have HB := n0_; have BK159 := n1_; have GW159 := n2_; have GE159 := n3_; clear n0_ n1_ n2_ n3_; clear hb hbox hg) | ((with_reducible refine gate_dst (N := 3) rfl ?_); refine box_event ?hg (N := 3) ?hd (cs := #[.string a1_0, .slice A1_1 l1_1.length c1_1]) (t := 24) ?hr ?_; (case hd | hg => rfl); (case hr => first | (go_simp; done) | (go_simp; rfl)); intro gb160 hg w5 hbox hb; have n0_ := aM (bB (g := gb159) (qy BK159.out) hb); have n1_ := aM (bP (by repeat (first | (with_reducible first | exact HB.out | apply ea | apply en | apply ed | refine es ?_ GE159.out) | exact HB.out)) hb); have n2_ := aM (hbox); have n3_ := aM ((by rw [hg]; exact (bZ (by repeat (first | (with_reducible first | exact HB.out | apply ea | apply en | apply ed | refine es ?_ GE159.out) | exact HB.out))) : w.heap.size ≤ gb160)); have n4_ := n3_; have n5_ := aM ((by rw [hg]; exact Nat.ne_of_lt (blk_lt (g := gb159) (qy BK159.out)) : gb159 ≠ gb160)); have n6_ := aM ((by rw [hg]; exact Nat.ne_of_gt (blk_lt (g := gb159) (qy BK159.out)) : gb160 ≠ gb159)); clear BK159 HB; have BK159 := n0_; have HB := n1_; have BK160 := n2_; have GW160 := n3_; have GE160 := n4_; have NB159_160 := n5_; have NB160_159 := n6_; clear n0_ n1_ n2_ n3_ n4_ n5_ n6_; clear hb hbox hg) | ((with_reducible refine gate_dst (N := 4) rfl ?_); refine box_event ?hg (N := 4) ?hd (cs := #[.string (⟨#[]⟩ : ByteArray), .slice none 0 0]) (t := 24) ?hr ?_; (case hd | hg => rfl); (case hr => first | (go_simp; done) | (go_simp; rfl)); intro gb161 hg w6 hbox hb; have n0_ := aM (bB (g := gb159) (qy BK159.out) hb); have n1_ := aM (bB (g := gb160) (qy BK160.out) hb); have n2_ := aM (bP (by repeat (first | (with_reducible first | exact HB.out | apply ea | apply en | apply ed | refine es ?_ GE159.out | refine es ?_ GE160.out) | exact HB.out)) hb); have n3_ := aM (hbox); have n4_ := aM ((by rw [hg]; exact (bZ (by repeat (first | (with_reducible first | exact HB.out | apply ea | apply en | apply ed | refine es ?_ GE159.out | refine es ?_ GE160.out) | exact HB.out))) : w.heap.size ≤ gb161)); have n5_ := n4_; have n6_ := aM ((by rw [hg]; exact Nat.ne_of_lt (blk_lt (g := gb159) (qy BK159.out)) : gb159 ≠ gb161)); have n7_ := aM ((by rw [hg]; exact Nat.ne_of_gt (blk_lt (g := gb159) (qy BK159.out)) : gb161 ≠ gb159)); have n8_ := aM ((by rw [hg]; exact Nat.ne_of_lt (blk_lt (g := gb160) (qy BK160.out)) : gb160 ≠ gb161)); have n9_ := aM ((by rw [hg]; exact Nat.ne_of_gt (blk_lt (g := gb160) (qy BK160.out)) : gb161 ≠ gb160)); clear BK159 BK160 HB; have BK159 := n0_; have BK160 := n1_; have HB := n2_; have BK161 := n3_; have GW161 := n4_; have GE161 := n5_; have NB159_161 := n6_; have NB161_159 := n7_; have NB160_161 := n8_; have NB161_160 := n9_; clear n0_ n1_ n2_ n3_ n4_ n5_ n6_ n7_ n8_ n9_; clear hb hbox hg; have hnb7 := NB159_160.out; have hnc7 := NB160_159.out; have hnb8 := NB159_161.out; have hnc8 := NB161_159.out; have hcz9_0 := zC BK159.out 0 (.string a0_0); have hcz9_1 := zC BK159.out 1 (.slice A0_1 l0_1.length c0_1); have hfz9_0 := bF BK159.out 0; have hfz9_1 := bF BK159.out 1; have hnb10 := NB160_161.out; have hnc10 := NB161_160.out; have hcz11_0 := zC BK160.out 0 (.string a1_0); have hcz11_1 := zC BK160.out 1 (.slice A1_1 l1_1.length c1_1); have hfz11_0 := bF BK160.out 0; have hfz11_1 := bF BK160.out 1) | ((with_reducible refine gate_callee (f := 52) rfl ?_); refine goesL_ (some 14) rfl rfl Try.func52 (by kernel_rfl) rfl #[.agg #[.string a0_0, .slice A0_1 l0_1.length c0_1], .int .i64 (a0_0.size : Int), .int .i64 (a0_0.size : Int), .agg #[.string a1_0, .slice A1_1 l1_1.length c1_1]] rfl (by (try simp only [mT, mC, mN]); first | done | rfl | (simp only [lD, lT]; rfl)) ?_; (with_reducible refine (strip_Splice.calls k a0_0 _ _ l0_1 (a0_0.size : Int) (a0_0.size : Int) a1_0 _ _ l1_1 t162 t163 t166 _ ?side1 ?side2 ?side3 ?side4 A3.out).mono ?_); (case side1 => repeat (first | exact (cB_ HR0_1.out HB.out) | (with_reducible refine Kd.C_alloc ?_ _) | (with_reducible refine Kd.C_drewN ?_ _) | (with_reducible refine Kd.C_drew ?_))); (case side2 => exact HC0_1.out); (case side3 => repeat (first | exact (cB_ HR1_1.out HB.out) | (with_reducible refine Kd.C_alloc ?_ _) | (with_reducible refine Kd.C_drewN ?_ _) | (with_reducible refine Kd.C_drew ?_))); (case side4 => exact HC1_1.out); rintro e w12 ⟨v164, rfl, ho0, hb⟩; refine ⟨_, rfl, ?_⟩; have n0_ := aM (rL ho0 (bZ (by repeat (first | (with_reducible first | exact HB.out | apply ea | apply en | apply ed | refine es ?_ GE159.out | refine es ?_ GE160.out | refine es ?_ GE161.out) | exact HB.out)))); have n1_ := aM (bB (g := gb159) (qy BK159.out) hb); have n2_ := aM (bB (g := gb160) (qy BK160.out) hb); have n3_ := aM (bB (g := gb161) (qy BK161.out) hb); have n4_ := aM (bP (by repeat (first | (with_reducible first | exact HB.out | apply ea | apply en | apply ed | refine es ?_ GE159.out | refine es ?_ GE160.out | refine es ?_ GE161.out) | exact HB.out)) hb); clear BK159 BK160 BK161 HB; have HO165 := n0_; have BK159 := n1_; have BK160 := n2_; have BK161 := n3_; have HB := n4_; clear n0_ n1_ n2_ n3_ n4_; (try clear hb); (try clear hb2); (try clear hk); (try clear hi); (try clear ho0); have hcz13_0 := zC BK161.out 0 (.string (⟨#[]⟩ : ByteArray)); have hcz13_1 := zC BK161.out 1 (.slice none 0 0); have hfz13_0 := bF BK161.out 0; have hfz13_1 := bF BK161.out 1; obtain ⟨Ao14, co14, eo14⟩ := Kd.R_slice HO165.out; subst eo14))
 refine bodyPost_ret (results_ct rfl _ _ gb161 24 #[.string t162, .slice Ao14 t163.length co14] (0, 0) _ rfl (by (with_reducible repeat (first | apply qn | apply qd | apply qa)); refine bU (cs := #[.string t162, .slice none 0 0]) ?_ 1 _ rfl; (with_reducible repeat (first | apply qn | apply qd | apply qa)); refine bU (cs := #[.string (⟨#[]⟩ : ByteArray), .slice none 0 0]) ?_ 0 _ rfl; exact qy BK161.out) Try.underlying24 rfl (by kernel_rfl)) rfl ?_
 exact ⟨_, by first | rfl | (simp [errW_none, errW_some] <;> rfl) | (simp [*, errW_none, errW_some] <;> rfl), by (with_reducible repeat (first | apply ra | apply rn | apply rd_)); exact rM (rF (p := ⟨gb161, 1, none⟩) (rF (p := ⟨gb161, 0, none⟩) (rT HO165.out BK161.out (by decide)) (fun _ hk => hk.2) (.string t162)) (fun _ hk => hk.2) (.slice Ao14 t163.length co14)) (fun _ hk => trivial), by repeat (first | (with_reducible first | exact HB.out | apply ea | apply en | apply ed | refine es ?_ GE159.out | refine es ?_ GE160.out | refine es ?_ GE161.out) | exact HB.out)⟩
end Go.Proofs.Ytnbdldpjiofafaa.PB
end

section
namespace Go.Proofs.Ytnbdldpjiofafaa.PB
open Go.RowKit Go.Proofs.YtnbdldpjiofafaaW.PrintWords Go.Proofs.YtnbdldpjiofafaaW.PrintLast Go.Proofs.YtnbdldpjiofafaaW.PrintMore
set_option linter.unusedVariables false
set_option linter.unusedSimpArgs false
def edit_own.f (a0_0 : ByteArray) (l0_1 : List S51) : Option (ByteArray × List S51) := if l0_1.length * 16 ≤ 140737488355328 then some (a0_0, l0_1) else none
set_option maxHeartbeats 4000000 in
set_option maxRecDepth 100000 in
theorem edit_own.calls (a0_0 : ByteArray) (A0_1 : Option Addr) (c0_1 : Nat) (l0_1 : List S51) (r1 : ByteArray) (r2 : List S51) (w : World) (hr0_1 : Kd.C k51 w A0_1 l0_1.length l0_1) (hc0_1 : l0_1.length ≤ c0_1) (h : edit_own.f a0_0 l0_1 = some (r1, r2)) :
    Calls Try.prog 53 #[.agg #[.string a0_0, .slice A0_1 l0_1.length c0_1]] w fun e w' => ∃ v1_ : Value, e = .returned (.agg #[.string r1, v1_]) ∧ Kd.R k51 51 w' w.heap.size (fun _ => True) v1_ r2 ∧ Below w.heap.size w w' := by
  have hu24 := Try.underlying24
  unfold edit_own.f at h
  by_cases hl : l0_1.length * 16 ≤ 140737488355328
  case neg => rw [if_neg hl] at h; cases h
  rw [if_pos hl] at h
  simp only [Option.some.injEq, Prod.mk.injEq] at h
  obtain ⟨rfl, rfl⟩ := h
  have HR := aM hr0_1
  have HL := aM hl
  clear hr0_1 hl
  have HB := aM (Below.refl w.heap.size w)
  go_enter Try.func53, Try.ntmps53
  go_wp2_with fail
  have BK1 := aM (blk_drew (blk_alloc (blk_new w (.cells #[.string a0_0, .slice A0_1 l0_1.length c0_1] 24)) (.cells #[.string (⟨#[]⟩ : ByteArray), .slice none 0 0] 24)))
  have BK2 := aM (blk_drew (blk_new (w.alloc (.cells #[.string a0_0, .slice A0_1 l0_1.length c0_1] 24)) (.cells #[.string (⟨#[]⟩ : ByteArray), .slice none 0 0] 24)))
  have HB2 := aM (((((Below.refl w.heap.size w).alloc (Nat.le_refl _) (.cells #[.string a0_0, .slice A0_1 l0_1.length c0_1] 24)).alloc (by simp) (.cells #[.string (⟨#[]⟩ : ByteArray), .slice none 0 0] 24))).drew)
  rw [show (w.alloc (.cells #[.string a0_0, .slice A0_1 l0_1.length c0_1] 24)).heap.size = w.heap.size + 1 by simp] at BK2
  refine start_ (n := 7) (S := fun w' => w'.cell? ⟨w.heap.size, 0, none⟩ = some (.string a0_0) ∧ w'.cell? ⟨w.heap.size, 1, none⟩ = some (.slice A0_1 l0_1.length c0_1)) (ds := [6]) #[false, false, false, false, false, false, false] (by kernel_rfl) rfl rfl ⟨(bC BK1.out 0).trans rfl, (bC BK1.out 1).trans rfl⟩ (fun hHeld => ?_)
  generalize ((w.alloc (.cells #[.string a0_0, .slice A0_1 l0_1.length c0_1] 24)).alloc (.cells #[.string (⟨#[]⟩ : ByteArray), .slice none 0 0] 24)).drew = w2 at BK1 BK2 HB2 hHeld ⊢
  refine pure_ (i := 0) (N := some 3) (v := ?_) (a' := ?_) #[true, false, false, false, false, false, false] rfl rfl (by kernel_rfl) (fun _ _ _ h => h) (Or.inl ⟨by rfl, ?_⟩) ?_ ?_
  rotate_left
  · intro w'
    go_simp
    with_reducible rfl
  rotate_left
  · simp only [Act.put, List.setIfInBounds_toArray, List.set_cons_zero, List.set_cons_succ]
    rfl
  refine pure_ (i := 2) (N := some 5) (v := ?_) (a' := ?_) #[true, false, true, false, false, false, false] rfl rfl (by kernel_rfl) (fun _ _ _ h => h) (Or.inl ⟨by rfl, ?_⟩) ?_ ?_
  rotate_left
  · intro w'
    go_simp
    with_reducible rfl
  rotate_left
  · simp only [Act.put, List.setIfInBounds_toArray, List.set_cons_zero, List.set_cons_succ]
    rfl
  refine take_ (i := 1) (N := some 4) (v := ?_) (a' := ?_) #[true, true, true, false, false, false, false] rfl rfl (by kernel_rfl) (fun _ _ _ h => h) (Or.inl ⟨by rfl, ?_⟩) hHeld ?_ ?_
  rotate_left
  · rintro w' ⟨s0, s1⟩
    go_simp
    with_reducible rfl
  rotate_left
  · simp only [Act.put, List.setIfInBounds_toArray, List.set_cons_zero, List.set_cons_succ]
    rfl
  refine take_ (i := 3) (N := some 6) (v := ?_) (a' := ?_) #[true, true, true, true, false, false, false] rfl rfl (by kernel_rfl) (fun _ _ _ h => h) (Or.inl ⟨by rfl, ?_⟩) hHeld ?_ ?_
  rotate_left
  · rintro w' ⟨s0, s1⟩
    go_simp
    with_reducible rfl
  rotate_left
  · simp only [Act.put, List.setIfInBounds_toArray, List.set_cons_zero, List.set_cons_succ]
    rfl
  refine one_ (i := 4) (N := some 7) #[true, true, true, true, true, false, false] rfl rfl (by kernel_rfl) (by decide) (fun K hK => ?_)
  refine Kd.R_append_rows_step k51 (w0 := w) w.heap.size (by rfl) (.const (.slice none 0 0)) (.tmp 6) 22 51 (.agg #[(.int .u64 0), (.int .i64 0)]) 16 rfl Try.underlying22 info51 rfl (by decide) (by omega) (.slice none 0 0) [] l0_1 A0_1 l0_1.length c0_1 (fun _ => True) (fun _ => False) rfl rfl (Kd.R_nil _ _ _ _ _) (cB_ HR.out HB2.out) (fun x cs h => by rw [k51_open h]; exact k51_mkM _ _ _ x) (fun _ h => h.elim) (fun _ _ => trivial) HB2.out HB2.out.size (by simpa using HL.out) ?_
  intro v1 w3 ho hb hg1 hat
  rw [List.nil_append] at ho
  have BK3 := aM (blk_grown BK1.out hg1 (by simp [Value.ownBlock]))
  have BK4 := aM (blk_grown BK2.out hg1 (by simp [Value.ownBlock]))
  have HO := aM ho
  have HB3 := aM hb
  obtain ⟨A1, c1, rfl⟩ := Kd.R_slice ho
  clear ho hb hg1 hat
  refine hK.out _ _ ⟨(bC BK3.out 0).trans rfl, (bC BK3.out 1).trans rfl⟩ (fun hHeld => ?_)
  clear hK K
  refine norm_ (a' := ?_) ?_ ?_
  rotate_left
  · show Act.put _ (some 7) _ = _
    simp only [Act.put, List.setIfInBounds_toArray, List.set_cons_zero, List.set_cons_succ]
    rfl
  refine pure_ (i := 5) (N := some 8) (v := ?_) (a' := ?_) #[true, true, true, true, true, true, false] rfl rfl (by kernel_rfl) (fun _ _ _ h => h) (Or.inl ⟨by rfl, ?_⟩) ?_ ?_
  rotate_left
  · intro w'
    go_simp
    with_reducible rfl
  rotate_left
  · simp only [Act.put, List.setIfInBounds_toArray, List.set_cons_zero, List.set_cons_succ]
    rfl
  refine last_ (i := 6) (N := none) #[true, true, true, true, true, true, true] rfl rfl (by kernel_rfl) (by decide) (fun K hK => ?_)
  have hs0 : w3.cell? ⟨w.heap.size + 1, 0, none⟩ = some (.string (⟨#[]⟩ : ByteArray)) := (bC BK4.out 0).trans rfl
  have hf0 := bF BK4.out 0
  have hs1 : w3.cell? ⟨w.heap.size + 1, 1, none⟩ = some (.slice none 0 0) := (bC BK4.out 1).trans rfl
  have hf1 := bF BK4.out 1
  refine skip_ (w1 := ?_) (by rfl) rfl ?_ ?_
  rotate_left
  · go_simp
    rfl
  refine hK.out _ _ (done_ (by kernel_rfl) ?_)
  clear hK K
  go_wp2
  refine bodyPost_ret (results_cell_row rfl _ _ (w.heap.size + 1) 24 #[.string a0_0, .slice A1 l0_1.length c1] (0, 0) _ rfl (bU (cs := #[.string a0_0, .slice none 0 0]) (bU (cs := #[.string (⟨#[]⟩ : ByteArray), .slice none 0 0]) BK4.out 0 _ rfl) 1 _ rfl) Try.underlying24 rfl (by kernel_rfl)) rfl ?_
  exact ⟨_, rfl, rM (rF (p := ⟨w.heap.size + 1, 1, none⟩) (rF (p := ⟨w.heap.size + 1, 0, none⟩) (rT HO.out BK4.out (by decide)) (fun _ hk => hk.2) (.string a0_0)) (fun _ hk => hk.2) _) (fun _ hk => hk.1), (HB3.out.setCell (Nat.le_succ _) _).setCell (Nat.le_succ _) _⟩
end Go.Proofs.Ytnbdldpjiofafaa.PB
end

section
namespace Go.Proofs.Ytnbdldpjiofafaa.PB
open Go.RowKit Go.Proofs.YtnbdldpjiofafaaW.PrintWords Go.Proofs.YtnbdldpjiofafaaW.PrintLast Go.Proofs.YtnbdldpjiofafaaW.PrintMore
attribute [local go_sem] max2_int min2_int max_two min_two max_three min_three max_four min_four   
set_option linter.unusedVariables false
set_option linter.unusedSimpArgs false
def edit_Of.f (k : Nat) (a0_0 : ByteArray) (l0_1 : List (S51)) (a1 : Int) (a2 : Int) (a3_0 : ByteArray) (l3_1 : List (S51)) : Option (Int × ByteArray × (List (S51)) × ByteArray × (List (S51)) × Int) := (strip_Splice.f k a0_0 l0_1 a1 a2 a3_0 l3_1).bind fun bt170 => (if bt170.2.2 = 0 then ((strip_Cut.f k a0_0 l0_1 a1 a2).bind fun bt176 => ((edit_own.f a3_0 l3_1).bind fun bt182 => (some (a1, bt176.1, bt176.2.1, bt182.1, bt182.2, bt176.2.2)))) else (some (0, (⟨#[]⟩ : ByteArray), ([] : List (S51)), (⟨#[]⟩ : ByteArray), ([] : List (S51)), bt170.2.2)))
theorem edit_Of.mono : ∀ a0 a1 a2 a3 a4 a5 k, LeO (edit_Of.f k a0 a1 a2 a3 a4 a5) (edit_Of.f (k + 1) a0 a1 a2 a3 a4 a5) := by
 intro a0 a1 a2 a3 a4 a5 k
 unfold edit_Of.f
 repeat' first
   | (with_reducible exact strip_Cut.mono _ _ _ _ _)
   | (with_reducible exact strip_Splice.mono _ _ _ _ _ _ _)
   | (with_reducible exact LeO.refl _)
   | (with_reducible exact LeO.none _)
   | (with_reducible refine LeO.ite ?_ ?_)
   | (with_reducible refine LeO.bind ?_ (fun _ => ?_))
   | exact strip_Cut.mono _ _ _ _ _
   | exact strip_Splice.mono _ _ _ _ _ _ _
   | exact LeO.none _
   | refine LeO.ite ?_ ?_
   | refine LeO.bind ?_ (fun _ => ?_)
def edit_Of.T5 : Bool × List (List Nat × List Nat) := (true, [([], []), ([], []), ([], []), ([2], [2]), ([0, 1, 3], [0, 1, 3]), ([], []), ([4, 3, 0, 1, 2, 3, 4], [4]), ([5, 6, 0, 1, 2, 3, 4, 5, 6], [5])])
def edit_Of.B5 : List Nat := [0, 0, 0, 4, 15, 0, 31, 127]
theorem edit_Of.tab5 : rtab .any (opsOf Try.f27 5) = edit_Of.T5 := by kernel_rfl
theorem edit_Of.bits5 : waitsOk edit_Of.T5.2 edit_Of.B5 = true := by kernel_rfl
set_option maxHeartbeats 8000000 in
set_option maxRecDepth 100000 in
theorem edit_Of.calls (k : Nat) (a0_0 : ByteArray) (A0_1 : Option Addr) (c0_1 : Nat) (l0_1 : List (S51)) (a1 : Int) (a2 : Int) (a3_0 : ByteArray) (A3_1 : Option Addr) (c3_1 : Nat) (l3_1 : List (S51)) (r1 : Int) (r2 : ByteArray) (r3 : List (S51)) (r4 : ByteArray) (r5 : List (S51)) (r6 : Int) (w : World) (hr0_1 : Kd.C k51 w A0_1 l0_1.length l0_1) (hc0_1 : l0_1.length ≤ c0_1) (hr3_1 : Kd.C k51 w A3_1 l3_1.length l3_1) (hc3_1 : l3_1.length ≤ c3_1) (h : edit_Of.f k a0_0 l0_1 a1 a2 a3_0 l3_1 = some (r1, r2, r3, r4, r5, r6)) :
  Calls Try.prog 27 #[.agg #[.string a0_0, .slice A0_1 l0_1.length c0_1], .int .i64 a1, .int .i64 a2, .agg #[.string a3_0, .slice A3_1 l3_1.length c3_1]] w fun e w' => ∃ v2_ v4_ : Value, e = .returned (.tuple #[.agg #[.int .i64 r1, .string r2, v2_, .string r4, v4_], .int .i64 r6]) ∧ Kd.R k51 51 w' w.heap.size (fun k_ => some k_ ≠ (v4_ : Value).ownBlock) v2_ r3 ∧ Kd.R k51 51 w' w.heap.size (fun k_ => some k_ ≠ (v2_ : Value).ownBlock) v4_ r5 ∧ Below w.heap.size w w' := by
 have hu24 := Try.underlying24
 have hu32 := Try.underlying32
 have HR0_1 := aM hr0_1
 have HC0_1 := aM hc0_1
 clear hr0_1 hc0_1
 have HR3_1 := aM hr3_1
 have HC3_1 := aM hc3_1
 clear hr3_1 hc3_1
 have HB := aM (Below.refl w.heap.size w)
 have H : ((strip_Splice.f k a0_0 l0_1 a1 a2 a3_0 l3_1).bind fun bt170 => (if bt170.2.2 = 0 then ((strip_Cut.f k a0_0 l0_1 a1 a2).bind fun bt176 => ((edit_own.f a3_0 l3_1).bind fun bt182 => (some (a1, bt176.1, bt176.2.1, bt182.1, bt182.2, bt176.2.2)))) else (some (0, (⟨#[]⟩ : ByteArray), ([] : List (S51)), (⟨#[]⟩ : ByteArray), ([] : List (S51)), bt170.2.2)))) = some (r1, r2, r3, r4, r5, r6) := h
 clear h
 replace H := Option.bind_eq_some_iff.mp H
 obtain ⟨⟨t170, t171, t174⟩, A50, H⟩ := H
 replace H : (if t174 = 0 then ((strip_Cut.f k a0_0 l0_1 a1 a2).bind fun bt176 => ((edit_own.f a3_0 l3_1).bind fun bt182 => (some (a1, bt176.1, bt176.2.1, bt182.1, bt182.2, bt176.2.2)))) else (some (0, (⟨#[]⟩ : ByteArray), ([] : List (S51)), (⟨#[]⟩ : ByteArray), ([] : List (S51)), t174))) = some (r1, r2, r3, r4, r5, r6) := H
 have A5 := aM A50
 clear A50
 by_cases c6 : t174 = 0
 ·rw [if_pos c6] at H
  have c6b0 : (t174 == 0) = true := beq_iff_eq.mpr c6
  have c6b1 : (t174 != 0) = false := bne_eq_false_iff_eq.mpr c6
  clear c6
  replace H := Option.bind_eq_some_iff.mp H
  obtain ⟨⟨t176, t177, t180⟩, A70, H⟩ := H
  replace H : ((edit_own.f a3_0 l3_1).bind fun bt182 => (some (a1, t176, t177, bt182.1, bt182.2, t180))) = some (r1, r2, r3, r4, r5, r6) := H
  have A7 := aM A70
  clear A70
  replace H := Option.bind_eq_some_iff.mp H
  obtain ⟨⟨t182, t183⟩, A80, H⟩ := H
  replace H : (some (a1, t176, t177, t182, t183, t180)) = some (r1, r2, r3, r4, r5, r6) := H
  have A8 := aM A80
  clear A80
  simp only [Option.some.injEq, Prod.mk.injEq] at H
  obtain ⟨rfl, rfl, rfl, rfl, rfl, rfl⟩ := H
  go_enter Try.func27, Try.ntmps27
  try go_wp2_with (first | ((with_reducible refine gate_dst (N := 4) rfl ?_); refine box_event ?hg (N := 4) ?hd (cs := #[.string a0_0, .slice A0_1 l0_1.length c0_1]) (t := 24) ?hr ?_; (case hd | hg => rfl); (case hr => first | (go_simp; done) | (go_simp; rfl)); intro gb167 hg w9 hbox hb; have n0_ := aM (bP (ey HB.out) hb); have n1_ := aM (hbox); have n2_ := aM ((by rw [hg]; exact (bZ (ey HB.out)) : w.heap.size ≤ gb167)); have n3_ := n2_; clear HB; have HB := n0_; have BK167 := n1_; have GW167 := n2_; have GE167 := n3_; clear n0_ n1_ n2_ n3_; clear hb hbox hg) | ((with_reducible refine gate_dst (N := 7) rfl ?_); refine box_event ?hg (N := 7) ?hd (cs := #[.string a3_0, .slice A3_1 l3_1.length c3_1]) (t := 24) ?hr ?_; (case hd | hg => rfl); (case hr => first | (go_simp; done) | (go_simp; rfl)); intro gb168 hg w10 hbox hb; have n0_ := aM (bB (g := gb167) (qy BK167.out) hb); have n1_ := aM (bP (by repeat (first | (with_reducible first | exact HB.out | apply ea | apply en | apply ed | refine es ?_ GE167.out) | exact HB.out)) hb); have n2_ := aM (hbox); have n3_ := aM ((by rw [hg]; exact (bZ (by repeat (first | (with_reducible first | exact HB.out | apply ea | apply en | apply ed | refine es ?_ GE167.out) | exact HB.out))) : w.heap.size ≤ gb168)); have n4_ := n3_; have n5_ := aM ((by rw [hg]; exact Nat.ne_of_lt (blk_lt (g := gb167) (qy BK167.out)) : gb167 ≠ gb168)); have n6_ := aM ((by rw [hg]; exact Nat.ne_of_gt (blk_lt (g := gb167) (qy BK167.out)) : gb168 ≠ gb167)); clear BK167 HB; have BK167 := n0_; have HB := n1_; have BK168 := n2_; have GW168 := n3_; have GE168 := n4_; have NB167_168 := n5_; have NB168_167 := n6_; clear n0_ n1_ n2_ n3_ n4_ n5_ n6_; clear hb hbox hg) | ((with_reducible refine gate_dst (N := 8) rfl ?_); refine box_event ?hg (N := 8) ?hd (cs := #[.int .i64 0, .string (⟨#[]⟩ : ByteArray), .slice none 0 0, .string (⟨#[]⟩ : ByteArray), .slice none 0 0]) (t := 32) ?hr ?_; (case hd | hg => rfl); (case hr => first | (go_simp; done) | (go_simp; rfl)); intro gb169 hg w11 hbox hb; have n0_ := aM (bB (g := gb167) (qy BK167.out) hb); have n1_ := aM (bB (g := gb168) (qy BK168.out) hb); have n2_ := aM (bP (by repeat (first | (with_reducible first | exact HB.out | apply ea | apply en | apply ed | refine es ?_ GE167.out | refine es ?_ GE168.out) | exact HB.out)) hb); have n3_ := aM (hbox); have n4_ := aM ((by rw [hg]; exact (bZ (by repeat (first | (with_reducible first | exact HB.out | apply ea | apply en | apply ed | refine es ?_ GE167.out | refine es ?_ GE168.out) | exact HB.out))) : w.heap.size ≤ gb169)); have n5_ := n4_; have n6_ := aM ((by rw [hg]; exact Nat.ne_of_lt (blk_lt (g := gb167) (qy BK167.out)) : gb167 ≠ gb169)); have n7_ := aM ((by rw [hg]; exact Nat.ne_of_gt (blk_lt (g := gb167) (qy BK167.out)) : gb169 ≠ gb167)); have n8_ := aM ((by rw [hg]; exact Nat.ne_of_lt (blk_lt (g := gb168) (qy BK168.out)) : gb168 ≠ gb169)); have n9_ := aM ((by rw [hg]; exact Nat.ne_of_gt (blk_lt (g := gb168) (qy BK168.out)) : gb169 ≠ gb168)); clear BK167 BK168 HB; have BK167 := n0_; have BK168 := n1_; have HB := n2_; have BK169 := n3_; have GW169 := n4_; have GE169 := n5_; have NB167_169 := n6_; have NB169_167 := n7_; have NB168_169 := n8_; have NB169_168 := n9_; clear n0_ n1_ n2_ n3_ n4_ n5_ n6_ n7_ n8_ n9_; clear hb hbox hg; have hnb12 := NB167_168.out; have hnc12 := NB168_167.out; have hnb13 := NB167_169.out; have hnc13 := NB169_167.out; have hcz14_0 := zC BK167.out 0 (.string a0_0); have hcz14_1 := zC BK167.out 1 (.slice A0_1 l0_1.length c0_1); have hfz14_0 := bF BK167.out 0; have hfz14_1 := bF BK167.out 1; have hnb15 := NB168_169.out; have hnc15 := NB169_168.out; have hcz16_0 := zC BK168.out 0 (.string a3_0); have hcz16_1 := zC BK168.out 1 (.slice A3_1 l3_1.length c3_1); have hfz16_0 := bF BK168.out 0; have hfz16_1 := bF BK168.out 1) | ((with_reducible refine gate_callee (f := 52) rfl ?_); refine goesL_ (some 19) rfl rfl Try.func52 (by kernel_rfl) rfl #[.agg #[.string a0_0, .slice A0_1 l0_1.length c0_1], .int .i64 a1, .int .i64 a2, .agg #[.string a3_0, .slice A3_1 l3_1.length c3_1]] rfl (by (try simp only [mT, mC, mN]); first | done | rfl | (simp only [lD, lT]; rfl)) ?_; (with_reducible refine (strip_Splice.calls k a0_0 _ _ l0_1 a1 a2 a3_0 _ _ l3_1 t170 t171 t174 _ ?side1 ?side2 ?side3 ?side4 A5.out).mono ?_); (case side1 => repeat (first | exact (cB_ HR0_1.out HB.out) | (with_reducible refine Kd.C_alloc ?_ _) | (with_reducible refine Kd.C_drewN ?_ _) | (with_reducible refine Kd.C_drew ?_))); (case side2 => exact HC0_1.out); (case side3 => repeat (first | exact (cB_ HR3_1.out HB.out) | (with_reducible refine Kd.C_alloc ?_ _) | (with_reducible refine Kd.C_drewN ?_ _) | (with_reducible refine Kd.C_drew ?_))); (case side4 => exact HC3_1.out); rintro e w17 ⟨v172, rfl, ho0, hb⟩; refine ⟨_, rfl, ?_⟩; have n0_ := aM (rL ho0 (bZ (by repeat (first | (with_reducible first | exact HB.out | apply ea | apply en | apply ed | refine es ?_ GE167.out | refine es ?_ GE168.out | refine es ?_ GE169.out) | exact HB.out)))); have n1_ := aM (bB (g := gb167) (qy BK167.out) hb); have n2_ := aM (bB (g := gb168) (qy BK168.out) hb); have n3_ := aM (bB (g := gb169) (qy BK169.out) hb); have n4_ := aM (bP (by repeat (first | (with_reducible first | exact HB.out | apply ea | apply en | apply ed | refine es ?_ GE167.out | refine es ?_ GE168.out | refine es ?_ GE169.out) | exact HB.out)) hb); clear BK167 BK168 BK169 HB; have HO173 := n0_; have BK167 := n1_; have BK168 := n2_; have BK169 := n3_; have HB := n4_; clear n0_ n1_ n2_ n3_ n4_; (try clear hb); (try clear hb2); (try clear hk); (try clear hi); (try clear ho0)) | ((with_reducible refine gate_dst (N := 10) rfl ?_); refine box_event ?hg (N := 10) ?hd (cs := #[.string (⟨#[]⟩ : ByteArray), .slice none 0 0]) (t := 24) ?hr ?_; (case hd | hg => rfl); (case hr => first | (go_simp; done) | (go_simp; rfl)); intro gb175 hg w18 hbox hb; have n0_ := aM (Kd.R_below (ry HO173.out) hb); have n1_ := aM (bB (g := gb167) (qy BK167.out) hb); have n2_ := aM (bB (g := gb168) (qy BK168.out) hb); have n3_ := aM (bB (g := gb169) (qy BK169.out) hb); have n4_ := aM (bP (by repeat (first | (with_reducible first | exact HB.out | apply ea | apply en | apply ed | refine es ?_ GE167.out | refine es ?_ GE168.out | refine es ?_ GE169.out) | exact HB.out)) hb); have n5_ := aM (hbox); have n6_ := aM ((by rw [hg]; exact (bZ (by repeat (first | (with_reducible first | exact HB.out | apply ea | apply en | apply ed | refine es ?_ GE167.out | refine es ?_ GE168.out | refine es ?_ GE169.out) | exact HB.out))) : w.heap.size ≤ gb175)); have n7_ := n6_; have n8_ := aM ((by rw [hg]; exact Nat.ne_of_lt (blk_lt (g := gb167) (qy BK167.out)) : gb167 ≠ gb175)); have n9_ := aM ((by rw [hg]; exact Nat.ne_of_gt (blk_lt (g := gb167) (qy BK167.out)) : gb175 ≠ gb167)); have n10_ := aM ((by rw [hg]; exact Nat.ne_of_lt (blk_lt (g := gb168) (qy BK168.out)) : gb168 ≠ gb175)); have n11_ := aM ((by rw [hg]; exact Nat.ne_of_gt (blk_lt (g := gb168) (qy BK168.out)) : gb175 ≠ gb168)); have n12_ := aM ((by rw [hg]; exact Nat.ne_of_lt (blk_lt (g := gb169) (qy BK169.out)) : gb169 ≠ gb175)); have n13_ := aM ((by rw [hg]; exact Nat.ne_of_gt (blk_lt (g := gb169) (qy BK169.out)) : gb175 ≠ gb169)); clear HO173 BK167 BK168 BK169 HB; have HO173 := n0_; have BK167 := n1_; have BK168 := n2_; have BK169 := n3_; have HB := n4_; have BK175 := n5_; have GW175 := n6_; have GE175 := n7_; have NB167_175 := n8_; have NB175_167 := n9_; have NB168_175 := n10_; have NB175_168 := n11_; have NB169_175 := n12_; have NB175_169 := n13_; clear n0_ n1_ n2_ n3_ n4_ n5_ n6_ n7_ n8_ n9_ n10_ n11_ n12_ n13_; clear hb hbox hg; have hnb19 := NB175_167.out; have hnc19 := NB167_175.out; have hnb20 := NB175_168.out; have hnc20 := NB168_175.out; have hnb21 := NB175_169.out; have hnc21 := NB169_175.out; have hcz22_0 := zC BK175.out 0 (.string (⟨#[]⟩ : ByteArray)); have hcz22_1 := zC BK175.out 1 (.slice none 0 0); have hfz22_0 := bF BK175.out 0; have hfz22_1 := bF BK175.out 1; obtain ⟨Ao23, co23, eo23⟩ := Kd.R_slice HO173.out; subst eo23; have hcz24_0 := zC BK167.out 0 (.string a0_0); have hcz24_1 := zC BK167.out 1 (.slice A0_1 l0_1.length c0_1); have hfz24_0 := bF BK167.out 0; have hfz24_1 := bF BK167.out 1) | ((with_reducible refine gate_callee (f := 25) rfl ?_); refine goesL_ (some 30) rfl rfl Try.func25 (by kernel_rfl) rfl #[.agg #[.string a0_0, .slice A0_1 l0_1.length c0_1], .int .i64 a1, .int .i64 a2] rfl (by (try simp only [mT, mC, mN]); first | done | rfl | (simp only [lD, lT]; rfl)) ?_; (with_reducible refine (strip_Cut.calls k a0_0 _ _ l0_1 a1 a2 t176 t177 t180 _ ?side1 ?side2 A7.out).mono ?_); (case side1 => exact cB_ HR0_1.out (by repeat (first | (with_reducible first | exact HB.out | apply ea | apply en | apply ed | refine es ?_ GE167.out | refine es ?_ GE168.out | refine es ?_ GE169.out | refine es ?_ GE175.out) | exact HB.out))); (case side2 => exact HC0_1.out); rintro e w25 ⟨v178, rfl, ho0, hb⟩; refine ⟨_, rfl, ?_⟩; have n0_ := aM (rE (by (with_reducible repeat (first | apply ra | apply rn | apply rd_)); exact (rM (rF (p := ⟨gb175, 1, none⟩) (rF (p := ⟨gb175, 0, none⟩) (rT HO173.out BK175.out (by decide)) (fun _ hk => hk.2) (.string t170)) (fun _ hk => hk.2) (.slice Ao23 t171.length co23)) (fun _ h_ => h_.1))) (Kd.R_base ho0) hb); have n1_ := aM (rL (Kd.R_new' ho0 (Kd.R_lt (by (with_reducible repeat (first | apply ra | apply rn | apply rd_)); exact (rM (rF (p := ⟨gb175, 1, none⟩) (rF (p := ⟨gb175, 0, none⟩) (rT HO173.out BK175.out (by decide)) (fun _ hk => hk.2) (.string t170)) (fun _ hk => hk.2) (.slice Ao23 t171.length co23)) (fun _ h_ => h_.1))))) (bZ (by repeat (first | (with_reducible first | exact HB.out | apply ea | apply en | apply ed | refine es ?_ GE167.out | refine es ?_ GE168.out | refine es ?_ GE169.out | refine es ?_ GE175.out) | exact HB.out)))); have n2_ := aM (bB (g := gb167) (o := .cells #[.string a0_0, .slice A0_1 l0_1.length c0_1] 24 (0, 0)) (by (with_reducible repeat (first | apply qn | apply qd | apply qa)); refine bR ?_ NB167_175.out _; (with_reducible repeat (first | apply qn | apply qd | apply qa)); refine bR ?_ NB167_175.out _; exact qy BK167.out) hb); have n3_ := aM (bB (g := gb168) (o := .cells #[.string a3_0, .slice A3_1 l3_1.length c3_1] 24 (0, 0)) (by (with_reducible repeat (first | apply qn | apply qd | apply qa)); refine bR ?_ NB168_175.out _; (with_reducible repeat (first | apply qn | apply qd | apply qa)); refine bR ?_ NB168_175.out _; exact qy BK168.out) hb); have n4_ := aM (bB (g := gb169) (o := .cells #[.int .i64 0, .string (⟨#[]⟩ : ByteArray), .slice none 0 0, .string (⟨#[]⟩ : ByteArray), .slice none 0 0] 32 (0, 0)) (by (with_reducible repeat (first | apply qn | apply qd | apply qa)); refine bR ?_ NB169_175.out _; (with_reducible repeat (first | apply qn | apply qd | apply qa)); refine bR ?_ NB169_175.out _; exact qy BK169.out) hb); have n5_ := aM (bB (g := gb175) (o := .cells #[.string t170, .slice Ao23 t171.length co23] 24 (0, 0)) (by (with_reducible repeat (first | apply qn | apply qd | apply qa)); refine bU (cs := #[.string t170, .slice none 0 0]) ?_ 1 _ rfl; (with_reducible repeat (first | apply qn | apply qd | apply qa)); refine bU (cs := #[.string (⟨#[]⟩ : ByteArray), .slice none 0 0]) ?_ 0 _ rfl; exact qy BK175.out) hb); have n6_ := aM (bP (by repeat (first | (with_reducible first | exact HB.out | apply ea | apply en | apply ed | refine es ?_ GE167.out | refine es ?_ GE168.out | refine es ?_ GE169.out | refine es ?_ GE175.out) | exact HB.out)) hb); clear HO173 BK167 BK168 BK169 BK175 HB; have HO173 := n0_; have HO179 := n1_; have BK167 := n2_; have BK168 := n3_; have BK169 := n4_; have BK175 := n5_; have HB := n6_; clear n0_ n1_ n2_ n3_ n4_ n5_ n6_; (try clear hb); (try clear hb2); (try clear hk); (try clear hi); (try clear ho0)) | ((with_reducible refine gate_dst (N := 12) rfl ?_); refine box_event ?hg (N := 12) ?hd (cs := #[.string (⟨#[]⟩ : ByteArray), .slice none 0 0]) (t := 24) ?hr ?_; (case hd | hg => rfl); (case hr => first | (go_simp; done) | (go_simp; rfl)); intro gb181 hg w26 hbox hb; have n0_ := aM (Kd.R_below (ry HO173.out) hb); have n1_ := aM (Kd.R_below (ry HO179.out) hb); have n2_ := aM (bB (g := gb167) (qy BK167.out) hb); have n3_ := aM (bB (g := gb168) (qy BK168.out) hb); have n4_ := aM (bB (g := gb169) (qy BK169.out) hb); have n5_ := aM (bB (g := gb175) (qy BK175.out) hb); have n6_ := aM (bP (by repeat (first | (with_reducible first | exact HB.out | apply ea | apply en | apply ed | refine es ?_ GE167.out | refine es ?_ GE168.out | refine es ?_ GE169.out | refine es ?_ GE175.out) | exact HB.out)) hb); have n7_ := aM (hbox); have n8_ := aM ((by rw [hg]; exact (bZ (by repeat (first | (with_reducible first | exact HB.out | apply ea | apply en | apply ed | refine es ?_ GE167.out | refine es ?_ GE168.out | refine es ?_ GE169.out | refine es ?_ GE175.out) | exact HB.out))) : w.heap.size ≤ gb181)); have n9_ := n8_; have n10_ := aM ((by rw [hg]; exact Nat.ne_of_lt (blk_lt (g := gb167) (qy BK167.out)) : gb167 ≠ gb181)); have n11_ := aM ((by rw [hg]; exact Nat.ne_of_gt (blk_lt (g := gb167) (qy BK167.out)) : gb181 ≠ gb167)); have n12_ := aM ((by rw [hg]; exact Nat.ne_of_lt (blk_lt (g := gb168) (qy BK168.out)) : gb168 ≠ gb181)); have n13_ := aM ((by rw [hg]; exact Nat.ne_of_gt (blk_lt (g := gb168) (qy BK168.out)) : gb181 ≠ gb168)); have n14_ := aM ((by rw [hg]; exact Nat.ne_of_lt (blk_lt (g := gb169) (qy BK169.out)) : gb169 ≠ gb181)); have n15_ := aM ((by rw [hg]; exact Nat.ne_of_gt (blk_lt (g := gb169) (qy BK169.out)) : gb181 ≠ gb169)); have n16_ := aM ((by rw [hg]; exact Nat.ne_of_lt (blk_lt (g := gb175) (qy BK175.out)) : gb175 ≠ gb181)); have n17_ := aM ((by rw [hg]; exact Nat.ne_of_gt (blk_lt (g := gb175) (qy BK175.out)) : gb181 ≠ gb175)); clear HO173 HO179 BK167 BK168 BK169 BK175 HB; have HO173 := n0_; have HO179 := n1_; have BK167 := n2_; have BK168 := n3_; have BK169 := n4_; have BK175 := n5_; have HB := n6_; have BK181 := n7_; have GW181 := n8_; have GE181 := n9_; have NB167_181 := n10_; have NB181_167 := n11_; have NB168_181 := n12_; have NB181_168 := n13_; have NB169_181 := n14_; have NB181_169 := n15_; have NB175_181 := n16_; have NB181_175 := n17_; clear n0_ n1_ n2_ n3_ n4_ n5_ n6_ n7_ n8_ n9_ n10_ n11_ n12_ n13_ n14_ n15_ n16_ n17_; clear hb hbox hg; have hnb27 := NB181_167.out; have hnc27 := NB167_181.out; have hnb28 := NB181_168.out; have hnc28 := NB168_181.out; have hnb29 := NB181_169.out; have hnc29 := NB169_181.out; have hnb30 := NB181_175.out; have hnc30 := NB175_181.out; have hcz31_0 := zC BK181.out 0 (.string (⟨#[]⟩ : ByteArray)); have hcz31_1 := zC BK181.out 1 (.slice none 0 0); have hfz31_0 := bF BK181.out 0; have hfz31_1 := bF BK181.out 1; obtain ⟨Ao32, co32, eo32⟩ := Kd.R_slice HO179.out; subst eo32))
  have n0_ : Aside0 (Kd.R k51 51 ((w26.setCell ⟨gb181, 0, none⟩ (.string t176)).setCell ⟨gb181, 1, none⟩ (.slice Ao32 t177.length co32)) w.heap.size (fun k_ => some k_ ≠ (.slice Ao32 t177.length co32 : Value).ownBlock) (.slice Ao23 t171.length co23) t171) := ⟨by (with_reducible repeat (first | apply ra | apply rn | apply rd_)); exact rM (rF (p := ⟨gb181, 1, none⟩) (rF (p := ⟨gb181, 0, none⟩) (rT HO173.out BK181.out (by decide)) (fun _ hk => hk.2) (.string t176)) (fun _ hk => hk.2) (.slice Ao32 t177.length co32)) (fun _ hk => hk.1.2)⟩
  have n1_ : Aside0 (Kd.R k51 51 ((w26.setCell ⟨gb181, 0, none⟩ (.string t176)).setCell ⟨gb181, 1, none⟩ (.slice Ao32 t177.length co32)) w.heap.size (fun k_ => some k_ ≠ (.slice Ao23 t171.length co23 : Value).ownBlock) (.slice Ao32 t177.length co32) t177) := ⟨by (with_reducible repeat (first | apply ra | apply rn | apply rd_)); exact rM (rF (p := ⟨gb181, 1, none⟩) (rF (p := ⟨gb181, 0, none⟩) (rT HO179.out BK181.out (by decide)) (fun _ hk => hk.2) (.string t176)) (fun _ hk => hk.2) (.slice Ao32 t177.length co32)) (fun _ hk => hk.1.2)⟩
  have n2_ : Aside0 (((w26.setCell ⟨gb181, 0, none⟩ (.string t176)).setCell ⟨gb181, 1, none⟩ (.slice Ao32 t177.length co32)).heap[gb167]? = some (.cells #[.string a0_0, .slice A0_1 l0_1.length c0_1] 24 (0, 0))) := ⟨by (with_reducible repeat (first | apply qn | apply qd | apply qa)); refine bR ?_ NB167_181.out _; (with_reducible repeat (first | apply qn | apply qd | apply qa)); refine bR ?_ NB167_181.out _; exact qy BK167.out⟩
  have n3_ : Aside0 (((w26.setCell ⟨gb181, 0, none⟩ (.string t176)).setCell ⟨gb181, 1, none⟩ (.slice Ao32 t177.length co32)).heap[gb168]? = some (.cells #[.string a3_0, .slice A3_1 l3_1.length c3_1] 24 (0, 0))) := ⟨by (with_reducible repeat (first | apply qn | apply qd | apply qa)); refine bR ?_ NB168_181.out _; (with_reducible repeat (first | apply qn | apply qd | apply qa)); refine bR ?_ NB168_181.out _; exact qy BK168.out⟩
  have n4_ : Aside0 (((w26.setCell ⟨gb181, 0, none⟩ (.string t176)).setCell ⟨gb181, 1, none⟩ (.slice Ao32 t177.length co32)).heap[gb169]? = some (.cells #[.int .i64 0, .string (⟨#[]⟩ : ByteArray), .slice none 0 0, .string (⟨#[]⟩ : ByteArray), .slice none 0 0] 32 (0, 0))) := ⟨by (with_reducible repeat (first | apply qn | apply qd | apply qa)); refine bR ?_ NB169_181.out _; (with_reducible repeat (first | apply qn | apply qd | apply qa)); refine bR ?_ NB169_181.out _; exact qy BK169.out⟩
  have n5_ : Aside0 (((w26.setCell ⟨gb181, 0, none⟩ (.string t176)).setCell ⟨gb181, 1, none⟩ (.slice Ao32 t177.length co32)).heap[gb175]? = some (.cells #[.string t170, .slice Ao23 t171.length co23] 24 (0, 0))) := ⟨by (with_reducible repeat (first | apply qn | apply qd | apply qa)); refine bR ?_ NB175_181.out _; (with_reducible repeat (first | apply qn | apply qd | apply qa)); refine bR ?_ NB175_181.out _; exact qy BK175.out⟩
  have n6_ : Aside0 (((w26.setCell ⟨gb181, 0, none⟩ (.string t176)).setCell ⟨gb181, 1, none⟩ (.slice Ao32 t177.length co32)).heap[gb181]? = some (.cells #[.string t176, .slice Ao32 t177.length co32] 24 (0, 0))) := ⟨by (with_reducible repeat (first | apply qn | apply qd | apply qa)); refine bU (cs := #[.string t176, .slice none 0 0]) ?_ 1 _ rfl; (with_reducible repeat (first | apply qn | apply qd | apply qa)); refine bU (cs := #[.string (⟨#[]⟩ : ByteArray), .slice none 0 0]) ?_ 0 _ rfl; exact qy BK181.out⟩
  have n7_ : Aside0 (Below w.heap.size w ((w26.setCell ⟨gb181, 0, none⟩ (.string t176)).setCell ⟨gb181, 1, none⟩ (.slice Ao32 t177.length co32))) := ⟨by repeat (first | (with_reducible first | exact HB.out | apply ea | apply en | apply ed | refine es ?_ GE167.out | refine es ?_ GE168.out | refine es ?_ GE169.out | refine es ?_ GE175.out | refine es ?_ GE181.out) | exact HB.out)⟩
  (try clear HO173)
  (try clear HO179)
  (try clear BK167)
  (try clear BK168)
  (try clear BK169)
  (try clear BK175)
  (try clear BK181)
  (try clear HB)
  generalize ((w26.setCell ⟨gb181, 0, none⟩ (.string t176)).setCell ⟨gb181, 1, none⟩ (.slice Ao32 t177.length co32)) = w33 at n0_ n1_ n2_ n3_ n4_ n5_ n6_ n7_ ⊢
  have HO173 := n0_
  have HO179 := n1_
  have BK167 := n2_
  have BK168 := n3_
  have BK169 := n4_
  have BK175 := n5_
  have BK181 := n6_
  have HB := n7_
  clear n0_ n1_ n2_ n3_ n4_ n5_ n6_ n7_
  have n0_ := aM (Kd.R_drew HO173.out)
  have n1_ := aM (Kd.R_drew HO179.out)
  have n2_ := aM (blk_drew BK167.out)
  have n3_ := aM (blk_drew BK168.out)
  have n4_ := aM (blk_drew BK169.out)
  have n5_ := aM (blk_drew BK175.out)
  have n6_ := aM (blk_drew BK181.out)
  have n7_ := aM (below_drew1 HB.out)
  clear HO173
  clear HO179
  clear BK167
  clear BK168
  clear BK169
  clear BK175
  clear BK181
  clear HB
  have HO173 := n0_
  have HO179 := n1_
  have BK167 := n2_
  have BK168 := n3_
  have BK169 := n4_
  have BK175 := n5_
  have BK181 := n6_
  have HB := n7_
  clear n0_ n1_ n2_ n3_ n4_ n5_ n6_ n7_
  refine start_ (n := 8) (S := fun w' => w'.cell? ⟨gb181, 0, none⟩ = some (.string t176) ∧ w'.cell? ⟨gb181, 1, none⟩ = some (.slice Ao32 t177.length co32) ∧ w'.cell? ⟨gb168, 0, none⟩ = some (.string a3_0) ∧ w'.cell? ⟨gb168, 1, none⟩ = some (.slice A3_1 l3_1.length c3_1)) (ds := []) b45_ (by kernel_rfl) rfl rfl ⟨(bC BK181.out 0).trans rfl, (bC BK181.out 1).trans rfl, (bC BK168.out 0).trans rfl, (bC BK168.out 1).trans rfl⟩ (fun hHeld => ?_); refine with_tabW edit_Of.tab5 edit_Of.bits5 (fun HT_ HW_ => ?_)
  generalize w33.drew = w34 at HO173 HO179 BK167 BK168 BK169 BK175 BK181 HB hHeld ⊢
  refine pv 0 33 b46_ HT_ ?_
  refine pv 5 38 b47_ HT_ ?_
  refine pt 1 34 b48_ HT_ HW_ hHeld ?_
  refine pt 2 35 b49_ HT_ HW_ hHeld ?_
  refine one_ (i := 3) (N := some 36) b50_ rfl rfl (one_of HT_.out (by kernel_rfl)) (by decide) (fun K hK => ?_)
  refine goes_ Try.func53 (by kernel_rfl) rfl #[.agg #[.string a3_0, .slice A3_1 l3_1.length c3_1]] (by rfl) rfl rfl (by (try simp only [mT, mC, mN]); first | done | rfl | (simp only [lD, lT]; rfl)) ?_
  with_reducible refine (edit_own.calls a3_0 _ _ l3_1 t182 t183 _ ?side1 ?side2 A8.out).mono ?_
  (case side1 => repeat (first | exact (cB_ HR3_1.out HB.out) | (with_reducible refine Kd.C_alloc ?_ _) | (with_reducible refine Kd.C_drewN ?_ _) | (with_reducible refine Kd.C_drew ?_)))
  (case side2 => exact HC3_1.out)
  rintro e w35 ⟨v184, rfl, ho0, hb⟩
  refine ⟨_, rfl, ?_⟩
  have n0_ := aM (rE (ry HO173.out) (Kd.R_base ho0) hb)
  have n1_ := aM (rE (ry HO179.out) (Kd.R_base ho0) hb)
  have n2_ := aM (rL (Kd.R_new' (Kd.R_new' ho0 (Kd.R_lt (ry HO173.out))) (Kd.R_lt (ry HO179.out))) (bZ (by repeat (first | (with_reducible first | exact HB.out | apply ea | apply en | apply ed | refine es ?_ GE167.out | refine es ?_ GE168.out | refine es ?_ GE169.out | refine es ?_ GE175.out | refine es ?_ GE181.out) | exact HB.out))))
  have n3_ := aM (bB (g := gb167) (qy BK167.out) hb)
  have n4_ := aM (bB (g := gb168) (qy BK168.out) hb)
  have n5_ := aM (bB (g := gb169) (qy BK169.out) hb)
  have n6_ := aM (bB (g := gb175) (qy BK175.out) hb)
  have n7_ := aM (bB (g := gb181) (qy BK181.out) hb)
  have n8_ := aM (bP (by repeat (first | (with_reducible first | exact HB.out | apply ea | apply en | apply ed | refine es ?_ GE167.out | refine es ?_ GE168.out | refine es ?_ GE169.out | refine es ?_ GE175.out | refine es ?_ GE181.out) | exact HB.out)) hb)
  clear HO173
  clear HO179
  clear BK167
  clear BK168
  clear BK169
  clear BK175
  clear BK181
  clear HB
  have HO173 := n0_
  have HO179 := n1_
  have HO185 := n2_
  have BK167 := n3_
  have BK168 := n4_
  have BK169 := n5_
  have BK175 := n6_
  have BK181 := n7_
  have HB := n8_
  clear n0_ n1_ n2_ n3_ n4_ n5_ n6_ n7_ n8_
  (try clear hb)
  (try clear hb2)
  (try clear hk)
  (try clear hi)
  (try clear ho0)
  obtain ⟨Ao36, co36, eo36⟩ := Kd.R_slice HO185.out
  (first | subst eo36 | (injection eo36 with f1_ f2_ f3_; have f4_ := f1_.symm; have f5_ := f3_.symm; clear f1_ f2_ f3_; subst f4_; subst f5_))
  refine hK.out _ _ ⟨(bC BK181.out 0).trans rfl, (bC BK181.out 1).trans rfl, (bC BK168.out 0).trans rfl, (bC BK168.out 1).trans rfl⟩ (fun hHeld => ?_)
  clear hK K
  refine norm_ (a' := ?_) ?_ ?_
  rotate_left
  ·show Act.put _ (some 36) _ = _
   simp only [Act.put, sA, sZ, sS, i64_w, i32_w]
   rfl
  refine pv 4 37 b51_ HT_ ?_
  refine one_ (i := 6) (N := none) b52_ rfl rfl (one_of HT_.out (by kernel_rfl)) (by decide) (fun K hK => ?_)
  have hs37 : w35.cell? ⟨gb169, 0, none⟩ = some (.int .i64 0) := (bC BK169.out 0).trans rfl
  have hfs37 := bF BK169.out 0
  have hns37_0 := NB167_169.out
  have hns37_1 := NB168_169.out
  have hns37_3 := NB175_169.out
  have hns37_4 := NB181_169.out
  have hms37_0 := NB169_167.out
  have hms37_1 := NB169_168.out
  have hms37_3 := NB169_175.out
  have hms37_4 := NB169_181.out
  have hs38 : w35.cell? ⟨gb169, 1, none⟩ = some (.string (⟨#[]⟩ : ByteArray)) := (bC BK169.out 1).trans rfl
  have hfs38 := bF BK169.out 1
  have hns38_0 := NB167_169.out
  have hns38_1 := NB168_169.out
  have hns38_3 := NB175_169.out
  have hns38_4 := NB181_169.out
  have hms38_0 := NB169_167.out
  have hms38_1 := NB169_168.out
  have hms38_3 := NB169_175.out
  have hms38_4 := NB169_181.out
  have hs39 : w35.cell? ⟨gb169, 2, none⟩ = some (.slice none 0 0) := (bC BK169.out 2).trans rfl
  have hfs39 := bF BK169.out 2
  have hns39_0 := NB167_169.out
  have hns39_1 := NB168_169.out
  have hns39_3 := NB175_169.out
  have hns39_4 := NB181_169.out
  have hms39_0 := NB169_167.out
  have hms39_1 := NB169_168.out
  have hms39_3 := NB169_175.out
  have hms39_4 := NB169_181.out
  have hs40 : w35.cell? ⟨gb169, 3, none⟩ = some (.string (⟨#[]⟩ : ByteArray)) := (bC BK169.out 3).trans rfl
  have hfs40 := bF BK169.out 3
  have hns40_0 := NB167_169.out
  have hns40_1 := NB168_169.out
  have hns40_3 := NB175_169.out
  have hns40_4 := NB181_169.out
  have hms40_0 := NB169_167.out
  have hms40_1 := NB169_168.out
  have hms40_3 := NB169_175.out
  have hms40_4 := NB169_181.out
  have hs41 : w35.cell? ⟨gb169, 4, none⟩ = some (.slice none 0 0) := (bC BK169.out 4).trans rfl
  have hfs41 := bF BK169.out 4
  have hns41_0 := NB167_169.out
  have hns41_1 := NB168_169.out
  have hns41_3 := NB175_169.out
  have hns41_4 := NB181_169.out
  have hms41_0 := NB169_167.out
  have hms41_1 := NB169_168.out
  have hms41_3 := NB169_175.out
  have hms41_4 := NB169_181.out
  refine skip_ (w1 := ?_) (by rfl) rfl ?_ ?_
  rotate_left
  ·go_simp
   rfl
  refine hK.out _ _ ⟨((cell_far (p := ⟨gb169, _, none⟩) NB181_169.out _).trans (((cell_far (p := ⟨gb169, _, none⟩) NB181_169.out _).trans (((cell_far (p := ⟨gb169, _, none⟩) NB181_169.out _).trans (((cell_far (p := ⟨gb169, _, none⟩) NB181_169.out _).trans (((cell_far (p := ⟨gb169, _, none⟩) NB181_169.out _).trans (hHeld.1)))))))))), ((cell_far (p := ⟨gb169, _, none⟩) NB181_169.out _).trans (((cell_far (p := ⟨gb169, _, none⟩) NB181_169.out _).trans (((cell_far (p := ⟨gb169, _, none⟩) NB181_169.out _).trans (((cell_far (p := ⟨gb169, _, none⟩) NB181_169.out _).trans (((cell_far (p := ⟨gb169, _, none⟩) NB181_169.out _).trans (hHeld.2.1)))))))))), ((cell_far (p := ⟨gb169, _, none⟩) NB168_169.out _).trans (((cell_far (p := ⟨gb169, _, none⟩) NB168_169.out _).trans (((cell_far (p := ⟨gb169, _, none⟩) NB168_169.out _).trans (((cell_far (p := ⟨gb169, _, none⟩) NB168_169.out _).trans (((cell_far (p := ⟨gb169, _, none⟩) NB168_169.out _).trans (hHeld.2.2.1)))))))))), ((cell_far (p := ⟨gb169, _, none⟩) NB168_169.out _).trans (((cell_far (p := ⟨gb169, _, none⟩) NB168_169.out _).trans (((cell_far (p := ⟨gb169, _, none⟩) NB168_169.out _).trans (((cell_far (p := ⟨gb169, _, none⟩) NB168_169.out _).trans (((cell_far (p := ⟨gb169, _, none⟩) NB168_169.out _).trans (hHeld.2.2.2))))))))))⟩ (fun hHeld => ?_)
  clear hK K
  refine pv 7 9 b53_ HT_ ?_
  refine done_ (done_of HT_.out (by kernel_rfl)) ?_
  try go_wp2
  refine bodyPost_ret (results_ct rfl _ _ gb169 32 #[.int .i64 a1, .string t176, .slice Ao32 t177.length co32, .string t182, .slice Ao36 t183.length co36] (0, 0) _ rfl (by (with_reducible repeat (first | apply qn | apply qd | apply qa)); refine bU (cs := #[.int .i64 a1, .string t176, .slice Ao32 t177.length co32, .string t182, .slice none 0 0]) ?_ 4 _ rfl; (with_reducible repeat (first | apply qn | apply qd | apply qa)); refine bU (cs := #[.int .i64 a1, .string t176, .slice Ao32 t177.length co32, .string (⟨#[]⟩ : ByteArray), .slice none 0 0]) ?_ 3 _ rfl; (with_reducible repeat (first | apply qn | apply qd | apply qa)); refine bU (cs := #[.int .i64 a1, .string t176, .slice none 0 0, .string (⟨#[]⟩ : ByteArray), .slice none 0 0]) ?_ 2 _ rfl; (with_reducible repeat (first | apply qn | apply qd | apply qa)); refine bU (cs := #[.int .i64 a1, .string (⟨#[]⟩ : ByteArray), .slice none 0 0, .string (⟨#[]⟩ : ByteArray), .slice none 0 0]) ?_ 1 _ rfl; (with_reducible repeat (first | apply qn | apply qd | apply qa)); refine bU (cs := #[.int .i64 0, .string (⟨#[]⟩ : ByteArray), .slice none 0 0, .string (⟨#[]⟩ : ByteArray), .slice none 0 0]) ?_ 0 _ rfl; exact qy BK169.out) Try.underlying32 rfl (by kernel_rfl)) rfl ?_
  exact ⟨_, _, by first | rfl | (simp [errW_none, errW_some] <;> rfl) | (simp [*, errW_none, errW_some] <;> rfl), by (with_reducible repeat (first | apply ra | apply rn | apply rd_)); exact rM (rF (p := ⟨gb169, 4, none⟩) (rF (p := ⟨gb169, 3, none⟩) (rF (p := ⟨gb169, 2, none⟩) (rF (p := ⟨gb169, 1, none⟩) (rF (p := ⟨gb169, 0, none⟩) (rT HO179.out BK169.out (by decide)) (fun _ hk => hk.2) (.int .i64 a1)) (fun _ hk => hk.2) (.string t176)) (fun _ hk => hk.2) (.slice Ao32 t177.length co32)) (fun _ hk => hk.2) (.string t182)) (fun _ hk => hk.2) (.slice Ao36 t183.length co36)) (fun _ hk => hk.1.2), by (with_reducible repeat (first | apply ra | apply rn | apply rd_)); exact rM (rF (p := ⟨gb169, 4, none⟩) (rF (p := ⟨gb169, 3, none⟩) (rF (p := ⟨gb169, 2, none⟩) (rF (p := ⟨gb169, 1, none⟩) (rF (p := ⟨gb169, 0, none⟩) (rT HO185.out BK169.out (by decide)) (fun _ hk => hk.2) (.int .i64 a1)) (fun _ hk => hk.2) (.string t176)) (fun _ hk => hk.2) (.slice Ao32 t177.length co32)) (fun _ hk => hk.2) (.string t182)) (fun _ hk => hk.2) (.slice Ao36 t183.length co36)) (fun _ hk => hk.1.2), by repeat (first | (with_reducible first | exact HB.out | apply ea | apply en | apply ed | refine es ?_ GE167.out | refine es ?_ GE168.out | refine es ?_ GE169.out | refine es ?_ GE175.out | refine es ?_ GE181.out) | exact HB.out)⟩
 ·rw [if_neg c6] at H
  have c6b0 : (t174 == 0) = false := beq_eq_false_iff_ne.mpr c6
  have c6b1 : (t174 != 0) = true := bne_iff_ne.mpr c6
  simp only [Option.some.injEq, Prod.mk.injEq] at H
  obtain ⟨rfl, rfl, rfl, rfl, rfl, rfl⟩ := H
  go_enter Try.func27, Try.ntmps27
  go_wp2_with (first | ((with_reducible refine gate_dst (N := 4) rfl ?_); refine box_event ?hg (N := 4) ?hd (cs := #[.string a0_0, .slice A0_1 l0_1.length c0_1]) (t := 24) ?hr ?_; (case hd | hg => rfl); (case hr => first | (go_simp; done) | (go_simp; rfl)); intro gb167 hg w42 hbox hb; have n0_ := aM (bP (ey HB.out) hb); have n1_ := aM (hbox); have n2_ := aM ((by rw [hg]; exact (bZ (ey HB.out)) : w.heap.size ≤ gb167)); have n3_ := n2_; clear HB; have HB := n0_; have BK167 := n1_; have GW167 := n2_; have GE167 := n3_; clear n0_ n1_ n2_ n3_; clear hb hbox hg) | ((with_reducible refine gate_dst (N := 7) rfl ?_); refine box_event ?hg (N := 7) ?hd (cs := #[.string a3_0, .slice A3_1 l3_1.length c3_1]) (t := 24) ?hr ?_; (case hd | hg => rfl); (case hr => first | (go_simp; done) | (go_simp; rfl)); intro gb168 hg w43 hbox hb; have n0_ := aM (bB (g := gb167) (qy BK167.out) hb); have n1_ := aM (bP (by repeat (first | (with_reducible first | exact HB.out | apply ea | apply en | apply ed | refine es ?_ GE167.out) | exact HB.out)) hb); have n2_ := aM (hbox); have n3_ := aM ((by rw [hg]; exact (bZ (by repeat (first | (with_reducible first | exact HB.out | apply ea | apply en | apply ed | refine es ?_ GE167.out) | exact HB.out))) : w.heap.size ≤ gb168)); have n4_ := n3_; have n5_ := aM ((by rw [hg]; exact Nat.ne_of_lt (blk_lt (g := gb167) (qy BK167.out)) : gb167 ≠ gb168)); have n6_ := aM ((by rw [hg]; exact Nat.ne_of_gt (blk_lt (g := gb167) (qy BK167.out)) : gb168 ≠ gb167)); clear BK167 HB; have BK167 := n0_; have HB := n1_; have BK168 := n2_; have GW168 := n3_; have GE168 := n4_; have NB167_168 := n5_; have NB168_167 := n6_; clear n0_ n1_ n2_ n3_ n4_ n5_ n6_; clear hb hbox hg) | ((with_reducible refine gate_dst (N := 8) rfl ?_); refine box_event ?hg (N := 8) ?hd (cs := #[.int .i64 0, .string (⟨#[]⟩ : ByteArray), .slice none 0 0, .string (⟨#[]⟩ : ByteArray), .slice none 0 0]) (t := 32) ?hr ?_; (case hd | hg => rfl); (case hr => first | (go_simp; done) | (go_simp; rfl)); intro gb169 hg w44 hbox hb; have n0_ := aM (bB (g := gb167) (qy BK167.out) hb); have n1_ := aM (bB (g := gb168) (qy BK168.out) hb); have n2_ := aM (bP (by repeat (first | (with_reducible first | exact HB.out | apply ea | apply en | apply ed | refine es ?_ GE167.out | refine es ?_ GE168.out) | exact HB.out)) hb); have n3_ := aM (hbox); have n4_ := aM ((by rw [hg]; exact (bZ (by repeat (first | (with_reducible first | exact HB.out | apply ea | apply en | apply ed | refine es ?_ GE167.out | refine es ?_ GE168.out) | exact HB.out))) : w.heap.size ≤ gb169)); have n5_ := n4_; have n6_ := aM ((by rw [hg]; exact Nat.ne_of_lt (blk_lt (g := gb167) (qy BK167.out)) : gb167 ≠ gb169)); have n7_ := aM ((by rw [hg]; exact Nat.ne_of_gt (blk_lt (g := gb167) (qy BK167.out)) : gb169 ≠ gb167)); have n8_ := aM ((by rw [hg]; exact Nat.ne_of_lt (blk_lt (g := gb168) (qy BK168.out)) : gb168 ≠ gb169)); have n9_ := aM ((by rw [hg]; exact Nat.ne_of_gt (blk_lt (g := gb168) (qy BK168.out)) : gb169 ≠ gb168)); clear BK167 BK168 HB; have BK167 := n0_; have BK168 := n1_; have HB := n2_; have BK169 := n3_; have GW169 := n4_; have GE169 := n5_; have NB167_169 := n6_; have NB169_167 := n7_; have NB168_169 := n8_; have NB169_168 := n9_; clear n0_ n1_ n2_ n3_ n4_ n5_ n6_ n7_ n8_ n9_; clear hb hbox hg; have hnb45 := NB167_168.out; have hnc45 := NB168_167.out; have hnb46 := NB167_169.out; have hnc46 := NB169_167.out; have hcz47_0 := zC BK167.out 0 (.string a0_0); have hcz47_1 := zC BK167.out 1 (.slice A0_1 l0_1.length c0_1); have hfz47_0 := bF BK167.out 0; have hfz47_1 := bF BK167.out 1; have hnb48 := NB168_169.out; have hnc48 := NB169_168.out; have hcz49_0 := zC BK168.out 0 (.string a3_0); have hcz49_1 := zC BK168.out 1 (.slice A3_1 l3_1.length c3_1); have hfz49_0 := bF BK168.out 0; have hfz49_1 := bF BK168.out 1) | ((with_reducible refine gate_callee (f := 52) rfl ?_); refine goesL_ (some 19) rfl rfl Try.func52 (by kernel_rfl) rfl #[.agg #[.string a0_0, .slice A0_1 l0_1.length c0_1], .int .i64 a1, .int .i64 a2, .agg #[.string a3_0, .slice A3_1 l3_1.length c3_1]] rfl (by (try simp only [mT, mC, mN]); first | done | rfl | (simp only [lD, lT]; rfl)) ?_; (with_reducible refine (strip_Splice.calls k a0_0 _ _ l0_1 a1 a2 a3_0 _ _ l3_1 t170 t171 t174 _ ?side1 ?side2 ?side3 ?side4 A5.out).mono ?_); (case side1 => repeat (first | exact (cB_ HR0_1.out HB.out) | (with_reducible refine Kd.C_alloc ?_ _) | (with_reducible refine Kd.C_drewN ?_ _) | (with_reducible refine Kd.C_drew ?_))); (case side2 => exact HC0_1.out); (case side3 => repeat (first | exact (cB_ HR3_1.out HB.out) | (with_reducible refine Kd.C_alloc ?_ _) | (with_reducible refine Kd.C_drewN ?_ _) | (with_reducible refine Kd.C_drew ?_))); (case side4 => exact HC3_1.out); rintro e w50 ⟨v172, rfl, ho0, hb⟩; refine ⟨_, rfl, ?_⟩; have n0_ := aM (rL ho0 (bZ (by repeat (first | (with_reducible first | exact HB.out | apply ea | apply en | apply ed | refine es ?_ GE167.out | refine es ?_ GE168.out | refine es ?_ GE169.out) | exact HB.out)))); have n1_ := aM (bB (g := gb167) (qy BK167.out) hb); have n2_ := aM (bB (g := gb168) (qy BK168.out) hb); have n3_ := aM (bB (g := gb169) (qy BK169.out) hb); have n4_ := aM (bP (by repeat (first | (with_reducible first | exact HB.out | apply ea | apply en | apply ed | refine es ?_ GE167.out | refine es ?_ GE168.out | refine es ?_ GE169.out) | exact HB.out)) hb); clear BK167 BK168 BK169 HB; have HO173 := n0_; have BK167 := n1_; have BK168 := n2_; have BK169 := n3_; have HB := n4_; clear n0_ n1_ n2_ n3_ n4_; (try clear hb); (try clear hb2); (try clear hk); (try clear hi); (try clear ho0)) | ((with_reducible refine gate_dst (N := 10) rfl ?_); refine box_event ?hg (N := 10) ?hd (cs := #[.string (⟨#[]⟩ : ByteArray), .slice none 0 0]) (t := 24) ?hr ?_; (case hd | hg => rfl); (case hr => first | (go_simp; done) | (go_simp; rfl)); intro gb175 hg w51 hbox hb; have n0_ := aM (Kd.R_below (ry HO173.out) hb); have n1_ := aM (bB (g := gb167) (qy BK167.out) hb); have n2_ := aM (bB (g := gb168) (qy BK168.out) hb); have n3_ := aM (bB (g := gb169) (qy BK169.out) hb); have n4_ := aM (bP (by repeat (first | (with_reducible first | exact HB.out | apply ea | apply en | apply ed | refine es ?_ GE167.out | refine es ?_ GE168.out | refine es ?_ GE169.out) | exact HB.out)) hb); have n5_ := aM (hbox); have n6_ := aM ((by rw [hg]; exact (bZ (by repeat (first | (with_reducible first | exact HB.out | apply ea | apply en | apply ed | refine es ?_ GE167.out | refine es ?_ GE168.out | refine es ?_ GE169.out) | exact HB.out))) : w.heap.size ≤ gb175)); have n7_ := n6_; have n8_ := aM ((by rw [hg]; exact Nat.ne_of_lt (blk_lt (g := gb167) (qy BK167.out)) : gb167 ≠ gb175)); have n9_ := aM ((by rw [hg]; exact Nat.ne_of_gt (blk_lt (g := gb167) (qy BK167.out)) : gb175 ≠ gb167)); have n10_ := aM ((by rw [hg]; exact Nat.ne_of_lt (blk_lt (g := gb168) (qy BK168.out)) : gb168 ≠ gb175)); have n11_ := aM ((by rw [hg]; exact Nat.ne_of_gt (blk_lt (g := gb168) (qy BK168.out)) : gb175 ≠ gb168)); have n12_ := aM ((by rw [hg]; exact Nat.ne_of_lt (blk_lt (g := gb169) (qy BK169.out)) : gb169 ≠ gb175)); have n13_ := aM ((by rw [hg]; exact Nat.ne_of_gt (blk_lt (g := gb169) (qy BK169.out)) : gb175 ≠ gb169)); clear HO173 BK167 BK168 BK169 HB; have HO173 := n0_; have BK167 := n1_; have BK168 := n2_; have BK169 := n3_; have HB := n4_; have BK175 := n5_; have GW175 := n6_; have GE175 := n7_; have NB167_175 := n8_; have NB175_167 := n9_; have NB168_175 := n10_; have NB175_168 := n11_; have NB169_175 := n12_; have NB175_169 := n13_; clear n0_ n1_ n2_ n3_ n4_ n5_ n6_ n7_ n8_ n9_ n10_ n11_ n12_ n13_; clear hb hbox hg; have hnb52 := NB175_167.out; have hnc52 := NB167_175.out; have hnb53 := NB175_168.out; have hnc53 := NB168_175.out; have hnb54 := NB175_169.out; have hnc54 := NB169_175.out; have hcz55_0 := zC BK175.out 0 (.string (⟨#[]⟩ : ByteArray)); have hcz55_1 := zC BK175.out 1 (.slice none 0 0); have hfz55_0 := bF BK175.out 0; have hfz55_1 := bF BK175.out 1; obtain ⟨Ao56, co56, eo56⟩ := Kd.R_slice HO173.out; subst eo56; have hcz57_0 := zC BK169.out 0 (.int .i64 0); have hcz57_1 := zC BK169.out 1 (.string (⟨#[]⟩ : ByteArray)); have hcz57_2 := zC BK169.out 2 (.slice none 0 0); have hcz57_3 := zC BK169.out 3 (.string (⟨#[]⟩ : ByteArray)); have hcz57_4 := zC BK169.out 4 (.slice none 0 0); have hfz57_0 := bF BK169.out 0; have hfz57_1 := bF BK169.out 1; have hfz57_2 := bF BK169.out 2; have hfz57_3 := bF BK169.out 3; have hfz57_4 := bF BK169.out 4))
  refine bodyPost_ret (results_ct rfl _ _ gb169 32 #[.int .i64 0, .string (⟨#[]⟩ : ByteArray), .slice none 0 0, .string (⟨#[]⟩ : ByteArray), .slice none 0 0] (0, 0) _ rfl (by (with_reducible repeat (first | apply qn | apply qd | apply qa)); refine bU (cs := #[.int .i64 0, .string (⟨#[]⟩ : ByteArray), .slice none 0 0, .string (⟨#[]⟩ : ByteArray), .slice none 0 0]) ?_ 4 _ rfl; (with_reducible repeat (first | apply qn | apply qd | apply qa)); refine bU (cs := #[.int .i64 0, .string (⟨#[]⟩ : ByteArray), .slice none 0 0, .string (⟨#[]⟩ : ByteArray), .slice none 0 0]) ?_ 3 _ rfl; (with_reducible repeat (first | apply qn | apply qd | apply qa)); refine bU (cs := #[.int .i64 0, .string (⟨#[]⟩ : ByteArray), .slice none 0 0, .string (⟨#[]⟩ : ByteArray), .slice none 0 0]) ?_ 2 _ rfl; (with_reducible repeat (first | apply qn | apply qd | apply qa)); refine bU (cs := #[.int .i64 0, .string (⟨#[]⟩ : ByteArray), .slice none 0 0, .string (⟨#[]⟩ : ByteArray), .slice none 0 0]) ?_ 1 _ rfl; (with_reducible repeat (first | apply qn | apply qd | apply qa)); refine bU (cs := #[.int .i64 0, .string (⟨#[]⟩ : ByteArray), .slice none 0 0, .string (⟨#[]⟩ : ByteArray), .slice none 0 0]) ?_ 0 _ rfl; (with_reducible repeat (first | apply qn | apply qd | apply qa)); refine bR ?_ NB169_175.out _; (with_reducible repeat (first | apply qn | apply qd | apply qa)); refine bR ?_ NB169_175.out _; exact qy BK169.out) Try.underlying32 rfl (by kernel_rfl)) rfl ?_
  exact ⟨_, _, by first | rfl | (simp [errW_none, errW_some] <;> rfl) | (simp [*, errW_none, errW_some] <;> rfl), by first | exact Kd.R_nil _ _ _ _ _ | exact Kd.N_nil _ _ _ _ _ | exact Kd.V_nil _ _ _ _ _ | exact Kd.Q_nil _ _ _ _ _ | exact Kd.S_nil _ _ _ _ _, by first | exact Kd.R_nil _ _ _ _ _ | exact Kd.N_nil _ _ _ _ _ | exact Kd.V_nil _ _ _ _ _ | exact Kd.Q_nil _ _ _ _ _ | exact Kd.S_nil _ _ _ _ _, by repeat (first | (with_reducible first | exact HB.out | apply ea | apply en | apply ed | refine es ?_ GE167.out | refine es ?_ GE168.out | refine es ?_ GE169.out | refine es ?_ GE175.out) | exact HB.out)⟩
end Go.Proofs.Ytnbdldpjiofafaa.PB
end

section
namespace Go.Proofs.Ytnbdldpjiofafaa.PB
open Go.RowKit Go.Proofs.YtnbdldpjiofafaaW.PrintWords
set_option linter.unusedVariables false
def totF : List S51 → Int → Int
  | [], n => n
  | r :: l, n => if r.f1 > 4096 - n then 4097 else totF l (n + (if r.f1 < 0 then 0 else r.f1))
def tot (l : List S51) : Int := totF l 0
def bytes (l : List S51) : List Int := l.flatMap fun r => List.replicate r.f1.toNat r.f0
def step1 (acc : List S51) (x : Int) : List S51 :=
  if 0 < acc.length ∧ (acc.getD (acc.length - 1) z51).f0 = x then acc.set (acc.length - 1) ⟨x, (acc.getD (acc.length - 1) z51).f1 + 1⟩ else acc ++ [⟨x, 1⟩]
def packTo (acc : List S51) (b : List Int) : List S51 := b.foldl step1 acc
def pack (b : List Int) : List S51 := packTo [] b
theorem packTo_append (acc : List S51) (a b : List Int) : packTo acc (a ++ b) = packTo (packTo acc a) b := List.foldl_append
theorem snoc_cases (acc : List S51) : acc = [] ∨ ∃ pre q, acc = pre ++ [q] := by
  rcases List.eq_nil_or_concat acc with h | ⟨pre, q, h⟩
  · exact .inl h
  · exact .inr ⟨pre, q, by rw [h, List.concat_eq_append]⟩
theorem getD_snoc (pre : List S51) (q : S51) : (pre ++ [q]).getD ((pre ++ [q]).length - 1) z51 = q := by
  simp [List.getD_eq_getElem?_getD]
theorem set_snoc (pre : List S51) (q r : S51) : (pre ++ [q]).set ((pre ++ [q]).length - 1) r = pre ++ [r] := by
  simp
theorem step1_nil (x : Int) : step1 [] x = [⟨x, 1⟩] := by simp [step1]
theorem step1_same (pre : List S51) (q : S51) : step1 (pre ++ [q]) q.f0 = pre ++ [⟨q.f0, q.f1 + 1⟩] := by
  unfold step1
  rw [getD_snoc, set_snoc, if_pos ⟨by simp, rfl⟩]
theorem step1_other (pre : List S51) (q : S51) (x : Int) (h : q.f0 ≠ x) : step1 (pre ++ [q]) x = pre ++ [q] ++ [⟨x, 1⟩] := by
  unfold step1
  rw [getD_snoc, if_neg (fun hh => h hh.2)]
theorem addRun_small (acc : List S51) (r : S51) (h : r.f1 < 1) : addRun acc r = acc := by simp [addRun, h]
theorem addRun_nil (r : S51) (h : ¬ r.f1 < 1) : addRun [] r = [r] := by simp [addRun, h]
theorem addRun_same (pre : List S51) (q r : S51) (h : ¬ r.f1 < 1) (he : q.f0 = r.f0) : addRun (pre ++ [q]) r = pre ++ [⟨q.f0, wrap64 (q.f1 + r.f1)⟩] := by
  unfold addRun
  rw [if_neg h, getD_snoc, set_snoc, if_pos (by simp), if_pos he]
theorem addRun_other (pre : List S51) (q r : S51) (h : ¬ r.f1 < 1) (he : ¬ q.f0 = r.f0) : addRun (pre ++ [q]) r = pre ++ [q] ++ [r] := by
  unfold addRun
  rw [if_neg h, getD_snoc, if_pos (by simp), if_neg he]
theorem packTo_rep_same (pre : List S51) (x : Int) : ∀ (n : Nat) (m : Int), packTo (pre ++ [⟨x, m⟩]) (List.replicate n x) = pre ++ [⟨x, m + n⟩]
  | 0, m => by simp [packTo]
  | n + 1, m => by
    rw [List.replicate_succ]
    show packTo (step1 (pre ++ [⟨x, m⟩]) x) _ = _
    rw [show step1 (pre ++ [(⟨x, m⟩ : S51)]) x = pre ++ [⟨x, m + 1⟩] from step1_same pre ⟨x, m⟩, packTo_rep_same pre x n (m + 1)]
    congr 3
    push_cast
    omega
def capped (B : Int) (acc : List S51) : Prop := ∀ r ∈ acc, 0 ≤ r.f1 ∧ r.f1 ≤ B
theorem addRun_pack (acc : List S51) (L : Int) (N : Nat) (B : Int) (hc : capped B acc) (hB : B + N ≤ 9223372036854775807) : addRun acc ⟨L, N⟩ = packTo acc (List.replicate N L) := by
  cases N with
  | zero => rw [addRun_small _ _ (by show ((0 : Nat) : Int) < 1; omega)]; rfl
  | succ n =>
    have h1 : ¬ ((⟨L, ((n + 1 : Nat) : Int)⟩ : S51).f1 < 1) := by show ¬ ((n + 1 : Nat) : Int) < 1; omega
    rw [List.replicate_succ]
    rcases snoc_cases acc with rfl | ⟨pre, q, rfl⟩
    · rw [addRun_nil _ h1]
      show _ = packTo (step1 [] L) _
      rw [step1_nil, ← List.nil_append [(⟨L, 1⟩ : S51)], packTo_rep_same]
      simp
      omega
    · show _ = packTo (step1 (pre ++ [q]) L) _
      by_cases he : q.f0 = L
      · subst he
        have hq := hc q (by simp)
        rw [addRun_same pre q ⟨q.f0, ((n + 1 : Nat) : Int)⟩ h1 rfl, step1_same, packTo_rep_same]
        congr 3
        show wrap64 (q.f1 + ((n + 1 : Nat) : Int)) = _
        unfold wrap64
        omega
      · rw [addRun_other _ _ _ h1 he, step1_other _ _ _ he, packTo_rep_same]
        simp
        omega
theorem capped_mono {B B' : Int} {acc : List S51} (h : capped B acc) (hB : B ≤ B') : capped B' acc := fun r hr => ⟨(h r hr).1, by have := (h r hr).2; omega⟩
theorem step1_capped {B : Int} {acc : List S51} (h : capped B acc) (hB : 0 ≤ B) (x : Int) : capped (B + 1) (step1 acc x) := by
  rcases snoc_cases acc with rfl | ⟨pre, q, rfl⟩
  · rw [step1_nil]
    intro r hr
    obtain rfl := List.mem_singleton.1 hr
    exact ⟨by show (0 : Int) ≤ 1; omega, by show (1 : Int) ≤ B + 1; omega⟩
  · by_cases he : q.f0 = x
    · subst he
      rw [step1_same]
      intro r hr
      rcases List.mem_append.1 hr with hr | hr
      · have := h r (List.mem_append_left _ hr); omega
      · obtain rfl := List.mem_singleton.1 hr
        have := h q (by simp)
        exact ⟨by show 0 ≤ q.f1 + 1; omega, by show q.f1 + 1 ≤ B + 1; omega⟩
    · rw [step1_other _ _ _ he]
      intro r hr
      rcases List.mem_append.1 hr with hr | hr
      · have := h r hr; omega
      · obtain rfl := List.mem_singleton.1 hr
        exact ⟨by show (0 : Int) ≤ 1; omega, by show (1 : Int) ≤ B + 1; omega⟩
theorem packTo_capped (b : List Int) : ∀ {B : Int} {acc : List S51}, capped B acc → 0 ≤ B → capped (B + b.length) (packTo acc b) := by
  induction b with
  | nil => intro B acc h hB; simpa [packTo] using h
  | cons x b ih =>
    intro B acc h hB
    have := ih (step1_capped h hB x) (by omega)
    show capped _ (packTo (step1 acc x) b)
    refine capped_mono this ?_
    rw [List.length_cons]
    push_cast
    omega
theorem bytes_cons (r : S51) (l : List S51) : bytes (r :: l) = List.replicate r.f1.toNat r.f0 ++ bytes l := by simp [bytes]
theorem bytes_append (a b : List S51) : bytes (a ++ b) = bytes a ++ bytes b := by simp [bytes]
theorem someTo_pack (a b : Nat) (l : List S51) : ∀ (p : Nat) (acc : List S51) (B : Int), (∀ r ∈ l, 0 ≤ r.f1) → capped B acc → 0 ≤ B → B + (bytes l).length ≤ 1000000 → p + (bytes l).length ≤ 1000000 → a ≤ 1000000 → b ≤ 1000000 →
    someTo addRun (a : Int) (b : Int) l (p : Int) acc = packTo acc (((bytes l).take (b - p)).drop (a - p)) := by
  induction l with
  | nil => intro p acc B _ _ _ _ _ _ _; simp [someTo, bytes, packTo]
  | cons r l ih =>
    intro p acc B h0 hc hB hlen hp ha hb
    obtain ⟨n, hn⟩ := Int.eq_ofNat_of_zero_le (h0 r List.mem_cons_self)
    have hn' : r.f1.toNat = n := by omega
    rw [bytes_cons, hn'] at hlen hp ⊢
    rw [List.length_append, List.length_replicate] at hlen hp
    push_cast at hlen hp
    have hw : wrap64 ((p : Int) + r.f1) = ((p + n : Nat) : Int) := by unfold wrap64; omega
    simp only [someTo]
    rw [hw]
    
    have hN : wrap64 ((if (b : Int) < ((p + n : Nat) : Int) then (b : Int) else ((p + n : Nat) : Int)) - (if (p : Int) < (a : Int) then (a : Int) else (p : Int))) = (min b (p + n) : Nat) - (max p a : Nat) := by
      unfold wrap64
      split <;> split <;> omega
    rw [hN]
    have hsplit : (((List.replicate n r.f0) ++ bytes l).take (b - p)).drop (a - p) = List.replicate (min b (p + n) - max p a) r.f0 ++ ((bytes l).take (b - (p + n))).drop (a - (p + n)) := by
      rw [List.take_append, List.drop_append, List.length_take, List.length_replicate, List.take_replicate, List.drop_replicate]
      congr 1
      · congr 1; omega
      · by_cases hbp : b ≤ p + n
        · rw [show b - p - n = 0 by omega, show b - (p + n) = 0 by omega]; simp
        · rw [show b - p - n = b - (p + n) by omega, show a - p - min (b - p) n = a - (p + n) by omega]
    rw [hsplit, packTo_append]
    by_cases hle : max p a ≤ min b (p + n)
    · rw [show ((min b (p + n) : Nat) : Int) - ((max p a : Nat) : Int) = ((min b (p + n) - max p a : Nat) : Int) by omega]
      rw [addRun_pack acc r.f0 _ B hc (by omega)]
      have hc2 := packTo_capped (List.replicate (min b (p + n) - max p a) r.f0) hc hB
      rw [List.length_replicate] at hc2
      exact ih (p + n) _ _ (fun r hr => h0 r (List.mem_cons_of_mem _ hr)) hc2 (by omega) (by omega) (by push_cast; omega) ha hb
    · rw [addRun_small _ _ (by show ((min b (p + n) : Nat) : Int) - ((max p a : Nat) : Int) < 1; omega), show min b (p + n) - max p a = 0 by omega]
      exact ih (p + n) acc B (fun r hr => h0 r (List.mem_cons_of_mem _ hr)) hc hB (by omega) (by push_cast; omega) ha hb
theorem totF_bytes (l : List S51) : ∀ n : Int, 0 ≤ n → totF l n ≤ 4096 → totF l n = n + (bytes l).length := by
  induction l with
  | nil => intro n _ h; simp [totF, bytes]
  | cons r l ih =>
    intro n h0 h
    simp only [totF] at h ⊢
    split at h
    · omega
    · rename_i hc
      rw [if_neg hc]
      rw [ih _ (by split <;> omega) h, bytes_cons, List.length_append, List.length_replicate]
      push_cast
      split <;> omega
theorem tot_bytes {l : List S51} (h : tot l ≤ 4096) : tot l = (bytes l).length := by
  have := totF_bytes l 0 (by omega) h
  unfold tot
  omega
theorem tot_of_bytes {l : List S51} (h0 : ∀ r ∈ l, 0 ≤ r.f1) (h : (bytes l).length ≤ 4096) : tot l = (bytes l).length := by
  have : ∀ (l : List S51) (n : Int), 0 ≤ n → (∀ r ∈ l, 0 ≤ r.f1) → n + (bytes l).length ≤ 4096 → totF l n = n + (bytes l).length := by
    intro l
    induction l with
    | nil => intro n _ _ _; simp [totF, bytes]
    | cons r l ih =>
      intro n hn h0 h
      have hr := h0 r List.mem_cons_self
      rw [bytes_cons, List.length_append, List.length_replicate] at h ⊢
      push_cast at h ⊢
      simp only [totF]
      rw [if_neg (by omega), if_neg (by omega), ih _ (by omega) (fun r hr => h0 r (List.mem_cons_of_mem _ hr)) (by omega)]
      omega
  have := this l 0 (by omega) h0 (by omega)
  unfold tot
  omega
def nrm : List S51 → Prop
  | [] => True
  | [r] => 1 ≤ r.f1
  | r :: s :: l => 1 ≤ r.f1 ∧ r.f0 ≠ s.f0 ∧ nrm (s :: l)
theorem nrm_tail {r : S51} {l : List S51} (h : nrm (r :: l)) : nrm l := by
  cases l with
  | nil => trivial
  | cons s l => exact h.2.2
theorem nrm_head {r : S51} {l : List S51} (h : nrm (r :: l)) : 1 ≤ r.f1 := by
  cases l with
  | nil => exact h
  | cons s l => exact h.1
theorem nrm_pos {l : List S51} (h : nrm l) : ∀ r ∈ l, 1 ≤ r.f1 := by
  induction l with
  | nil => intro r hr; cases hr
  | cons s l ih =>
    intro r hr
    rcases List.mem_cons.1 hr with rfl | hr
    · exact nrm_head h
    · exact ih (nrm_tail h) r hr
theorem nrm_snoc {pre : List S51} {q r : S51} : nrm (pre ++ [q]) → q.f0 ≠ r.f0 → 1 ≤ r.f1 → nrm (pre ++ [q] ++ [r]) := by
  induction pre with
  | nil => intro h h1 h2; exact ⟨h, h1, h2⟩
  | cons p pre ih =>
    intro h h1 h2
    cases pre with
    | nil => exact ⟨h.1, h.2.1, ih h.2.2 h1 h2⟩
    | cons s pre => exact ⟨h.1, h.2.1, ih h.2.2 h1 h2⟩
theorem nrm_last {pre : List S51} {q q' : S51} : nrm (pre ++ [q]) → q'.f0 = q.f0 → 1 ≤ q'.f1 → nrm (pre ++ [q']) := by
  induction pre with
  | nil => intro h h1 h2; exact h2
  | cons p pre ih =>
    intro h h1 h2
    cases pre with
    | nil => exact ⟨h.1, by rw [h1]; exact h.2.1, h2⟩
    | cons s pre => exact ⟨h.1, h.2.1, ih h.2.2 h1 h2⟩
theorem step1_nrm {acc : List S51} (h : nrm acc) (x : Int) : nrm (step1 acc x) := by
  rcases snoc_cases acc with rfl | ⟨pre, q, rfl⟩
  · rw [step1_nil]; show (1 : Int) ≤ 1; omega
  · by_cases he : q.f0 = x
    · subst he
      rw [step1_same]
      exact nrm_last h rfl (by have := nrm_pos h q (by simp); show 1 ≤ q.f1 + 1; omega)
    · rw [step1_other _ _ _ he]
      exact nrm_snoc h he (by show (1 : Int) ≤ 1; omega)
theorem packTo_nrm (b : List Int) : ∀ {acc : List S51}, nrm acc → nrm (packTo acc b) := by
  induction b with
  | nil => intro acc h; exact h
  | cons x b ih => intro acc h; exact ih (step1_nrm h x)
theorem pack_nrm (b : List Int) : nrm (pack b) := packTo_nrm b trivial
theorem step1_bytes {acc : List S51} (h : nrm acc) (x : Int) : bytes (step1 acc x) = bytes acc ++ [x] := by
  rcases snoc_cases acc with rfl | ⟨pre, q, rfl⟩
  · rw [step1_nil]; simp [bytes]
  · by_cases he : q.f0 = x
    · subst he
      have := nrm_pos h q (by simp)
      rw [step1_same, bytes_append, bytes_append, List.append_assoc]
      congr 1
      simp only [bytes, List.flatMap_cons, List.flatMap_nil, List.append_nil]
      rw [show (q.f1 + 1).toNat = q.f1.toNat + 1 by omega, List.replicate_succ']
    · rw [step1_other _ _ _ he, bytes_append]
      congr 1
theorem packTo_bytes (b : List Int) : ∀ {acc : List S51}, nrm acc → bytes (packTo acc b) = bytes acc ++ b := by
  induction b with
  | nil => intro acc h; simp [packTo]
  | cons x b ih =>
    intro acc h
    show bytes (packTo (step1 acc x) b) = _
    rw [ih (step1_nrm h x), step1_bytes h, List.append_assoc]
    rfl
theorem pack_bytes (b : List Int) : bytes (pack b) = b := by
  unfold pack
  rw [packTo_bytes b (acc := []) trivial]
  simp [bytes]
theorem packTo_normal (l : List S51) : ∀ (pre : List S51) (q : S51), nrm (q :: l) → packTo (pre ++ [q]) (bytes l) = pre ++ q :: l := by
  induction l with
  | nil => intro pre q _; simp [bytes, packTo]
  | cons s l ih =>
    intro pre q h
    have hs := nrm_head (nrm_tail h)
    obtain ⟨n, hn⟩ : ∃ n : Nat, s.f1 = ((n + 1 : Nat) : Int) := ⟨(s.f1 - 1).toNat, by omega⟩
    rw [bytes_cons, packTo_append, hn, Int.toNat_natCast, List.replicate_succ]
    show packTo (packTo (step1 (pre ++ [q]) s.f0) _) _ = _
    rw [step1_other _ _ _ h.2.1, packTo_rep_same]
    have e : (⟨s.f0, 1 + (n : Int)⟩ : S51) = s := by
      cases s
      simp only at hn
      subst hn
      congr 1
      push_cast
      omega
    rw [e, ih (pre ++ [q]) s (nrm_tail h)]
    simp
theorem pack_of_nrm {l : List S51} (h : nrm l) : pack (bytes l) = l := by
  cases l with
  | nil => rfl
  | cons s l =>
    have hs := nrm_head h
    obtain ⟨n, hn⟩ : ∃ n : Nat, s.f1 = ((n + 1 : Nat) : Int) := ⟨(s.f1 - 1).toNat, by omega⟩
    unfold pack
    rw [bytes_cons, packTo_append, hn, Int.toNat_natCast, List.replicate_succ]
    show packTo (packTo (step1 [] s.f0) _) _ = _
    rw [step1_nil, ← List.nil_append [(⟨s.f0, 1⟩ : S51)], packTo_rep_same]
    have e : (⟨s.f0, 1 + (n : Int)⟩ : S51) = s := by
      cases s
      simp only at hn
      subst hn
      congr 1
      push_cast
      omega
    rw [e, packTo_normal l [] s h]
    rfl
instance nrmDec : (l : List S51) → Decidable (nrm l)
  | [] => isTrue trivial
  | [r] => inferInstanceAs (Decidable (1 ≤ r.f1))
  | r :: s :: l => by
    have := nrmDec (s :: l)
    exact inferInstanceAs (Decidable (1 ≤ r.f1 ∧ r.f0 ≠ s.f0 ∧ nrm (s :: l)))
theorem nrm_iff {l : List S51} : nrm l ↔ l = pack (bytes l) := ⟨fun h => (pack_of_nrm h).symm, fun h => by rw [h]; exact pack_nrm _⟩
def good (l : List S51) : Bool := decide (nrm l) && decide (tot l ≤ 4096)
end Go.Proofs.Ytnbdldpjiofafaa.PB
end

section
namespace Go.Proofs.Ytnbdldpjiofafaa.PB
open Go.RowKit Go.Proofs.YtnbdldpjiofafaaW.PrintWords Go.Proofs.YtnbdldpjiofafaaW.PrintLast Go.Proofs.YtnbdldpjiofafaaW.PrintMore
set_option linter.unusedVariables false
set_option linter.unusedSimpArgs false
def BRow (w : World) (g : Nat) (b : List Int) : Prop := ∃ cs t fr, w.heap[g]? = some (.cells cs t fr) ∧ b.length ≤ fr.1 ∧ ∀ i, i < b.length → cs[i]? = some (.int .u8 (b.getD i 0))
theorem BRow.lt {w : World} {g : Nat} {b : List Int} (h : BRow w g b) : g < w.heap.size := by obtain ⟨cs, t, fr, hc, _⟩ := h; exact blk_lt hc
theorem BRow.cell {w : World} {g : Nat} {b : List Int} (h : BRow w g b) {i : Nat} (hi : i < b.length) : w.cell? ⟨g, i, none⟩ = some (.int .u8 (b.getD i 0)) := by
  obtain ⟨cs, t, fr, hc, _, hb⟩ := h
  exact (cell_of_row w g i cs t fr hc).trans (hb i hi)
theorem BRow.frozen {w : World} {g : Nat} {b : List Int} (h : BRow w g b) {i : Nat} (hi : i < b.length) : w.frozen? ⟨g, i, none⟩ = false := by
  obtain ⟨cs, t, ⟨f1, f2⟩, hc, hf, hb⟩ := h
  simp only at hf
  simp [World.frozen?, hc]
  omega
theorem BRow.of {w w' : World} {g : Nat} {b : List Int} (h : BRow w g b) (he : w'.heap[g]? = w.heap[g]?) : BRow w' g b := by
  obtain ⟨cs, t, fr, hc, hr⟩ := h
  exact ⟨cs, t, fr, he.trans hc, hr⟩
theorem BRow.alloc {w : World} {g : Nat} {b : List Int} (h : BRow w g b) (o : Obj) : BRow (w.alloc o) g b := h.of (Below.heap_alloc _ _ _ h.lt)
theorem BRow.drewN {w : World} {g : Nat} {b : List Int} (h : BRow w g b) (n : Nat) : BRow (w.drewN n) g b := h.of rfl
theorem BRow.set {w : World} {g : Nat} {b : List Int} (h : BRow w g b) {i : Nat} (hi : i < b.length) (x : Int) : BRow (w.setCell ⟨g, i, none⟩ (.int .u8 x)) g (b.set i x) := by
  obtain ⟨cs, t, fr, hc, hf, hb⟩ := h
  refine ⟨cs.setIfInBounds i (.int .u8 x), t, fr, by simp [World.setCell, Array.getElem?_modify, hc], by rw [List.length_set]; exact hf, fun j hj => ?_⟩
  rw [List.length_set] at hj
  have h1 := hb j hj
  obtain ⟨hlt, _⟩ := Array.getElem?_eq_some_iff.1 h1
  by_cases he : i = j
  · subst he
    rw [List.getD_eq_getElem?_getD, List.getElem?_set_self hj, Array.getElem?_setIfInBounds]
    simp [hlt]
  · rw [List.getD_eq_getElem?_getD, List.getElem?_set_ne he, ← List.getD_eq_getElem?_getD, Array.getElem?_setIfInBounds, if_neg he]
    exact h1
theorem BRow.reads {w : World} {g : Nat} {b : List Int} (h : BRow w g b) (hn : b.length ≤ 9223372036854775807) : ReadsInt w .u8 (some ⟨g, 0, none⟩) b.length b :=
  ⟨rfl, hn, fun _ => ⟨_, rfl, fun j hj => by
    have := h.cell hj
    by_cases h0 : j = 0
    · subst h0; simpa [Addr.add] using this
    · simpa [Addr.add, h0] using this⟩⟩
theorem bytesOf_len (s : ByteArray) : (bytesOf s).length = s.size := by unfold bytesOf; rw [List.length_map, Array.length_toList]; rfl
theorem bytesOf_getD (s : ByteArray) (i : Nat) (hi : i < s.size) : (bytesOf s).getD i 0 = ((s.data.toList.getD i 0).toNat : Int) := by
  have hd : i < s.data.toList.length := by rw [Array.length_toList]; exact hi
  unfold bytesOf
  rw [List.getD_eq_getElem?_getD, List.getElem?_map, List.getD_eq_getElem?_getD, List.getElem?_eq_getElem hd]
  rfl
theorem BRow.new (w : World) (e : TypeId) (s : ByteArray) : BRow (Lib.bytesWorld w e s) w.heap.size (bytesOf s) := by
  refine ⟨_, _, _, Lib.bytesWorld_at_new w e s, ?_, fun i hi => ?_⟩
  · show (bytesOf s).length ≤ (Lib.bytesCells w e s).size
    rw [bytesOf_len]
    unfold Lib.bytesCells
    rw [Array.size_append, Array.size_map]
    exact Nat.le_add_right _ _
  · rw [bytesOf_len] at hi
    have h1 := Lib.bytesWorld_cell w e s i hi
    rw [cell_of_row _ _ _ _ _ _ (Lib.bytesWorld_at_new w e s)] at h1
    rw [h1, bytesOf_getD _ _ hi]
theorem below_bytesWorld {w0 w : World} {B : Nat} (h : Below B w0 w) (hB : B ≤ w.heap.size) (e : TypeId) (s : ByteArray) : Below B w0 (Lib.bytesWorld w e s) :=
  h.trans ⟨rfl, rfl, rfl, by rw [Lib.bytesWorld_size]; omega, fun k hk => Lib.bytesWorld_at_old w e s k (by omega)⟩
def paintN : Nat → Nat → List Int → List Int
  | _, 0, b => b
  | p, n + 1, b => paintN (p + 1) n (b.set p 35)
def viewTo (y : Int) : List S51 → Nat → List Int → List Int
  | [], _, b => b
  | r :: l, p, b => viewTo y l (p + r.f1.toNat) (if (Go.bits .andNot .u64 r.f0 y == 0) = true then b else paintN p r.f1.toNat b)
def strip_View.f (k : Nat) (a0_0 : ByteArray) (l0_1 : List S51) (a1 : Int) : Option (ByteArray × Int) :=
  (strip_Good.f k a0_0 l0_1).bind fun t => if t = true then (if (∀ r ∈ l0_1, 0 ≤ r.f1) ∧ (bytes l0_1).length ≤ a0_0.size ∧ a0_0.size ≤ 1000000 then some (strOfNums (viewTo a1 l0_1 0 (bytesOf a0_0)), 0) else none) else some ((⟨#[]⟩ : ByteArray), 2)
theorem strip_View.mono : ∀ a0 a1 a2 k, LeO (strip_View.f k a0 a1 a2) (strip_View.f (k + 1) a0 a1 a2) := fun a0 a1 a2 k => LeO.bind (strip_Good.mono _ _ _) (fun _ => LeO.refl _)
set_option maxHeartbeats 4000000 in
set_option maxRecDepth 100000 in
theorem strip_View.calls (k : Nat) (a0_0 : ByteArray) (A0_1 : Option Addr) (c0_1 : Nat) (l0_1 : List S51) (a1 : Int) (r1 : ByteArray) (r2 : Int) (w : World) (hr0_1 : Kd.C k51 w A0_1 l0_1.length l0_1) (hc0_1 : l0_1.length ≤ c0_1) (h : strip_View.f k a0_0 l0_1 a1 = some (r1, r2)) :
    Calls Try.prog 19 #[.agg #[.string a0_0, .slice A0_1 l0_1.length c0_1], .int .u64 a1] w fun e w' => e = .returned (.tuple #[.string r1, .int .i64 r2]) ∧ Below w.heap.size w w' := by
  have hu51 := Try.underlying24
  have hu100 := Try.underlying51
  unfold strip_View.f at h
  obtain ⟨t, ht, h⟩ := Option.bind_eq_some_iff.1 h
  have HC := aM (fun W (hw : Below w.heap.size w W) => strip_Good.calls k a0_0 A0_1 c0_1 l0_1 t W (cB_ hr0_1 hw) hc0_1 ht)
  have HR := aM hr0_1
  clear hr0_1 ht
  cases t with
  | false =>
    simp only [Bool.false_eq_true, if_false, Option.some.injEq, Prod.mk.injEq] at h
    obtain ⟨rfl, rfl⟩ := h
    go_enter Try.func19, Try.ntmps19
    go_wp2_with fail
    refine (HC.out _ ((Below.refl _ _).alloc (Nat.le_refl _) _)).mono ?_
    rintro e w1 ⟨rfl, hb⟩
    have HB := aM hb
    clear hb
    go_wp2
    go_ret2
    exact ⟨rfl, ((Below.refl _ _).alloc (Nat.le_refl _) _).trans (HB.out.mono (by simp))⟩
  | true =>
    simp only [if_true] at h
    by_cases hg : (∀ r ∈ l0_1, 0 ≤ r.f1) ∧ (bytes l0_1).length ≤ a0_0.size ∧ a0_0.size ≤ 1000000
    case neg => rw [if_neg hg] at h; cases h
    rw [if_pos hg] at h
    simp only [Option.some.injEq, Prod.mk.injEq] at h
    obtain ⟨rfl, rfl⟩ := h
    have HG := aM hg
    clear hg
    have hmax : l0_1.length ≤ 9223372036854775807 := HR.out.2.1
    go_enter Try.func19, Try.ntmps19
    go_wp2_with fail
    refine (HC.out _ ((Below.refl _ _).alloc (Nat.le_refl _) _)).mono ?_
    rintro e w1 ⟨rfl, hb⟩
    have hbx := bB (blk_new w (.cells #[.string a0_0, .slice A0_1 l0_1.length c0_1] 24)) hb
    have hlt := blk_lt hbx
    have hc0 : w1.cell? ⟨w.heap.size, 0, none⟩ = some (.string a0_0) := (bC hbx 0).trans rfl
    have hc1 : (Lib.bytesWorld w1 5 a0_0).cell? ⟨w.heap.size, 1, none⟩ = some (.slice A0_1 l0_1.length c0_1) := (Lib.bytesWorld_old w1 5 a0_0 _ hlt).trans ((bC hbx 1).trans rfl)
    have HB := aM (below_bytesWorld (((Below.refl w.heap.size w).alloc (Nat.le_refl _) _).trans (hb.mono (by simp))) (by omega) 5 a0_0)
    have hcv := Lib.run_convert_string_bytes (P := Try.prog) w1 9 82 5 a0_0 Try.underlying9 Try.underlying82 Try.underlying5
    have HN := aM (BRow.new w1 5 a0_0)
    have hg0 : w.heap.size < w1.heap.size := hlt
    generalize grownCap w1 a0_0.size 0 5 = cap at hcv
    generalize Lib.bytesWorld w1 5 a0_0 = w2 at hc1 HB hcv HN
    generalize w1.heap.size = g at hcv HN hg0
    have HBL := aM (bytesOf_len a0_0)
    have hsz : a0_0.size ≤ 1000000 := HG.out.2.2
    clear hb hbx h hlt
    go_wp2
    go_loopw [7, 20] (fun p i wr => ∃ (k : Nat) (pz : Nat) (b : List Int), k ≤ l0_1.length ∧ i = .int .i64 k ∧ p = .int .i64 pz ∧ Aside0 (BRow wr g b) ∧ Aside0 (b.length = a0_0.size) ∧ Aside0 (Below w.heap.size w wr) ∧ Aside0 (g < wr.heap.size) ∧ Aside0 (pz + (bytes (l0_1.drop k)).length ≤ a0_0.size) ∧ Aside0 (viewTo a1 (l0_1.drop k) pz b = viewTo a1 l0_1 0 (bytesOf a0_0))) (fun _ i _ => l0_1.length - (intOf i).toNat)
    case atStart => exact ⟨0, 0, bytesOf a0_0, Nat.zero_le _, rfl, rfl, HN, HBL, HB, ⟨HN.out.lt⟩, ⟨by have := HG.out.2.1; simpa using this⟩, ⟨rfl⟩⟩
    case round =>
      obtain ⟨k, pz, b, hk, rfl, rfl, HN, HLN, HB, HGL, HP, HE⟩ := hrel
      by_cases hlt : k < l0_1.length
      · obtain ⟨ad, rfl, hx0, hx1⟩ := at_T51 HR.out (k : Int) (by omega) (by omega)
        replace hx0 := (HB.out.cell (World.block_lt_of_cell? w _ hx0)).trans hx0
        replace hx1 := (HB.out.cell (World.block_lt_of_cell? w _ hx1)).trans hx1
        simp only [Int.toNat_natCast] at hx0 hx1
        have hdr : l0_1.drop k = rd_T51 l0_1 (k : Int) :: l0_1.drop (k + 1) := by
          rw [List.drop_eq_getElem_cons hlt]; unfold rd_T51; rw [Int.toNat_natCast, List.getD_eq_getElem?_getD, List.getElem?_eq_getElem hlt]; rfl
        have hnn : 0 ≤ (rd_T51 l0_1 (k : Int)).f1 := HG.out.1 _ (List.mem_of_mem_drop (by rw [hdr]; exact List.mem_cons_self))
        have hp1 := HP.out
        have he1 := HE.out
        rw [hdr] at hp1 he1
        rw [bytes_cons, List.length_append, List.length_replicate] at hp1
        simp only [viewTo] at he1
        generalize (rd_T51 l0_1 (k : Int)).f0 = e0 at *
        generalize (rd_T51 l0_1 (k : Int)).f1 = e1 at *
        obtain ⟨n, rfl⟩ := Int.eq_ofNat_of_zero_le hnn
        rw [Int.toNat_natCast] at hp1 he1
        rw [← Nat.add_assoc] at hp1
        obtain ⟨m, hm⟩ : ∃ m, pz + n = m := ⟨_, rfl⟩
        rw [hm] at hp1 he1
        have hwr : wrap64 ((pz : Int) + (n : Int)) = (m : Int) := by unfold wrap64; omega
        have HBEL := aM (fun W => label_Below.calls e0 a1 (Go.bits .andNot .u64 e0 a1 == 0) W rfl)
        have HP1 := aM hp1
        have HM := aM hm
        clear hp1 hm hdr hnn HP HE
        by_cases hbel : (Go.bits .andNot .u64 e0 a1 == 0) = true
        · rw [if_pos hbel] at he1
          have HE1 := aM he1
          clear he1
          go_wp2_with ((with_reducible refine (HBEL.out _).mono ?_); rintro e w3 ⟨rfl, hd⟩; obtain ⟨⟨nq, rfl⟩⟩ := hd)
          go_roundw
          case rel => exact ⟨k + 1, m, b, by omega, by go_num, by first | rfl | (rw [hwr]), ⟨(HN.out.alloc _).drewN nq⟩, HLN, ⟨pw_below_drewN (HB.out.alloc HB.out.size _) nq⟩, ⟨by have := HGL.out; show g < (wr.alloc _).heap.size; simp; omega⟩, HP1, HE1⟩
          case measure => simp [intOf]; omega
        · have hbel' : (Go.bits .andNot .u64 e0 a1 == 0) = false := by simpa using hbel
          rw [if_neg hbel] at he1
          have HE1 := aM he1
          clear he1 hbel
          go_wp2_with ((with_reducible refine (HBEL.out _).mono ?_); rintro e w3 ⟨rfl, hd⟩; obtain ⟨⟨nq, rfl⟩⟩ := hd)
          have hcb : ((wr.alloc (.cells #[.int .u64 e0, .int .i64 (n : Int)] 51)).drewN nq).cell? ⟨wr.heap.size, 1, none⟩ = some (.int .i64 (n : Int)) := bC (blk_drewN (blk_new wr (.cells #[.int .u64 e0, .int .i64 (n : Int)] 51)) nq) 1
          have HCB := aM hcb
          have HN2 := aM ((HN.out.alloc (.cells #[.int .u64 e0, .int .i64 (n : Int)] 51)).drewN nq)
          have HB2 := aM (pw_below_drewN (HB.out.alloc HB.out.size (.cells #[.int .u64 e0, .int .i64 (n : Int)] 51)) nq)
          have HS2 := aM (show wr.heap.size < ((wr.alloc (.cells #[.int .u64 e0, .int .i64 (n : Int)] 51)).drewN nq).heap.size by show wr.heap.size < (wr.alloc _).heap.size; simp)
          have hgb : ¬ g = wr.heap.size := by have := HGL.out; omega
          generalize (wr.alloc (.cells #[.int .u64 e0, .int .i64 (n : Int)] 51)).drewN nq = w4 at HCB HN2 HB2 HS2 ⊢
          clear hcb
          generalize wr.heap.size = gb at HCB HS2 hgb ⊢
          go_loopw [10] (fun i wi => ∃ (q : Nat) (b' : List Int), q ≤ m ∧ i = .int .i64 q ∧ Aside0 (pz ≤ q) ∧ Aside0 (BRow wi g b') ∧ Aside0 (b'.length = a0_0.size) ∧ Aside0 (Below w.heap.size w wi) ∧ Aside0 (gb < wi.heap.size) ∧ Aside0 (wi.cell? ⟨gb, 1, none⟩ = some (.int .i64 (n : Int))) ∧ Aside0 (paintN q (m - q) b' = paintN pz n b)) (fun i _ => m - (intOf i).toNat)
          case atStart => exact ⟨pz, b, by have := HM.out; omega, rfl, ⟨Nat.le_refl _⟩, HN2, HLN, HB2, HS2, HCB, ⟨by have := HM.out; rw [show m - pz = n by omega]⟩⟩
          case round =>
            obtain ⟨q, b', hq, rfl, HQ, HN3, HLN3, HB3, HS3, HCB3, HE3⟩ := hrel
            have hcb3 := HCB3.out
            by_cases hqm : q < m
            · have hqs : q < b'.length := by have := HLN3.out; have := HP1.out; omega
              have hcq := HN3.out.cell hqs
              have hfq := HN3.out.frozen hqs
              have hqa : q < a0_0.size := by have := HLN3.out; omega
              have HNS := aM (HN3.out.set hqs 35)
              have HLS := aM (show (b'.set q 35).length = a0_0.size by rw [List.length_set]; exact HLN3.out)
              have HBS := aM (HB3.out.setCell (p := ⟨g, q, none⟩) (Nat.le_of_lt hg0) (.int .u8 35))
              have hce := cell_far (W := wr) (p := ⟨g, q, none⟩) (a := ⟨gb, 1, none⟩) (fun e => hgb (Eq.symm e)) (.int .u8 35)
              have HCS := aM (hce.trans HCB3.out)
              have HES := aM (show paintN (q + 1) (m - (q + 1)) (b'.set q 35) = paintN pz n b by
                have := HE3.out; rw [show m - q = (m - (q + 1)) + 1 by omega] at this; simpa only [paintN] using this)
              clear hce
              clear hqs
              go_wp2
              go_roundw
              case rel => exact ⟨q + 1, _, by omega, by go_num, ⟨by have := HQ.out; omega⟩, HNS, HLS, HBS, ⟨by have := HS3.out; simpa [World.setCell] using this⟩, HCS, HES⟩
              case measure => simp [intOf]; omega
            · have hqe : q = m := by omega
              subst hqe
              go_wp2
              go_roundw
              case rel => exact ⟨k + 1, q, b', by omega, by go_num, by first | rfl | (rw [hwr]), HN3, HLN3, HB3, ⟨HN3.out.lt⟩, HP1, ⟨by have := HE3.out; rw [Nat.sub_self] at this; simp only [paintN] at this; rw [this]; exact HE1.out⟩⟩
              case measure => simp [intOf]; omega
      · have hkl : k = l0_1.length := by omega
        subst hkl
        have he1 := HE.out
        rw [List.drop_length] at he1
        simp only [viewTo] at he1
        subst he1
        have hcs := string_of_reads (P := Try.prog) (src := 82) (dst := 9) (e := 5) (c := cap) Try.underlying82 Try.underlying5 Try.underlying9 (HN.out.reads (by have := HLN.out; omega))
        rw [HLN.out] at hcs
        go_wp2
        go_ret2
        exact ⟨rfl, HB.out⟩
end Go.Proofs.Ytnbdldpjiofafaa.PB
end
