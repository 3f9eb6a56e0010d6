/- The row of a law out of its contract and its pure theorem. No condition. -/
import Derived.OpenShut
import Derived.ChangeArms
import Derived.Deep.Slices
import Derived.SizedLaws
import Derived.Test.YthpjagblnddjaaaRows
import Derived.ProofKit
import Derived.OpenShut
import Derived.ShutString
import Derived.ChangeOld
import Derived.SizedLaws
import Derived.Carry
import Derived.Test.YthpjagblnddjaaaQEditFollows5
section
namespace Go.Proofs.Ythpjagblnddjaaa.PB
open Go.RowKit Go.Proofs.YthpjagblnddjaaaW.PrintWords Go.Proofs.YthpjagblnddjaaaW.PrintLast Go.Proofs.YthpjagblnddjaaaW.PrintMore
attribute [local go_sem] max2_int min2_int max_two min_two max_three min_three max_four min_four   
set_option linter.unusedVariables false
set_option linter.unusedSimpArgs false
def bureaulaw07_EditFollows.j0 : Nat → Int → Int → Bool → Int → ByteArray → List (S100) → ByteArray → List (S100) → Option (Bool)
  | 0, _, _, _, _, _, _, _, _ => none
  | k + 1, x1, x5, x54, x698000, x698001, x698002, x698003, x698004 => if x54 = true then (some true) else ((edit_Invert.f x698000 x698001 x698002 x698003 x698004).bind fun bt703 => ((edit_Follow.f k bt703.1 bt703.2.1 bt703.2.2.1 bt703.2.2.2.1 bt703.2.2.2.2 x5).bind fun t712 => (some (t712 == x1))))
def bureaulaw07_EditFollows.f (k : Nat) (a0_0 : Int) (a0_1 : ByteArray) (l0_2 : List (S100)) (a0_3 : ByteArray) (l0_4 : List (S100)) (a1 : Int) : Option (Bool) := (bureaulaw07_alive.f k).bind fun t698 => (if t698 = true then ((bureaulaw07_Fits.f a0_0 a0_1 l0_2 a0_3 l0_4).bind fun t699 => (if t699 = true then ((edit_Follow.f k a0_0 a0_1 l0_2 a0_3 l0_4 a1).bind fun t700 => ((bureauref07_Follow.f k a0_0 a0_1 l0_2 a0_3 l0_4 a1).bind fun t701 => (if t700 = t701 then ((bureauref07_Good.f k a0_0 a0_1 l0_2 a0_3 l0_4).bind fun t702 => (if t702 = true then (if a1 < 0 then (bureaulaw07_EditFollows.j0 k a1 t700 true a0_0 a0_1 l0_2 a0_3 l0_4) else (if a1 > 4096 then (bureaulaw07_EditFollows.j0 k a1 t700 true a0_0 a0_1 l0_2 a0_3 l0_4) else (if t700 < 0 then (bureaulaw07_EditFollows.j0 k a1 t700 true a0_0 a0_1 l0_2 a0_3 l0_4) else (if t700 > 4096 then (bureaulaw07_EditFollows.j0 k a1 t700 true a0_0 a0_1 l0_2 a0_3 l0_4) else (if a1 > a0_0 then (bureaulaw07_EditFollows.j0 k a1 t700 (decide (a1 ≤ (wrap64 (a0_0 + (a0_1.size : Int))))) a0_0 a0_1 l0_2 a0_3 l0_4) else (bureaulaw07_EditFollows.j0 k a1 t700 false a0_0 a0_1 l0_2 a0_3 l0_4)))))) else (bureaulaw07_EditFollows.j0 k a1 t700 true a0_0 a0_1 l0_2 a0_3 l0_4))) else (some false)))) else (some true))) else (some false))
set_option maxHeartbeats 8000000 in
set_option maxRecDepth 100000 in
theorem bureaulaw07_EditFollows.calls (k : Nat) (a0_0 : Int) (a0_1 : ByteArray) (A0_2 : Option Addr) (c0_2 : Nat) (l0_2 : List (S100)) (a0_3 : ByteArray) (A0_4 : Option Addr) (c0_4 : Nat) (l0_4 : List (S100)) (a1 : Int) (r : Bool) (w : World) (hr0_2 : Kd.C k100 w A0_2 l0_2.length l0_2) (hc0_2 : l0_2.length ≤ c0_2) (hr0_4 : Kd.C k100 w A0_4 l0_4.length l0_4) (hc0_4 : l0_4.length ≤ c0_4) (h : bureaulaw07_EditFollows.f k a0_0 a0_1 l0_2 a0_3 l0_4 a1 = some r) :
    Calls Try.prog 14 #[.agg #[.int .i64 a0_0, .string a0_1, .slice A0_2 l0_2.length c0_2, .string a0_3, .slice A0_4 l0_4.length c0_4], .int .i64 a1] w fun e w' => e = .returned (.bool r) ∧ Below w.heap.size w w' := by
  have hu64 := Try.underlying64
  have HR0_2 := Aside0.mk hr0_2
  have HC0_2 := Aside0.mk hc0_2
  clear hr0_2 hc0_2
  have HR0_4 := Aside0.mk hr0_4
  have HC0_4 := Aside0.mk hc0_4
  clear hr0_4 hc0_4
  have HB := Aside0.mk (Below.refl w.heap.size w)
  have H : ((bureaulaw07_alive.f k).bind fun t698 => (if t698 = true then ((bureaulaw07_Fits.f a0_0 a0_1 l0_2 a0_3 l0_4).bind fun t699 => (if t699 = true then ((edit_Follow.f k a0_0 a0_1 l0_2 a0_3 l0_4 a1).bind fun t700 => ((bureauref07_Follow.f k a0_0 a0_1 l0_2 a0_3 l0_4 a1).bind fun t701 => (if t700 = t701 then ((bureauref07_Good.f k a0_0 a0_1 l0_2 a0_3 l0_4).bind fun t702 => (if t702 = true then (if a1 < 0 then (bureaulaw07_EditFollows.j0 k a1 t700 true a0_0 a0_1 l0_2 a0_3 l0_4) else (if a1 > 4096 then (bureaulaw07_EditFollows.j0 k a1 t700 true a0_0 a0_1 l0_2 a0_3 l0_4) else (if t700 < 0 then (bureaulaw07_EditFollows.j0 k a1 t700 true a0_0 a0_1 l0_2 a0_3 l0_4) else (if t700 > 4096 then (bureaulaw07_EditFollows.j0 k a1 t700 true a0_0 a0_1 l0_2 a0_3 l0_4) else (if a1 > a0_0 then (bureaulaw07_EditFollows.j0 k a1 t700 (decide (a1 ≤ (wrap64 (a0_0 + (a0_1.size : Int))))) a0_0 a0_1 l0_2 a0_3 l0_4) else (bureaulaw07_EditFollows.j0 k a1 t700 false a0_0 a0_1 l0_2 a0_3 l0_4)))))) else (bureaulaw07_EditFollows.j0 k a1 t700 true a0_0 a0_1 l0_2 a0_3 l0_4))) else (some false)))) else (some true))) else (some false))) = some r := h
  clear h
  replace H := Option.bind_eq_some_iff.mp H
  obtain ⟨t698, A30, H⟩ := H
  replace H : (if t698 = true then ((bureaulaw07_Fits.f a0_0 a0_1 l0_2 a0_3 l0_4).bind fun t699 => (if t699 = true then ((edit_Follow.f k a0_0 a0_1 l0_2 a0_3 l0_4 a1).bind fun t700 => ((bureauref07_Follow.f k a0_0 a0_1 l0_2 a0_3 l0_4 a1).bind fun t701 => (if t700 = t701 then ((bureauref07_Good.f k a0_0 a0_1 l0_2 a0_3 l0_4).bind fun t702 => (if t702 = true then (if a1 < 0 then (bureaulaw07_EditFollows.j0 k a1 t700 true a0_0 a0_1 l0_2 a0_3 l0_4) else (if a1 > 4096 then (bureaulaw07_EditFollows.j0 k a1 t700 true a0_0 a0_1 l0_2 a0_3 l0_4) else (if t700 < 0 then (bureaulaw07_EditFollows.j0 k a1 t700 true a0_0 a0_1 l0_2 a0_3 l0_4) else (if t700 > 4096 then (bureaulaw07_EditFollows.j0 k a1 t700 true a0_0 a0_1 l0_2 a0_3 l0_4) else (if a1 > a0_0 then (bureaulaw07_EditFollows.j0 k a1 t700 (decide (a1 ≤ (wrap64 (a0_0 + (a0_1.size : Int))))) a0_0 a0_1 l0_2 a0_3 l0_4) else (bureaulaw07_EditFollows.j0 k a1 t700 false a0_0 a0_1 l0_2 a0_3 l0_4)))))) else (bureaulaw07_EditFollows.j0 k a1 t700 true a0_0 a0_1 l0_2 a0_3 l0_4))) else (some false)))) else (some true))) else (some false)) = some r := H
  have A3 := Aside0.mk A30
  clear A30
  by_cases c4 : t698 = true
  · subst c4
    have H1 : ((bureaulaw07_Fits.f a0_0 a0_1 l0_2 a0_3 l0_4).bind fun t699 => (if t699 = true then ((edit_Follow.f k a0_0 a0_1 l0_2 a0_3 l0_4 a1).bind fun t700 => ((bureauref07_Follow.f k a0_0 a0_1 l0_2 a0_3 l0_4 a1).bind fun t701 => (if t700 = t701 then ((bureauref07_Good.f k a0_0 a0_1 l0_2 a0_3 l0_4).bind fun t702 => (if t702 = true then (if a1 < 0 then (bureaulaw07_EditFollows.j0 k a1 t700 true a0_0 a0_1 l0_2 a0_3 l0_4) else (if a1 > 4096 then (bureaulaw07_EditFollows.j0 k a1 t700 true a0_0 a0_1 l0_2 a0_3 l0_4) else (if t700 < 0 then (bureaulaw07_EditFollows.j0 k a1 t700 true a0_0 a0_1 l0_2 a0_3 l0_4) else (if t700 > 4096 then (bureaulaw07_EditFollows.j0 k a1 t700 true a0_0 a0_1 l0_2 a0_3 l0_4) else (if a1 > a0_0 then (bureaulaw07_EditFollows.j0 k a1 t700 (decide (a1 ≤ (wrap64 (a0_0 + (a0_1.size : Int))))) a0_0 a0_1 l0_2 a0_3 l0_4) else (bureaulaw07_EditFollows.j0 k a1 t700 false a0_0 a0_1 l0_2 a0_3 l0_4)))))) else (bureaulaw07_EditFollows.j0 k a1 t700 true a0_0 a0_1 l0_2 a0_3 l0_4))) else (some false)))) else (some true))) = some r := by rw [if_pos rfl] at H; exact H
    clear H
    have H := H1
    clear H1
    replace H := Option.bind_eq_some_iff.mp H
    obtain ⟨t699, A50, H⟩ := H
    replace H : (if t699 = true then ((edit_Follow.f k a0_0 a0_1 l0_2 a0_3 l0_4 a1).bind fun t700 => ((bureauref07_Follow.f k a0_0 a0_1 l0_2 a0_3 l0_4 a1).bind fun t701 => (if t700 = t701 then ((bureauref07_Good.f k a0_0 a0_1 l0_2 a0_3 l0_4).bind fun t702 => (if t702 = true then (if a1 < 0 then (bureaulaw07_EditFollows.j0 k a1 t700 true a0_0 a0_1 l0_2 a0_3 l0_4) else (if a1 > 4096 then (bureaulaw07_EditFollows.j0 k a1 t700 true a0_0 a0_1 l0_2 a0_3 l0_4) else (if t700 < 0 then (bureaulaw07_EditFollows.j0 k a1 t700 true a0_0 a0_1 l0_2 a0_3 l0_4) else (if t700 > 4096 then (bureaulaw07_EditFollows.j0 k a1 t700 true a0_0 a0_1 l0_2 a0_3 l0_4) else (if a1 > a0_0 then (bureaulaw07_EditFollows.j0 k a1 t700 (decide (a1 ≤ (wrap64 (a0_0 + (a0_1.size : Int))))) a0_0 a0_1 l0_2 a0_3 l0_4) else (bureaulaw07_EditFollows.j0 k a1 t700 false a0_0 a0_1 l0_2 a0_3 l0_4)))))) else (bureaulaw07_EditFollows.j0 k a1 t700 true a0_0 a0_1 l0_2 a0_3 l0_4))) else (some false)))) else (some true)) = some r := H
    have A5 := Aside0.mk A50
    clear A50
    by_cases c6 : t699 = true
    · subst c6
      have H1 : ((edit_Follow.f k a0_0 a0_1 l0_2 a0_3 l0_4 a1).bind fun t700 => ((bureauref07_Follow.f k a0_0 a0_1 l0_2 a0_3 l0_4 a1).bind fun t701 => (if t700 = t701 then ((bureauref07_Good.f k a0_0 a0_1 l0_2 a0_3 l0_4).bind fun t702 => (if t702 = true then (if a1 < 0 then (bureaulaw07_EditFollows.j0 k a1 t700 true a0_0 a0_1 l0_2 a0_3 l0_4) else (if a1 > 4096 then (bureaulaw07_EditFollows.j0 k a1 t700 true a0_0 a0_1 l0_2 a0_3 l0_4) else (if t700 < 0 then (bureaulaw07_EditFollows.j0 k a1 t700 true a0_0 a0_1 l0_2 a0_3 l0_4) else (if t700 > 4096 then (bureaulaw07_EditFollows.j0 k a1 t700 true a0_0 a0_1 l0_2 a0_3 l0_4) else (if a1 > a0_0 then (bureaulaw07_EditFollows.j0 k a1 t700 (decide (a1 ≤ (wrap64 (a0_0 + (a0_1.size : Int))))) a0_0 a0_1 l0_2 a0_3 l0_4) else (bureaulaw07_EditFollows.j0 k a1 t700 false a0_0 a0_1 l0_2 a0_3 l0_4)))))) else (bureaulaw07_EditFollows.j0 k a1 t700 true a0_0 a0_1 l0_2 a0_3 l0_4))) else (some false)))) = some r := by rw [if_pos rfl] at H; exact H
      clear H
      have H := H1
      clear H1
      replace H := Option.bind_eq_some_iff.mp H
      obtain ⟨t700, A70, H⟩ := H
      replace H : ((bureauref07_Follow.f k a0_0 a0_1 l0_2 a0_3 l0_4 a1).bind fun t701 => (if t700 = t701 then ((bureauref07_Good.f k a0_0 a0_1 l0_2 a0_3 l0_4).bind fun t702 => (if t702 = true then (if a1 < 0 then (bureaulaw07_EditFollows.j0 k a1 t700 true a0_0 a0_1 l0_2 a0_3 l0_4) else (if a1 > 4096 then (bureaulaw07_EditFollows.j0 k a1 t700 true a0_0 a0_1 l0_2 a0_3 l0_4) else (if t700 < 0 then (bureaulaw07_EditFollows.j0 k a1 t700 true a0_0 a0_1 l0_2 a0_3 l0_4) else (if t700 > 4096 then (bureaulaw07_EditFollows.j0 k a1 t700 true a0_0 a0_1 l0_2 a0_3 l0_4) else (if a1 > a0_0 then (bureaulaw07_EditFollows.j0 k a1 t700 (decide (a1 ≤ (wrap64 (a0_0 + (a0_1.size : Int))))) a0_0 a0_1 l0_2 a0_3 l0_4) else (bureaulaw07_EditFollows.j0 k a1 t700 false a0_0 a0_1 l0_2 a0_3 l0_4)))))) else (bureaulaw07_EditFollows.j0 k a1 t700 true a0_0 a0_1 l0_2 a0_3 l0_4))) else (some false))) = some r := H
      have A7 := Aside0.mk A70
      clear A70
      replace H := Option.bind_eq_some_iff.mp H
      obtain ⟨t701, A80, H⟩ := H
      replace H : (if t700 = t701 then ((bureauref07_Good.f k a0_0 a0_1 l0_2 a0_3 l0_4).bind fun t702 => (if t702 = true then (if a1 < 0 then (bureaulaw07_EditFollows.j0 k a1 t700 true a0_0 a0_1 l0_2 a0_3 l0_4) else (if a1 > 4096 then (bureaulaw07_EditFollows.j0 k a1 t700 true a0_0 a0_1 l0_2 a0_3 l0_4) else (if t700 < 0 then (bureaulaw07_EditFollows.j0 k a1 t700 true a0_0 a0_1 l0_2 a0_3 l0_4) else (if t700 > 4096 then (bureaulaw07_EditFollows.j0 k a1 t700 true a0_0 a0_1 l0_2 a0_3 l0_4) else (if a1 > a0_0 then (bureaulaw07_EditFollows.j0 k a1 t700 (decide (a1 ≤ (wrap64 (a0_0 + (a0_1.size : Int))))) a0_0 a0_1 l0_2 a0_3 l0_4) else (bureaulaw07_EditFollows.j0 k a1 t700 false a0_0 a0_1 l0_2 a0_3 l0_4)))))) else (bureaulaw07_EditFollows.j0 k a1 t700 true a0_0 a0_1 l0_2 a0_3 l0_4))) else (some false)) = some r := H
      have A8 := Aside0.mk A80
      clear A80
      by_cases c9 : t700 = t701
      · rw [if_pos c9] at H
        have c9b0 : (t700 == t701) = true := beq_iff_eq.mpr c9
        have c9b1 : (t700 != t701) = false := bne_eq_false_iff_eq.mpr c9
        clear c9
        have HC10 := Aside0.mk H
        clear H
        go_enter Try.func14, Try.ntmps14
        go_upto_region 8 with (first | ((with_reducible refine gate_dst (N := 2) rfl ?_); (try (refine gate_guard (by rfl) ?_; dsimp only)); refine box_event ?hg (N := 2) ?hd (cs := #[.int .i64 a0_0, .string a0_1, .slice A0_2 l0_2.length c0_2, .string a0_3, .slice A0_4 l0_4.length c0_4]) (t := 64) ?hr ?_; (case hd => rfl); (case hg => rfl); (case hr => first | (go_simp; done) | (go_simp; rfl)); intro gb697 hg w11 hbox hb; have n0_ := Aside0.mk (below_step (by repeat (first | (with_reducible first | exact HB.out | apply below_alloc | apply pw_below_drewN | apply below_drew1) | exact HB.out)) hb); have n1_ := Aside0.mk (hbox); have n2_ := Aside0.mk ((by rw [hg]; exact (below_size (by repeat (first | (with_reducible first | exact HB.out | apply below_alloc | apply pw_below_drewN | apply below_drew1) | exact HB.out))) : w.heap.size ≤ gb697)); have n3_ := Aside0.mk ((by rw [hg]; exact (below_size (by repeat (first | (with_reducible first | exact HB.out | apply below_alloc | apply pw_below_drewN | apply below_drew1) | exact HB.out))) : w.heap.size ≤ gb697)); clear HB; have HB := n0_; have BK697 := n1_; have GW697 := n2_; have GE697 := n3_; clear n0_ n1_ n2_ n3_; clear hb hbox hg) | ((with_reducible refine gate_callee (f := 55) rfl ?_); refine goesL_ (some 6) rfl rfl Try.func55 (by kernel_rfl) rfl #[] rfl (by (try simp only [List.map_toArray, List.map_cons, List.map_nil]); first | done | rfl | (simp only [List.length_drop, List.length_take]; rfl)) ?_; (with_reducible refine (bureaulaw07_alive.calls k  true _ A3.out).mono ?_); rintro e w12 ⟨rfl, hb⟩; refine ⟨_, rfl, ?_⟩; have n0_ := Aside0.mk (blk_below (g := gb697) (o := .cells #[.int .i64 a0_0, .string a0_1, .slice A0_2 l0_2.length c0_2, .string a0_3, .slice A0_4 l0_4.length c0_4] 64 (0, 0)) (by (with_reducible repeat (first | refine blk_drewN ?_ _ | refine blk_drew ?_ | refine blk_alloc ?_ _)); exact BK697.out) hb); have n1_ := Aside0.mk (below_step (by repeat (first | (with_reducible first | exact HB.out | apply below_alloc | apply pw_below_drewN | apply below_drew1 | refine below_set ?_ GE697.out) | exact HB.out)) hb); clear BK697; clear HB; have BK697 := n0_; have HB := n1_; clear n0_ n1_; (try clear hb); (try clear hb2); (try clear hk); (try clear hi); have hcz13_0 : w12.cell? ⟨gb697, 0, none⟩ = some (.int .i64 a0_0) := (blk_cell BK697.out 0).trans rfl; have hcz13_1 : w12.cell? ⟨gb697, 1, none⟩ = some (.string a0_1) := (blk_cell BK697.out 1).trans rfl; have hcz13_2 : w12.cell? ⟨gb697, 2, none⟩ = some (.slice A0_2 l0_2.length c0_2) := (blk_cell BK697.out 2).trans rfl; have hcz13_3 : w12.cell? ⟨gb697, 3, none⟩ = some (.string a0_3) := (blk_cell BK697.out 3).trans rfl; have hcz13_4 : w12.cell? ⟨gb697, 4, none⟩ = some (.slice A0_4 l0_4.length c0_4) := (blk_cell BK697.out 4).trans rfl; have hfz13_0 := blk_frozen BK697.out 0; have hfz13_1 := blk_frozen BK697.out 1; have hfz13_2 := blk_frozen BK697.out 2; have hfz13_3 := blk_frozen BK697.out 3; have hfz13_4 := blk_frozen BK697.out 4) | ((with_reducible refine gate_callee (f := 61) rfl ?_); refine goesL_ (some 9) rfl rfl Try.func61 (by kernel_rfl) rfl #[.agg #[.int .i64 a0_0, .string a0_1, .slice A0_2 l0_2.length c0_2, .string a0_3, .slice A0_4 l0_4.length c0_4]] rfl (by (try simp only [List.map_toArray, List.map_cons, List.map_nil]); first | done | rfl | (simp only [List.length_drop, List.length_take]; rfl)) ?_; (with_reducible refine (bureaulaw07_Fits.calls a0_0 a0_1 _ _ l0_2 a0_3 _ _ l0_4 true _ ?side1 ?side2 ?side3 ?side4 A5.out).mono ?_); (case side1 => repeat (first | exact (Kd.C_below HR0_2.out HB.out) | (with_reducible refine Kd.C_alloc ?_ _) | (with_reducible refine Kd.C_drewN ?_ _) | (with_reducible refine Kd.C_drew ?_))); (case side2 => exact HC0_2.out); (case side3 => repeat (first | exact (Kd.C_below HR0_4.out HB.out) | (with_reducible refine Kd.C_alloc ?_ _) | (with_reducible refine Kd.C_drewN ?_ _) | (with_reducible refine Kd.C_drew ?_))); (case side4 => exact HC0_4.out); rintro e w14 ⟨rfl, hb⟩; refine ⟨_, rfl, ?_⟩; have n0_ := Aside0.mk (blk_below (g := gb697) (o := .cells #[.int .i64 a0_0, .string a0_1, .slice A0_2 l0_2.length c0_2, .string a0_3, .slice A0_4 l0_4.length c0_4] 64 (0, 0)) (by (with_reducible repeat (first | refine blk_drewN ?_ _ | refine blk_drew ?_ | refine blk_alloc ?_ _)); exact BK697.out) hb); have n1_ := Aside0.mk (below_step (by repeat (first | (with_reducible first | exact HB.out | apply below_alloc | apply pw_below_drewN | apply below_drew1 | refine below_set ?_ GE697.out) | exact HB.out)) hb); clear BK697; clear HB; have BK697 := n0_; have HB := n1_; clear n0_ n1_; (try clear hb); (try clear hb2); (try clear hk); (try clear hi); have hcz15_0 : w14.cell? ⟨gb697, 0, none⟩ = some (.int .i64 a0_0) := (blk_cell BK697.out 0).trans rfl; have hcz15_1 : w14.cell? ⟨gb697, 1, none⟩ = some (.string a0_1) := (blk_cell BK697.out 1).trans rfl; have hcz15_2 : w14.cell? ⟨gb697, 2, none⟩ = some (.slice A0_2 l0_2.length c0_2) := (blk_cell BK697.out 2).trans rfl; have hcz15_3 : w14.cell? ⟨gb697, 3, none⟩ = some (.string a0_3) := (blk_cell BK697.out 3).trans rfl; have hcz15_4 : w14.cell? ⟨gb697, 4, none⟩ = some (.slice A0_4 l0_4.length c0_4) := (blk_cell BK697.out 4).trans rfl; have hfz15_0 := blk_frozen BK697.out 0; have hfz15_1 := blk_frozen BK697.out 1; have hfz15_2 := blk_frozen BK697.out 2; have hfz15_3 := blk_frozen BK697.out 3; have hfz15_4 := blk_frozen BK697.out 4) | ((with_reducible refine gate_callee (f := 62) rfl ?_); refine goesL_ (some 13) rfl rfl Try.func62 (by kernel_rfl) rfl #[.agg #[.int .i64 a0_0, .string a0_1, .slice A0_2 l0_2.length c0_2, .string a0_3, .slice A0_4 l0_4.length c0_4], .int .i64 a1] rfl (by (try simp only [List.map_toArray, List.map_cons, List.map_nil]); first | done | rfl | (simp only [List.length_drop, List.length_take]; rfl)) ?_; (with_reducible refine (edit_Follow.calls k a0_0 a0_1 _ _ l0_2 a0_3 _ _ l0_4 a1 t700 _ ?side1 ?side2 ?side3 ?side4 A7.out).mono ?_); (case side1 => repeat (first | exact (Kd.C_below HR0_2.out HB.out) | (with_reducible refine Kd.C_alloc ?_ _) | (with_reducible refine Kd.C_drewN ?_ _) | (with_reducible refine Kd.C_drew ?_))); (case side2 => exact HC0_2.out); (case side3 => repeat (first | exact (Kd.C_below HR0_4.out HB.out) | (with_reducible refine Kd.C_alloc ?_ _) | (with_reducible refine Kd.C_drewN ?_ _) | (with_reducible refine Kd.C_drew ?_))); (case side4 => exact HC0_4.out); rintro e w16 ⟨rfl, hb⟩; refine ⟨_, rfl, ?_⟩; have n0_ := Aside0.mk (blk_below (g := gb697) (o := .cells #[.int .i64 a0_0, .string a0_1, .slice A0_2 l0_2.length c0_2, .string a0_3, .slice A0_4 l0_4.length c0_4] 64 (0, 0)) (by (with_reducible repeat (first | refine blk_drewN ?_ _ | refine blk_drew ?_ | refine blk_alloc ?_ _)); exact BK697.out) hb); have n1_ := Aside0.mk (below_step (by repeat (first | (with_reducible first | exact HB.out | apply below_alloc | apply pw_below_drewN | apply below_drew1 | refine below_set ?_ GE697.out) | exact HB.out)) hb); clear BK697; clear HB; have BK697 := n0_; have HB := n1_; clear n0_ n1_; (try clear hb); (try clear hb2); (try clear hk); (try clear hi); have hcz17_0 : w16.cell? ⟨gb697, 0, none⟩ = some (.int .i64 a0_0) := (blk_cell BK697.out 0).trans rfl; have hcz17_1 : w16.cell? ⟨gb697, 1, none⟩ = some (.string a0_1) := (blk_cell BK697.out 1).trans rfl; have hcz17_2 : w16.cell? ⟨gb697, 2, none⟩ = some (.slice A0_2 l0_2.length c0_2) := (blk_cell BK697.out 2).trans rfl; have hcz17_3 : w16.cell? ⟨gb697, 3, none⟩ = some (.string a0_3) := (blk_cell BK697.out 3).trans rfl; have hcz17_4 : w16.cell? ⟨gb697, 4, none⟩ = some (.slice A0_4 l0_4.length c0_4) := (blk_cell BK697.out 4).trans rfl; have hfz17_0 := blk_frozen BK697.out 0; have hfz17_1 := blk_frozen BK697.out 1; have hfz17_2 := blk_frozen BK697.out 2; have hfz17_3 := blk_frozen BK697.out 3; have hfz17_4 := blk_frozen BK697.out 4) | ((with_reducible refine gate_callee (f := 63) rfl ?_); refine goesL_ (some 17) rfl rfl Try.func63 (by kernel_rfl) rfl #[.agg #[.int .i64 a0_0, .string a0_1, .slice A0_2 l0_2.length c0_2, .string a0_3, .slice A0_4 l0_4.length c0_4], .int .i64 a1] rfl (by (try simp only [List.map_toArray, List.map_cons, List.map_nil]); first | done | rfl | (simp only [List.length_drop, List.length_take]; rfl)) ?_; (with_reducible refine (bureauref07_Follow.calls k a0_0 a0_1 _ _ l0_2 a0_3 _ _ l0_4 a1 t701 _ ?side1 ?side2 ?side3 ?side4 A8.out).mono ?_); (case side1 => repeat (first | exact (Kd.C_below HR0_2.out HB.out) | (with_reducible refine Kd.C_alloc ?_ _) | (with_reducible refine Kd.C_drewN ?_ _) | (with_reducible refine Kd.C_drew ?_))); (case side2 => exact HC0_2.out); (case side3 => repeat (first | exact (Kd.C_below HR0_4.out HB.out) | (with_reducible refine Kd.C_alloc ?_ _) | (with_reducible refine Kd.C_drewN ?_ _) | (with_reducible refine Kd.C_drew ?_))); (case side4 => exact HC0_4.out); rintro e w18 ⟨rfl, hb⟩; refine ⟨_, rfl, ?_⟩; have n0_ := Aside0.mk (blk_below (g := gb697) (o := .cells #[.int .i64 a0_0, .string a0_1, .slice A0_2 l0_2.length c0_2, .string a0_3, .slice A0_4 l0_4.length c0_4] 64 (0, 0)) (by (with_reducible repeat (first | refine blk_drewN ?_ _ | refine blk_drew ?_ | refine blk_alloc ?_ _)); exact BK697.out) hb); have n1_ := Aside0.mk (below_step (by repeat (first | (with_reducible first | exact HB.out | apply below_alloc | apply pw_below_drewN | apply below_drew1 | refine below_set ?_ GE697.out) | exact HB.out)) hb); clear BK697; clear HB; have BK697 := n0_; have HB := n1_; clear n0_ n1_; (try clear hb); (try clear hb2); (try clear hk); (try clear hi)))
        (try simp only [Act.put, List.setIfInBounds_toArray, List.set_cons_zero, List.set_cons_succ])
        go_cut [54] (fun v54 wc => ∃ (kq : Nat) (x54_9 : Bool), v54 = .bool x54_9 ∧ Aside0 (bureaulaw07_EditFollows.j0 kq a1 t700 x54_9 a0_0 a0_1 l0_2 a0_3 l0_4 = some r) ∧ Aside0 (kq ≤ k) ∧ Aside0 (wc.heap[gb697]? = some (.cells #[.int .i64 a0_0, .string a0_1, (.slice A0_2 l0_2.length c0_2), .string a0_3, (.slice A0_4 l0_4.length c0_4)] 64 (0, 0))) ∧ Aside0 (Below w.heap.size w wc))
        case first =>
          have H := HC10.out
          clear HC10
          replace H := Option.bind_eq_some_iff.mp H
          obtain ⟨t702, A190, H⟩ := H
          replace H : (if t702 = true then (if a1 < 0 then (bureaulaw07_EditFollows.j0 k a1 t700 true a0_0 a0_1 l0_2 a0_3 l0_4) else (if a1 > 4096 then (bureaulaw07_EditFollows.j0 k a1 t700 true a0_0 a0_1 l0_2 a0_3 l0_4) else (if t700 < 0 then (bureaulaw07_EditFollows.j0 k a1 t700 true a0_0 a0_1 l0_2 a0_3 l0_4) else (if t700 > 4096 then (bureaulaw07_EditFollows.j0 k a1 t700 true a0_0 a0_1 l0_2 a0_3 l0_4) else (if a1 > a0_0 then (bureaulaw07_EditFollows.j0 k a1 t700 (decide (a1 ≤ (wrap64 (a0_0 + (a0_1.size : Int))))) a0_0 a0_1 l0_2 a0_3 l0_4) else (bureaulaw07_EditFollows.j0 k a1 t700 false a0_0 a0_1 l0_2 a0_3 l0_4)))))) else (bureaulaw07_EditFollows.j0 k a1 t700 true a0_0 a0_1 l0_2 a0_3 l0_4)) = some r := H
          have A19 := Aside0.mk A190
          clear A190
          by_cases c20 : t702 = true
          · subst c20
            have H1 : (if a1 < 0 then (bureaulaw07_EditFollows.j0 k a1 t700 true a0_0 a0_1 l0_2 a0_3 l0_4) else (if a1 > 4096 then (bureaulaw07_EditFollows.j0 k a1 t700 true a0_0 a0_1 l0_2 a0_3 l0_4) else (if t700 < 0 then (bureaulaw07_EditFollows.j0 k a1 t700 true a0_0 a0_1 l0_2 a0_3 l0_4) else (if t700 > 4096 then (bureaulaw07_EditFollows.j0 k a1 t700 true a0_0 a0_1 l0_2 a0_3 l0_4) else (if a1 > a0_0 then (bureaulaw07_EditFollows.j0 k a1 t700 (decide (a1 ≤ (wrap64 (a0_0 + (a0_1.size : Int))))) a0_0 a0_1 l0_2 a0_3 l0_4) else (bureaulaw07_EditFollows.j0 k a1 t700 false a0_0 a0_1 l0_2 a0_3 l0_4)))))) = some r := by rw [if_pos rfl] at H; exact H
            clear H
            have H := H1
            clear H1
            by_cases c21 : a1 < 0
            · rw [if_pos c21] at H
              have c21b0 : decide (a1 < 0) = true := decide_eq_true c21
              clear c21
              (first | rw [c21b0] | (simp only [i64_w, i32_w]; rw [c21b0]) | skip)
              have H' := Aside0.mk H
              clear H
              have hcz22_0 : w18.cell? ⟨gb697, 0, none⟩ = some (.int .i64 a0_0) := (blk_cell BK697.out 0).trans rfl
              have hcz22_1 : w18.cell? ⟨gb697, 1, none⟩ = some (.string a0_1) := (blk_cell BK697.out 1).trans rfl
              have hcz22_2 : w18.cell? ⟨gb697, 2, none⟩ = some (.slice A0_2 l0_2.length c0_2) := (blk_cell BK697.out 2).trans rfl
              have hcz22_3 : w18.cell? ⟨gb697, 3, none⟩ = some (.string a0_3) := (blk_cell BK697.out 3).trans rfl
              have hcz22_4 : w18.cell? ⟨gb697, 4, none⟩ = some (.slice A0_4 l0_4.length c0_4) := (blk_cell BK697.out 4).trans rfl
              have hfz22_0 := blk_frozen BK697.out 0
              have hfz22_1 := blk_frozen BK697.out 1
              have hfz22_2 := blk_frozen BK697.out 2
              have hfz22_3 := blk_frozen BK697.out 3
              have hfz22_4 := blk_frozen BK697.out 4
              go_wp2_with (first | ((with_reducible refine gate_callee (f := 64) rfl ?_); refine goesL_ (some 20) rfl rfl Try.func64 (by kernel_rfl) rfl #[.agg #[.int .i64 a0_0, .string a0_1, .slice A0_2 l0_2.length c0_2, .string a0_3, .slice A0_4 l0_4.length c0_4]] rfl (by (try simp only [List.map_toArray, List.map_cons, List.map_nil]); first | done | rfl | (simp only [List.length_drop, List.length_take]; rfl)) ?_; (with_reducible refine (bureauref07_Good.calls k a0_0 a0_1 _ _ l0_2 a0_3 _ _ l0_4 true _ ?side1 ?side2 ?side3 ?side4 A19.out).mono ?_); (case side1 => repeat (first | exact (Kd.C_below HR0_2.out HB.out) | (with_reducible refine Kd.C_alloc ?_ _) | (with_reducible refine Kd.C_drewN ?_ _) | (with_reducible refine Kd.C_drew ?_))); (case side2 => exact HC0_2.out); (case side3 => repeat (first | exact (Kd.C_below HR0_4.out HB.out) | (with_reducible refine Kd.C_alloc ?_ _) | (with_reducible refine Kd.C_drewN ?_ _) | (with_reducible refine Kd.C_drew ?_))); (case side4 => exact HC0_4.out); rintro e w23 ⟨rfl, hb⟩; refine ⟨_, rfl, ?_⟩; have n0_ := Aside0.mk (blk_below (g := gb697) (o := .cells #[.int .i64 a0_0, .string a0_1, .slice A0_2 l0_2.length c0_2, .string a0_3, .slice A0_4 l0_4.length c0_4] 64 (0, 0)) (by (with_reducible repeat (first | refine blk_drewN ?_ _ | refine blk_drew ?_ | refine blk_alloc ?_ _)); exact BK697.out) hb); have n1_ := Aside0.mk (below_step (by repeat (first | (with_reducible first | exact HB.out | apply below_alloc | apply pw_below_drewN | apply below_drew1 | refine below_set ?_ GE697.out) | exact HB.out)) hb); clear BK697; clear HB; have BK697 := n0_; have HB := n1_; clear n0_ n1_; (try clear hb); (try clear hb2); (try clear hk); (try clear hi)))
              go_meet
              case rel => exact ⟨_, (true), (by first | rfl | (simp; done) | (simp [*]; done)), H', ⟨by first | omega | exact Nat.le_refl _⟩, ⟨by (with_reducible repeat (first | refine blk_drewN ?_ _ | refine blk_drew ?_ | refine blk_alloc ?_ _)); exact BK697.out⟩, ⟨by repeat (first | (with_reducible first | exact HB.out | apply below_alloc | apply pw_below_drewN | apply below_drew1 | refine below_set ?_ GE697.out) | exact HB.out)⟩⟩
            · rw [if_neg c21] at H
              have c21b0 : decide (a1 < 0) = false := decide_eq_false c21
              clear c21
              (first | rw [c21b0] | (simp only [i64_w, i32_w]; rw [c21b0]) | skip)
              by_cases c24 : a1 > 4096
              · rw [if_pos c24] at H
                have c24b0 : decide (4096 < a1) = true := decide_eq_true c24
                clear c24
                have H' := Aside0.mk H
                clear H
                have hcz25_0 : w18.cell? ⟨gb697, 0, none⟩ = some (.int .i64 a0_0) := (blk_cell BK697.out 0).trans rfl
                have hcz25_1 : w18.cell? ⟨gb697, 1, none⟩ = some (.string a0_1) := (blk_cell BK697.out 1).trans rfl
                have hcz25_2 : w18.cell? ⟨gb697, 2, none⟩ = some (.slice A0_2 l0_2.length c0_2) := (blk_cell BK697.out 2).trans rfl
                have hcz25_3 : w18.cell? ⟨gb697, 3, none⟩ = some (.string a0_3) := (blk_cell BK697.out 3).trans rfl
                have hcz25_4 : w18.cell? ⟨gb697, 4, none⟩ = some (.slice A0_4 l0_4.length c0_4) := (blk_cell BK697.out 4).trans rfl
                have hfz25_0 := blk_frozen BK697.out 0
                have hfz25_1 := blk_frozen BK697.out 1
                have hfz25_2 := blk_frozen BK697.out 2
                have hfz25_3 := blk_frozen BK697.out 3
                have hfz25_4 := blk_frozen BK697.out 4
                go_wp2_with (first | ((with_reducible refine gate_callee (f := 64) rfl ?_); refine goesL_ (some 20) rfl rfl Try.func64 (by kernel_rfl) rfl #[.agg #[.int .i64 a0_0, .string a0_1, .slice A0_2 l0_2.length c0_2, .string a0_3, .slice A0_4 l0_4.length c0_4]] rfl (by (try simp only [List.map_toArray, List.map_cons, List.map_nil]); first | done | rfl | (simp only [List.length_drop, List.length_take]; rfl)) ?_; (with_reducible refine (bureauref07_Good.calls k a0_0 a0_1 _ _ l0_2 a0_3 _ _ l0_4 true _ ?side1 ?side2 ?side3 ?side4 A19.out).mono ?_); (case side1 => repeat (first | exact (Kd.C_below HR0_2.out HB.out) | (with_reducible refine Kd.C_alloc ?_ _) | (with_reducible refine Kd.C_drewN ?_ _) | (with_reducible refine Kd.C_drew ?_))); (case side2 => exact HC0_2.out); (case side3 => repeat (first | exact (Kd.C_below HR0_4.out HB.out) | (with_reducible refine Kd.C_alloc ?_ _) | (with_reducible refine Kd.C_drewN ?_ _) | (with_reducible refine Kd.C_drew ?_))); (case side4 => exact HC0_4.out); rintro e w26 ⟨rfl, hb⟩; refine ⟨_, rfl, ?_⟩; have n0_ := Aside0.mk (blk_below (g := gb697) (o := .cells #[.int .i64 a0_0, .string a0_1, .slice A0_2 l0_2.length c0_2, .string a0_3, .slice A0_4 l0_4.length c0_4] 64 (0, 0)) (by (with_reducible repeat (first | refine blk_drewN ?_ _ | refine blk_drew ?_ | refine blk_alloc ?_ _)); exact BK697.out) hb); have n1_ := Aside0.mk (below_step (by repeat (first | (with_reducible first | exact HB.out | apply below_alloc | apply pw_below_drewN | apply below_drew1 | refine below_set ?_ GE697.out) | exact HB.out)) hb); clear BK697; clear HB; have BK697 := n0_; have HB := n1_; clear n0_ n1_; (try clear hb); (try clear hb2); (try clear hk); (try clear hi)))
                go_meet
                case rel => exact ⟨_, (true), (by first | rfl | (simp; done) | (simp [*]; done)), H', ⟨by first | omega | exact Nat.le_refl _⟩, ⟨by (with_reducible repeat (first | refine blk_drewN ?_ _ | refine blk_drew ?_ | refine blk_alloc ?_ _)); exact BK697.out⟩, ⟨by repeat (first | (with_reducible first | exact HB.out | apply below_alloc | apply pw_below_drewN | apply below_drew1 | refine below_set ?_ GE697.out) | exact HB.out)⟩⟩
              · rw [if_neg c24] at H
                have c24b0 : decide (4096 < a1) = false := decide_eq_false c24
                clear c24
                by_cases c27 : t700 < 0
                · rw [if_pos c27] at H
                  have c27b0 : decide (t700 < 0) = true := decide_eq_true c27
                  clear c27
                  have H' := Aside0.mk H
                  clear H
                  have hcz28_0 : w18.cell? ⟨gb697, 0, none⟩ = some (.int .i64 a0_0) := (blk_cell BK697.out 0).trans rfl
                  have hcz28_1 : w18.cell? ⟨gb697, 1, none⟩ = some (.string a0_1) := (blk_cell BK697.out 1).trans rfl
                  have hcz28_2 : w18.cell? ⟨gb697, 2, none⟩ = some (.slice A0_2 l0_2.length c0_2) := (blk_cell BK697.out 2).trans rfl
                  have hcz28_3 : w18.cell? ⟨gb697, 3, none⟩ = some (.string a0_3) := (blk_cell BK697.out 3).trans rfl
                  have hcz28_4 : w18.cell? ⟨gb697, 4, none⟩ = some (.slice A0_4 l0_4.length c0_4) := (blk_cell BK697.out 4).trans rfl
                  have hfz28_0 := blk_frozen BK697.out 0
                  have hfz28_1 := blk_frozen BK697.out 1
                  have hfz28_2 := blk_frozen BK697.out 2
                  have hfz28_3 := blk_frozen BK697.out 3
                  have hfz28_4 := blk_frozen BK697.out 4
                  go_wp2_with (first | ((with_reducible refine gate_callee (f := 64) rfl ?_); refine goesL_ (some 20) rfl rfl Try.func64 (by kernel_rfl) rfl #[.agg #[.int .i64 a0_0, .string a0_1, .slice A0_2 l0_2.length c0_2, .string a0_3, .slice A0_4 l0_4.length c0_4]] rfl (by (try simp only [List.map_toArray, List.map_cons, List.map_nil]); first | done | rfl | (simp only [List.length_drop, List.length_take]; rfl)) ?_; (with_reducible refine (bureauref07_Good.calls k a0_0 a0_1 _ _ l0_2 a0_3 _ _ l0_4 true _ ?side1 ?side2 ?side3 ?side4 A19.out).mono ?_); (case side1 => repeat (first | exact (Kd.C_below HR0_2.out HB.out) | (with_reducible refine Kd.C_alloc ?_ _) | (with_reducible refine Kd.C_drewN ?_ _) | (with_reducible refine Kd.C_drew ?_))); (case side2 => exact HC0_2.out); (case side3 => repeat (first | exact (Kd.C_below HR0_4.out HB.out) | (with_reducible refine Kd.C_alloc ?_ _) | (with_reducible refine Kd.C_drewN ?_ _) | (with_reducible refine Kd.C_drew ?_))); (case side4 => exact HC0_4.out); rintro e w29 ⟨rfl, hb⟩; refine ⟨_, rfl, ?_⟩; have n0_ := Aside0.mk (blk_below (g := gb697) (o := .cells #[.int .i64 a0_0, .string a0_1, .slice A0_2 l0_2.length c0_2, .string a0_3, .slice A0_4 l0_4.length c0_4] 64 (0, 0)) (by (with_reducible repeat (first | refine blk_drewN ?_ _ | refine blk_drew ?_ | refine blk_alloc ?_ _)); exact BK697.out) hb); have n1_ := Aside0.mk (below_step (by repeat (first | (with_reducible first | exact HB.out | apply below_alloc | apply pw_below_drewN | apply below_drew1 | refine below_set ?_ GE697.out) | exact HB.out)) hb); clear BK697; clear HB; have BK697 := n0_; have HB := n1_; clear n0_ n1_; (try clear hb); (try clear hb2); (try clear hk); (try clear hi)))
                  go_meet
                  case rel => exact ⟨_, (true), (by first | rfl | (simp; done) | (simp [*]; done)), H', ⟨by first | omega | exact Nat.le_refl _⟩, ⟨by (with_reducible repeat (first | refine blk_drewN ?_ _ | refine blk_drew ?_ | refine blk_alloc ?_ _)); exact BK697.out⟩, ⟨by repeat (first | (with_reducible first | exact HB.out | apply below_alloc | apply pw_below_drewN | apply below_drew1 | refine below_set ?_ GE697.out) | exact HB.out)⟩⟩
                · rw [if_neg c27] at H
                  have c27b0 : decide (t700 < 0) = false := decide_eq_false c27
                  clear c27
                  by_cases c30 : t700 > 4096
                  · rw [if_pos c30] at H
                    have c30b0 : decide (4096 < t700) = true := decide_eq_true c30
                    clear c30
                    have H' := Aside0.mk H
                    clear H
                    have hcz31_0 : w18.cell? ⟨gb697, 0, none⟩ = some (.int .i64 a0_0) := (blk_cell BK697.out 0).trans rfl
                    have hcz31_1 : w18.cell? ⟨gb697, 1, none⟩ = some (.string a0_1) := (blk_cell BK697.out 1).trans rfl
                    have hcz31_2 : w18.cell? ⟨gb697, 2, none⟩ = some (.slice A0_2 l0_2.length c0_2) := (blk_cell BK697.out 2).trans rfl
                    have hcz31_3 : w18.cell? ⟨gb697, 3, none⟩ = some (.string a0_3) := (blk_cell BK697.out 3).trans rfl
                    have hcz31_4 : w18.cell? ⟨gb697, 4, none⟩ = some (.slice A0_4 l0_4.length c0_4) := (blk_cell BK697.out 4).trans rfl
                    have hfz31_0 := blk_frozen BK697.out 0
                    have hfz31_1 := blk_frozen BK697.out 1
                    have hfz31_2 := blk_frozen BK697.out 2
                    have hfz31_3 := blk_frozen BK697.out 3
                    have hfz31_4 := blk_frozen BK697.out 4
                    go_wp2_with (first | ((with_reducible refine gate_callee (f := 64) rfl ?_); refine goesL_ (some 20) rfl rfl Try.func64 (by kernel_rfl) rfl #[.agg #[.int .i64 a0_0, .string a0_1, .slice A0_2 l0_2.length c0_2, .string a0_3, .slice A0_4 l0_4.length c0_4]] rfl (by (try simp only [List.map_toArray, List.map_cons, List.map_nil]); first | done | rfl | (simp only [List.length_drop, List.length_take]; rfl)) ?_; (with_reducible refine (bureauref07_Good.calls k a0_0 a0_1 _ _ l0_2 a0_3 _ _ l0_4 true _ ?side1 ?side2 ?side3 ?side4 A19.out).mono ?_); (case side1 => repeat (first | exact (Kd.C_below HR0_2.out HB.out) | (with_reducible refine Kd.C_alloc ?_ _) | (with_reducible refine Kd.C_drewN ?_ _) | (with_reducible refine Kd.C_drew ?_))); (case side2 => exact HC0_2.out); (case side3 => repeat (first | exact (Kd.C_below HR0_4.out HB.out) | (with_reducible refine Kd.C_alloc ?_ _) | (with_reducible refine Kd.C_drewN ?_ _) | (with_reducible refine Kd.C_drew ?_))); (case side4 => exact HC0_4.out); rintro e w32 ⟨rfl, hb⟩; refine ⟨_, rfl, ?_⟩; have n0_ := Aside0.mk (blk_below (g := gb697) (o := .cells #[.int .i64 a0_0, .string a0_1, .slice A0_2 l0_2.length c0_2, .string a0_3, .slice A0_4 l0_4.length c0_4] 64 (0, 0)) (by (with_reducible repeat (first | refine blk_drewN ?_ _ | refine blk_drew ?_ | refine blk_alloc ?_ _)); exact BK697.out) hb); have n1_ := Aside0.mk (below_step (by repeat (first | (with_reducible first | exact HB.out | apply below_alloc | apply pw_below_drewN | apply below_drew1 | refine below_set ?_ GE697.out) | exact HB.out)) hb); clear BK697; clear HB; have BK697 := n0_; have HB := n1_; clear n0_ n1_; (try clear hb); (try clear hb2); (try clear hk); (try clear hi)))
                    go_meet
                    case rel => exact ⟨_, (true), (by first | rfl | (simp; done) | (simp [*]; done)), H', ⟨by first | omega | exact Nat.le_refl _⟩, ⟨by (with_reducible repeat (first | refine blk_drewN ?_ _ | refine blk_drew ?_ | refine blk_alloc ?_ _)); exact BK697.out⟩, ⟨by repeat (first | (with_reducible first | exact HB.out | apply below_alloc | apply pw_below_drewN | apply below_drew1 | refine below_set ?_ GE697.out) | exact HB.out)⟩⟩
                  · rw [if_neg c30] at H
                    have c30b0 : decide (4096 < t700) = false := decide_eq_false c30
                    clear c30
                    by_cases c33 : a1 > a0_0
                    · rw [if_pos c33] at H
                      have c33b0 : decide (a0_0 < a1) = true := decide_eq_true c33
                      clear c33
                      have H' := Aside0.mk H
                      clear H
                      have hcz34_0 : w18.cell? ⟨gb697, 0, none⟩ = some (.int .i64 a0_0) := (blk_cell BK697.out 0).trans rfl
                      have hcz34_1 : w18.cell? ⟨gb697, 1, none⟩ = some (.string a0_1) := (blk_cell BK697.out 1).trans rfl
                      have hcz34_2 : w18.cell? ⟨gb697, 2, none⟩ = some (.slice A0_2 l0_2.length c0_2) := (blk_cell BK697.out 2).trans rfl
                      have hcz34_3 : w18.cell? ⟨gb697, 3, none⟩ = some (.string a0_3) := (blk_cell BK697.out 3).trans rfl
                      have hcz34_4 : w18.cell? ⟨gb697, 4, none⟩ = some (.slice A0_4 l0_4.length c0_4) := (blk_cell BK697.out 4).trans rfl
                      have hfz34_0 := blk_frozen BK697.out 0
                      have hfz34_1 := blk_frozen BK697.out 1
                      have hfz34_2 := blk_frozen BK697.out 2
                      have hfz34_3 := blk_frozen BK697.out 3
                      have hfz34_4 := blk_frozen BK697.out 4
                      go_wp2_with (first | ((with_reducible refine gate_callee (f := 64) rfl ?_); refine goesL_ (some 20) rfl rfl Try.func64 (by kernel_rfl) rfl #[.agg #[.int .i64 a0_0, .string a0_1, .slice A0_2 l0_2.length c0_2, .string a0_3, .slice A0_4 l0_4.length c0_4]] rfl (by (try simp only [List.map_toArray, List.map_cons, List.map_nil]); first | done | rfl | (simp only [List.length_drop, List.length_take]; rfl)) ?_; (with_reducible refine (bureauref07_Good.calls k a0_0 a0_1 _ _ l0_2 a0_3 _ _ l0_4 true _ ?side1 ?side2 ?side3 ?side4 A19.out).mono ?_); (case side1 => repeat (first | exact (Kd.C_below HR0_2.out HB.out) | (with_reducible refine Kd.C_alloc ?_ _) | (with_reducible refine Kd.C_drewN ?_ _) | (with_reducible refine Kd.C_drew ?_))); (case side2 => exact HC0_2.out); (case side3 => repeat (first | exact (Kd.C_below HR0_4.out HB.out) | (with_reducible refine Kd.C_alloc ?_ _) | (with_reducible refine Kd.C_drewN ?_ _) | (with_reducible refine Kd.C_drew ?_))); (case side4 => exact HC0_4.out); rintro e w35 ⟨rfl, hb⟩; refine ⟨_, rfl, ?_⟩; have n0_ := Aside0.mk (blk_below (g := gb697) (o := .cells #[.int .i64 a0_0, .string a0_1, .slice A0_2 l0_2.length c0_2, .string a0_3, .slice A0_4 l0_4.length c0_4] 64 (0, 0)) (by (with_reducible repeat (first | refine blk_drewN ?_ _ | refine blk_drew ?_ | refine blk_alloc ?_ _)); exact BK697.out) hb); have n1_ := Aside0.mk (below_step (by repeat (first | (with_reducible first | exact HB.out | apply below_alloc | apply pw_below_drewN | apply below_drew1 | refine below_set ?_ GE697.out) | exact HB.out)) hb); clear BK697; clear HB; have BK697 := n0_; have HB := n1_; clear n0_ n1_; (try clear hb); (try clear hb2); (try clear hk); (try clear hi); have hcz36_0 : w35.cell? ⟨gb697, 0, none⟩ = some (.int .i64 a0_0) := (blk_cell BK697.out 0).trans rfl; have hcz36_1 : w35.cell? ⟨gb697, 1, none⟩ = some (.string a0_1) := (blk_cell BK697.out 1).trans rfl; have hcz36_2 : w35.cell? ⟨gb697, 2, none⟩ = some (.slice A0_2 l0_2.length c0_2) := (blk_cell BK697.out 2).trans rfl; have hcz36_3 : w35.cell? ⟨gb697, 3, none⟩ = some (.string a0_3) := (blk_cell BK697.out 3).trans rfl; have hcz36_4 : w35.cell? ⟨gb697, 4, none⟩ = some (.slice A0_4 l0_4.length c0_4) := (blk_cell BK697.out 4).trans rfl; have hfz36_0 := blk_frozen BK697.out 0; have hfz36_1 := blk_frozen BK697.out 1; have hfz36_2 := blk_frozen BK697.out 2; have hfz36_3 := blk_frozen BK697.out 3; have hfz36_4 := blk_frozen BK697.out 4))
                      go_meet
                      case rel => exact ⟨_, (decide (a1 ≤ (wrap64 (a0_0 + (a0_1.size : Int))))), (by first | rfl | (simp; done) | (simp [*]; done)), H', ⟨by first | omega | exact Nat.le_refl _⟩, ⟨by (with_reducible repeat (first | refine blk_drewN ?_ _ | refine blk_drew ?_ | refine blk_alloc ?_ _)); exact BK697.out⟩, ⟨by repeat (first | (with_reducible first | exact HB.out | apply below_alloc | apply pw_below_drewN | apply below_drew1 | refine below_set ?_ GE697.out) | exact HB.out)⟩⟩
                    · rw [if_neg c33] at H
                      have c33b0 : decide (a0_0 < a1) = false := decide_eq_false c33
                      clear c33
                      have H' := Aside0.mk H
                      clear H
                      have hcz37_0 : w18.cell? ⟨gb697, 0, none⟩ = some (.int .i64 a0_0) := (blk_cell BK697.out 0).trans rfl
                      have hcz37_1 : w18.cell? ⟨gb697, 1, none⟩ = some (.string a0_1) := (blk_cell BK697.out 1).trans rfl
                      have hcz37_2 : w18.cell? ⟨gb697, 2, none⟩ = some (.slice A0_2 l0_2.length c0_2) := (blk_cell BK697.out 2).trans rfl
                      have hcz37_3 : w18.cell? ⟨gb697, 3, none⟩ = some (.string a0_3) := (blk_cell BK697.out 3).trans rfl
                      have hcz37_4 : w18.cell? ⟨gb697, 4, none⟩ = some (.slice A0_4 l0_4.length c0_4) := (blk_cell BK697.out 4).trans rfl
                      have hfz37_0 := blk_frozen BK697.out 0
                      have hfz37_1 := blk_frozen BK697.out 1
                      have hfz37_2 := blk_frozen BK697.out 2
                      have hfz37_3 := blk_frozen BK697.out 3
                      have hfz37_4 := blk_frozen BK697.out 4
                      go_wp2_with (first | ((with_reducible refine gate_callee (f := 64) rfl ?_); refine goesL_ (some 20) rfl rfl Try.func64 (by kernel_rfl) rfl #[.agg #[.int .i64 a0_0, .string a0_1, .slice A0_2 l0_2.length c0_2, .string a0_3, .slice A0_4 l0_4.length c0_4]] rfl (by (try simp only [List.map_toArray, List.map_cons, List.map_nil]); first | done | rfl | (simp only [List.length_drop, List.length_take]; rfl)) ?_; (with_reducible refine (bureauref07_Good.calls k a0_0 a0_1 _ _ l0_2 a0_3 _ _ l0_4 true _ ?side1 ?side2 ?side3 ?side4 A19.out).mono ?_); (case side1 => repeat (first | exact (Kd.C_below HR0_2.out HB.out) | (with_reducible refine Kd.C_alloc ?_ _) | (with_reducible refine Kd.C_drewN ?_ _) | (with_reducible refine Kd.C_drew ?_))); (case side2 => exact HC0_2.out); (case side3 => repeat (first | exact (Kd.C_below HR0_4.out HB.out) | (with_reducible refine Kd.C_alloc ?_ _) | (with_reducible refine Kd.C_drewN ?_ _) | (with_reducible refine Kd.C_drew ?_))); (case side4 => exact HC0_4.out); rintro e w38 ⟨rfl, hb⟩; refine ⟨_, rfl, ?_⟩; have n0_ := Aside0.mk (blk_below (g := gb697) (o := .cells #[.int .i64 a0_0, .string a0_1, .slice A0_2 l0_2.length c0_2, .string a0_3, .slice A0_4 l0_4.length c0_4] 64 (0, 0)) (by (with_reducible repeat (first | refine blk_drewN ?_ _ | refine blk_drew ?_ | refine blk_alloc ?_ _)); exact BK697.out) hb); have n1_ := Aside0.mk (below_step (by repeat (first | (with_reducible first | exact HB.out | apply below_alloc | apply pw_below_drewN | apply below_drew1 | refine below_set ?_ GE697.out) | exact HB.out)) hb); clear BK697; clear HB; have BK697 := n0_; have HB := n1_; clear n0_ n1_; (try clear hb); (try clear hb2); (try clear hk); (try clear hi); have hcz39_0 : w38.cell? ⟨gb697, 0, none⟩ = some (.int .i64 a0_0) := (blk_cell BK697.out 0).trans rfl; have hcz39_1 : w38.cell? ⟨gb697, 1, none⟩ = some (.string a0_1) := (blk_cell BK697.out 1).trans rfl; have hcz39_2 : w38.cell? ⟨gb697, 2, none⟩ = some (.slice A0_2 l0_2.length c0_2) := (blk_cell BK697.out 2).trans rfl; have hcz39_3 : w38.cell? ⟨gb697, 3, none⟩ = some (.string a0_3) := (blk_cell BK697.out 3).trans rfl; have hcz39_4 : w38.cell? ⟨gb697, 4, none⟩ = some (.slice A0_4 l0_4.length c0_4) := (blk_cell BK697.out 4).trans rfl; have hfz39_0 := blk_frozen BK697.out 0; have hfz39_1 := blk_frozen BK697.out 1; have hfz39_2 := blk_frozen BK697.out 2; have hfz39_3 := blk_frozen BK697.out 3; have hfz39_4 := blk_frozen BK697.out 4))
                      go_meet
                      case rel => exact ⟨_, (false), (by first | rfl | (simp; done) | (simp [*]; done)), H', ⟨by first | omega | exact Nat.le_refl _⟩, ⟨by (with_reducible repeat (first | refine blk_drewN ?_ _ | refine blk_drew ?_ | refine blk_alloc ?_ _)); exact BK697.out⟩, ⟨by repeat (first | (with_reducible first | exact HB.out | apply below_alloc | apply pw_below_drewN | apply below_drew1 | refine below_set ?_ GE697.out) | exact HB.out)⟩⟩
          · replace c20 := Bool.eq_false_iff.mpr c20
            subst c20
            have H1 : (bureaulaw07_EditFollows.j0 k a1 t700 true a0_0 a0_1 l0_2 a0_3 l0_4) = some r := by rw [if_neg (show ¬ (false = true) by decide)] at H; exact H
            clear H
            have H := H1
            clear H1
            have H' := Aside0.mk H
            clear H
            have hcz40_0 : w18.cell? ⟨gb697, 0, none⟩ = some (.int .i64 a0_0) := (blk_cell BK697.out 0).trans rfl
            have hcz40_1 : w18.cell? ⟨gb697, 1, none⟩ = some (.string a0_1) := (blk_cell BK697.out 1).trans rfl
            have hcz40_2 : w18.cell? ⟨gb697, 2, none⟩ = some (.slice A0_2 l0_2.length c0_2) := (blk_cell BK697.out 2).trans rfl
            have hcz40_3 : w18.cell? ⟨gb697, 3, none⟩ = some (.string a0_3) := (blk_cell BK697.out 3).trans rfl
            have hcz40_4 : w18.cell? ⟨gb697, 4, none⟩ = some (.slice A0_4 l0_4.length c0_4) := (blk_cell BK697.out 4).trans rfl
            have hfz40_0 := blk_frozen BK697.out 0
            have hfz40_1 := blk_frozen BK697.out 1
            have hfz40_2 := blk_frozen BK697.out 2
            have hfz40_3 := blk_frozen BK697.out 3
            have hfz40_4 := blk_frozen BK697.out 4
            go_wp2_with (first | ((with_reducible refine gate_callee (f := 64) rfl ?_); refine goesL_ (some 20) rfl rfl Try.func64 (by kernel_rfl) rfl #[.agg #[.int .i64 a0_0, .string a0_1, .slice A0_2 l0_2.length c0_2, .string a0_3, .slice A0_4 l0_4.length c0_4]] rfl (by (try simp only [List.map_toArray, List.map_cons, List.map_nil]); first | done | rfl | (simp only [List.length_drop, List.length_take]; rfl)) ?_; (with_reducible refine (bureauref07_Good.calls k a0_0 a0_1 _ _ l0_2 a0_3 _ _ l0_4 false _ ?side1 ?side2 ?side3 ?side4 A19.out).mono ?_); (case side1 => repeat (first | exact (Kd.C_below HR0_2.out HB.out) | (with_reducible refine Kd.C_alloc ?_ _) | (with_reducible refine Kd.C_drewN ?_ _) | (with_reducible refine Kd.C_drew ?_))); (case side2 => exact HC0_2.out); (case side3 => repeat (first | exact (Kd.C_below HR0_4.out HB.out) | (with_reducible refine Kd.C_alloc ?_ _) | (with_reducible refine Kd.C_drewN ?_ _) | (with_reducible refine Kd.C_drew ?_))); (case side4 => exact HC0_4.out); rintro e w41 ⟨rfl, hb⟩; refine ⟨_, rfl, ?_⟩; have n0_ := Aside0.mk (blk_below (g := gb697) (o := .cells #[.int .i64 a0_0, .string a0_1, .slice A0_2 l0_2.length c0_2, .string a0_3, .slice A0_4 l0_4.length c0_4] 64 (0, 0)) (by (with_reducible repeat (first | refine blk_drewN ?_ _ | refine blk_drew ?_ | refine blk_alloc ?_ _)); exact BK697.out) hb); have n1_ := Aside0.mk (below_step (by repeat (first | (with_reducible first | exact HB.out | apply below_alloc | apply pw_below_drewN | apply below_drew1 | refine below_set ?_ GE697.out) | exact HB.out)) hb); clear BK697; clear HB; have BK697 := n0_; have HB := n1_; clear n0_ n1_; (try clear hb); (try clear hb2); (try clear hk); (try clear hi)))
            go_meet
            case rel => exact ⟨_, (true), (by first | rfl | (simp; done) | (simp [*]; done)), H', ⟨by first | omega | exact Nat.le_refl _⟩, ⟨by (with_reducible repeat (first | refine blk_drewN ?_ _ | refine blk_drew ?_ | refine blk_alloc ?_ _)); exact BK697.out⟩, ⟨by repeat (first | (with_reducible first | exact HB.out | apply below_alloc | apply pw_below_drewN | apply below_drew1 | refine below_set ?_ GE697.out) | exact HB.out)⟩⟩
        case rest =>
          clear HC10
          try clear c1
          try clear c2
          try clear p2
          try clear c3
          try clear c4
          try clear c5
          try clear c6
          try clear p6
          try clear c9
          try clear c9b0
          try clear c9b1
          try clear c14
          try clear c20
          try clear c21
          try clear c21b0
          try clear c24
          try clear c24b0
          try clear c27
          try clear c27b0
          try clear c30
          try clear c30b0
          try clear c33
          try clear c33b0
          try clear hcz13_0
          try clear hcz13_1
          try clear hcz13_2
          try clear hcz13_3
          try clear hcz13_4
          try clear hcz15_0
          try clear hcz15_1
          try clear hcz15_2
          try clear hcz15_3
          try clear hcz15_4
          try clear hcz17_0
          try clear hcz17_1
          try clear hcz17_2
          try clear hcz17_3
          try clear hcz17_4
          try clear hcz22_0
          try clear hcz22_1
          try clear hcz22_2
          try clear hcz22_3
          try clear hcz22_4
          try clear hcz25_0
          try clear hcz25_1
          try clear hcz25_2
          try clear hcz25_3
          try clear hcz25_4
          try clear hcz28_0
          try clear hcz28_1
          try clear hcz28_2
          try clear hcz28_3
          try clear hcz28_4
          try clear hcz31_0
          try clear hcz31_1
          try clear hcz31_2
          try clear hcz31_3
          try clear hcz31_4
          try clear hcz34_0
          try clear hcz34_1
          try clear hcz34_2
          try clear hcz34_3
          try clear hcz34_4
          try clear hcz36_0
          try clear hcz36_1
          try clear hcz36_2
          try clear hcz36_3
          try clear hcz36_4
          try clear hcz37_0
          try clear hcz37_1
          try clear hcz37_2
          try clear hcz37_3
          try clear hcz37_4
          try clear hcz39_0
          try clear hcz39_1
          try clear hcz39_2
          try clear hcz39_3
          try clear hcz39_4
          try clear hcz40_0
          try clear hcz40_1
          try clear hcz40_2
          try clear hcz40_3
          try clear hcz40_4
          try clear hfz13_0
          try clear hfz13_1
          try clear hfz13_2
          try clear hfz13_3
          try clear hfz13_4
          try clear hfz15_0
          try clear hfz15_1
          try clear hfz15_2
          try clear hfz15_3
          try clear hfz15_4
          try clear hfz17_0
          try clear hfz17_1
          try clear hfz17_2
          try clear hfz17_3
          try clear hfz17_4
          try clear hfz22_0
          try clear hfz22_1
          try clear hfz22_2
          try clear hfz22_3
          try clear hfz22_4
          try clear hfz25_0
          try clear hfz25_1
          try clear hfz25_2
          try clear hfz25_3
          try clear hfz25_4
          try clear hfz28_0
          try clear hfz28_1
          try clear hfz28_2
          try clear hfz28_3
          try clear hfz28_4
          try clear hfz31_0
          try clear hfz31_1
          try clear hfz31_2
          try clear hfz31_3
          try clear hfz31_4
          try clear hfz34_0
          try clear hfz34_1
          try clear hfz34_2
          try clear hfz34_3
          try clear hfz34_4
          try clear hfz36_0
          try clear hfz36_1
          try clear hfz36_2
          try clear hfz36_3
          try clear hfz36_4
          try clear hfz37_0
          try clear hfz37_1
          try clear hfz37_2
          try clear hfz37_3
          try clear hfz37_4
          try clear hfz39_0
          try clear hfz39_1
          try clear hfz39_2
          try clear hfz39_3
          try clear hfz39_4
          try clear hfz40_0
          try clear hfz40_1
          try clear hfz40_2
          try clear hfz40_3
          try clear hfz40_4
          obtain ⟨kq, x54_9, rfl, HA, HJ9, BK697, HB⟩ := hcut
          cases kq with
          | zero => exact absurd HA.out (by simp [bureaulaw07_EditFollows.j0])
          | succ kj9 =>
            have H := HA.out
            clear HA
            simp only [bureaulaw07_EditFollows.j0] at H
            by_cases c42 : x54_9 = true
            · subst c42
              have H1 : (some true) = some r := by rw [if_pos rfl] at H; exact H
              clear H
              have H := H1
              clear H1
              obtain rfl := Option.some.inj H
              go_wp2
              go_ret
              exact ⟨by first | rfl | (simp [errW_none, errW_some] <;> rfl) | (simp [*, errW_none, errW_some] <;> rfl), by repeat (first | (with_reducible first | exact HB.out | apply below_alloc | apply pw_below_drewN | apply below_drew1 | refine below_set ?_ GE697.out) | exact HB.out)⟩
            · replace c42 := Bool.eq_false_iff.mpr c42
              subst c42
              have H1 : ((edit_Invert.f a0_0 a0_1 l0_2 a0_3 l0_4).bind fun bt703 => ((edit_Follow.f kj9 bt703.1 bt703.2.1 bt703.2.2.1 bt703.2.2.2.1 bt703.2.2.2.2 t700).bind fun t712 => (some (t712 == a1)))) = some r := by rw [if_neg (show ¬ (false = true) by decide)] at H; exact H
              clear H
              have H := H1
              clear H1
              replace H := Option.bind_eq_some_iff.mp H
              obtain ⟨⟨t703, t704, t705, t708, t709⟩, A430, H⟩ := H
              replace H : ((edit_Follow.f kj9 t703 t704 t705 t708 t709 t700).bind fun t712 => (some (t712 == a1))) = some r := H
              have A43 := Aside0.mk A430
              clear A430
              replace H := Option.bind_eq_some_iff.mp H
              obtain ⟨t712, A440, H⟩ := H
              replace H : (some (t712 == a1)) = some r := H
              have A44 := Aside0.mk A440
              clear A440
              obtain rfl := Option.some.inj H
              have hcz45_0 : wc.cell? ⟨gb697, 0, none⟩ = some (.int .i64 a0_0) := (blk_cell BK697.out 0).trans rfl
              have hcz45_1 : wc.cell? ⟨gb697, 1, none⟩ = some (.string a0_1) := (blk_cell BK697.out 1).trans rfl
              have hcz45_2 : wc.cell? ⟨gb697, 2, none⟩ = some (.slice A0_2 l0_2.length c0_2) := (blk_cell BK697.out 2).trans rfl
              have hcz45_3 : wc.cell? ⟨gb697, 3, none⟩ = some (.string a0_3) := (blk_cell BK697.out 3).trans rfl
              have hcz45_4 : wc.cell? ⟨gb697, 4, none⟩ = some (.slice A0_4 l0_4.length c0_4) := (blk_cell BK697.out 4).trans rfl
              have hfz45_0 := blk_frozen BK697.out 0
              have hfz45_1 := blk_frozen BK697.out 1
              have hfz45_2 := blk_frozen BK697.out 2
              have hfz45_3 := blk_frozen BK697.out 3
              have hfz45_4 := blk_frozen BK697.out 4
              go_wp2_with (first | ((with_reducible refine gate_callee (f := 59) rfl ?_); refine goesL_ (some 56) rfl rfl Try.func59 (by kernel_rfl) rfl #[.agg #[.int .i64 a0_0, .string a0_1, .slice A0_2 l0_2.length c0_2, .string a0_3, .slice A0_4 l0_4.length c0_4]] rfl (by (try simp only [List.map_toArray, List.map_cons, List.map_nil]); first | done | rfl | (simp only [List.length_drop, List.length_take]; rfl)) ?_; (with_reducible refine (edit_Invert.calls a0_0 a0_1 _ _ l0_2 a0_3 _ _ l0_4 t703 t704 t705 t708 t709 _ ?side1 ?side2 ?side3 ?side4 A43.out).mono ?_); (case side1 => repeat (first | exact (Kd.C_below HR0_2.out HB.out) | (with_reducible refine Kd.C_alloc ?_ _) | (with_reducible refine Kd.C_drewN ?_ _) | (with_reducible refine Kd.C_drew ?_))); (case side2 => exact HC0_2.out); (case side3 => repeat (first | exact (Kd.C_below HR0_4.out HB.out) | (with_reducible refine Kd.C_alloc ?_ _) | (with_reducible refine Kd.C_drewN ?_ _) | (with_reducible refine Kd.C_drew ?_))); (case side4 => exact HC0_4.out); rintro e w46 ⟨v706, v710, rfl, ho0, ho1, hb⟩; refine ⟨_, rfl, ?_⟩; have n0_ := Aside0.mk (Kd.R_lower ho0 (below_size (by repeat (first | (with_reducible first | exact HB.out | apply below_alloc | apply pw_below_drewN | apply below_drew1 | refine below_set ?_ GE697.out) | exact HB.out)))); have n1_ := Aside0.mk (Kd.R_lower ho1 (below_size (by repeat (first | (with_reducible first | exact HB.out | apply below_alloc | apply pw_below_drewN | apply below_drew1 | refine below_set ?_ GE697.out) | exact HB.out)))); have n2_ := Aside0.mk (blk_below (g := gb697) (o := .cells #[.int .i64 a0_0, .string a0_1, .slice A0_2 l0_2.length c0_2, .string a0_3, .slice A0_4 l0_4.length c0_4] 64 (0, 0)) (by (with_reducible repeat (first | refine blk_drewN ?_ _ | refine blk_drew ?_ | refine blk_alloc ?_ _)); exact BK697.out) hb); have n3_ := Aside0.mk (below_step (by repeat (first | (with_reducible first | exact HB.out | apply below_alloc | apply pw_below_drewN | apply below_drew1 | refine below_set ?_ GE697.out) | exact HB.out)) hb); clear BK697; clear HB; have HO707 := n0_; have HO711 := n1_; have BK697 := n2_; have HB := n3_; clear n0_ n1_ n2_ n3_; (try clear hb); (try clear hb2); (try clear hk); (try clear hi); (try clear ho0); (try clear ho1); obtain ⟨Ao47, co47, eo47⟩ := Kd.R_slice HO707.out; subst eo47; obtain ⟨Ao48, co48, eo48⟩ := Kd.R_slice HO711.out; subst eo48) | ((with_reducible refine gate_callee (f := 62) rfl ?_); refine goesL_ (some 58) rfl rfl Try.func62 (by kernel_rfl) rfl #[.agg #[.int .i64 t703, .string t704, .slice Ao47 t705.length co47, .string t708, .slice Ao48 t709.length co48], .int .i64 t700] rfl (by (try simp only [List.map_toArray, List.map_cons, List.map_nil]); first | done | rfl | (simp only [List.length_drop, List.length_take]; rfl)) ?_; (with_reducible refine (edit_Follow.calls kj9 t703 t704 _ _ t705 t708 _ _ t709 t700 t712 _ ?side1 ?side2 ?side3 ?side4 A44.out).mono ?_); (case side1 => repeat (first | exact (Kd.R_reads' HO707.out).2.2 | (with_reducible refine Kd.C_alloc ?_ _) | (with_reducible refine Kd.C_drewN ?_ _) | (with_reducible refine Kd.C_drew ?_))); (case side2 => exact (Kd.R_reads' HO707.out).2.1); (case side3 => repeat (first | exact (Kd.R_reads' HO711.out).2.2 | (with_reducible refine Kd.C_alloc ?_ _) | (with_reducible refine Kd.C_drewN ?_ _) | (with_reducible refine Kd.C_drew ?_))); (case side4 => exact (Kd.R_reads' HO711.out).2.1); rintro e w49 ⟨rfl, hb⟩; refine ⟨_, rfl, ?_⟩; have n0_ := Aside0.mk (Kd.R_below (by (with_reducible repeat (first | apply Kd.R_alloc | apply Kd.R_drewN | apply Kd.R_drew)); exact HO707.out) hb); have n1_ := Aside0.mk (Kd.R_below (by (with_reducible repeat (first | apply Kd.R_alloc | apply Kd.R_drewN | apply Kd.R_drew)); exact HO711.out) hb); have n2_ := Aside0.mk (blk_below (g := gb697) (o := .cells #[.int .i64 a0_0, .string a0_1, .slice A0_2 l0_2.length c0_2, .string a0_3, .slice A0_4 l0_4.length c0_4] 64 (0, 0)) (by (with_reducible repeat (first | refine blk_drewN ?_ _ | refine blk_drew ?_ | refine blk_alloc ?_ _)); exact BK697.out) hb); have n3_ := Aside0.mk (below_step (by repeat (first | (with_reducible first | exact HB.out | apply below_alloc | apply pw_below_drewN | apply below_drew1 | refine below_set ?_ GE697.out) | exact HB.out)) hb); clear HO707; clear HO711; clear BK697; clear HB; have HO707 := n0_; have HO711 := n1_; have BK697 := n2_; have HB := n3_; clear n0_ n1_ n2_ n3_; (try clear hb); (try clear hb2); (try clear hk); (try clear hi)))
              go_ret
              exact ⟨by first | rfl | (simp [errW_none, errW_some] <;> rfl) | (simp [*, errW_none, errW_some] <;> rfl), by repeat (first | (with_reducible first | exact HB.out | apply below_alloc | apply pw_below_drewN | apply below_drew1 | refine below_set ?_ GE697.out) | exact HB.out)⟩
      · rw [if_neg c9] at H
        have c9b0 : (t700 == t701) = false := beq_eq_false_iff_ne.mpr c9
        have c9b1 : (t700 != t701) = true := bne_iff_ne.mpr c9
        obtain rfl := Option.some.inj H
        go_enter Try.func14, Try.ntmps14
        go_wp2_with (first | ((with_reducible refine gate_dst (N := 2) rfl ?_); (try (refine gate_guard (by rfl) ?_; dsimp only)); refine box_event ?hg (N := 2) ?hd (cs := #[.int .i64 a0_0, .string a0_1, .slice A0_2 l0_2.length c0_2, .string a0_3, .slice A0_4 l0_4.length c0_4]) (t := 64) ?hr ?_; (case hd => rfl); (case hg => rfl); (case hr => first | (go_simp; done) | (go_simp; rfl)); intro gb697 hg w50 hbox hb; have n0_ := Aside0.mk (below_step (by repeat (first | (with_reducible first | exact HB.out | apply below_alloc | apply pw_below_drewN | apply below_drew1) | exact HB.out)) hb); have n1_ := Aside0.mk (hbox); have n2_ := Aside0.mk ((by rw [hg]; exact (below_size (by repeat (first | (with_reducible first | exact HB.out | apply below_alloc | apply pw_below_drewN | apply below_drew1) | exact HB.out))) : w.heap.size ≤ gb697)); have n3_ := Aside0.mk ((by rw [hg]; exact (below_size (by repeat (first | (with_reducible first | exact HB.out | apply below_alloc | apply pw_below_drewN | apply below_drew1) | exact HB.out))) : w.heap.size ≤ gb697)); clear HB; have HB := n0_; have BK697 := n1_; have GW697 := n2_; have GE697 := n3_; clear n0_ n1_ n2_ n3_; clear hb hbox hg) | ((with_reducible refine gate_callee (f := 55) rfl ?_); refine goesL_ (some 6) rfl rfl Try.func55 (by kernel_rfl) rfl #[] rfl (by (try simp only [List.map_toArray, List.map_cons, List.map_nil]); first | done | rfl | (simp only [List.length_drop, List.length_take]; rfl)) ?_; (with_reducible refine (bureaulaw07_alive.calls k  true _ A3.out).mono ?_); rintro e w51 ⟨rfl, hb⟩; refine ⟨_, rfl, ?_⟩; have n0_ := Aside0.mk (blk_below (g := gb697) (o := .cells #[.int .i64 a0_0, .string a0_1, .slice A0_2 l0_2.length c0_2, .string a0_3, .slice A0_4 l0_4.length c0_4] 64 (0, 0)) (by (with_reducible repeat (first | refine blk_drewN ?_ _ | refine blk_drew ?_ | refine blk_alloc ?_ _)); exact BK697.out) hb); have n1_ := Aside0.mk (below_step (by repeat (first | (with_reducible first | exact HB.out | apply below_alloc | apply pw_below_drewN | apply below_drew1 | refine below_set ?_ GE697.out) | exact HB.out)) hb); clear BK697; clear HB; have BK697 := n0_; have HB := n1_; clear n0_ n1_; (try clear hb); (try clear hb2); (try clear hk); (try clear hi); have hcz52_0 : w51.cell? ⟨gb697, 0, none⟩ = some (.int .i64 a0_0) := (blk_cell BK697.out 0).trans rfl; have hcz52_1 : w51.cell? ⟨gb697, 1, none⟩ = some (.string a0_1) := (blk_cell BK697.out 1).trans rfl; have hcz52_2 : w51.cell? ⟨gb697, 2, none⟩ = some (.slice A0_2 l0_2.length c0_2) := (blk_cell BK697.out 2).trans rfl; have hcz52_3 : w51.cell? ⟨gb697, 3, none⟩ = some (.string a0_3) := (blk_cell BK697.out 3).trans rfl; have hcz52_4 : w51.cell? ⟨gb697, 4, none⟩ = some (.slice A0_4 l0_4.length c0_4) := (blk_cell BK697.out 4).trans rfl; have hfz52_0 := blk_frozen BK697.out 0; have hfz52_1 := blk_frozen BK697.out 1; have hfz52_2 := blk_frozen BK697.out 2; have hfz52_3 := blk_frozen BK697.out 3; have hfz52_4 := blk_frozen BK697.out 4) | ((with_reducible refine gate_callee (f := 61) rfl ?_); refine goesL_ (some 9) rfl rfl Try.func61 (by kernel_rfl) rfl #[.agg #[.int .i64 a0_0, .string a0_1, .slice A0_2 l0_2.length c0_2, .string a0_3, .slice A0_4 l0_4.length c0_4]] rfl (by (try simp only [List.map_toArray, List.map_cons, List.map_nil]); first | done | rfl | (simp only [List.length_drop, List.length_take]; rfl)) ?_; (with_reducible refine (bureaulaw07_Fits.calls a0_0 a0_1 _ _ l0_2 a0_3 _ _ l0_4 true _ ?side1 ?side2 ?side3 ?side4 A5.out).mono ?_); (case side1 => repeat (first | exact (Kd.C_below HR0_2.out HB.out) | (with_reducible refine Kd.C_alloc ?_ _) | (with_reducible refine Kd.C_drewN ?_ _) | (with_reducible refine Kd.C_drew ?_))); (case side2 => exact HC0_2.out); (case side3 => repeat (first | exact (Kd.C_below HR0_4.out HB.out) | (with_reducible refine Kd.C_alloc ?_ _) | (with_reducible refine Kd.C_drewN ?_ _) | (with_reducible refine Kd.C_drew ?_))); (case side4 => exact HC0_4.out); rintro e w53 ⟨rfl, hb⟩; refine ⟨_, rfl, ?_⟩; have n0_ := Aside0.mk (blk_below (g := gb697) (o := .cells #[.int .i64 a0_0, .string a0_1, .slice A0_2 l0_2.length c0_2, .string a0_3, .slice A0_4 l0_4.length c0_4] 64 (0, 0)) (by (with_reducible repeat (first | refine blk_drewN ?_ _ | refine blk_drew ?_ | refine blk_alloc ?_ _)); exact BK697.out) hb); have n1_ := Aside0.mk (below_step (by repeat (first | (with_reducible first | exact HB.out | apply below_alloc | apply pw_below_drewN | apply below_drew1 | refine below_set ?_ GE697.out) | exact HB.out)) hb); clear BK697; clear HB; have BK697 := n0_; have HB := n1_; clear n0_ n1_; (try clear hb); (try clear hb2); (try clear hk); (try clear hi); have hcz54_0 : w53.cell? ⟨gb697, 0, none⟩ = some (.int .i64 a0_0) := (blk_cell BK697.out 0).trans rfl; have hcz54_1 : w53.cell? ⟨gb697, 1, none⟩ = some (.string a0_1) := (blk_cell BK697.out 1).trans rfl; have hcz54_2 : w53.cell? ⟨gb697, 2, none⟩ = some (.slice A0_2 l0_2.length c0_2) := (blk_cell BK697.out 2).trans rfl; have hcz54_3 : w53.cell? ⟨gb697, 3, none⟩ = some (.string a0_3) := (blk_cell BK697.out 3).trans rfl; have hcz54_4 : w53.cell? ⟨gb697, 4, none⟩ = some (.slice A0_4 l0_4.length c0_4) := (blk_cell BK697.out 4).trans rfl; have hfz54_0 := blk_frozen BK697.out 0; have hfz54_1 := blk_frozen BK697.out 1; have hfz54_2 := blk_frozen BK697.out 2; have hfz54_3 := blk_frozen BK697.out 3; have hfz54_4 := blk_frozen BK697.out 4) | ((with_reducible refine gate_callee (f := 62) rfl ?_); refine goesL_ (some 13) rfl rfl Try.func62 (by kernel_rfl) rfl #[.agg #[.int .i64 a0_0, .string a0_1, .slice A0_2 l0_2.length c0_2, .string a0_3, .slice A0_4 l0_4.length c0_4], .int .i64 a1] rfl (by (try simp only [List.map_toArray, List.map_cons, List.map_nil]); first | done | rfl | (simp only [List.length_drop, List.length_take]; rfl)) ?_; (with_reducible refine (edit_Follow.calls k a0_0 a0_1 _ _ l0_2 a0_3 _ _ l0_4 a1 t700 _ ?side1 ?side2 ?side3 ?side4 A7.out).mono ?_); (case side1 => repeat (first | exact (Kd.C_below HR0_2.out HB.out) | (with_reducible refine Kd.C_alloc ?_ _) | (with_reducible refine Kd.C_drewN ?_ _) | (with_reducible refine Kd.C_drew ?_))); (case side2 => exact HC0_2.out); (case side3 => repeat (first | exact (Kd.C_below HR0_4.out HB.out) | (with_reducible refine Kd.C_alloc ?_ _) | (with_reducible refine Kd.C_drewN ?_ _) | (with_reducible refine Kd.C_drew ?_))); (case side4 => exact HC0_4.out); rintro e w55 ⟨rfl, hb⟩; refine ⟨_, rfl, ?_⟩; have n0_ := Aside0.mk (blk_below (g := gb697) (o := .cells #[.int .i64 a0_0, .string a0_1, .slice A0_2 l0_2.length c0_2, .string a0_3, .slice A0_4 l0_4.length c0_4] 64 (0, 0)) (by (with_reducible repeat (first | refine blk_drewN ?_ _ | refine blk_drew ?_ | refine blk_alloc ?_ _)); exact BK697.out) hb); have n1_ := Aside0.mk (below_step (by repeat (first | (with_reducible first | exact HB.out | apply below_alloc | apply pw_below_drewN | apply below_drew1 | refine below_set ?_ GE697.out) | exact HB.out)) hb); clear BK697; clear HB; have BK697 := n0_; have HB := n1_; clear n0_ n1_; (try clear hb); (try clear hb2); (try clear hk); (try clear hi); have hcz56_0 : w55.cell? ⟨gb697, 0, none⟩ = some (.int .i64 a0_0) := (blk_cell BK697.out 0).trans rfl; have hcz56_1 : w55.cell? ⟨gb697, 1, none⟩ = some (.string a0_1) := (blk_cell BK697.out 1).trans rfl; have hcz56_2 : w55.cell? ⟨gb697, 2, none⟩ = some (.slice A0_2 l0_2.length c0_2) := (blk_cell BK697.out 2).trans rfl; have hcz56_3 : w55.cell? ⟨gb697, 3, none⟩ = some (.string a0_3) := (blk_cell BK697.out 3).trans rfl; have hcz56_4 : w55.cell? ⟨gb697, 4, none⟩ = some (.slice A0_4 l0_4.length c0_4) := (blk_cell BK697.out 4).trans rfl; have hfz56_0 := blk_frozen BK697.out 0; have hfz56_1 := blk_frozen BK697.out 1; have hfz56_2 := blk_frozen BK697.out 2; have hfz56_3 := blk_frozen BK697.out 3; have hfz56_4 := blk_frozen BK697.out 4) | ((with_reducible refine gate_callee (f := 63) rfl ?_); refine goesL_ (some 17) rfl rfl Try.func63 (by kernel_rfl) rfl #[.agg #[.int .i64 a0_0, .string a0_1, .slice A0_2 l0_2.length c0_2, .string a0_3, .slice A0_4 l0_4.length c0_4], .int .i64 a1] rfl (by (try simp only [List.map_toArray, List.map_cons, List.map_nil]); first | done | rfl | (simp only [List.length_drop, List.length_take]; rfl)) ?_; (with_reducible refine (bureauref07_Follow.calls k a0_0 a0_1 _ _ l0_2 a0_3 _ _ l0_4 a1 t701 _ ?side1 ?side2 ?side3 ?side4 A8.out).mono ?_); (case side1 => repeat (first | exact (Kd.C_below HR0_2.out HB.out) | (with_reducible refine Kd.C_alloc ?_ _) | (with_reducible refine Kd.C_drewN ?_ _) | (with_reducible refine Kd.C_drew ?_))); (case side2 => exact HC0_2.out); (case side3 => repeat (first | exact (Kd.C_below HR0_4.out HB.out) | (with_reducible refine Kd.C_alloc ?_ _) | (with_reducible refine Kd.C_drewN ?_ _) | (with_reducible refine Kd.C_drew ?_))); (case side4 => exact HC0_4.out); rintro e w57 ⟨rfl, hb⟩; refine ⟨_, rfl, ?_⟩; have n0_ := Aside0.mk (blk_below (g := gb697) (o := .cells #[.int .i64 a0_0, .string a0_1, .slice A0_2 l0_2.length c0_2, .string a0_3, .slice A0_4 l0_4.length c0_4] 64 (0, 0)) (by (with_reducible repeat (first | refine blk_drewN ?_ _ | refine blk_drew ?_ | refine blk_alloc ?_ _)); exact BK697.out) hb); have n1_ := Aside0.mk (below_step (by repeat (first | (with_reducible first | exact HB.out | apply below_alloc | apply pw_below_drewN | apply below_drew1 | refine below_set ?_ GE697.out) | exact HB.out)) hb); clear BK697; clear HB; have BK697 := n0_; have HB := n1_; clear n0_ n1_; (try clear hb); (try clear hb2); (try clear hk); (try clear hi)))
        go_ret
        exact ⟨by first | rfl | (simp [errW_none, errW_some] <;> rfl) | (simp [*, errW_none, errW_some] <;> rfl), by repeat (first | (with_reducible first | exact HB.out | apply below_alloc | apply pw_below_drewN | apply below_drew1 | refine below_set ?_ GE697.out) | exact HB.out)⟩
    · replace c6 := Bool.eq_false_iff.mpr c6
      subst c6
      have H1 : (some true) = some r := by rw [if_neg (show ¬ (false = true) by decide)] at H; exact H
      clear H
      have H := H1
      clear H1
      obtain rfl := Option.some.inj H
      go_enter Try.func14, Try.ntmps14
      go_wp2_with (first | ((with_reducible refine gate_dst (N := 2) rfl ?_); (try (refine gate_guard (by rfl) ?_; dsimp only)); refine box_event ?hg (N := 2) ?hd (cs := #[.int .i64 a0_0, .string a0_1, .slice A0_2 l0_2.length c0_2, .string a0_3, .slice A0_4 l0_4.length c0_4]) (t := 64) ?hr ?_; (case hd => rfl); (case hg => rfl); (case hr => first | (go_simp; done) | (go_simp; rfl)); intro gb697 hg w58 hbox hb; have n0_ := Aside0.mk (below_step (by repeat (first | (with_reducible first | exact HB.out | apply below_alloc | apply pw_below_drewN | apply below_drew1) | exact HB.out)) hb); have n1_ := Aside0.mk (hbox); have n2_ := Aside0.mk ((by rw [hg]; exact (below_size (by repeat (first | (with_reducible first | exact HB.out | apply below_alloc | apply pw_below_drewN | apply below_drew1) | exact HB.out))) : w.heap.size ≤ gb697)); have n3_ := Aside0.mk ((by rw [hg]; exact (below_size (by repeat (first | (with_reducible first | exact HB.out | apply below_alloc | apply pw_below_drewN | apply below_drew1) | exact HB.out))) : w.heap.size ≤ gb697)); clear HB; have HB := n0_; have BK697 := n1_; have GW697 := n2_; have GE697 := n3_; clear n0_ n1_ n2_ n3_; clear hb hbox hg) | ((with_reducible refine gate_callee (f := 55) rfl ?_); refine goesL_ (some 6) rfl rfl Try.func55 (by kernel_rfl) rfl #[] rfl (by (try simp only [List.map_toArray, List.map_cons, List.map_nil]); first | done | rfl | (simp only [List.length_drop, List.length_take]; rfl)) ?_; (with_reducible refine (bureaulaw07_alive.calls k  true _ A3.out).mono ?_); rintro e w59 ⟨rfl, hb⟩; refine ⟨_, rfl, ?_⟩; have n0_ := Aside0.mk (blk_below (g := gb697) (o := .cells #[.int .i64 a0_0, .string a0_1, .slice A0_2 l0_2.length c0_2, .string a0_3, .slice A0_4 l0_4.length c0_4] 64 (0, 0)) (by (with_reducible repeat (first | refine blk_drewN ?_ _ | refine blk_drew ?_ | refine blk_alloc ?_ _)); exact BK697.out) hb); have n1_ := Aside0.mk (below_step (by repeat (first | (with_reducible first | exact HB.out | apply below_alloc | apply pw_below_drewN | apply below_drew1 | refine below_set ?_ GE697.out) | exact HB.out)) hb); clear BK697; clear HB; have BK697 := n0_; have HB := n1_; clear n0_ n1_; (try clear hb); (try clear hb2); (try clear hk); (try clear hi); have hcz60_0 : w59.cell? ⟨gb697, 0, none⟩ = some (.int .i64 a0_0) := (blk_cell BK697.out 0).trans rfl; have hcz60_1 : w59.cell? ⟨gb697, 1, none⟩ = some (.string a0_1) := (blk_cell BK697.out 1).trans rfl; have hcz60_2 : w59.cell? ⟨gb697, 2, none⟩ = some (.slice A0_2 l0_2.length c0_2) := (blk_cell BK697.out 2).trans rfl; have hcz60_3 : w59.cell? ⟨gb697, 3, none⟩ = some (.string a0_3) := (blk_cell BK697.out 3).trans rfl; have hcz60_4 : w59.cell? ⟨gb697, 4, none⟩ = some (.slice A0_4 l0_4.length c0_4) := (blk_cell BK697.out 4).trans rfl; have hfz60_0 := blk_frozen BK697.out 0; have hfz60_1 := blk_frozen BK697.out 1; have hfz60_2 := blk_frozen BK697.out 2; have hfz60_3 := blk_frozen BK697.out 3; have hfz60_4 := blk_frozen BK697.out 4) | ((with_reducible refine gate_callee (f := 61) rfl ?_); refine goesL_ (some 9) rfl rfl Try.func61 (by kernel_rfl) rfl #[.agg #[.int .i64 a0_0, .string a0_1, .slice A0_2 l0_2.length c0_2, .string a0_3, .slice A0_4 l0_4.length c0_4]] rfl (by (try simp only [List.map_toArray, List.map_cons, List.map_nil]); first | done | rfl | (simp only [List.length_drop, List.length_take]; rfl)) ?_; (with_reducible refine (bureaulaw07_Fits.calls a0_0 a0_1 _ _ l0_2 a0_3 _ _ l0_4 false _ ?side1 ?side2 ?side3 ?side4 A5.out).mono ?_); (case side1 => repeat (first | exact (Kd.C_below HR0_2.out HB.out) | (with_reducible refine Kd.C_alloc ?_ _) | (with_reducible refine Kd.C_drewN ?_ _) | (with_reducible refine Kd.C_drew ?_))); (case side2 => exact HC0_2.out); (case side3 => repeat (first | exact (Kd.C_below HR0_4.out HB.out) | (with_reducible refine Kd.C_alloc ?_ _) | (with_reducible refine Kd.C_drewN ?_ _) | (with_reducible refine Kd.C_drew ?_))); (case side4 => exact HC0_4.out); rintro e w61 ⟨rfl, hb⟩; refine ⟨_, rfl, ?_⟩; have n0_ := Aside0.mk (blk_below (g := gb697) (o := .cells #[.int .i64 a0_0, .string a0_1, .slice A0_2 l0_2.length c0_2, .string a0_3, .slice A0_4 l0_4.length c0_4] 64 (0, 0)) (by (with_reducible repeat (first | refine blk_drewN ?_ _ | refine blk_drew ?_ | refine blk_alloc ?_ _)); exact BK697.out) hb); have n1_ := Aside0.mk (below_step (by repeat (first | (with_reducible first | exact HB.out | apply below_alloc | apply pw_below_drewN | apply below_drew1 | refine below_set ?_ GE697.out) | exact HB.out)) hb); clear BK697; clear HB; have BK697 := n0_; have HB := n1_; clear n0_ n1_; (try clear hb); (try clear hb2); (try clear hk); (try clear hi)))
      go_ret
      exact ⟨by first | rfl | (simp [errW_none, errW_some] <;> rfl) | (simp [*, errW_none, errW_some] <;> rfl), by repeat (first | (with_reducible first | exact HB.out | apply below_alloc | apply pw_below_drewN | apply below_drew1 | refine below_set ?_ GE697.out) | exact HB.out)⟩
  · replace c4 := Bool.eq_false_iff.mpr c4
    subst c4
    have H1 : (some false) = some r := by rw [if_neg (show ¬ (false = true) by decide)] at H; exact H
    clear H
    have H := H1
    clear H1
    obtain rfl := Option.some.inj H
    go_enter Try.func14, Try.ntmps14
    go_wp2_with (first | ((with_reducible refine gate_dst (N := 2) rfl ?_); (try (refine gate_guard (by rfl) ?_; dsimp only)); refine box_event ?hg (N := 2) ?hd (cs := #[.int .i64 a0_0, .string a0_1, .slice A0_2 l0_2.length c0_2, .string a0_3, .slice A0_4 l0_4.length c0_4]) (t := 64) ?hr ?_; (case hd => rfl); (case hg => rfl); (case hr => first | (go_simp; done) | (go_simp; rfl)); intro gb697 hg w62 hbox hb; have n0_ := Aside0.mk (below_step (by repeat (first | (with_reducible first | exact HB.out | apply below_alloc | apply pw_below_drewN | apply below_drew1) | exact HB.out)) hb); have n1_ := Aside0.mk (hbox); have n2_ := Aside0.mk ((by rw [hg]; exact (below_size (by repeat (first | (with_reducible first | exact HB.out | apply below_alloc | apply pw_below_drewN | apply below_drew1) | exact HB.out))) : w.heap.size ≤ gb697)); have n3_ := Aside0.mk ((by rw [hg]; exact (below_size (by repeat (first | (with_reducible first | exact HB.out | apply below_alloc | apply pw_below_drewN | apply below_drew1) | exact HB.out))) : w.heap.size ≤ gb697)); clear HB; have HB := n0_; have BK697 := n1_; have GW697 := n2_; have GE697 := n3_; clear n0_ n1_ n2_ n3_; clear hb hbox hg) | ((with_reducible refine gate_callee (f := 55) rfl ?_); refine goesL_ (some 6) rfl rfl Try.func55 (by kernel_rfl) rfl #[] rfl (by (try simp only [List.map_toArray, List.map_cons, List.map_nil]); first | done | rfl | (simp only [List.length_drop, List.length_take]; rfl)) ?_; (with_reducible refine (bureaulaw07_alive.calls k  false _ A3.out).mono ?_); rintro e w63 ⟨rfl, hb⟩; refine ⟨_, rfl, ?_⟩; have n0_ := Aside0.mk (blk_below (g := gb697) (o := .cells #[.int .i64 a0_0, .string a0_1, .slice A0_2 l0_2.length c0_2, .string a0_3, .slice A0_4 l0_4.length c0_4] 64 (0, 0)) (by (with_reducible repeat (first | refine blk_drewN ?_ _ | refine blk_drew ?_ | refine blk_alloc ?_ _)); exact BK697.out) hb); have n1_ := Aside0.mk (below_step (by repeat (first | (with_reducible first | exact HB.out | apply below_alloc | apply pw_below_drewN | apply below_drew1 | refine below_set ?_ GE697.out) | exact HB.out)) hb); clear BK697; clear HB; have BK697 := n0_; have HB := n1_; clear n0_ n1_; (try clear hb); (try clear hb2); (try clear hk); (try clear hi)))
    go_ret
    exact ⟨by first | rfl | (simp [errW_none, errW_some] <;> rfl) | (simp [*, errW_none, errW_some] <;> rfl), by repeat (first | (with_reducible first | exact HB.out | apply below_alloc | apply pw_below_drewN | apply below_drew1 | refine below_set ?_ GE697.out) | exact HB.out)⟩
end Go.Proofs.Ythpjagblnddjaaa.PB
end

section
namespace Go.Proofs.Ythpjagblnddjaaa.PB
open Go.RowKit Go.Proofs.YthpjagblnddjaaaW.PrintWords
set_option linter.unusedVariables false
def totF : List S100 → Int → Int
  | [], n => n
  | r :: l, n => if r.f1 > 4096 - n then 4097 else totF l (n + (if r.f1 < 0 then 0 else r.f1))
def tot (l : List S100) : Int := totF l 0
def bytes (l : List S100) : List Int := l.flatMap fun r => List.replicate r.f1.toNat r.f0
def step1 (acc : List S100) (x : Int) : List S100 :=
  if 0 < acc.length ∧ (acc.getD (acc.length - 1) z100).f0 = x then acc.set (acc.length - 1) ⟨x, (acc.getD (acc.length - 1) z100).f1 + 1⟩ else acc ++ [⟨x, 1⟩]
def packTo (acc : List S100) (b : List Int) : List S100 := b.foldl step1 acc
def pack (b : List Int) : List S100 := packTo [] b
theorem packTo_append (acc : List S100) (a b : List Int) : packTo acc (a ++ b) = packTo (packTo acc a) b := List.foldl_append
theorem snoc_cases (acc : List S100) : acc = [] ∨ ∃ pre q, acc = pre ++ [q] := by
  rcases List.eq_nil_or_concat acc with h | ⟨pre, q, h⟩
  · exact .inl h
  · exact .inr ⟨pre, q, by rw [h, List.concat_eq_append]⟩
theorem getD_snoc (pre : List S100) (q : S100) : (pre ++ [q]).getD ((pre ++ [q]).length - 1) z100 = q := by
  simp [List.getD_eq_getElem?_getD]
theorem set_snoc (pre : List S100) (q r : S100) : (pre ++ [q]).set ((pre ++ [q]).length - 1) r = pre ++ [r] := by
  simp
theorem step1_nil (x : Int) : step1 [] x = [⟨x, 1⟩] := by simp [step1]
theorem step1_same (pre : List S100) (q : S100) : step1 (pre ++ [q]) q.f0 = pre ++ [⟨q.f0, q.f1 + 1⟩] := by
  unfold step1
  rw [getD_snoc, set_snoc, if_pos ⟨by simp, rfl⟩]
theorem step1_other (pre : List S100) (q : S100) (x : Int) (h : q.f0 ≠ x) : step1 (pre ++ [q]) x = pre ++ [q] ++ [⟨x, 1⟩] := by
  unfold step1
  rw [getD_snoc, if_neg (fun hh => h hh.2)]
theorem packTo_rep_same (pre : List S100) (x : Int) : ∀ (n : Nat) (m : Int), packTo (pre ++ [⟨x, m⟩]) (List.replicate n x) = pre ++ [⟨x, m + n⟩]
  | 0, m => by simp [packTo]
  | n + 1, m => by
    rw [List.replicate_succ]
    show packTo (step1 (pre ++ [⟨x, m⟩]) x) _ = _
    rw [show step1 (pre ++ [(⟨x, m⟩ : S100)]) x = pre ++ [⟨x, m + 1⟩] from step1_same pre ⟨x, m⟩, packTo_rep_same pre x n (m + 1)]
    congr 3
    push_cast
    omega
theorem bytes_cons (r : S100) (l : List S100) : bytes (r :: l) = List.replicate r.f1.toNat r.f0 ++ bytes l := by simp [bytes]
theorem totF_bytes (l : List S100) : ∀ n : Int, 0 ≤ n → totF l n ≤ 4096 → totF l n = n + (bytes l).length := by
  induction l with
  | nil => intro n _ h; simp [totF, bytes]
  | cons r l ih =>
    intro n h0 h
    simp only [totF] at h ⊢
    split at h
    · omega
    · rename_i hc
      rw [if_neg hc]
      rw [ih _ (by split <;> omega) h, bytes_cons, List.length_append, List.length_replicate]
      push_cast
      split <;> omega
theorem tot_bytes {l : List S100} (h : tot l ≤ 4096) : tot l = (bytes l).length := by
  have := totF_bytes l 0 (by omega) h
  unfold tot
  omega
def nrm : List S100 → Prop
  | [] => True
  | [r] => 1 ≤ r.f1
  | r :: s :: l => 1 ≤ r.f1 ∧ r.f0 ≠ s.f0 ∧ nrm (s :: l)
theorem nrm_tail {r : S100} {l : List S100} (h : nrm (r :: l)) : nrm l := by
  cases l with
  | nil => trivial
  | cons s l => exact h.2.2
theorem nrm_head {r : S100} {l : List S100} (h : nrm (r :: l)) : 1 ≤ r.f1 := by
  cases l with
  | nil => exact h
  | cons s l => exact h.1
theorem nrm_pos {l : List S100} (h : nrm l) : ∀ r ∈ l, 1 ≤ r.f1 := by
  induction l with
  | nil => intro r hr; cases hr
  | cons s l ih =>
    intro r hr
    rcases List.mem_cons.1 hr with rfl | hr
    · exact nrm_head h
    · exact ih (nrm_tail h) r hr
theorem nrm_snoc {pre : List S100} {q r : S100} : nrm (pre ++ [q]) → q.f0 ≠ r.f0 → 1 ≤ r.f1 → nrm (pre ++ [q] ++ [r]) := by
  induction pre with
  | nil => intro h h1 h2; exact ⟨h, h1, h2⟩
  | cons p pre ih =>
    intro h h1 h2
    cases pre with
    | nil => exact ⟨h.1, h.2.1, ih h.2.2 h1 h2⟩
    | cons s pre => exact ⟨h.1, h.2.1, ih h.2.2 h1 h2⟩
theorem nrm_last {pre : List S100} {q q' : S100} : nrm (pre ++ [q]) → q'.f0 = q.f0 → 1 ≤ q'.f1 → nrm (pre ++ [q']) := by
  induction pre with
  | nil => intro h h1 h2; exact h2
  | cons p pre ih =>
    intro h h1 h2
    cases pre with
    | nil => exact ⟨h.1, by rw [h1]; exact h.2.1, h2⟩
    | cons s pre => exact ⟨h.1, h.2.1, ih h.2.2 h1 h2⟩
theorem step1_nrm {acc : List S100} (h : nrm acc) (x : Int) : nrm (step1 acc x) := by
  rcases snoc_cases acc with rfl | ⟨pre, q, rfl⟩
  · rw [step1_nil]; show (1 : Int) ≤ 1; omega
  · by_cases he : q.f0 = x
    · subst he
      rw [step1_same]
      exact nrm_last h rfl (by have := nrm_pos h q (by simp); show 1 ≤ q.f1 + 1; omega)
    · rw [step1_other _ _ _ he]
      exact nrm_snoc h he (by show (1 : Int) ≤ 1; omega)
theorem packTo_nrm (b : List Int) : ∀ {acc : List S100}, nrm acc → nrm (packTo acc b) := by
  induction b with
  | nil => intro acc h; exact h
  | cons x b ih => intro acc h; exact ih (step1_nrm h x)
theorem pack_nrm (b : List Int) : nrm (pack b) := packTo_nrm b trivial
theorem packTo_normal (l : List S100) : ∀ (pre : List S100) (q : S100), nrm (q :: l) → packTo (pre ++ [q]) (bytes l) = pre ++ q :: l := by
  induction l with
  | nil => intro pre q _; simp [bytes, packTo]
  | cons s l ih =>
    intro pre q h
    have hs := nrm_head (nrm_tail h)
    obtain ⟨n, hn⟩ : ∃ n : Nat, s.f1 = ((n + 1 : Nat) : Int) := ⟨(s.f1 - 1).toNat, by omega⟩
    rw [bytes_cons, packTo_append, hn, Int.toNat_natCast, List.replicate_succ]
    show packTo (packTo (step1 (pre ++ [q]) s.f0) _) _ = _
    rw [step1_other _ _ _ h.2.1, packTo_rep_same]
    have e : (⟨s.f0, 1 + (n : Int)⟩ : S100) = s := by
      cases s
      simp only at hn
      subst hn
      congr 1
      push_cast
      omega
    rw [e, ih (pre ++ [q]) s (nrm_tail h)]
    simp
theorem pack_of_nrm {l : List S100} (h : nrm l) : pack (bytes l) = l := by
  cases l with
  | nil => rfl
  | cons s l =>
    have hs := nrm_head h
    obtain ⟨n, hn⟩ : ∃ n : Nat, s.f1 = ((n + 1 : Nat) : Int) := ⟨(s.f1 - 1).toNat, by omega⟩
    unfold pack
    rw [bytes_cons, packTo_append, hn, Int.toNat_natCast, List.replicate_succ]
    show packTo (packTo (step1 [] s.f0) _) _ = _
    rw [step1_nil, ← List.nil_append [(⟨s.f0, 1⟩ : S100)], packTo_rep_same]
    have e : (⟨s.f0, 1 + (n : Int)⟩ : S100) = s := by
      cases s
      simp only at hn
      subst hn
      congr 1
      push_cast
      omega
    rw [e, packTo_normal l [] s h]
    rfl
instance nrmDec : (l : List S100) → Decidable (nrm l)
  | [] => isTrue trivial
  | [r] => inferInstanceAs (Decidable (1 ≤ r.f1))
  | r :: s :: l => by
    have := nrmDec (s :: l)
    exact inferInstanceAs (Decidable (1 ≤ r.f1 ∧ r.f0 ≠ s.f0 ∧ nrm (s :: l)))
theorem nrm_iff {l : List S100} : nrm l ↔ l = pack (bytes l) := ⟨fun h => (pack_of_nrm h).symm, fun h => by rw [h]; exact pack_nrm _⟩
def good (l : List S100) : Bool := decide (nrm l) && decide (tot l ≤ 4096)
end Go.Proofs.Ythpjagblnddjaaa.PB
end

section
namespace Go.Proofs.Ythpjagblnddjaaa.PB
open Go.Proofs.YthpjagblnddjaaaW.PrintWords
theorem Ev.pos {α : Type} {c : Prop} [Decidable c] {A B : Nat → Option α} {r : α} (h : c) (k : Ev A r) : Ev (fun n => if c then A n else B n) r := by
  obtain ⟨K, hK⟩ := k
  exact ⟨K, fun n hn => by show (if c then A n else B n) = _; rw [if_pos h]; exact hK n hn⟩
theorem Ev.neg {α : Type} {c : Prop} [Decidable c] {A B : Nat → Option α} {r : α} (h : ¬ c) (k : Ev B r) : Ev (fun n => if c then A n else B n) r := by
  obtain ⟨K, hK⟩ := k
  exact ⟨K, fun n hn => by show (if c then A n else B n) = _; rw [if_neg h]; exact hK n hn⟩
theorem Ev.ite {α : Type} {c : Prop} [Decidable c] {A B : Nat → Option α} {r s : α} (h1 : c → Ev A r) (h2 : ¬ c → Ev B s) : Ev (fun n => if c then A n else B n) (if c then r else s) := by
  by_cases h : c
  · rw [if_pos h]; exact Ev.pos h (h1 h)
  · rw [if_neg h]; exact Ev.neg h (h2 h)
theorem Ev.ite' {α : Type} {c : Prop} [Decidable c] {A B : Nat → Option α} {r : α} (h1 : c → Ev A r) (h2 : ¬ c → Ev B r) : Ev (fun n => if c then A n else B n) r := by
  by_cases h : c
  · exact Ev.pos h (h1 h)
  · exact Ev.neg h (h2 h)
theorem ev_val {α : Type} {g : Nat → Option α} {a b : α} (h : Ev g a) (e : a = b) : Ev g b := e ▸ h
end Go.Proofs.Ythpjagblnddjaaa.PB
end

section
namespace Go.Proofs.Ythpjagblnddjaaa.PB
open Go.RowKit Go.Proofs.YthpjagblnddjaaaW.PrintWords
set_option linter.unusedVariables false
instance : DecidableEq S100 := fun a b => decidable_of_iff (a.f0 = b.f0 ∧ a.f1 = b.f1) (by cases a; cases b; simp)
theorem rdT (l : List S100) (i : Nat) : rd_T100 l (i : Int) = l.getD i z100 := by unfold rd_T100; rw [Int.toNat_natCast]
theorem dropT {l : List S100} {i : Nat} (h : i < l.length) : l.drop i = l.getD i z100 :: l.drop (i + 1) := by
  rw [List.drop_eq_getElem_cons h, List.getD_eq_getElem?_getD, List.getElem?_eq_getElem h]; rfl
theorem dropI {l : List Int} {i : Nat} (h : i < l.length) : l.drop i = l.getD i 0 :: l.drop (i + 1) := by
  rw [List.drop_eq_getElem_cons h, List.getD_eq_getElem?_getD, List.getElem?_eq_getElem h]; rfl
theorem w1 {i n : Nat} (h : i < n) (hn : n ≤ 1000000000000000) : wrap64 ((i : Int) + 1) = ((i + 1 : Nat) : Int) := by unfold wrap64; omega
abbrev big : Nat := 1000000000000
theorem total_ev (l : List S100) (hl : l.length ≤ big) : Ev (fun k => runs_Total.f k l) (tot l) := by
  unfold big at hl
  have loop : ∀ (d i : Nat) (n : Int), i + d = l.length → 0 ≤ n → n ≤ 4096 → Ev (fun k => runs_Total.l0 k n l (l.length : Int) (i : Int)) (totF (l.drop i) n) := by
    intro d
    induction d with
    | zero =>
      intro i n hi h0 h1
      refine Ev.step (fun k => by simp only [runs_Total.l0]; rfl) ?_
      refine Ev.neg (by omega) ?_
      rw [List.drop_eq_nil_of_le (by omega)]
      exact Ev.now _
    | succ d ih =>
      intro i n hi h0 h1
      have hlt : i < l.length := by omega
      refine Ev.step (fun k => by simp only [runs_Total.l0]; rfl) ?_
      refine Ev.pos (by omega) (Ev.pos (by omega) (Ev.pos (by omega) ?_))
      rw [dropT hlt, rdT]
      simp only [totF]
      rw [show wrap64 (4096 - n) = 4096 - n by unfold wrap64; omega]
      refine Ev.ite (fun _ => Ev.now _) (fun hc => ?_)
      have hm : wrap64 (n + mx (l.getD i z100).f1 0) = n + (if (l.getD i z100).f1 < 0 then 0 else (l.getD i z100).f1) := by
        unfold mx wrap64
        split <;> omega
      rw [hm, w1 hlt (by omega)]
      exact ih (i + 1) _ (by omega) (by split <;> omega) (by split <;> omega)
  exact loop l.length 0 0 (by omega) (by omega) (by omega)
theorem rtotal_ev (l : List S100) (hl : l.length ≤ big) : Ev (fun k => bureauref03_Total.f k l) (tot l) := by
  unfold big at hl
  have loop : ∀ (d i : Nat) (n : Int), i + d = l.length → 0 ≤ n → n ≤ 4096 → Ev (fun k => bureauref03_Total.l0 k l n (i : Int)) (totF (l.drop i) n) := by
    intro d
    induction d with
    | zero =>
      intro i n hi h0 h1
      refine Ev.step (fun k => by simp only [bureauref03_Total.l0]; rfl) ?_
      refine Ev.neg (by omega) ?_
      rw [List.drop_eq_nil_of_le (by omega)]
      exact Ev.now _
    | succ d ih =>
      intro i n hi h0 h1
      have hlt : i < l.length := by omega
      refine Ev.step (fun k => by simp only [bureauref03_Total.l0]; rfl) ?_
      refine Ev.pos (by omega) (Ev.pos (by omega) ?_)
      rw [dropT hlt, rdT]
      simp only [totF]
      rw [show wrap64 (4096 - n) = 4096 - n by unfold wrap64; omega]
      refine Ev.ite (fun _ => Ev.now _) (fun hc => ?_)
      rw [w1 hlt (by omega)]
      by_cases hp : (l.getD i z100).f1 > 0
      · refine Ev.pos hp ?_
        rw [show wrap64 (n + (l.getD i z100).f1) = n + (if (l.getD i z100).f1 < 0 then 0 else (l.getD i z100).f1) by rw [if_neg (by omega)]; unfold wrap64; omega]
        exact ih (i + 1) _ (by omega) (by split <;> omega) (by split <;> omega)
      · refine Ev.neg hp ?_
        have : n = n + (if (l.getD i z100).f1 < 0 then 0 else (l.getD i z100).f1) := by split <;> omega
        rw [← this]
        exact ih (i + 1) _ (by omega) (by omega) (by omega)
  exact loop l.length 0 0 (by omega) (by omega) (by omega)
theorem same_ev (a b : List S100) (hl : a.length ≤ big) : Ev (fun k => bureauref03_Same.f k a b) (decide (a = b)) := by
  unfold big at hl
  unfold bureauref03_Same.f
  by_cases hab : a.length = b.length
  · refine Ev.pos (by omega) ?_
    have loop : ∀ (d i : Nat), i + d = a.length → Ev (fun k => bureauref03_Same.l0 k a b (i : Int)) (decide (a.drop i = b.drop i)) := by
      intro d
      induction d with
      | zero =>
        intro i hi
        refine Ev.step (fun k => by simp only [bureauref03_Same.l0]; rfl) ?_
        refine Ev.neg (by omega) ?_
        rw [List.drop_eq_nil_of_le (by omega), List.drop_eq_nil_of_le (by omega)]
        exact Ev.now _
      | succ d ih =>
        intro i hi
        have hlt : i < a.length := by omega
        refine Ev.step (fun k => by simp only [bureauref03_Same.l0]; rfl) ?_
        refine Ev.pos (by omega) (Ev.pos (by omega) (Ev.pos (by omega) ?_))
        rw [dropT hlt, dropT (show i < b.length by omega), rdT, rdT, w1 hlt (by omega)]
        by_cases he : a.getD i z100 = b.getD i z100
        · rw [he]
          refine Ev.neg (by simp) ?_
          exact ev_val (ih (i + 1) (by omega)) (by simp)
        · refine Ev.pos ?_ ?_
          · have : ¬ ((a.getD i z100).f0 = (b.getD i z100).f0 ∧ (a.getD i z100).f1 = (b.getD i z100).f1) := fun h => he (by
              cases hx : a.getD i z100; cases hy : b.getD i z100; rw [hx, hy] at h; simp at h; rw [h.1, h.2])
            simp only [Bool.or_eq_true, Bool.not_eq_true', beq_eq_false_iff_ne]
            by_cases h1 : (a.getD i z100).f0 = (b.getD i z100).f0
            · exact .inr (fun h2 => this ⟨h1, h2⟩)
            · exact .inl h1
          · exact ev_val (Ev.now _) (by simp; intro h; exact absurd h he)
    exact loop a.length 0 (by omega)
  · refine Ev.neg (by omega) ?_
    exact ev_val (Ev.now _) (by simp; intro h; exact hab (by rw [h]))
theorem pack_ev (b : List Int) (hb : b.length ≤ 1000000000000) : Ev (fun k => bureauref03_Pack.f k b) (pack b) := by
  have loop : ∀ (d i : Nat) (acc : List S100), i + d = b.length → acc.length ≤ i → (∀ r ∈ acc, r.f1 ≤ i) → (∀ r ∈ acc, 0 ≤ r.f1) → Ev (fun k => bureauref03_Pack.l0 k b acc (i : Int)) (packTo acc (b.drop i)) := by
    intro d
    induction d with
    | zero =>
      intro i acc hi _ _ _
      refine Ev.step (fun k => by simp only [bureauref03_Pack.l0]; rfl) ?_
      refine Ev.neg (by omega) ?_
      rw [List.drop_eq_nil_of_le (by omega)]
      exact Ev.now _
    | succ d ih =>
      intro i acc hi ha hc h0
      have hlt : i < b.length := by omega
      have hstep : step1 acc (b.getD i 0) = step1 acc (b.getD i 0) := rfl
      refine Ev.step (fun k => by simp only [bureauref03_Pack.l0]; rfl) ?_
      refine Ev.pos (by omega) ?_
      have hrd : rd b (i : Int) = b.getD i 0 := by unfold rd; rw [Int.toNat_natCast]
      rw [hrd, dropI hlt, w1 hlt (by omega)]
      have happ : ∀ x : Int, Ev (fun k => if acc.length < 8796093022208 then bureauref03_Pack.l0 k b (acc ++ [(⟨x, 1⟩ : S100)]) ((i + 1 : Nat) : Int) else none) (packTo (acc ++ [⟨x, 1⟩]) (b.drop (i + 1))) := fun x => by
        refine Ev.pos (by omega) (ih (i + 1) _ (by omega) (by simp; omega) ?_ ?_)
        · intro r hr
          rcases List.mem_append.1 hr with hr | hr
          · have := hc r hr; omega
          · obtain rfl := List.mem_singleton.1 hr; show (1 : Int) ≤ ((i + 1 : Nat) : Int); omega
        · intro r hr
          rcases List.mem_append.1 hr with hr | hr
          · exact h0 r hr
          · obtain rfl := List.mem_singleton.1 hr; show (0 : Int) ≤ 1; omega
      show Ev _ (packTo (step1 acc (b.getD i 0)) (b.drop (i + 1)))
      rcases snoc_cases acc with rfl | ⟨pre, q, rfl⟩
      · refine Ev.neg (by simp) (Ev.pos (by omega) ?_)
        rw [step1_nil]
        exact happ _
      · have hlen : (pre ++ [q]).length = pre.length + 1 := by simp
        have hidx : wrap64 (((pre ++ [q]).length : Int) - 1) = ((pre.length : Nat) : Int) := by rw [hlen]; unfold wrap64; omega
        have hget : rd_T100 (pre ++ [q]) ((pre.length : Nat) : Int) = q := by rw [rdT]; simp [List.getD_eq_getElem?_getD]
        refine Ev.pos (by omega) ?_
        rw [hidx, hget]
        refine Ev.pos (by omega) (Ev.pos (by omega) (Ev.pos (by omega) ?_))
        by_cases he : q.f0 = b.getD i 0
        · refine Ev.pos he ?_
          rw [← he, step1_same]
          have hq := hc q (by simp)
          have hq0 := h0 q (by simp)
          rw [Int.toNat_natCast, show (pre ++ [q]).set pre.length (⟨q.f0, wrap64 (q.f1 + 1)⟩ : S100) = pre ++ [⟨q.f0, q.f1 + 1⟩] by
            rw [show wrap64 (q.f1 + 1) = q.f1 + 1 by unfold wrap64; omega]; simp]
          refine ih (i + 1) _ (by omega) (by simp at ha ⊢; omega) ?_ ?_
          · intro r hr
            rcases List.mem_append.1 hr with hr | hr
            · have := hc r (List.mem_append_left _ hr); omega
            · obtain rfl := List.mem_singleton.1 hr; show q.f1 + 1 ≤ ((i + 1 : Nat) : Int); omega
          · intro r hr
            rcases List.mem_append.1 hr with hr | hr
            · exact h0 r (List.mem_append_left _ hr)
            · obtain rfl := List.mem_singleton.1 hr; show 0 ≤ q.f1 + 1; omega
        · refine Ev.neg he ?_
          rw [step1_other _ _ _ he]
          exact happ _
  exact loop b.length 0 [] (by omega) (by simp) (by intro r hr; cases hr) (by intro r hr; cases hr)
theorem bytes_ev (l : List S100) (hl : l.length ≤ big) (hb : (bytes l).length ≤ 1000000000000) : Ev (fun k => bureauref03_Bytes.f k l) (bytes l) := by
  unfold big at hl
  have loop : ∀ (d i : Nat) (acc : List Int), i + d = l.length → acc.length + (bytes (l.drop i)).length ≤ 1000000000000 → Ev (fun k => bureauref03_Bytes.l0 k l acc (i : Int)) (acc ++ bytes (l.drop i)) := by
    intro d
    induction d with
    | zero =>
      intro i acc hi _
      refine Ev.step (fun k => by simp only [bureauref03_Bytes.l0]; rfl) ?_
      refine Ev.neg (by omega) ?_
      rw [List.drop_eq_nil_of_le (by omega)]
      exact ev_val (Ev.now _) (by simp [bytes])
    | succ d ih =>
      intro i acc hi hlen
      have hlt : i < l.length := by omega
      rw [dropT hlt, bytes_cons] at hlen ⊢
      rw [List.length_append, List.length_replicate] at hlen
      refine Ev.step (fun k => by simp only [bureauref03_Bytes.l0]; rfl) ?_
      refine Ev.pos (by omega) ?_
      have inner : ∀ (e j : Nat) (acc' : List Int), j + e = (l.getD i z100).f1.toNat → acc' = acc ++ List.replicate j (l.getD i z100).f0 → Ev (fun k => bureauref03_Bytes.l1 k l acc' (i : Int) (j : Int)) (acc ++ (List.replicate (l.getD i z100).f1.toNat (l.getD i z100).f0 ++ bytes (l.drop (i + 1)))) := by
        intro e
        induction e with
        | zero =>
          intro j acc' hj ha
          refine Ev.step (fun k => by simp only [bureauref03_Bytes.l1]; rfl) ?_
          refine Ev.pos (by omega) (Ev.pos (by omega) ?_)
          rw [rdT, w1 hlt (by omega)]
          refine Ev.neg (by omega) ?_
          have := ih (i + 1) acc' (by omega) (by rw [ha, List.length_append, List.length_replicate]; omega)
          refine ev_val this ?_
          rw [ha, List.append_assoc]
          rw [Nat.add_zero] at hj
          rw [hj]
        | succ e ihe =>
          intro j acc' hj ha
          refine Ev.step (fun k => by simp only [bureauref03_Bytes.l1]; rfl) ?_
          refine Ev.pos (by omega) (Ev.pos (by omega) ?_)
          rw [rdT]
          refine Ev.pos (by omega) (Ev.pos (by have hz := congrArg List.length ha; rw [List.length_append, List.length_replicate] at hz; omega) ?_)
          rw [show wrap64 ((j : Int) + 1) = ((j + 1 : Nat) : Int) by unfold wrap64; omega]
          exact ihe (j + 1) _ (by omega) (by rw [ha, List.replicate_succ', List.append_assoc])
      exact inner (l.getD i z100).f1.toNat 0 acc (by omega) (by simp)
  exact ev_val (loop l.length 0 [] (by omega) (by simpa using hb)) (by simp)
theorem good_ev (l : List S100) (hl : l.length ≤ big) : Ev (fun k => runs_Good.f k l) (good l) := by
  have ht := total_ev l hl
  unfold big at hl
  have loop : ∀ (d i : Nat), i + d = l.length → ∀ b : Bool, (b = true ↔ ((0 < i → i < l.length → (l.getD (i - 1) z100).f0 ≠ (l.getD i z100).f0) ∧ nrm (l.drop i) ∧ tot l ≤ 4096)) → Ev (fun k => runs_Good.l0 k l l (l.length : Int) (i : Int)) b := by
    intro d
    induction d with
    | zero =>
      intro i hi b hb
      refine Ev.step (fun k => by simp only [runs_Good.l0]; rfl) ?_
      refine Ev.neg (by omega) ?_
      rw [List.drop_eq_nil_of_le (by omega)] at hb
      refine Ev.bind ht (ev_val (Ev.now _) ?_)
      rw [Bool.eq_iff_iff, hb, decide_eq_true_iff]
      exact ⟨fun h => ⟨fun _ h2 => absurd h2 (by omega), trivial, h⟩, fun h => h.2.2⟩
    | succ d ih =>
      intro i hi b hb
      have hlt : i < l.length := by omega
      have hn : nrm (l.drop i) ↔ 1 ≤ (l.getD i z100).f1 ∧ (i + 1 < l.length → (l.getD i z100).f0 ≠ (l.getD (i + 1) z100).f0) ∧ nrm (l.drop (i + 1)) := by
        rw [dropT hlt]
        by_cases h2 : i + 1 < l.length
        · rw [dropT h2]
          exact ⟨fun h => ⟨h.1, fun _ => h.2.1, h.2.2⟩, fun h => ⟨h.1, h.2.1 h2, h.2.2⟩⟩
        · rw [List.drop_eq_nil_of_le (show l.length ≤ i + 1 by omega)]
          exact ⟨fun h => ⟨h, fun h3 => absurd h3 h2, trivial⟩, fun h => h.1⟩
      refine Ev.step (fun k => by simp only [runs_Good.l0]; rfl) ?_
      refine Ev.pos (by omega) (Ev.pos (by omega) (Ev.pos (by omega) ?_))
      rw [rdT, w1 hlt (by omega)]
      by_cases h1 : (l.getD i z100).f1 < 1
      · refine Ev.pos h1 (ev_val (Ev.now _) ?_)
        rw [Bool.eq_iff_iff, hb, hn]
        exact ⟨fun h => (by cases h), fun h => (by have := h.2.1.1; omega)⟩
      · refine Ev.neg h1 ?_
        have hrest : ∀ b' : Bool, (b' = true ↔ (nrm (l.drop i) ∧ tot l ≤ 4096)) → Ev (fun k => runs_Good.l0 k l l (l.length : Int) ((i + 1 : Nat) : Int)) b' := fun b' hb' => ih (i + 1) (by omega) b' (by
          rw [hb', hn, show i + 1 - 1 = i by omega]
          exact ⟨fun h => ⟨fun _ => h.1.2.1, h.1.2.2, h.2⟩, fun h => ⟨⟨by omega, h.1 (by omega), h.2.1⟩, h.2.2⟩⟩)
        by_cases h0 : 0 < i
        · refine Ev.pos (by omega) ?_
          rw [show wrap64 ((i : Int) - 1) = ((i - 1 : Nat) : Int) by unfold wrap64; omega]
          refine Ev.pos (by omega) (Ev.pos (by omega) ?_)
          rw [rdT]
          by_cases he : (l.getD (i - 1) z100).f0 = (l.getD i z100).f0
          · refine Ev.pos he (ev_val (Ev.now _) ?_)
            rw [Bool.eq_iff_iff, hb]
            exact ⟨fun h => (by cases h), fun h => absurd he (h.1 h0 hlt)⟩
          · refine Ev.neg he (hrest b ?_)
            rw [hb]
            exact ⟨fun h => h.2, fun h => ⟨fun _ _ => he, h⟩⟩
        · refine Ev.neg (by omega) (hrest b ?_)
          rw [hb]
          exact ⟨fun h => h.2, fun h => ⟨fun h3 => absurd h3 h0, h⟩⟩
  refine loop l.length 0 (by omega) (good l) ?_
  simp [good]
theorem rgood_ev (l : List S100) (hl : l.length ≤ big) : Ev (fun k => bureauref03_Good.f k l) (good l) := by
  unfold bureauref03_Good.f
  refine Ev.bind (rtotal_ev l hl) ?_
  by_cases ht : tot l > 4096
  · exact Ev.pos ht (ev_val (Ev.now _) (by simp [good]; intro _; omega))
  · refine Ev.neg ht ?_
    have hb : (bytes l).length ≤ 4096 := by have := tot_bytes (l := l) (by omega); omega
    refine Ev.bind (bytes_ev l hl (by omega)) (Ev.bind (pack_ev _ (by omega)) (Ev.bind (same_ev _ _ hl) ?_))
    refine ev_val (Ev.now _) ?_
    rw [good, show decide (tot l ≤ 4096) = true by simp; omega, Bool.and_true]
    exact decide_eq_decide.2 nrm_iff.symm
end Go.Proofs.Ythpjagblnddjaaa.PB
end

section
namespace Go.Proofs.Ythpjagblnddjaaa.Opn
open Go.ChangeShapes Go.WideShapes Go.Deep Go.Proofs.YthpjagblnddjaaaW.PrintWords
set_option linter.unusedVariables false
def Opn {α : Type} (P : Program) (w : World) (t : TypeId) (d : Kd α) (wf : α → Prop) : Prop :=
  ∀ (H : Type) (enc : TypeId × Value → H) (base : Nat) (spare : Nat → Bool) (held : Bool) (fuel : Nat) (cs : List Value) (x : DataW H × List MemPlace),
    DataW.trod enc P w base spare held fuel t cs = some x → (∀ n ∈ x.1.weights P t, n ≤ reachBytes) → ∃ a : α, d.K w a cs ∧ wf a
section
variable {P : Program} {w : World}
theorem int {t : TypeId} {k : IntKind} (hu : P.underlying t = some (.int k)) : Opn P w t (Kd.int k) (fun n => (Lit.int k n).wf = true) := by
  intro H enc base spare held fuel cs x h _
  obtain ⟨n, rfl, _, hw⟩ := DataW.trod_int hu h
  exact ⟨n, rfl, hw⟩
theorem bool {t : TypeId} (hu : P.underlying t = some .bool) : Opn P w t Kd.bool (fun _ => True) := by
  intro H enc base spare held fuel cs x h _
  obtain ⟨b, rfl, _⟩ := DataW.trod_bool hu h
  exact ⟨b, rfl, trivial⟩
theorem string {t : TypeId} (hu : P.underlying t = some .string) : Opn P w t Kd.string (fun s => s.size ≤ 140737488351232) := by
  intro H enc base spare held fuel cs x h hz
  obtain ⟨s, rfl, rfl, _⟩ := DataW.trod_string hu h
  refine ⟨s, rfl, ?_⟩
  have := hz s.data.toList.length (by simp [DataW.weights])
  rw [data_length] at this
  exact this
theorem weightsAll_mem {H : Type} {e : TypeId} : ∀ {ds : List (DataW H)} {d : DataW H}, d ∈ ds → ∀ n ∈ d.weights P e, n ∈ DataW.weightsAll P e ds
  | d0 :: ds, d, hd, n, hn => by
    simp only [DataW.weightsAll, List.mem_append]
    rcases List.mem_cons.1 hd with rfl | hd
    · exact .inl hn
    · exact .inr (weightsAll_mem hd n hn)
theorem slice {α : Type} {t e : TypeId} {d : Kd α} {wf : α → Prop} (hu : P.underlying t = some (.slice e)) (hc : P.cellsOf e = d.sz) {B : Nat} (hB : P.bytesOf e = B) (ho : Opn P w e d wf) :
    Opn P w t (Kd.slice e d) (fun xs => xs.length * B ≤ 140737488351232 ∧ ∀ x ∈ xs, wf x) := by
  intro H enc base spare held fuel cs x h hz
  rcases open_slice hu h with ⟨rfl, rfl⟩ | ⟨a, len, cap, m, n, D, Pl, rfl, hb, hl, hm, hmm, rfl, hel⟩
  · exact ⟨[], ⟨none, 0, rfl, Nat.le_refl _, Kd.C_nil _ _⟩, by simp, by intro x hx; cases hx⟩
  · simp only [DataW.weights, hu, List.mem_cons, List.mem_append] at hz
    have hlm : len ≤ m := by rw [hmm]; split <;> omega
    have hall : ∀ i, i < len → ∃ a' : α, (∃ cs', w.cells? base (a.add (i * P.cellsOf e)) (P.cellsOf e) = some cs' ∧ d.K w a' cs') ∧ wf a' := fun i hi => by
      obtain ⟨cs', h1, h2⟩ := hel i (by omega)
      obtain ⟨a', h3, h4⟩ := ho H enc base spare held n cs' _ h2 (fun q hq => hz q (.inr (.inl (weightsAll_mem (List.mem_map.2 ⟨i, List.mem_range.2 hi, rfl⟩) q hq))))
      exact ⟨a', ⟨cs', h1, h3⟩, h4⟩
    obtain ⟨xs, hxs, hx⟩ : ∃ xs : List α, xs.length = len ∧ ∀ i, ∀ h : i < xs.length, (∃ cs', w.cells? base (a.add (i * P.cellsOf e)) (P.cellsOf e) = some cs' ∧ d.K w xs[i] cs') ∧ wf xs[i] := by
      clear hz hel hlm hmm hm hl h
      induction len with
      | zero => exact ⟨[], rfl, fun i h => absurd h (by simp)⟩
      | succ q ih =>
        obtain ⟨xs, h1, h2⟩ := ih (fun i hi => hall i (by omega))
        obtain ⟨a', h3⟩ := hall q (by omega)
        refine ⟨xs ++ [a'], by simp [h1], fun i h => ?_⟩
        by_cases hi : i < xs.length
        · rw [List.getElem_append_left hi]; exact h2 i hi
        · have : i = q := by simp at h; omega
          subst this
          rw [List.getElem_append_right (by omega)]
          simpa using h3
    refine ⟨xs, ⟨some a, cap, by rw [hxs], by omega, rfl, by have : cap ≤ 9223372036854775807 := hm; omega, fun hp => ⟨a, rfl, fun i p hp => ?_⟩⟩, ?_, ?_⟩
    · have hi : i < xs.length := (List.getElem?_eq_some_iff.1 hp).1
      have hpe : p = xs[i] := by rw [List.getElem?_eq_getElem hi] at hp; exact (Option.some.inj hp).symm
      obtain ⟨⟨cs', h1, h2⟩, _⟩ := hx i hi
      rw [hc] at h1
      obtain ⟨_, hcl, hat⟩ := World.cells?_some h1
      refine ⟨cs', by rw [hcl], by rw [hpe]; exact h2, fun j u hu => ?_⟩
      have hj : j < d.sz := by have := (List.getElem?_eq_some_iff.1 hu).1; omega
      have := hat j hj
      rw [← Go.Deep.add_add, this, hu]
    · have := hz _ (.inl rfl)
      rw [hB] at this
      simp only [List.length_map, List.length_range] at this
      rw [hxs]
      exact Nat.le_trans (Nat.mul_le_mul_right _ (by omega)) this
    · intro x hxm
      obtain ⟨i, hi, rfl⟩ := List.mem_iff_getElem.1 hxm
      exact (hx i hi).2
end
end Go.Proofs.Ythpjagblnddjaaa.Opn
end

section
namespace Go.Proofs.Ythpjagblnddjaaa.PB
open Go.ChangeShapes Go.WideShapes Go.Proofs.Ythpjagblnddjaaa Go.Proofs.YthpjagblnddjaaaW.PrintWords
set_option linter.unusedVariables false
def wf100 (x : S100) : Prop := ((Lit.int .u64 x.f0).wf = true) ∧ ((Lit.int .i64 x.f1).wf = true)
theorem opn100 {w : World} : Opn.Opn Try.prog w 100 k100 wf100 := by
  intro H enc base spare held fuel cs x h hz
  obtain ⟨xs, n, _, rfl, hlen, hyl, hf⟩ := DataW.trod_struct Try.underlying100 h
  have hcl : cs.length = 2 := hlen.trans (by kernel_rfl)
  obtain ⟨y0, y1, rfl⟩ : ∃ y0 y1, xs = [y0, y1] := by
    clear h hz hf hlen hcl; have hyl' : xs.length = 2 := hyl; clear hyl
    match xs, hyl' with | [y0, y1], _ => exact ⟨y0, y1, rfl⟩
  obtain ⟨c0, c1, rfl⟩ : ∃ c0 c1, cs = [c0, c1] := by
    clear h hz hf hlen hyl
    match cs, hcl with | [c0, c1], _ => exact ⟨c0, c1, rfl⟩
  simp only [DataW.weights, Try.underlying100] at hz
  have h0 : DataW.trod enc Try.prog w base spare held n 36 [c0] = some y0 := by have z := hf 0 _ rfl; rwa [show Try.prog.cellsOf _ = 1 from by kernel_rfl] at z
  obtain ⟨a0, k0_, w0⟩ := (Opn.int Try.underlying36) H enc base spare held n _ _ h0 (fun q hq => hz q (by simp [DataW.weightsEach, hq]))
  have h1 : DataW.trod enc Try.prog w base spare held n 3 [c1] = some y1 := by have z := hf 1 _ rfl; rwa [show Try.prog.cellsOf _ = 1 from by kernel_rfl] at z
  obtain ⟨a1, k1_, w1⟩ := (Opn.int Try.underlying3) H enc base spare held n _ _ h1 (fun q hq => hz q (by simp [DataW.weightsEach, hq]))
  exact ⟨⟨a0, a1⟩, ⟨_, _, rfl, k0_, k1_⟩, w0, w1⟩
def wf51 (x : S51) : Prop := (x.f0.size ≤ 140737488351232) ∧ (x.f1.length * 16 ≤ 140737488351232 ∧ ∀ x_ ∈ x.f1, wf100 x_)
theorem opn51 {w : World} : Opn.Opn Try.prog w 51 k51 wf51 := by
  intro H enc base spare held fuel cs x h hz
  obtain ⟨xs, n, _, rfl, hlen, hyl, hf⟩ := DataW.trod_struct Try.underlying51 h
  have hcl : cs.length = 2 := hlen.trans (by kernel_rfl)
  obtain ⟨y0, y1, rfl⟩ : ∃ y0 y1, xs = [y0, y1] := by
    clear h hz hf hlen hcl; have hyl' : xs.length = 2 := hyl; clear hyl
    match xs, hyl' with | [y0, y1], _ => exact ⟨y0, y1, rfl⟩
  obtain ⟨c0, c1, rfl⟩ : ∃ c0 c1, cs = [c0, c1] := by
    clear h hz hf hlen hyl
    match cs, hcl with | [c0, c1], _ => exact ⟨c0, c1, rfl⟩
  simp only [DataW.weights, Try.underlying51] at hz
  have h0 : DataW.trod enc Try.prog w base spare held n 9 [c0] = some y0 := by have z := hf 0 _ rfl; rwa [show Try.prog.cellsOf _ = 1 from by kernel_rfl] at z
  obtain ⟨a0, k0_, w0⟩ := (Opn.string Try.underlying9) H enc base spare held n _ _ h0 (fun q hq => hz q (by simp [DataW.weightsEach, hq]))
  have h1 : DataW.trod enc Try.prog w base spare held n 22 [c1] = some y1 := by have z := hf 1 _ rfl; rwa [show Try.prog.cellsOf _ = 1 from by kernel_rfl] at z
  obtain ⟨a1, k1_, w1⟩ := (Opn.slice Try.underlying22 (by kernel_rfl) (by kernel_rfl : Try.prog.bytesOf 100 = 16) opn100) H enc base spare held n _ _ h1 (fun q hq => hz q (by simp [DataW.weightsEach, hq]))
  exact ⟨⟨a0, a1⟩, ⟨_, _, rfl, k0_, k1_⟩, w0, w1⟩
structure S64 where
  f0 : Int
  f1 : S51
  f2 : S51
def k64 : Kd S64 := Kd.iso (Kd.pair (Kd.int .i64) (Kd.pair k51 k51)) (fun x : S64 => (x.f0, x.f1, x.f2))
theorem k64_open {w : World} {x : S64} {cs : List Value} (h : k64.K w x cs) : ∃ A2 c2 A4 c4, cs = [.int .i64 x.f0, .string x.f1.f0, .slice A2 x.f1.f1.length c2, .string x.f2.f0, .slice A4 x.f2.f1.length c4] ∧ x.f1.f1.length ≤ c2 ∧ k100.C w A2 x.f1.f1.length x.f1.f1 ∧ x.f2.f1.length ≤ c4 ∧ k100.C w A4 x.f2.f1.length x.f2.f1 := by
  obtain ⟨_, _, rfl, rfl, ⟨_, _, rfl, s1, s3⟩⟩ := h
  obtain ⟨A2, c2, rfl, l2, g2⟩ := k51_open s1
  obtain ⟨A4, c4, rfl, l4, g4⟩ := k51_open s3
  exact ⟨A2, c2, A4, c4, rfl, l2, g2, l4, g4⟩
def wf64 (x : S64) : Prop := ((Lit.int .i64 x.f0).wf = true) ∧ (wf51 x.f1) ∧ (wf51 x.f2)
theorem opn64 {w : World} : Opn.Opn Try.prog w 64 k64 wf64 := by
  intro H enc base spare held fuel cs x h hz
  obtain ⟨xs, n, _, rfl, hlen, hyl, hf⟩ := DataW.trod_struct Try.underlying64 h
  have hcl : cs.length = 5 := hlen.trans (by kernel_rfl)
  obtain ⟨y0, y1, y2, rfl⟩ : ∃ y0 y1 y2, xs = [y0, y1, y2] := by
    clear h hz hf hlen hcl; have hyl' : xs.length = 3 := hyl; clear hyl
    match xs, hyl' with | [y0, y1, y2], _ => exact ⟨y0, y1, y2, rfl⟩
  obtain ⟨c0, c1, c2, c3, c4, rfl⟩ : ∃ c0 c1 c2 c3 c4, cs = [c0, c1, c2, c3, c4] := by
    clear h hz hf hlen hyl
    match cs, hcl with | [c0, c1, c2, c3, c4], _ => exact ⟨c0, c1, c2, c3, c4, rfl⟩
  simp only [DataW.weights, Try.underlying64] at hz
  have h0 : DataW.trod enc Try.prog w base spare held n 3 [c0] = some y0 := by have z := hf 0 _ rfl; rwa [show Try.prog.cellsOf _ = 1 from by kernel_rfl] at z
  obtain ⟨a0, k0_, w0⟩ := (Opn.int Try.underlying3) H enc base spare held n _ _ h0 (fun q hq => hz q (by simp [DataW.weightsEach, hq]))
  have h1 : DataW.trod enc Try.prog w base spare held n 51 [c1, c2] = some y1 := by have z := hf 1 _ rfl; rwa [show Try.prog.cellsOf _ = 2 from by kernel_rfl] at z
  obtain ⟨a1, k1_, w1⟩ := opn51 H enc base spare held n _ _ h1 (fun q hq => hz q (by simp [DataW.weightsEach, hq]))
  have h2 : DataW.trod enc Try.prog w base spare held n 51 [c3, c4] = some y2 := by have z := hf 2 _ rfl; rwa [show Try.prog.cellsOf _ = 2 from by kernel_rfl] at z
  obtain ⟨a2, k2_, w2⟩ := opn51 H enc base spare held n _ _ h2 (fun q hq => hz q (by simp [DataW.weightsEach, hq]))
  exact ⟨⟨a0, a1, a2⟩, ⟨_, _, rfl, k0_, ⟨_, _, rfl, k1_, k2_⟩⟩, w0, w1, w2⟩
end Go.Proofs.Ythpjagblnddjaaa.PB
end

section
namespace Go.Proofs.Ythpjagblnddjaaa.PB
open Go.RowKit Go.Proofs.YthpjagblnddjaaaW.PrintWords
set_option linter.unusedVariables false
theorem good_nrm {l : List S100} (h : good l = true) : nrm l ∧ tot l ≤ 4096 := by
  unfold good at h
  simpa using h
end Go.Proofs.Ythpjagblnddjaaa.PB
end

section
namespace Go.Proofs.Ythpjagblnddjaaa.PB
open Go.RowKit Go.Proofs.YthpjagblnddjaaaW.PrintWords
set_option linter.unusedVariables false
theorem good_facts {m : List S100} (h : good m = true) : nrm m ∧ (bytes m).length ≤ 4096 ∧ tot m = (bytes m).length := by
  obtain ⟨hn, ht⟩ := good_nrm h
  have hb := tot_bytes ht
  exact ⟨hn, by omega, hb⟩
end Go.Proofs.Ythpjagblnddjaaa.PB
end

section
namespace Go.Proofs.Ythpjagblnddjaaa.PB
open Go.RowKit Go.Proofs.YthpjagblnddjaaaW.PrintWords
set_option linter.unusedVariables false
def goodT (s : ByteArray) (l : List S100) : Bool := good l && decide (tot l = (s.size : Int))
theorem goodT_iff {s : ByteArray} {l : List S100} : goodT s l = true ↔ good l = true ∧ tot l = (s.size : Int) := by simp [goodT]
theorem goodT_facts {s : ByteArray} {l : List S100} (h : goodT s l = true) : good l = true ∧ nrm l ∧ (bytes l).length = s.size ∧ s.size ≤ 4096 ∧ tot l = (s.size : Int) := by
  obtain ⟨h1, h2⟩ := goodT_iff.1 h
  obtain ⟨h3, h4, h5⟩ := good_facts h1
  exact ⟨h1, h3, by omega, by omega, h2⟩
theorem goodT_ev (s : ByteArray) (l : List S100) (hl : l.length ≤ big) : Ev (fun k => strip_Good.f k s l) (goodT s l) := by
  unfold strip_Good.f
  refine Ev.bind (good_ev l hl) ?_
  by_cases hg : good l = true
  · rw [hg]
    exact Ev.pos rfl (Ev.bind (total_ev l hl) (ev_val (Ev.now _) (by rw [Bool.eq_iff_iff]; simp [goodT, hg])))
  · exact Ev.neg hg (ev_val (Ev.now _) (by simp [goodT, hg]))
theorem rgoodT_ev (s : ByteArray) (l : List S100) (hl : l.length ≤ big) : Ev (fun k => bureauref04_Good.f k s l) (goodT s l) := by
  unfold bureauref04_Good.f
  refine Ev.bind (rgood_ev l hl) ?_
  by_cases hg : good l = true
  · rw [hg]
    exact Ev.pos rfl (Ev.bind (rtotal_ev l hl) (ev_val (Ev.now _) (by rw [Bool.eq_iff_iff]; simp [goodT, hg])))
  · exact Ev.neg hg (ev_val (Ev.now _) (by simp [goodT, hg]))
theorem toList_loop (a : ByteArray) : ∀ (n i : Nat) (r : List UInt8), i + n = a.size → ByteArray.toList.loop a i r = r.reverse ++ a.data.toList.drop i
  | 0, i, r, h => by
    unfold ByteArray.toList.loop
    rw [if_neg (by omega), List.drop_eq_nil_of_le (by rw [Array.length_toList]; show a.size ≤ i; omega), List.append_nil]
  | n + 1, i, r, h => by
    unfold ByteArray.toList.loop
    have hi : i < a.data.toList.length := by rw [Array.length_toList]; show i < a.size; omega
    rw [if_pos (by omega), toList_loop a n (i + 1) _ (by omega), List.reverse_cons, List.append_assoc, List.drop_eq_getElem_cons hi]
    congr 1
    show [a.get! i] ++ _ = _
    rw [List.singleton_append]
    congr 1
    show a.data[i]! = _
    rw [getElem!_pos a.data i (by rw [Array.length_toList] at hi; exact hi)]
    simp
theorem toList_data (a : ByteArray) : a.toList = a.data.toList := by
  unfold ByteArray.toList
  rw [toList_loop a a.size 0 [] (by omega)]
  rfl
theorem toList_inj {a b : ByteArray} (h : a.toList = b.toList) : a = b := by
  rw [toList_data, toList_data] at h
  exact ByteArray.ext (Array.toList_inj.1 h)
end Go.Proofs.Ythpjagblnddjaaa.PB
end

section
namespace Go.Proofs.Ythpjagblnddjaaa.PB
open Go.RowKit Go.Proofs.YthpjagblnddjaaaW.PrintWords Go.Proofs.YthpjagblnddjaaaW.PrintLast Go.Proofs.YthpjagblnddjaaaW.PrintMore
set_option linter.unusedVariables false
set_option linter.unusedSimpArgs false
def BRow (w : World) (g : Nat) (b : List Int) : Prop := ∃ cs t fr, w.heap[g]? = some (.cells cs t fr) ∧ b.length ≤ fr.1 ∧ ∀ i, i < b.length → cs[i]? = some (.int .u8 (b.getD i 0))
theorem BRow.lt {w : World} {g : Nat} {b : List Int} (h : BRow w g b) : g < w.heap.size := by obtain ⟨cs, t, fr, hc, _⟩ := h; exact blk_lt hc
theorem BRow.cell {w : World} {g : Nat} {b : List Int} (h : BRow w g b) {i : Nat} (hi : i < b.length) : w.cell? ⟨g, i, none⟩ = some (.int .u8 (b.getD i 0)) := by
  obtain ⟨cs, t, fr, hc, _, hb⟩ := h
  exact (cell_of_row w g i cs t fr hc).trans (hb i hi)
theorem BRow.of {w w' : World} {g : Nat} {b : List Int} (h : BRow w g b) (he : w'.heap[g]? = w.heap[g]?) : BRow w' g b := by
  obtain ⟨cs, t, fr, hc, hr⟩ := h
  exact ⟨cs, t, fr, he.trans hc, hr⟩
theorem BRow.alloc {w : World} {g : Nat} {b : List Int} (h : BRow w g b) (o : Obj) : BRow (w.alloc o) g b := h.of (Below.heap_alloc _ _ _ h.lt)
theorem BRow.drewN {w : World} {g : Nat} {b : List Int} (h : BRow w g b) (n : Nat) : BRow (w.drewN n) g b := h.of rfl
theorem BRow.set {w : World} {g : Nat} {b : List Int} (h : BRow w g b) {i : Nat} (hi : i < b.length) (x : Int) : BRow (w.setCell ⟨g, i, none⟩ (.int .u8 x)) g (b.set i x) := by
  obtain ⟨cs, t, fr, hc, hf, hb⟩ := h
  refine ⟨cs.setIfInBounds i (.int .u8 x), t, fr, by simp [World.setCell, Array.getElem?_modify, hc], by rw [List.length_set]; exact hf, fun j hj => ?_⟩
  rw [List.length_set] at hj
  have h1 := hb j hj
  obtain ⟨hlt, _⟩ := Array.getElem?_eq_some_iff.1 h1
  by_cases he : i = j
  · subst he
    rw [List.getD_eq_getElem?_getD, List.getElem?_set_self hj, Array.getElem?_setIfInBounds]
    simp [hlt]
  · rw [List.getD_eq_getElem?_getD, List.getElem?_set_ne he, ← List.getD_eq_getElem?_getD, Array.getElem?_setIfInBounds, if_neg he]
    exact h1
theorem BRow.reads {w : World} {g : Nat} {b : List Int} (h : BRow w g b) (hn : b.length ≤ 9223372036854775807) : ReadsInt w .u8 (some ⟨g, 0, none⟩) b.length b :=
  ⟨rfl, hn, fun _ => ⟨_, rfl, fun j hj => by
    have := h.cell hj
    by_cases h0 : j = 0
    · subst h0; simpa [Addr.add] using this
    · simpa [Addr.add, h0] using this⟩⟩
end Go.Proofs.Ythpjagblnddjaaa.PB
end

section
namespace Go.Proofs.Ythpjagblnddjaaa.PB
open Go.RowKit Go.Proofs.YthpjagblnddjaaaW.PrintWords
set_option linter.unusedVariables false
theorem fits_eq (s : ByteArray) (l : List S100) : bureaulaw04_Fits.f s l = some (decide (s.size ≤ 5000 ∧ l.length ≤ 5000)) := by
  unfold bureaulaw04_Fits.f
  by_cases h : s.size ≤ 5000
  · rw [if_pos (by omega)]
    congr 1
    rw [Bool.eq_iff_iff, decide_eq_true_iff, decide_eq_true_iff]
    omega
  · rw [if_neg (by omega)]
    simp [h]
theorem fits_big {s : ByteArray} {l : List S100} (h : s.size ≤ 5000 ∧ l.length ≤ 5000) : l.length ≤ big := by unfold big; omega
end Go.Proofs.Ythpjagblnddjaaa.PB
end

section
namespace Go.Proofs.Ythpjagblnddjaaa.PB
open Go.RowKit Go.Proofs.YthpjagblnddjaaaW.PrintWords
set_option linter.unusedVariables false
def goodE (a : Int) (o : ByteArray) (ol : List S100) (n : ByteArray) (nl : List S100) : Bool := goodT o ol && (goodT n nl && (decide (0 ≤ a) && decide (a ≤ 4096)))
theorem goodE_iff {a : Int} {o n : ByteArray} {ol nl : List S100} : goodE a o ol n nl = true ↔ goodT o ol = true ∧ goodT n nl = true ∧ 0 ≤ a ∧ a ≤ 4096 := by simp [goodE]
theorem goodE_ev (a : Int) (o : ByteArray) (ol : List S100) (n : ByteArray) (nl : List S100) (hl : ol.length ≤ big) (hm : nl.length ≤ big) : Ev (fun k => edit_good.f k a o ol n nl) (goodE a o ol n nl) := by
  unfold edit_good.f
  refine Ev.bind (goodT_ev o ol hl) ?_
  by_cases h1 : goodT o ol = true
  · refine Ev.pos h1 (Ev.bind (goodT_ev n nl hm) ?_)
    by_cases h2 : goodT n nl = true
    · refine Ev.pos h2 ?_
      by_cases h3 : 0 ≤ a
      · exact Ev.pos h3 (ev_val (Ev.now _) (by simp [goodE, h1, h2, h3]))
      · exact Ev.neg h3 (ev_val (Ev.now _) (by simp [goodE, h3]))
    · exact Ev.neg h2 (ev_val (Ev.now _) (by simp [goodE, h2]))
  · exact Ev.neg h1 (ev_val (Ev.now _) (by simp [goodE, h1]))
theorem rgoodE_ev (a : Int) (o : ByteArray) (ol : List S100) (n : ByteArray) (nl : List S100) (hl : ol.length ≤ big) (hm : nl.length ≤ big) : Ev (fun k => bureauref07_Good.f k a o ol n nl) (goodE a o ol n nl) := by
  unfold bureauref07_Good.f
  refine Ev.bind (rgoodT_ev o ol hl) ?_
  by_cases h1 : goodT o ol = true
  · refine Ev.pos h1 (Ev.bind (rgoodT_ev n nl hm) ?_)
    by_cases h2 : goodT n nl = true
    · refine Ev.pos h2 ?_
      by_cases h3 : 0 ≤ a
      · exact Ev.pos h3 (ev_val (Ev.now _) (by simp [goodE, h1, h2, h3]))
      · exact Ev.neg h3 (ev_val (Ev.now _) (by simp [goodE, h3]))
    · exact Ev.neg h2 (ev_val (Ev.now _) (by simp [goodE, h2]))
  · exact Ev.neg h1 (ev_val (Ev.now _) (by simp [goodE, h1]))
def followS (a : Int) (o : ByteArray) (ol : List S100) (n : ByteArray) (nl : List S100) (x : Int) : Int :=
  if goodE a o ol n nl = true ∧ x ≤ 4096 ∧ a < x then (if x ≥ a + (o.size : Int) then x + (n.size : Int) - (o.size : Int) else if x ≤ a + (n.size : Int) then x else a + (n.size : Int)) else x
theorem goodE_facts {a : Int} {o n : ByteArray} {ol nl : List S100} (h : goodE a o ol n nl = true) : 0 ≤ a ∧ a ≤ 4096 ∧ o.size ≤ 4096 ∧ n.size ≤ 4096 := by
  obtain ⟨h1, h2, h3, h4⟩ := goodE_iff.1 h
  obtain ⟨_, _, _, g4, _⟩ := goodT_facts h1
  obtain ⟨_, _, _, q4, _⟩ := goodT_facts h2
  exact ⟨h3, h4, g4, q4⟩
theorem follow_ev (a : Int) (o : ByteArray) (ol : List S100) (n : ByteArray) (nl : List S100) (hl : ol.length ≤ big) (hm : nl.length ≤ big) (x : Int) : Ev (fun k => edit_Follow.f k a o ol n nl x) (followS a o ol n nl x) := by
  unfold edit_Follow.f
  have out : ¬ (goodE a o ol n nl = true ∧ x ≤ 4096 ∧ a < x) → Ev (fun k => edit_Follow.j0 k x true a o ol n nl) (followS a o ol n nl x) := fun h => by
    refine Ev.step (fun k => by simp only [edit_Follow.j0]; rfl) ?_
    refine Ev.pos (by simp) (ev_val (Ev.now _) ?_)
    unfold followS
    rw [if_neg h]
  refine Ev.bind (goodE_ev a o ol n nl hl hm) ?_
  by_cases hg : goodE a o ol n nl = true
  · refine Ev.pos hg ?_
    obtain ⟨f1, f2, f3, f4⟩ := goodE_facts hg
    by_cases h1 : x > 4096
    · exact Ev.pos h1 (out (fun h => by omega))
    · refine Ev.neg h1 ?_
      by_cases h2 : x ≤ a
      · rw [decide_eq_true h2]
        exact out (fun h => by omega)
      · rw [decide_eq_false h2]
        refine Ev.step (fun k => by simp only [edit_Follow.j0]; rfl) ?_
        refine Ev.neg (by simp) ?_
        unfold followS
        rw [if_pos (c := goodE a o ol n nl = true ∧ x ≤ 4096 ∧ a < x) ⟨hg, by omega, by omega⟩, show wrap64 (a + (o.size : Int)) = a + (o.size : Int) by unfold wrap64; omega]
        refine Ev.ite (fun h3 => ev_val (Ev.now _) ?_) (fun h3 => ev_val (Ev.now _) ?_)
        · unfold wrap64; omega
        · rw [show wrap64 (a + (n.size : Int)) = a + (n.size : Int) by unfold wrap64; omega]
          unfold mn
          split <;> split <;> omega
  · exact Ev.neg hg (out (fun h => hg h.1))
theorem rfollow_ev (a : Int) (o : ByteArray) (ol : List S100) (n : ByteArray) (nl : List S100) (hl : ol.length ≤ big) (hm : nl.length ≤ big) (x : Int) : Ev (fun k => bureauref07_Follow.f k a o ol n nl x) (followS a o ol n nl x) := by
  unfold bureauref07_Follow.f
  have out : ¬ (goodE a o ol n nl = true ∧ x ≤ 4096 ∧ a < x) → Ev (fun k => bureauref07_Follow.j0 k x true a o ol n nl) (followS a o ol n nl x) := fun h => by
    refine Ev.step (fun k => by simp only [bureauref07_Follow.j0]; rfl) ?_
    refine Ev.pos (by simp) (ev_val (Ev.now _) ?_)
    unfold followS
    rw [if_neg h]
  refine Ev.bind (rgoodE_ev a o ol n nl hl hm) ?_
  by_cases hg : goodE a o ol n nl = true
  · refine Ev.pos hg ?_
    obtain ⟨f1, f2, f3, f4⟩ := goodE_facts hg
    by_cases h0 : x < 0
    · exact Ev.pos h0 (out (fun h => by omega))
    refine Ev.neg h0 ?_
    by_cases h1 : x > 4096
    · exact Ev.pos h1 (out (fun h => by omega))
    · refine Ev.neg h1 ?_
      by_cases h2 : x ≤ a
      · rw [decide_eq_true h2]
        exact out (fun h => by omega)
      · rw [decide_eq_false h2]
        refine Ev.step (fun k => by simp only [bureauref07_Follow.j0]; rfl) ?_
        refine Ev.neg (by simp) ?_
        unfold followS
        rw [if_pos (c := goodE a o ol n nl = true ∧ x ≤ 4096 ∧ a < x) ⟨hg, by omega, by omega⟩, show wrap64 (a + (o.size : Int)) = a + (o.size : Int) by unfold wrap64; omega]
        refine Ev.ite (fun h3 => ev_val (Ev.now _) ?_) (fun h3 => ev_val (Ev.now _) ?_)
        · unfold wrap64; omega
        · rw [show wrap64 (x - a) = x - a by unfold wrap64; omega]
          unfold mn
          split <;> split <;> (unfold wrap64; omega)
  · exact Ev.neg hg (out (fun h => hg h.1))
theorem own_eq (s : ByteArray) (l : List S100) (hl : l.length ≤ big) : edit_own.f s l = some (s, l) := by
  unfold edit_own.f
  unfold big at hl
  rw [if_pos (by omega)]
theorem invert_eq (a : Int) (o : ByteArray) (ol : List S100) (n : ByteArray) (nl : List S100) (hl : ol.length ≤ big) (hm : nl.length ≤ big) : edit_Invert.f a o ol n nl = some (a, n, nl, o, ol) := by
  unfold edit_Invert.f
  rw [own_eq n nl hm, own_eq o ol hl]
  rfl
theorem goodE_swap {a : Int} {o n : ByteArray} {ol nl : List S100} (h : goodE a o ol n nl = true) : goodE a n nl o ol = true := by
  obtain ⟨h1, h2, h3, h4⟩ := goodE_iff.1 h
  exact goodE_iff.2 ⟨h2, h1, h3, h4⟩
end Go.Proofs.Ythpjagblnddjaaa.PB
end

section
namespace Go.Proofs.Ythpjagblnddjaaa.PB
open Go.RowKit Go.Proofs.YthpjagblnddjaaaW.PrintWords
set_option linter.unusedVariables false
theorem alive7 : bureaulaw07_alive.f 60 = some true := by decide +kernel
theorem alive7_ev : Ev (fun k => bureaulaw07_alive.f k) true := Ev.of (bureaulaw07_alive.mono) alive7
def fitE (o : ByteArray) (ol : List S100) (n : ByteArray) (nl : List S100) : Prop := (o.size ≤ 5000 ∧ ol.length ≤ 5000) ∧ (n.size ≤ 5000 ∧ nl.length ≤ 5000)
instance (o : ByteArray) (ol : List S100) (n : ByteArray) (nl : List S100) : Decidable (fitE o ol n nl) := inferInstanceAs (Decidable (_ ∧ _))
theorem fits7_eq (a : Int) (o : ByteArray) (ol : List S100) (n : ByteArray) (nl : List S100) : bureaulaw07_Fits.f a o ol n nl = some (decide (fitE o ol n nl)) := by
  unfold bureaulaw07_Fits.f
  rw [fits_eq, fits_eq]
  by_cases h : o.size ≤ 5000 ∧ ol.length ≤ 5000
  · rw [decide_eq_true h, Option.bind_some, if_pos rfl, Option.bind_some]
    congr 1
    rw [Bool.eq_iff_iff, decide_eq_true_iff, decide_eq_true_iff]
    exact ⟨fun h2 => ⟨h, h2⟩, fun h2 => h2.2⟩
  · rw [decide_eq_false h, Option.bind_some, if_neg (by simp)]
    rw [decide_eq_false (fun h2 : fitE o ol n nl => h h2.1)]
theorem EditFollows_pure (e : S64) (x : Int) (we : wf64 e) (wx : (Lit.int .i64 x).wf = true) : ∃ k, bureaulaw07_EditFollows.f k e.f0 e.f1.f0 e.f1.f1 e.f2.f0 e.f2.f1 x = some true := by
  refine Ev.rounds (g := fun k => bureaulaw07_EditFollows.f k e.f0 e.f1.f0 e.f1.f1 e.f2.f0 e.f2.f1 x) ?_
  generalize e.f0 = a at *
  generalize e.f1.f0 = o at *
  generalize e.f1.f1 = ol at *
  generalize e.f2.f0 = n at *
  generalize e.f2.f1 = nl at *
  unfold bureaulaw07_EditFollows.f
  refine Ev.bind alive7_ev (Ev.pos rfl ?_)
  rw [fits7_eq]
  refine Ev.bind (Ev.now _) ?_
  by_cases hf : fitE o ol n nl
  · refine Ev.pos (by simpa using hf) ?_
    have hl := fits_big hf.1
    have hm := fits_big hf.2
    refine Ev.bind (follow_ev a o ol n nl hl hm x) (Ev.bind (rfollow_ev a o ol n nl hl hm x) (Ev.pos rfl (Ev.bind (rgoodE_ev a o ol n nl hl hm) ?_)))
    have out : Ev (fun k => bureaulaw07_EditFollows.j0 k x (followS a o ol n nl x) true a o ol n nl) true := by
      refine Ev.step (fun k => by simp only [bureaulaw07_EditFollows.j0]; rfl) ?_
      exact Ev.pos (by simp) (Ev.now _)
    refine Ev.ite' (fun hg => ?_) (fun _ => out)
    refine Ev.ite' (fun _ => out) (fun h0 => ?_)
    refine Ev.ite' (fun _ => out) (fun h1 => ?_)
    refine Ev.ite' (fun _ => out) (fun h2 => ?_)
    refine Ev.ite' (fun _ => out) (fun h3 => ?_)
    obtain ⟨f1, f2, f3, f4⟩ := goodE_facts hg
    have hsw := goodE_swap hg
    have main : (x ≤ a ∨ x > a + (o.size : Int)) → Ev (fun k => bureaulaw07_EditFollows.j0 k x (followS a o ol n nl x) false a o ol n nl) true := fun hx => by
      refine Ev.step (fun k => by simp only [bureaulaw07_EditFollows.j0]; rfl) ?_
      refine Ev.neg (by simp) ?_
      rw [invert_eq a o ol n nl hl hm]
      refine Ev.bind (Ev.now _) (Ev.bind (follow_ev a n nl o ol hm hl _) (ev_val (Ev.now _) ?_))
      rw [beq_iff_eq]
      rcases hx with hx | hx
      · have e1 : followS a o ol n nl x = x := by unfold followS; rw [if_neg (fun h => by omega)]
        rw [e1]
        unfold followS
        rw [if_neg (fun h => by omega)]
      · have e1 : followS a o ol n nl x = x + (n.size : Int) - (o.size : Int) := by unfold followS; rw [if_pos ⟨hg, by omega, by omega⟩, if_pos (by omega)]
        rw [e1] at h2 h3 ⊢
        unfold followS
        rw [if_pos ⟨hsw, by omega, by omega⟩, if_pos (by omega)]
        omega
    refine Ev.ite' (fun h4 => ?_) (fun h4 => main (.inl (by omega)))
    rw [show wrap64 (a + (o.size : Int)) = a + (o.size : Int) by unfold wrap64; omega]
    by_cases h5 : x ≤ a + (o.size : Int)
    · rw [decide_eq_true h5]
      exact out
    · rw [decide_eq_false h5]
      exact main (.inr (by omega))
  · exact Ev.neg (by simpa using hf) (Ev.now _)
end Go.Proofs.Ythpjagblnddjaaa.PB
end

section
namespace Go.Proofs.Ythpjagblnddjaaa.PB
open Go.ChangeShapes Go.WideShapes Go.ChangeAt Go.RowKit Go.Proofs.YthpjagblnddjaaaW.PrintWords
open Go.ChangeMaps (open_string shut_string)
set_option linter.unusedVariables false
namespace editFollows
open Go.Proofs.Ythpjagblnddjaaa
theorem own : ownKnob Try.prog.godebug = none := by kernel_rfl
theorem laidOut : laidOutB Try.prog = true := by kernel_rfl
set_option maxRecDepth 100000 in
theorem lifted (os : Os) (started : os.Started) (H : Type) (enc : TypeId × Value → H) :
    ReturnsInHanded {} Try.checked os 14 .any (Rows.editFollowsSpec.pre6 enc Try.prog Try.f14 Rows.editFollowsRow.domain false) (Rows.editFollowsSpec.post enc Try.prog Try.f14 false true false false) := by
  refine returnsInHanded_of_change_sized (C := Try.checked) own started (by kernel_rfl) Try.func14
    (ChangeSpec.witness6 (enc := enc) (C := Try.checked) false ⟨#[], #[.agg #[.int .i64 0, .string ByteArray.empty, .slice none 0 0, .string ByteArray.empty, .slice none 0 0], .int .i64 0], []⟩ 8 (by kernel_rfl) (by kernel_rfl) (by kernel_rfl) (by kernel_rfl)) ?_
  intro W base args ds gs before hval0 hW hcnd hsz0 _
  have hsz : (DataW.weightsEach Try.prog (Try.f14.params.toList ++ Rows.editFollowsSpec.plain.varTypes Try.prog) (ds ++ gs)).all (· ≤ reachBytes) = true := hsz0
  have hval : ∀ (j : Nat) t v, Try.f14.params[j]? = some t → args[j]? = some v → Value.okWide Try.prog W .any base t v := hval0
  have hW' := hW
  obtain ⟨p, q, hA0, hV, rfl, hfz, hnd⟩ := hW
  have hA : DataW.TrodAll enc Try.prog W 0 (fun _ => true) true Try.f14.params.toList args.toList ds p := hA0
  rw [Try.params14] at hA hval hsz
  obtain ⟨v0, vs0, d0, ds0, p0, q0, hargs, rfl, rfl, h0, r0⟩ := trodAll_cons hA
  obtain ⟨v1, vs1, d1, ds1, p1, q1, rfl, rfl, rfl, h1, r1⟩ := trodAll_cons r0
  obtain ⟨rfl, rfl, rfl⟩ := trodAll_nil r1
  obtain rfl : args = #[v0, v1] := by cases args; simp_all
  obtain ⟨rfl, rfl⟩ := trodVars_none hV
  have hz0 : ∀ n ∈ d0.weights Try.prog 64, n ≤ reachBytes := fun n hn => by have z := List.all_eq_true.1 hsz n (DataW.weights_mem_each (j := 0) rfl rfl n hn); simpa using z
  have kk0 := h0
  have lt0 : ∀ x ∈ p0, x.block < W.heap.size := by obtain ⟨m, hm⟩ := kk0; exact DataW.trod_lt m _ _ _ hm
  obtain ⟨cs0, rfl, cz0⟩ := okWide_struct Try.underlying64 (hval 0 64 v0 rfl rfl)
  obtain ⟨x0, hK0, w0⟩ : ∃ x : S64, k64.K W x cs0.toList ∧ wf64 x := by
    obtain ⟨fuel, hf⟩ := h0
    exact opn64 H enc _ _ _ fuel _ _ hf hz0
  obtain ⟨A0_2, c0_2, A0_4, c0_4, hcs0, hc0_2, hr0_2, hc0_4, hr0_4⟩ := k64_open hK0
  obtain rfl : cs0 = #[.int .i64 x0.f0, .string x0.f1.f0, .slice A0_2 x0.f1.f1.length c0_2, .string x0.f2.f0, .slice A0_4 x0.f2.f1.length c0_4] := Array.toList_inj.1 hcs0
  obtain ⟨a1, rfl, rfl, rfl, w1⟩ := open_int Try.underlying3 (hval 1 3 v1 rfl rfl) h1
  clear hA0 hval0 hsz0 hsz
  obtain ⟨k, hk⟩ := EditFollows_pure x0 a1 w0 w1
  refine (bureaulaw07_EditFollows.calls k x0.f0 x0.f1.f0 _ _ x0.f1.f1 x0.f2.f0 _ _ x0.f2.f1 a1 true W hr0_2 hc0_2 hr0_4 hc0_4 hk).mono fun e W' ⟨he, bel⟩ => ?_
  subst he
  exact ⟨_, rfl, _, _, _, [], _, [], hW', trodAll_mk1 (shut_bool Try.underlying4 _), (trodAll_cons_mk (Below.trod laidOut (by kernel_rfl) (of_decide_eq_true (by kernel_rfl)) kk0 bel lt0) (trodAll_cons_mk (shut_int Try.underlying3 w1) trodAll_mk0)), rfl, bel.frame _, fun h => by cases h⟩
theorem over : Rows.editFollowsRow.holds Try.pinned (OpenSpec.ofChange Rows.editFollowsSpec) :=
  OpenClaim.holds_of_wide 14 Try.f14 rfl rfl rfl rfl rfl rfl rfl ⟨rfl, rfl, rfl, rfl, rfl⟩ rfl rfl rfl rfl rfl (by kernel_rfl) Try.func14 (by kernel_rfl)
    (of_decide_eq_true (by kernel_rfl)) (by unfold Func.isWrapper; first | (rw [if_pos (by decide +kernel)]; kernel_rfl) | (rw [if_neg (by decide +kernel)]; exact ⟨rfl, rfl⟩))
    (fun os started H enc _ => lifted os started H enc)
theorem proved : Rows.EditFollowsSaid := over
end editFollows
end Go.Proofs.Ythpjagblnddjaaa.PB
namespace Go.Proofs.Ythpjagblnddjaaa
theorem editFollows_holds : Rows.EditFollowsSaid := PB.editFollows.proved
#print axioms editFollows_holds
end Go.Proofs.Ythpjagblnddjaaa
end
