/- What the row hangs on, part 6. -/
import Derived.Test.YthpjagblnddjaaaQEditMakes5
section
namespace Go.Proofs.Ythpjagblnddjaaa.PB
open Go.RowKit Go.Proofs.YthpjagblnddjaaaW.PrintWords Go.Proofs.YthpjagblnddjaaaW.PrintLast Go.Proofs.YthpjagblnddjaaaW.PrintMore
attribute [local go_sem] max2_int min2_int max_two min_two max_three min_three max_four min_four   
set_option linter.unusedVariables false
set_option linter.unusedSimpArgs false
def bureaulaw07_EditMakes.j0 : Nat → Bool → ByteArray → List (S100) → Int → Int → ByteArray → List (S100) → Option (Bool)
  | 0, _, _, _, _, _, _, _ => none
  | k + 1, x20, x642000, x642001, x643000, x643001, x644000, x644001 => if x20 = true then (some true) else ((edit_Of.f k x642000 x642001 x643000 x643001 x644000 x644001).bind fun bt647 => ((bureauref07_Of.f k x642000 x642001 x643000 x643001 x644000 x644001).bind fun bt658 => ((bureauref07_Same.f k bt647.1 bt647.2.1 bt647.2.2.1 bt647.2.2.2.1 bt647.2.2.2.2.1 bt658.1 bt658.2.1 bt658.2.2.1 bt658.2.2.2.1 bt658.2.2.2.2.1).bind fun t669 => (if t669 = true then (if bt647.2.2.2.2.2 = bt658.2.2.2.2.2 then ((edit_Invert.f bt647.1 bt647.2.1 bt647.2.2.1 bt647.2.2.2.1 bt647.2.2.2.2.1).bind fun bt670 => ((bureauref07_Invert.f bt658.1 bt658.2.1 bt658.2.2.1 bt658.2.2.2.1 bt658.2.2.2.2.1).bind fun bt679 => ((bureauref07_Same.f k bt670.1 bt670.2.1 bt670.2.2.1 bt670.2.2.2.1 bt670.2.2.2.2 bt679.1 bt679.2.1 bt679.2.2.1 bt679.2.2.2.1 bt679.2.2.2.2).bind fun t688 => (some t688)))) else (some false)) else (some false)))))
def bureaulaw07_EditMakes.f (k : Nat) (a0_0 : ByteArray) (l0_1 : List (S100)) (a1_0 : Int) (a1_1 : Int) (a2_0 : ByteArray) (l2_1 : List (S100)) : Option (Bool) := (bureaulaw07_alive.f k).bind fun t644 => (if t644 = true then ((bureaulaw04_Fits.f a0_0 l0_1).bind fun t645 => (if t645 = true then ((bureaulaw04_Fits.f a2_0 l2_1).bind fun t646 => (bureaulaw07_EditMakes.j0 k (!t646) a0_0 l0_1 a1_0 a1_1 a2_0 l2_1)) else (bureaulaw07_EditMakes.j0 k true a0_0 l0_1 a1_0 a1_1 a2_0 l2_1))) else (some false))
def bureaulaw07_EditMakes.T7 : Bool × List (List Nat × List Nat) := (true, [([], []), ([], []), ([0, 1], [0, 1]), ([2, 2], [2]), ([3], [3]), ([3], [3]), ([4, 5, 3], [3, 4, 5]), ([3, 6], [3, 6]), ([7, 3], [7]), ([8], [8]), ([9, 8, 8], [8, 9]), ([8], [8]), ([11, 10, 8], [8, 11]), ([10, 12, 12, 8], [8, 10, 12]), ([8, 13], [8, 13]), ([14, 13, 0, 1, 2, 3, 4, 5, 6, 7, 8, 9, 10, 11, 12, 13, 14], [14])])
def bureaulaw07_EditMakes.B7 : List Nat := [0, 0, 3, 7, 15, 15, 63, 127, 255, 511, 1023, 511, 4095, 8191, 16383, 32767]
theorem bureaulaw07_EditMakes.tab7 : rtab .any (opsOf Try.f13 7) = bureaulaw07_EditMakes.T7 := by kernel_rfl
theorem bureaulaw07_EditMakes.bits7 : waitsOk bureaulaw07_EditMakes.T7.2 bureaulaw07_EditMakes.B7 = true := by kernel_rfl
set_option maxHeartbeats 8000000 in
set_option maxRecDepth 100000 in
theorem bureaulaw07_EditMakes.calls (k : Nat) (a0_0 : ByteArray) (A0_1 : Option Addr) (c0_1 : Nat) (l0_1 : List (S100)) (a1_0 : Int) (a1_1 : Int) (a2_0 : ByteArray) (A2_1 : Option Addr) (c2_1 : Nat) (l2_1 : List (S100)) (r : Bool) (w : World) (hr0_1 : Kd.C k100 w A0_1 l0_1.length l0_1) (hc0_1 : l0_1.length ≤ c0_1) (hr2_1 : Kd.C k100 w A2_1 l2_1.length l2_1) (hc2_1 : l2_1.length ≤ c2_1) (h : bureaulaw07_EditMakes.f k a0_0 l0_1 a1_0 a1_1 a2_0 l2_1 = some r) :
    Calls Try.prog 13 #[.agg #[.string a0_0, .slice A0_1 l0_1.length c0_1], .agg #[.int .i64 a1_0, .int .i64 a1_1], .agg #[.string a2_0, .slice A2_1 l2_1.length c2_1]] w fun e w' => e = .returned (.bool r) ∧ Below w.heap.size w w' := by
  have hu51 := Try.underlying51
  have hu41 := Try.underlying41
  have hu64 := Try.underlying64
  have HR0_1 := Aside0.mk hr0_1
  have HC0_1 := Aside0.mk hc0_1
  clear hr0_1 hc0_1
  have HR2_1 := Aside0.mk hr2_1
  have HC2_1 := Aside0.mk hc2_1
  clear hr2_1 hc2_1
  have HB := Aside0.mk (Below.refl w.heap.size w)
  have H : ((bureaulaw07_alive.f k).bind fun t644 => (if t644 = true then ((bureaulaw04_Fits.f a0_0 l0_1).bind fun t645 => (if t645 = true then ((bureaulaw04_Fits.f a2_0 l2_1).bind fun t646 => (bureaulaw07_EditMakes.j0 k (!t646) a0_0 l0_1 a1_0 a1_1 a2_0 l2_1)) else (bureaulaw07_EditMakes.j0 k true a0_0 l0_1 a1_0 a1_1 a2_0 l2_1))) else (some false))) = some r := h
  clear h
  replace H := Option.bind_eq_some_iff.mp H
  obtain ⟨t644, A40, H⟩ := H
  replace H : (if t644 = true then ((bureaulaw04_Fits.f a0_0 l0_1).bind fun t645 => (if t645 = true then ((bureaulaw04_Fits.f a2_0 l2_1).bind fun t646 => (bureaulaw07_EditMakes.j0 k (!t646) a0_0 l0_1 a1_0 a1_1 a2_0 l2_1)) else (bureaulaw07_EditMakes.j0 k true a0_0 l0_1 a1_0 a1_1 a2_0 l2_1))) else (some false)) = some r := H
  have A4 := Aside0.mk A40
  clear A40
  by_cases c5 : t644 = true
  · subst c5
    have H1 : ((bureaulaw04_Fits.f a0_0 l0_1).bind fun t645 => (if t645 = true then ((bureaulaw04_Fits.f a2_0 l2_1).bind fun t646 => (bureaulaw07_EditMakes.j0 k (!t646) a0_0 l0_1 a1_0 a1_1 a2_0 l2_1)) else (bureaulaw07_EditMakes.j0 k true a0_0 l0_1 a1_0 a1_1 a2_0 l2_1))) = some r := by rw [if_pos rfl] at H; exact H
    clear H
    have H := H1
    clear H1
    have HC6 := Aside0.mk H
    clear H
    go_enter Try.func13, Try.ntmps13
    go_upto_region 3 with (first | ((with_reducible refine gate_dst (N := 3) rfl ?_); refine box_event ?hg (N := 3) ?hd (cs := #[.string a0_0, .slice A0_1 l0_1.length c0_1]) (t := 51) ?hr ?_; (case hd => rfl); (case hg => rfl); (case hr => first | (go_simp; done) | (go_simp; rfl)); intro gb641 hg w7 hbox hb; have n0_ := Aside0.mk (below_step (by repeat (first | (with_reducible first | exact HB.out | apply below_alloc | apply pw_below_drewN | apply below_drew1) | exact HB.out)) hb); have n1_ := Aside0.mk (hbox); have n2_ := Aside0.mk ((by rw [hg]; exact (below_size (by repeat (first | (with_reducible first | exact HB.out | apply below_alloc | apply pw_below_drewN | apply below_drew1) | exact HB.out))) : w.heap.size ≤ gb641)); have n3_ := Aside0.mk ((by rw [hg]; exact (below_size (by repeat (first | (with_reducible first | exact HB.out | apply below_alloc | apply pw_below_drewN | apply below_drew1) | exact HB.out))) : w.heap.size ≤ gb641)); clear HB; have HB := n0_; have BK641 := n1_; have GW641 := n2_; have GE641 := n3_; clear n0_ n1_ n2_ n3_; clear hb hbox hg) | ((with_reducible refine gate_dst (N := 4) rfl ?_); refine box_event ?hg (N := 4) ?hd (cs := #[.int .i64 a1_0, .int .i64 a1_1]) (t := 41) ?hr ?_; (case hd => rfl); (case hg => rfl); (case hr => first | (go_simp; done) | (go_simp; rfl)); intro gb642 hg w8 hbox hb; have n0_ := Aside0.mk (blk_below (g := gb641) (o := .cells #[.string a0_0, .slice A0_1 l0_1.length c0_1] 51 (0, 0)) (by (with_reducible repeat (first | refine blk_drewN ?_ _ | refine blk_drew ?_ | refine blk_alloc ?_ _)); exact BK641.out) hb); have n1_ := Aside0.mk (below_step (by repeat (first | (with_reducible first | exact HB.out | apply below_alloc | apply pw_below_drewN | apply below_drew1 | refine below_set ?_ GE641.out) | exact HB.out)) hb); have n2_ := Aside0.mk (hbox); have n3_ := Aside0.mk ((by rw [hg]; exact (below_size (by repeat (first | (with_reducible first | exact HB.out | apply below_alloc | apply pw_below_drewN | apply below_drew1 | refine below_set ?_ GE641.out) | exact HB.out))) : w.heap.size ≤ gb642)); have n4_ := Aside0.mk ((by rw [hg]; exact (below_size (by repeat (first | (with_reducible first | exact HB.out | apply below_alloc | apply pw_below_drewN | apply below_drew1 | refine below_set ?_ GE641.out) | exact HB.out))) : w.heap.size ≤ gb642)); have n5_ := Aside0.mk ((by rw [hg]; exact Nat.ne_of_lt (blk_lt (g := gb641) (o := .cells #[.string a0_0, .slice A0_1 l0_1.length c0_1] 51 (0, 0)) (by (with_reducible repeat (first | refine blk_drewN ?_ _ | refine blk_drew ?_ | refine blk_alloc ?_ _)); exact BK641.out)) : gb641 ≠ gb642)); have n6_ := Aside0.mk ((by rw [hg]; exact Nat.ne_of_gt (blk_lt (g := gb641) (o := .cells #[.string a0_0, .slice A0_1 l0_1.length c0_1] 51 (0, 0)) (by (with_reducible repeat (first | refine blk_drewN ?_ _ | refine blk_drew ?_ | refine blk_alloc ?_ _)); exact BK641.out)) : gb642 ≠ gb641)); clear BK641; clear HB; have BK641 := n0_; have HB := n1_; have BK642 := n2_; have GW642 := n3_; have GE642 := n4_; have NB641_642 := n5_; have NB642_641 := n6_; clear n0_ n1_ n2_ n3_ n4_ n5_ n6_; clear hb hbox hg) | ((with_reducible refine gate_dst (N := 5) rfl ?_); refine box_event ?hg (N := 5) ?hd (cs := #[.string a2_0, .slice A2_1 l2_1.length c2_1]) (t := 51) ?hr ?_; (case hd => rfl); (case hg => rfl); (case hr => first | (go_simp; done) | (go_simp; rfl)); intro gb643 hg w9 hbox hb; have n0_ := Aside0.mk (blk_below (g := gb641) (o := .cells #[.string a0_0, .slice A0_1 l0_1.length c0_1] 51 (0, 0)) (by (with_reducible repeat (first | refine blk_drewN ?_ _ | refine blk_drew ?_ | refine blk_alloc ?_ _)); exact BK641.out) hb); have n1_ := Aside0.mk (blk_below (g := gb642) (o := .cells #[.int .i64 a1_0, .int .i64 a1_1] 41 (0, 0)) (by (with_reducible repeat (first | refine blk_drewN ?_ _ | refine blk_drew ?_ | refine blk_alloc ?_ _)); exact BK642.out) hb); have n2_ := Aside0.mk (below_step (by repeat (first | (with_reducible first | exact HB.out | apply below_alloc | apply pw_below_drewN | apply below_drew1 | refine below_set ?_ GE641.out | refine below_set ?_ GE642.out) | exact HB.out)) hb); have n3_ := Aside0.mk (hbox); have n4_ := Aside0.mk ((by rw [hg]; exact (below_size (by repeat (first | (with_reducible first | exact HB.out | apply below_alloc | apply pw_below_drewN | apply below_drew1 | refine below_set ?_ GE641.out | refine below_set ?_ GE642.out) | exact HB.out))) : w.heap.size ≤ gb643)); have n5_ := Aside0.mk ((by rw [hg]; exact (below_size (by repeat (first | (with_reducible first | exact HB.out | apply below_alloc | apply pw_below_drewN | apply below_drew1 | refine below_set ?_ GE641.out | refine below_set ?_ GE642.out) | exact HB.out))) : w.heap.size ≤ gb643)); have n6_ := Aside0.mk ((by rw [hg]; exact Nat.ne_of_lt (blk_lt (g := gb641) (o := .cells #[.string a0_0, .slice A0_1 l0_1.length c0_1] 51 (0, 0)) (by (with_reducible repeat (first | refine blk_drewN ?_ _ | refine blk_drew ?_ | refine blk_alloc ?_ _)); exact BK641.out)) : gb641 ≠ gb643)); have n7_ := Aside0.mk ((by rw [hg]; exact Nat.ne_of_gt (blk_lt (g := gb641) (o := .cells #[.string a0_0, .slice A0_1 l0_1.length c0_1] 51 (0, 0)) (by (with_reducible repeat (first | refine blk_drewN ?_ _ | refine blk_drew ?_ | refine blk_alloc ?_ _)); exact BK641.out)) : gb643 ≠ gb641)); have n8_ := Aside0.mk ((by rw [hg]; exact Nat.ne_of_lt (blk_lt (g := gb642) (o := .cells #[.int .i64 a1_0, .int .i64 a1_1] 41 (0, 0)) (by (with_reducible repeat (first | refine blk_drewN ?_ _ | refine blk_drew ?_ | refine blk_alloc ?_ _)); exact BK642.out)) : gb642 ≠ gb643)); have n9_ := Aside0.mk ((by rw [hg]; exact Nat.ne_of_gt (blk_lt (g := gb642) (o := .cells #[.int .i64 a1_0, .int .i64 a1_1] 41 (0, 0)) (by (with_reducible repeat (first | refine blk_drewN ?_ _ | refine blk_drew ?_ | refine blk_alloc ?_ _)); exact BK642.out)) : gb643 ≠ gb642)); clear BK641; clear BK642; clear HB; have BK641 := n0_; have BK642 := n1_; have HB := n2_; have BK643 := n3_; have GW643 := n4_; have GE643 := n5_; have NB641_643 := n6_; have NB643_641 := n7_; have NB642_643 := n8_; have NB643_642 := n9_; clear n0_ n1_ n2_ n3_ n4_ n5_ n6_ n7_ n8_ n9_; clear hb hbox hg) | ((with_reducible refine gate_callee (f := 55) rfl ?_); refine goesL_ (some 11) rfl rfl Try.func55 (by kernel_rfl) rfl #[] rfl (by (try simp only [List.map_toArray, List.map_cons, List.map_nil]); first | done | rfl | (simp only [List.length_drop, List.length_take]; rfl)) ?_; (with_reducible refine (bureaulaw07_alive.calls k  true _ A4.out).mono ?_); rintro e w10 ⟨rfl, hb⟩; refine ⟨_, rfl, ?_⟩; have n0_ := Aside0.mk (blk_below (g := gb641) (o := .cells #[.string a0_0, .slice A0_1 l0_1.length c0_1] 51 (0, 0)) (by (with_reducible repeat (first | refine blk_drewN ?_ _ | refine blk_drew ?_ | refine blk_alloc ?_ _)); exact BK641.out) hb); have n1_ := Aside0.mk (blk_below (g := gb642) (o := .cells #[.int .i64 a1_0, .int .i64 a1_1] 41 (0, 0)) (by (with_reducible repeat (first | refine blk_drewN ?_ _ | refine blk_drew ?_ | refine blk_alloc ?_ _)); exact BK642.out) hb); have n2_ := Aside0.mk (blk_below (g := gb643) (o := .cells #[.string a2_0, .slice A2_1 l2_1.length c2_1] 51 (0, 0)) (by (with_reducible repeat (first | refine blk_drewN ?_ _ | refine blk_drew ?_ | refine blk_alloc ?_ _)); exact BK643.out) hb); have n3_ := Aside0.mk (below_step (by repeat (first | (with_reducible first | exact HB.out | apply below_alloc | apply pw_below_drewN | apply below_drew1 | refine below_set ?_ GE641.out | refine below_set ?_ GE642.out | refine below_set ?_ GE643.out) | exact HB.out)) hb); clear BK641; clear BK642; clear BK643; clear HB; have BK641 := n0_; have BK642 := n1_; have BK643 := n2_; have HB := n3_; clear n0_ n1_ n2_ n3_; (try clear hb); (try clear hb2); (try clear hk); (try clear hi)))
    (try simp only [Act.put, List.setIfInBounds_toArray, List.set_cons_zero, List.set_cons_succ])
    go_cut [20] (fun v20 wc => ∃ (kq : Nat) (x20_5 : Bool), v20 = .bool x20_5 ∧ Aside0 (bureaulaw07_EditMakes.j0 kq x20_5 a0_0 l0_1 a1_0 a1_1 a2_0 l2_1 = some r) ∧ Aside0 (kq ≤ k) ∧ Aside0 (wc.heap[gb641]? = some (.cells #[.string a0_0, (.slice A0_1 l0_1.length c0_1)] 51 (0, 0))) ∧ Aside0 (wc.heap[gb642]? = some (.cells #[.int .i64 a1_0, .int .i64 a1_1] 41 (0, 0))) ∧ Aside0 (wc.heap[gb643]? = some (.cells #[.string a2_0, (.slice A2_1 l2_1.length c2_1)] 51 (0, 0))) ∧ Aside0 (Below w.heap.size w wc))
    case first =>
      have H := HC6.out
      clear HC6
      replace H := Option.bind_eq_some_iff.mp H
      obtain ⟨t645, A110, H⟩ := H
      replace H : (if t645 = true then ((bureaulaw04_Fits.f a2_0 l2_1).bind fun t646 => (bureaulaw07_EditMakes.j0 k (!t646) a0_0 l0_1 a1_0 a1_1 a2_0 l2_1)) else (bureaulaw07_EditMakes.j0 k true a0_0 l0_1 a1_0 a1_1 a2_0 l2_1)) = some r := H
      have A11 := Aside0.mk A110
      clear A110
      by_cases c12 : t645 = true
      · subst c12
        have H1 : ((bureaulaw04_Fits.f a2_0 l2_1).bind fun t646 => (bureaulaw07_EditMakes.j0 k (!t646) a0_0 l0_1 a1_0 a1_1 a2_0 l2_1)) = some r := by rw [if_pos rfl] at H; exact H
        clear H
        have H := H1
        clear H1
        replace H := Option.bind_eq_some_iff.mp H
        obtain ⟨t646, A130, H⟩ := H
        replace H : (bureaulaw07_EditMakes.j0 k (!t646) a0_0 l0_1 a1_0 a1_1 a2_0 l2_1) = some r := H
        have A13 := Aside0.mk A130
        clear A130
        have H' := Aside0.mk H
        clear H
        have hnb14 := NB641_642.out
        have hnc14 := NB642_641.out
        have hnb15 := NB641_643.out
        have hnc15 := NB643_641.out
        have hcz16_0 : w10.cell? ⟨gb641, 0, none⟩ = some (.string a0_0) := (blk_cell BK641.out 0).trans rfl
        have hcz16_1 : w10.cell? ⟨gb641, 1, none⟩ = some (.slice A0_1 l0_1.length c0_1) := (blk_cell BK641.out 1).trans rfl
        have hfz16_0 := blk_frozen BK641.out 0
        have hfz16_1 := blk_frozen BK641.out 1
        go_wp2_with (first | ((with_reducible refine gate_callee (f := 45) rfl ?_); refine goesL_ (some 14) rfl rfl Try.func45 (by kernel_rfl) rfl #[.agg #[.string a0_0, .slice A0_1 l0_1.length c0_1]] rfl (by (try simp only [List.map_toArray, List.map_cons, List.map_nil]); first | done | rfl | (simp only [List.length_drop, List.length_take]; rfl)) ?_; (with_reducible refine (bureaulaw04_Fits.calls a0_0 _ _ l0_1 true _ ?side1 ?side2 A11.out).mono ?_); (case side1 => repeat (first | exact (Kd.C_below HR0_1.out HB.out) | (with_reducible refine Kd.C_alloc ?_ _) | (with_reducible refine Kd.C_drewN ?_ _) | (with_reducible refine Kd.C_drew ?_))); (case side2 => exact HC0_1.out); rintro e w17 ⟨rfl, hb⟩; refine ⟨_, rfl, ?_⟩; have n0_ := Aside0.mk (blk_below (g := gb641) (o := .cells #[.string a0_0, .slice A0_1 l0_1.length c0_1] 51 (0, 0)) (by (with_reducible repeat (first | refine blk_drewN ?_ _ | refine blk_drew ?_ | refine blk_alloc ?_ _)); exact BK641.out) hb); have n1_ := Aside0.mk (blk_below (g := gb642) (o := .cells #[.int .i64 a1_0, .int .i64 a1_1] 41 (0, 0)) (by (with_reducible repeat (first | refine blk_drewN ?_ _ | refine blk_drew ?_ | refine blk_alloc ?_ _)); exact BK642.out) hb); have n2_ := Aside0.mk (blk_below (g := gb643) (o := .cells #[.string a2_0, .slice A2_1 l2_1.length c2_1] 51 (0, 0)) (by (with_reducible repeat (first | refine blk_drewN ?_ _ | refine blk_drew ?_ | refine blk_alloc ?_ _)); exact BK643.out) hb); have n3_ := Aside0.mk (below_step (by repeat (first | (with_reducible first | exact HB.out | apply below_alloc | apply pw_below_drewN | apply below_drew1 | refine below_set ?_ GE641.out | refine below_set ?_ GE642.out | refine below_set ?_ GE643.out) | exact HB.out)) hb); clear BK641; clear BK642; clear BK643; clear HB; have BK641 := n0_; have BK642 := n1_; have BK643 := n2_; have HB := n3_; clear n0_ n1_ n2_ n3_; (try clear hb); (try clear hb2); (try clear hk); (try clear hi); have hnb18 := NB643_642.out; have hnc18 := NB642_643.out; have hcz19_0 : w17.cell? ⟨gb643, 0, none⟩ = some (.string a2_0) := (blk_cell BK643.out 0).trans rfl; have hcz19_1 : w17.cell? ⟨gb643, 1, none⟩ = some (.slice A2_1 l2_1.length c2_1) := (blk_cell BK643.out 1).trans rfl; have hfz19_0 := blk_frozen BK643.out 0; have hfz19_1 := blk_frozen BK643.out 1) | (go_at_call 45; (with_reducible refine (bureaulaw04_Fits.calls a2_0 _ _ l2_1 t646 _ ?side1 ?side2 A13.out).mono ?_); (case side1 => repeat (first | exact (Kd.C_below HR2_1.out HB.out) | (with_reducible refine Kd.C_alloc ?_ _) | (with_reducible refine Kd.C_drewN ?_ _) | (with_reducible refine Kd.C_drew ?_))); (case side2 => exact HC2_1.out); rintro e w20 ⟨rfl, hb⟩; have n0_ := Aside0.mk (blk_below (g := gb641) (o := .cells #[.string a0_0, .slice A0_1 l0_1.length c0_1] 51 (0, 0)) (by (with_reducible repeat (first | refine blk_drewN ?_ _ | refine blk_drew ?_ | refine blk_alloc ?_ _)); exact BK641.out) hb); have n1_ := Aside0.mk (blk_below (g := gb642) (o := .cells #[.int .i64 a1_0, .int .i64 a1_1] 41 (0, 0)) (by (with_reducible repeat (first | refine blk_drewN ?_ _ | refine blk_drew ?_ | refine blk_alloc ?_ _)); exact BK642.out) hb); have n2_ := Aside0.mk (blk_below (g := gb643) (o := .cells #[.string a2_0, .slice A2_1 l2_1.length c2_1] 51 (0, 0)) (by (with_reducible repeat (first | refine blk_drewN ?_ _ | refine blk_drew ?_ | refine blk_alloc ?_ _)); exact BK643.out) hb); have n3_ := Aside0.mk (below_step (by repeat (first | (with_reducible first | exact HB.out | apply below_alloc | apply pw_below_drewN | apply below_drew1 | refine below_set ?_ GE641.out | refine below_set ?_ GE642.out | refine below_set ?_ GE643.out) | exact HB.out)) hb); clear BK641; clear BK642; clear BK643; clear HB; have BK641 := n0_; have BK642 := n1_; have BK643 := n2_; have HB := n3_; clear n0_ n1_ n2_ n3_; (try clear hb); (try clear hb2); (try clear hk); (try clear hi)))
        go_meet
        case rel => exact ⟨_, (!t646), (by first | rfl | (simp; done) | (simp [*]; done)), H', ⟨by first | omega | exact Nat.le_refl _⟩, ⟨by (with_reducible repeat (first | refine blk_drewN ?_ _ | refine blk_drew ?_ | refine blk_alloc ?_ _)); exact BK641.out⟩, ⟨by (with_reducible repeat (first | refine blk_drewN ?_ _ | refine blk_drew ?_ | refine blk_alloc ?_ _)); exact BK642.out⟩, ⟨by (with_reducible repeat (first | refine blk_drewN ?_ _ | refine blk_drew ?_ | refine blk_alloc ?_ _)); exact BK643.out⟩, ⟨by repeat (first | (with_reducible first | exact HB.out | apply below_alloc | apply pw_below_drewN | apply below_drew1 | refine below_set ?_ GE641.out | refine below_set ?_ GE642.out | refine below_set ?_ GE643.out) | exact HB.out)⟩⟩
      · replace c12 := Bool.eq_false_iff.mpr c12
        subst c12
        have H1 : (bureaulaw07_EditMakes.j0 k true a0_0 l0_1 a1_0 a1_1 a2_0 l2_1) = some r := by rw [if_neg (show ¬ (false = true) by decide)] at H; exact H
        clear H
        have H := H1
        clear H1
        have H' := Aside0.mk H
        clear H
        have hnb21 := NB641_642.out
        have hnc21 := NB642_641.out
        have hnb22 := NB641_643.out
        have hnc22 := NB643_641.out
        have hcz23_0 : w10.cell? ⟨gb641, 0, none⟩ = some (.string a0_0) := (blk_cell BK641.out 0).trans rfl
        have hcz23_1 : w10.cell? ⟨gb641, 1, none⟩ = some (.slice A0_1 l0_1.length c0_1) := (blk_cell BK641.out 1).trans rfl
        have hfz23_0 := blk_frozen BK641.out 0
        have hfz23_1 := blk_frozen BK641.out 1
        go_wp2_with (first | ((with_reducible refine gate_callee (f := 45) rfl ?_); refine goesL_ (some 14) rfl rfl Try.func45 (by kernel_rfl) rfl #[.agg #[.string a0_0, .slice A0_1 l0_1.length c0_1]] rfl (by (try simp only [List.map_toArray, List.map_cons, List.map_nil]); first | done | rfl | (simp only [List.length_drop, List.length_take]; rfl)) ?_; (with_reducible refine (bureaulaw04_Fits.calls a0_0 _ _ l0_1 false _ ?side1 ?side2 A11.out).mono ?_); (case side1 => repeat (first | exact (Kd.C_below HR0_1.out HB.out) | (with_reducible refine Kd.C_alloc ?_ _) | (with_reducible refine Kd.C_drewN ?_ _) | (with_reducible refine Kd.C_drew ?_))); (case side2 => exact HC0_1.out); rintro e w24 ⟨rfl, hb⟩; refine ⟨_, rfl, ?_⟩; have n0_ := Aside0.mk (blk_below (g := gb641) (o := .cells #[.string a0_0, .slice A0_1 l0_1.length c0_1] 51 (0, 0)) (by (with_reducible repeat (first | refine blk_drewN ?_ _ | refine blk_drew ?_ | refine blk_alloc ?_ _)); exact BK641.out) hb); have n1_ := Aside0.mk (blk_below (g := gb642) (o := .cells #[.int .i64 a1_0, .int .i64 a1_1] 41 (0, 0)) (by (with_reducible repeat (first | refine blk_drewN ?_ _ | refine blk_drew ?_ | refine blk_alloc ?_ _)); exact BK642.out) hb); have n2_ := Aside0.mk (blk_below (g := gb643) (o := .cells #[.string a2_0, .slice A2_1 l2_1.length c2_1] 51 (0, 0)) (by (with_reducible repeat (first | refine blk_drewN ?_ _ | refine blk_drew ?_ | refine blk_alloc ?_ _)); exact BK643.out) hb); have n3_ := Aside0.mk (below_step (by repeat (first | (with_reducible first | exact HB.out | apply below_alloc | apply pw_below_drewN | apply below_drew1 | refine below_set ?_ GE641.out | refine below_set ?_ GE642.out | refine below_set ?_ GE643.out) | exact HB.out)) hb); clear BK641; clear BK642; clear BK643; clear HB; have BK641 := n0_; have BK642 := n1_; have BK643 := n2_; have HB := n3_; clear n0_ n1_ n2_ n3_; (try clear hb); (try clear hb2); (try clear hk); (try clear hi)))
        go_meet
        case rel => exact ⟨_, (true), (by first | rfl | (simp; done) | (simp [*]; done)), H', ⟨by first | omega | exact Nat.le_refl _⟩, ⟨by (with_reducible repeat (first | refine blk_drewN ?_ _ | refine blk_drew ?_ | refine blk_alloc ?_ _)); exact BK641.out⟩, ⟨by (with_reducible repeat (first | refine blk_drewN ?_ _ | refine blk_drew ?_ | refine blk_alloc ?_ _)); exact BK642.out⟩, ⟨by (with_reducible repeat (first | refine blk_drewN ?_ _ | refine blk_drew ?_ | refine blk_alloc ?_ _)); exact BK643.out⟩, ⟨by repeat (first | (with_reducible first | exact HB.out | apply below_alloc | apply pw_below_drewN | apply below_drew1 | refine below_set ?_ GE641.out | refine below_set ?_ GE642.out | refine below_set ?_ GE643.out) | exact HB.out)⟩⟩
    case rest =>
      clear HC6
      try clear c1
      try clear c2
      try clear p2
      try clear c4
      try clear c5
      try clear c12
      try clear c13
      try clear c14
      try clear c15
      try clear c18
      try clear c21
      try clear c22
      try clear hcz16_0
      try clear hcz16_1
      try clear hcz19_0
      try clear hcz19_1
      try clear hcz23_0
      try clear hcz23_1
      try clear hfz16_0
      try clear hfz16_1
      try clear hfz19_0
      try clear hfz19_1
      try clear hfz23_0
      try clear hfz23_1
      obtain ⟨kq, x20_5, rfl, HA, HJ5, BK641, BK642, BK643, HB⟩ := hcut
      cases kq with
      | zero => exact absurd HA.out (by simp [bureaulaw07_EditMakes.j0])
      | succ kj5 =>
        have H := HA.out
        clear HA
        simp only [bureaulaw07_EditMakes.j0] at H
        by_cases c25 : x20_5 = true
        · subst c25
          have H1 : (some true) = some r := by rw [if_pos rfl] at H; exact H
          clear H
          have H := H1
          clear H1
          obtain rfl := Option.some.inj H
          go_wp2
          go_ret
          exact ⟨by first | rfl | (simp [errW_none, errW_some] <;> rfl) | (simp [*, errW_none, errW_some] <;> rfl), by repeat (first | (with_reducible first | exact HB.out | apply below_alloc | apply pw_below_drewN | apply below_drew1 | refine below_set ?_ GE641.out | refine below_set ?_ GE642.out | refine below_set ?_ GE643.out) | exact HB.out)⟩
        · replace c25 := Bool.eq_false_iff.mpr c25
          subst c25
          have H1 : ((edit_Of.f kj5 a0_0 l0_1 a1_0 a1_1 a2_0 l2_1).bind fun bt647 => ((bureauref07_Of.f kj5 a0_0 l0_1 a1_0 a1_1 a2_0 l2_1).bind fun bt658 => ((bureauref07_Same.f kj5 bt647.1 bt647.2.1 bt647.2.2.1 bt647.2.2.2.1 bt647.2.2.2.2.1 bt658.1 bt658.2.1 bt658.2.2.1 bt658.2.2.2.1 bt658.2.2.2.2.1).bind fun t669 => (if t669 = true then (if bt647.2.2.2.2.2 = bt658.2.2.2.2.2 then ((edit_Invert.f bt647.1 bt647.2.1 bt647.2.2.1 bt647.2.2.2.1 bt647.2.2.2.2.1).bind fun bt670 => ((bureauref07_Invert.f bt658.1 bt658.2.1 bt658.2.2.1 bt658.2.2.2.1 bt658.2.2.2.2.1).bind fun bt679 => ((bureauref07_Same.f kj5 bt670.1 bt670.2.1 bt670.2.2.1 bt670.2.2.2.1 bt670.2.2.2.2 bt679.1 bt679.2.1 bt679.2.2.1 bt679.2.2.2.1 bt679.2.2.2.2).bind fun t688 => (some t688)))) else (some false)) else (some false))))) = some r := by rw [if_neg (show ¬ (false = true) by decide)] at H; exact H
          clear H
          have H := H1
          clear H1
          replace H := Option.bind_eq_some_iff.mp H
          obtain ⟨⟨t647, t648, t649, t652, t653, t656⟩, A260, H⟩ := H
          replace H : ((bureauref07_Of.f kj5 a0_0 l0_1 a1_0 a1_1 a2_0 l2_1).bind fun bt658 => ((bureauref07_Same.f kj5 t647 t648 t649 t652 t653 bt658.1 bt658.2.1 bt658.2.2.1 bt658.2.2.2.1 bt658.2.2.2.2.1).bind fun t669 => (if t669 = true then (if t656 = bt658.2.2.2.2.2 then ((edit_Invert.f t647 t648 t649 t652 t653).bind fun bt670 => ((bureauref07_Invert.f bt658.1 bt658.2.1 bt658.2.2.1 bt658.2.2.2.1 bt658.2.2.2.2.1).bind fun bt679 => ((bureauref07_Same.f kj5 bt670.1 bt670.2.1 bt670.2.2.1 bt670.2.2.2.1 bt670.2.2.2.2 bt679.1 bt679.2.1 bt679.2.2.1 bt679.2.2.2.1 bt679.2.2.2.2).bind fun t688 => (some t688)))) else (some false)) else (some false)))) = some r := H
          have A26 := Aside0.mk A260
          clear A260
          replace H := Option.bind_eq_some_iff.mp H
          obtain ⟨⟨t658, t659, t660, t663, t664, t667⟩, A270, H⟩ := H
          replace H : ((bureauref07_Same.f kj5 t647 t648 t649 t652 t653 t658 t659 t660 t663 t664).bind fun t669 => (if t669 = true then (if t656 = t667 then ((edit_Invert.f t647 t648 t649 t652 t653).bind fun bt670 => ((bureauref07_Invert.f t658 t659 t660 t663 t664).bind fun bt679 => ((bureauref07_Same.f kj5 bt670.1 bt670.2.1 bt670.2.2.1 bt670.2.2.2.1 bt670.2.2.2.2 bt679.1 bt679.2.1 bt679.2.2.1 bt679.2.2.2.1 bt679.2.2.2.2).bind fun t688 => (some t688)))) else (some false)) else (some false))) = some r := H
          have A27 := Aside0.mk A270
          clear A270
          replace H := Option.bind_eq_some_iff.mp H
          obtain ⟨t669, A280, H⟩ := H
          replace H : (if t669 = true then (if t656 = t667 then ((edit_Invert.f t647 t648 t649 t652 t653).bind fun bt670 => ((bureauref07_Invert.f t658 t659 t660 t663 t664).bind fun bt679 => ((bureauref07_Same.f kj5 bt670.1 bt670.2.1 bt670.2.2.1 bt670.2.2.2.1 bt670.2.2.2.2 bt679.1 bt679.2.1 bt679.2.2.1 bt679.2.2.2.1 bt679.2.2.2.2).bind fun t688 => (some t688)))) else (some false)) else (some false)) = some r := H
          have A28 := Aside0.mk A280
          clear A280
          by_cases c29 : t669 = true
          · subst c29
            have H1 : (if t656 = t667 then ((edit_Invert.f t647 t648 t649 t652 t653).bind fun bt670 => ((bureauref07_Invert.f t658 t659 t660 t663 t664).bind fun bt679 => ((bureauref07_Same.f kj5 bt670.1 bt670.2.1 bt670.2.2.1 bt670.2.2.2.1 bt670.2.2.2.2 bt679.1 bt679.2.1 bt679.2.2.1 bt679.2.2.2.1 bt679.2.2.2.2).bind fun t688 => (some t688)))) else (some false)) = some r := by rw [if_pos rfl] at H; exact H
            clear H
            have H := H1
            clear H1
            by_cases c30 : t656 = t667
            · rw [if_pos c30] at H
              have c30b0 : (t656 == t667) = true := beq_iff_eq.mpr c30
              have c30b1 : (t656 != t667) = false := bne_eq_false_iff_eq.mpr c30
              clear c30
              replace H := Option.bind_eq_some_iff.mp H
              obtain ⟨⟨t670, t671, t672, t675, t676⟩, A310, H⟩ := H
              replace H : ((bureauref07_Invert.f t658 t659 t660 t663 t664).bind fun bt679 => ((bureauref07_Same.f kj5 t670 t671 t672 t675 t676 bt679.1 bt679.2.1 bt679.2.2.1 bt679.2.2.2.1 bt679.2.2.2.2).bind fun t688 => (some t688))) = some r := H
              have A31 := Aside0.mk A310
              clear A310
              replace H := Option.bind_eq_some_iff.mp H
              obtain ⟨⟨t679, t680, t681, t684, t685⟩, A320, H⟩ := H
              replace H : ((bureauref07_Same.f kj5 t670 t671 t672 t675 t676 t679 t680 t681 t684 t685).bind fun t688 => (some t688)) = some r := H
              have A32 := Aside0.mk A320
              clear A320
              replace H := Option.bind_eq_some_iff.mp H
              obtain ⟨t688, A330, H⟩ := H
              replace H : (some t688) = some r := H
              have A33 := Aside0.mk A330
              clear A330
              obtain rfl := Option.some.inj H
              have hnb34 := NB641_642.out
              have hnc34 := NB642_641.out
              have hnb35 := NB641_643.out
              have hnc35 := NB643_641.out
              have hcz36_0 : wc.cell? ⟨gb641, 0, none⟩ = some (.string a0_0) := (blk_cell BK641.out 0).trans rfl
              have hcz36_1 : wc.cell? ⟨gb641, 1, none⟩ = some (.slice A0_1 l0_1.length c0_1) := (blk_cell BK641.out 1).trans rfl
              have hfz36_0 := blk_frozen BK641.out 0
              have hfz36_1 := blk_frozen BK641.out 1
              have hnb37 := NB642_643.out
              have hnc37 := NB643_642.out
              have hcz38_0 : wc.cell? ⟨gb642, 0, none⟩ = some (.int .i64 a1_0) := (blk_cell BK642.out 0).trans rfl
              have hcz38_1 : wc.cell? ⟨gb642, 1, none⟩ = some (.int .i64 a1_1) := (blk_cell BK642.out 1).trans rfl
              have hfz38_0 := blk_frozen BK642.out 0
              have hfz38_1 := blk_frozen BK642.out 1
              have hcz39_0 : wc.cell? ⟨gb643, 0, none⟩ = some (.string a2_0) := (blk_cell BK643.out 0).trans rfl
              have hcz39_1 : wc.cell? ⟨gb643, 1, none⟩ = some (.slice A2_1 l2_1.length c2_1) := (blk_cell BK643.out 1).trans rfl
              have hfz39_0 := blk_frozen BK643.out 0
              have hfz39_1 := blk_frozen BK643.out 1
              try go_wp2_with (first | ((with_reducible refine gate_callee (f := 56) rfl ?_); refine goesL_ (some 28) rfl rfl Try.func56 (by kernel_rfl) rfl #[.agg #[.string a0_0, .slice A0_1 l0_1.length c0_1], .int .i64 a1_0, .int .i64 a1_1, .agg #[.string a2_0, .slice A2_1 l2_1.length c2_1]] rfl (by (try simp only [List.map_toArray, List.map_cons, List.map_nil]); first | done | rfl | (simp only [List.length_drop, List.length_take]; rfl)) ?_; (with_reducible refine (edit_Of.calls kj5 a0_0 _ _ l0_1 a1_0 a1_1 a2_0 _ _ l2_1 t647 t648 t649 t652 t653 t656 _ ?side1 ?side2 ?side3 ?side4 A26.out).mono ?_); (case side1 => repeat (first | exact (Kd.C_below HR0_1.out HB.out) | (with_reducible refine Kd.C_alloc ?_ _) | (with_reducible refine Kd.C_drewN ?_ _) | (with_reducible refine Kd.C_drew ?_))); (case side2 => exact HC0_1.out); (case side3 => repeat (first | exact (Kd.C_below HR2_1.out HB.out) | (with_reducible refine Kd.C_alloc ?_ _) | (with_reducible refine Kd.C_drewN ?_ _) | (with_reducible refine Kd.C_drew ?_))); (case side4 => exact HC2_1.out); rintro e w40 ⟨v650, v654, rfl, ho0, ho1, hb⟩; refine ⟨_, rfl, ?_⟩; have n0_ := Aside0.mk (Kd.R_lower ho0 (below_size (by repeat (first | (with_reducible first | exact HB.out | apply below_alloc | apply pw_below_drewN | apply below_drew1 | refine below_set ?_ GE641.out | refine below_set ?_ GE642.out | refine below_set ?_ GE643.out) | exact HB.out)))); have n1_ := Aside0.mk (Kd.R_lower ho1 (below_size (by repeat (first | (with_reducible first | exact HB.out | apply below_alloc | apply pw_below_drewN | apply below_drew1 | refine below_set ?_ GE641.out | refine below_set ?_ GE642.out | refine below_set ?_ GE643.out) | exact HB.out)))); have n2_ := Aside0.mk (blk_below (g := gb641) (o := .cells #[.string a0_0, .slice A0_1 l0_1.length c0_1] 51 (0, 0)) (by (with_reducible repeat (first | refine blk_drewN ?_ _ | refine blk_drew ?_ | refine blk_alloc ?_ _)); exact BK641.out) hb); have n3_ := Aside0.mk (blk_below (g := gb642) (o := .cells #[.int .i64 a1_0, .int .i64 a1_1] 41 (0, 0)) (by (with_reducible repeat (first | refine blk_drewN ?_ _ | refine blk_drew ?_ | refine blk_alloc ?_ _)); exact BK642.out) hb); have n4_ := Aside0.mk (blk_below (g := gb643) (o := .cells #[.string a2_0, .slice A2_1 l2_1.length c2_1] 51 (0, 0)) (by (with_reducible repeat (first | refine blk_drewN ?_ _ | refine blk_drew ?_ | refine blk_alloc ?_ _)); exact BK643.out) hb); have n5_ := Aside0.mk (below_step (by repeat (first | (with_reducible first | exact HB.out | apply below_alloc | apply pw_below_drewN | apply below_drew1 | refine below_set ?_ GE641.out | refine below_set ?_ GE642.out | refine below_set ?_ GE643.out) | exact HB.out)) hb); clear BK641; clear BK642; clear BK643; clear HB; have HO651 := n0_; have HO655 := n1_; have BK641 := n2_; have BK642 := n3_; have BK643 := n4_; have HB := n5_; clear n0_ n1_ n2_ n3_ n4_ n5_; (try clear hb); (try clear hb2); (try clear hk); (try clear hi); (try clear ho0); (try clear ho1)) | ((with_reducible refine gate_dst (N := 7) rfl ?_); refine box_event ?hg (N := 7) ?hd (cs := #[.int .i64 0, .string (⟨#[]⟩ : ByteArray), .slice none 0 0, .string (⟨#[]⟩ : ByteArray), .slice none 0 0]) (t := 64) ?hr ?_; (case hd => rfl); (case hg => rfl); (case hr => first | (go_simp; done) | (go_simp; rfl)); intro gb657 hg w41 hbox hb; have n0_ := Aside0.mk (Kd.R_below (by (with_reducible repeat (first | apply Kd.R_alloc | apply Kd.R_drewN | apply Kd.R_drew)); exact HO651.out) hb); have n1_ := Aside0.mk (Kd.R_below (by (with_reducible repeat (first | apply Kd.R_alloc | apply Kd.R_drewN | apply Kd.R_drew)); exact HO655.out) hb); have n2_ := Aside0.mk (blk_below (g := gb641) (o := .cells #[.string a0_0, .slice A0_1 l0_1.length c0_1] 51 (0, 0)) (by (with_reducible repeat (first | refine blk_drewN ?_ _ | refine blk_drew ?_ | refine blk_alloc ?_ _)); exact BK641.out) hb); have n3_ := Aside0.mk (blk_below (g := gb642) (o := .cells #[.int .i64 a1_0, .int .i64 a1_1] 41 (0, 0)) (by (with_reducible repeat (first | refine blk_drewN ?_ _ | refine blk_drew ?_ | refine blk_alloc ?_ _)); exact BK642.out) hb); have n4_ := Aside0.mk (blk_below (g := gb643) (o := .cells #[.string a2_0, .slice A2_1 l2_1.length c2_1] 51 (0, 0)) (by (with_reducible repeat (first | refine blk_drewN ?_ _ | refine blk_drew ?_ | refine blk_alloc ?_ _)); exact BK643.out) hb); have n5_ := Aside0.mk (below_step (by repeat (first | (with_reducible first | exact HB.out | apply below_alloc | apply pw_below_drewN | apply below_drew1 | refine below_set ?_ GE641.out | refine below_set ?_ GE642.out | refine below_set ?_ GE643.out) | exact HB.out)) hb); have n6_ := Aside0.mk (hbox); have n7_ := Aside0.mk ((by rw [hg]; exact (below_size (by repeat (first | (with_reducible first | exact HB.out | apply below_alloc | apply pw_below_drewN | apply below_drew1 | refine below_set ?_ GE641.out | refine below_set ?_ GE642.out | refine below_set ?_ GE643.out) | exact HB.out))) : w.heap.size ≤ gb657)); have n8_ := Aside0.mk ((by rw [hg]; exact (below_size (by repeat (first | (with_reducible first | exact HB.out | apply below_alloc | apply pw_below_drewN | apply below_drew1 | refine below_set ?_ GE641.out | refine below_set ?_ GE642.out | refine below_set ?_ GE643.out) | exact HB.out))) : w.heap.size ≤ gb657)); have n9_ := Aside0.mk ((by rw [hg]; exact Nat.ne_of_lt (blk_lt (g := gb641) (o := .cells #[.string a0_0, .slice A0_1 l0_1.length c0_1] 51 (0, 0)) (by (with_reducible repeat (first | refine blk_drewN ?_ _ | refine blk_drew ?_ | refine blk_alloc ?_ _)); exact BK641.out)) : gb641 ≠ gb657)); have n10_ := Aside0.mk ((by rw [hg]; exact Nat.ne_of_gt (blk_lt (g := gb641) (o := .cells #[.string a0_0, .slice A0_1 l0_1.length c0_1] 51 (0, 0)) (by (with_reducible repeat (first | refine blk_drewN ?_ _ | refine blk_drew ?_ | refine blk_alloc ?_ _)); exact BK641.out)) : gb657 ≠ gb641)); have n11_ := Aside0.mk ((by rw [hg]; exact Nat.ne_of_lt (blk_lt (g := gb642) (o := .cells #[.int .i64 a1_0, .int .i64 a1_1] 41 (0, 0)) (by (with_reducible repeat (first | refine blk_drewN ?_ _ | refine blk_drew ?_ | refine blk_alloc ?_ _)); exact BK642.out)) : gb642 ≠ gb657)); have n12_ := Aside0.mk ((by rw [hg]; exact Nat.ne_of_gt (blk_lt (g := gb642) (o := .cells #[.int .i64 a1_0, .int .i64 a1_1] 41 (0, 0)) (by (with_reducible repeat (first | refine blk_drewN ?_ _ | refine blk_drew ?_ | refine blk_alloc ?_ _)); exact BK642.out)) : gb657 ≠ gb642)); have n13_ := Aside0.mk ((by rw [hg]; exact Nat.ne_of_lt (blk_lt (g := gb643) (o := .cells #[.string a2_0, .slice A2_1 l2_1.length c2_1] 51 (0, 0)) (by (with_reducible repeat (first | refine blk_drewN ?_ _ | refine blk_drew ?_ | refine blk_alloc ?_ _)); exact BK643.out)) : gb643 ≠ gb657)); have n14_ := Aside0.mk ((by rw [hg]; exact Nat.ne_of_gt (blk_lt (g := gb643) (o := .cells #[.string a2_0, .slice A2_1 l2_1.length c2_1] 51 (0, 0)) (by (with_reducible repeat (first | refine blk_drewN ?_ _ | refine blk_drew ?_ | refine blk_alloc ?_ _)); exact BK643.out)) : gb657 ≠ gb643)); clear HO651; clear HO655; clear BK641; clear BK642; clear BK643; clear HB; have HO651 := n0_; have HO655 := n1_; have BK641 := n2_; have BK642 := n3_; have BK643 := n4_; have HB := n5_; have BK657 := n6_; have GW657 := n7_; have GE657 := n8_; have NB641_657 := n9_; have NB657_641 := n10_; have NB642_657 := n11_; have NB657_642 := n12_; have NB643_657 := n13_; have NB657_643 := n14_; clear n0_ n1_ n2_ n3_ n4_ n5_ n6_ n7_ n8_ n9_ n10_ n11_ n12_ n13_ n14_; clear hb hbox hg; have hnb42 := NB657_641.out; have hnc42 := NB641_657.out; have hnb43 := NB657_642.out; have hnc43 := NB642_657.out; have hnb44 := NB657_643.out; have hnc44 := NB643_657.out; have hcz45_0 : w41.cell? ⟨gb657, 0, none⟩ = some (.int .i64 0) := (blk_cell BK657.out 0).trans rfl; have hcz45_1 : w41.cell? ⟨gb657, 1, none⟩ = some (.string (⟨#[]⟩ : ByteArray)) := (blk_cell BK657.out 1).trans rfl; have hcz45_2 : w41.cell? ⟨gb657, 2, none⟩ = some (.slice none 0 0) := (blk_cell BK657.out 2).trans rfl; have hcz45_3 : w41.cell? ⟨gb657, 3, none⟩ = some (.string (⟨#[]⟩ : ByteArray)) := (blk_cell BK657.out 3).trans rfl; have hcz45_4 : w41.cell? ⟨gb657, 4, none⟩ = some (.slice none 0 0) := (blk_cell BK657.out 4).trans rfl; have hfz45_0 := blk_frozen BK657.out 0; have hfz45_1 := blk_frozen BK657.out 1; have hfz45_2 := blk_frozen BK657.out 2; have hfz45_3 := blk_frozen BK657.out 3; have hfz45_4 := blk_frozen BK657.out 4; obtain ⟨Ao46, co46, eo46⟩ := Kd.R_slice HO651.out; subst eo46; obtain ⟨Ao47, co47, eo47⟩ := Kd.R_slice HO655.out; subst eo47) | ((with_reducible refine gate_store (t := 64) (p := 7) rfl ?_); refine store_event (t := 64) (p := 7) (v := ?vo_w48) (w1 := (((((w41.setCell ⟨gb657, 0, none⟩ (.int .i64 t647)).setCell ⟨gb657, 1, none⟩ (.string t648)).setCell ⟨gb657, 2, none⟩ (.slice Ao46 t649.length co46)).setCell ⟨gb657, 3, none⟩ (.string t652)).setCell ⟨gb657, 4, none⟩ (.slice Ao47 t653.length co47))) ?hg ?ho ?hn ?hr ?_; (case ho => rfl); (case hg => rfl); (case hn => rfl); (case hr => first | (go_simp; done) | (go_simp; rfl)); intro w48 hw; have n0_ : Aside0 (Kd.R k100 100 w48 w.heap.size (fun k_ => some k_ ≠ (.slice Ao47 t653.length co47 : Value).ownBlock) (.slice Ao46 t649.length co46) t649) := ⟨(by rw [hw]; exact (by (with_reducible repeat (first | apply Kd.R_alloc | apply Kd.R_drewN | apply Kd.R_drew)); exact Kd.R_mono (Kd.R_far (p := ⟨gb657, 4, none⟩) (Kd.R_far (p := ⟨gb657, 3, none⟩) (Kd.R_far (p := ⟨gb657, 2, none⟩) (Kd.R_far (p := ⟨gb657, 1, none⟩) (Kd.R_far (p := ⟨gb657, 0, none⟩) (Kd.R_types HO651.out BK657.out (by decide)) (fun _ hk => hk.2) (.int .i64 t647)) (fun _ hk => hk.2) (.string t648)) (fun _ hk => hk.2) (.slice Ao46 t649.length co46)) (fun _ hk => hk.2) (.string t652)) (fun _ hk => hk.2) (.slice Ao47 t653.length co47)) (fun _ hk => hk.1)))⟩; have n1_ : Aside0 (Kd.R k100 100 w48 w.heap.size (fun k_ => some k_ ≠ (.slice Ao46 t649.length co46 : Value).ownBlock) (.slice Ao47 t653.length co47) t653) := ⟨(by rw [hw]; exact (by (with_reducible repeat (first | apply Kd.R_alloc | apply Kd.R_drewN | apply Kd.R_drew)); exact Kd.R_mono (Kd.R_far (p := ⟨gb657, 4, none⟩) (Kd.R_far (p := ⟨gb657, 3, none⟩) (Kd.R_far (p := ⟨gb657, 2, none⟩) (Kd.R_far (p := ⟨gb657, 1, none⟩) (Kd.R_far (p := ⟨gb657, 0, none⟩) (Kd.R_types HO655.out BK657.out (by decide)) (fun _ hk => hk.2) (.int .i64 t647)) (fun _ hk => hk.2) (.string t648)) (fun _ hk => hk.2) (.slice Ao46 t649.length co46)) (fun _ hk => hk.2) (.string t652)) (fun _ hk => hk.2) (.slice Ao47 t653.length co47)) (fun _ hk => hk.1)))⟩; have n2_ : Aside0 (w48.heap[gb641]? = some (.cells #[.string a0_0, .slice A0_1 l0_1.length c0_1] 51 (0, 0))) := ⟨(by rw [hw]; exact (by (with_reducible repeat (first | refine blk_drewN ?_ _ | refine blk_drew ?_ | refine blk_alloc ?_ _)); refine blk_far ?_ NB641_657.out _; (with_reducible repeat (first | refine blk_drewN ?_ _ | refine blk_drew ?_ | refine blk_alloc ?_ _)); refine blk_far ?_ NB641_657.out _; (with_reducible repeat (first | refine blk_drewN ?_ _ | refine blk_drew ?_ | refine blk_alloc ?_ _)); refine blk_far ?_ NB641_657.out _; (with_reducible repeat (first | refine blk_drewN ?_ _ | refine blk_drew ?_ | refine blk_alloc ?_ _)); refine blk_far ?_ NB641_657.out _; (with_reducible repeat (first | refine blk_drewN ?_ _ | refine blk_drew ?_ | refine blk_alloc ?_ _)); refine blk_far ?_ NB641_657.out _; (with_reducible repeat (first | refine blk_drewN ?_ _ | refine blk_drew ?_ | refine blk_alloc ?_ _)); exact BK641.out))⟩; have n3_ : Aside0 (w48.heap[gb642]? = some (.cells #[.int .i64 a1_0, .int .i64 a1_1] 41 (0, 0))) := ⟨(by rw [hw]; exact (by (with_reducible repeat (first | refine blk_drewN ?_ _ | refine blk_drew ?_ | refine blk_alloc ?_ _)); refine blk_far ?_ NB642_657.out _; (with_reducible repeat (first | refine blk_drewN ?_ _ | refine blk_drew ?_ | refine blk_alloc ?_ _)); refine blk_far ?_ NB642_657.out _; (with_reducible repeat (first | refine blk_drewN ?_ _ | refine blk_drew ?_ | refine blk_alloc ?_ _)); refine blk_far ?_ NB642_657.out _; (with_reducible repeat (first | refine blk_drewN ?_ _ | refine blk_drew ?_ | refine blk_alloc ?_ _)); refine blk_far ?_ NB642_657.out _; (with_reducible repeat (first | refine blk_drewN ?_ _ | refine blk_drew ?_ | refine blk_alloc ?_ _)); refine blk_far ?_ NB642_657.out _; (with_reducible repeat (first | refine blk_drewN ?_ _ | refine blk_drew ?_ | refine blk_alloc ?_ _)); exact BK642.out))⟩; have n4_ : Aside0 (w48.heap[gb643]? = some (.cells #[.string a2_0, .slice A2_1 l2_1.length c2_1] 51 (0, 0))) := ⟨(by rw [hw]; exact (by (with_reducible repeat (first | refine blk_drewN ?_ _ | refine blk_drew ?_ | refine blk_alloc ?_ _)); refine blk_far ?_ NB643_657.out _; (with_reducible repeat (first | refine blk_drewN ?_ _ | refine blk_drew ?_ | refine blk_alloc ?_ _)); refine blk_far ?_ NB643_657.out _; (with_reducible repeat (first | refine blk_drewN ?_ _ | refine blk_drew ?_ | refine blk_alloc ?_ _)); refine blk_far ?_ NB643_657.out _; (with_reducible repeat (first | refine blk_drewN ?_ _ | refine blk_drew ?_ | refine blk_alloc ?_ _)); refine blk_far ?_ NB643_657.out _; (with_reducible repeat (first | refine blk_drewN ?_ _ | refine blk_drew ?_ | refine blk_alloc ?_ _)); refine blk_far ?_ NB643_657.out _; (with_reducible repeat (first | refine blk_drewN ?_ _ | refine blk_drew ?_ | refine blk_alloc ?_ _)); exact BK643.out))⟩; have n5_ : Aside0 (w48.heap[gb657]? = some (.cells #[.int .i64 t647, .string t648, .slice Ao46 t649.length co46, .string t652, .slice Ao47 t653.length co47] 64 (0, 0))) := ⟨(by rw [hw]; exact (by (with_reducible repeat (first | refine blk_drewN ?_ _ | refine blk_drew ?_ | refine blk_alloc ?_ _)); refine blk_put (cs := #[.int .i64 t647, .string t648, .slice Ao46 t649.length co46, .string t652, .slice none 0 0]) ?_ 4 _ rfl; (with_reducible repeat (first | refine blk_drewN ?_ _ | refine blk_drew ?_ | refine blk_alloc ?_ _)); refine blk_put (cs := #[.int .i64 t647, .string t648, .slice Ao46 t649.length co46, .string (⟨#[]⟩ : ByteArray), .slice none 0 0]) ?_ 3 _ rfl; (with_reducible repeat (first | refine blk_drewN ?_ _ | refine blk_drew ?_ | refine blk_alloc ?_ _)); refine blk_put (cs := #[.int .i64 t647, .string t648, .slice none 0 0, .string (⟨#[]⟩ : ByteArray), .slice none 0 0]) ?_ 2 _ rfl; (with_reducible repeat (first | refine blk_drewN ?_ _ | refine blk_drew ?_ | refine blk_alloc ?_ _)); refine blk_put (cs := #[.int .i64 t647, .string (⟨#[]⟩ : ByteArray), .slice none 0 0, .string (⟨#[]⟩ : ByteArray), .slice none 0 0]) ?_ 1 _ rfl; (with_reducible repeat (first | refine blk_drewN ?_ _ | refine blk_drew ?_ | refine blk_alloc ?_ _)); refine blk_put (cs := #[.int .i64 0, .string (⟨#[]⟩ : ByteArray), .slice none 0 0, .string (⟨#[]⟩ : ByteArray), .slice none 0 0]) ?_ 0 _ rfl; (with_reducible repeat (first | refine blk_drewN ?_ _ | refine blk_drew ?_ | refine blk_alloc ?_ _)); exact BK657.out))⟩; have n6_ : Aside0 (Below w.heap.size w w48) := ⟨(by rw [hw]; exact (by repeat (first | (with_reducible first | exact HB.out | apply below_alloc | apply pw_below_drewN | apply below_drew1 | refine below_set ?_ GE641.out | refine below_set ?_ GE642.out | refine below_set ?_ GE643.out | refine below_set ?_ GE657.out) | exact HB.out)))⟩; clear hw; clear HO651; clear HO655; clear BK641; clear BK642; clear BK643; clear BK657; clear HB; have HO651 := n0_; have HO655 := n1_; have BK641 := n2_; have BK642 := n3_; have BK643 := n4_; have BK657 := n5_; have HB := n6_; clear n0_ n1_ n2_ n3_ n4_ n5_ n6_; have hcz49_0 : w48.cell? ⟨gb641, 0, none⟩ = some (.string a0_0) := (blk_cell BK641.out 0).trans rfl; have hcz49_1 : w48.cell? ⟨gb641, 1, none⟩ = some (.slice A0_1 l0_1.length c0_1) := (blk_cell BK641.out 1).trans rfl; have hfz49_0 := blk_frozen BK641.out 0; have hfz49_1 := blk_frozen BK641.out 1; have hcz50_0 : w48.cell? ⟨gb642, 0, none⟩ = some (.int .i64 a1_0) := (blk_cell BK642.out 0).trans rfl; have hcz50_1 : w48.cell? ⟨gb642, 1, none⟩ = some (.int .i64 a1_1) := (blk_cell BK642.out 1).trans rfl; have hfz50_0 := blk_frozen BK642.out 0; have hfz50_1 := blk_frozen BK642.out 1; have hcz51_0 : w48.cell? ⟨gb643, 0, none⟩ = some (.string a2_0) := (blk_cell BK643.out 0).trans rfl; have hcz51_1 : w48.cell? ⟨gb643, 1, none⟩ = some (.slice A2_1 l2_1.length c2_1) := (blk_cell BK643.out 1).trans rfl; have hfz51_0 := blk_frozen BK643.out 0; have hfz51_1 := blk_frozen BK643.out 1) | ((with_reducible refine gate_callee (f := 57) rfl ?_); refine goesL_ (some 38) rfl rfl Try.func57 (by kernel_rfl) rfl #[.agg #[.string a0_0, .slice A0_1 l0_1.length c0_1], .int .i64 a1_0, .int .i64 a1_1, .agg #[.string a2_0, .slice A2_1 l2_1.length c2_1]] rfl (by (try simp only [List.map_toArray, List.map_cons, List.map_nil]); first | done | rfl | (simp only [List.length_drop, List.length_take]; rfl)) ?_; (with_reducible refine (bureauref07_Of.calls kj5 a0_0 _ _ l0_1 a1_0 a1_1 a2_0 (fun k_ => k_ < w.heap.size) _ _ l2_1 t658 t659 t660 t663 t664 t667 _ ?side1 ?side2 ?side3 A27.out).mono ?_); (case side1 => repeat (first | exact (Kd.C_below HR0_1.out HB.out) | (with_reducible refine Kd.C_alloc ?_ _) | (with_reducible refine Kd.C_drewN ?_ _) | (with_reducible refine Kd.C_drew ?_))); (case side2 => exact HC0_1.out); (case side3 => exact Kd.V_mk HC2_1.out (Kd.F_below (Kd.C_F k100_heap HR2_1.out) (by repeat (first | (with_reducible first | exact HB.out | apply below_alloc | apply pw_below_drewN | apply below_drew1 | refine below_set ?_ GE641.out | refine below_set ?_ GE642.out | refine below_set ?_ GE643.out | refine below_set ?_ GE657.out) | exact HB.out)))); rintro e w52 ⟨v661, v665, rfl, ho0, ho1, hb⟩; refine ⟨_, rfl, ?_⟩; have n0_ := Aside0.mk (Kd.R_elder' (by (with_reducible repeat (first | apply Kd.R_alloc | apply Kd.R_drewN | apply Kd.R_drew)); exact HO651.out) (Kd.R_base ho0) hb); have n1_ := Aside0.mk (Kd.R_elder' (by (with_reducible repeat (first | apply Kd.R_alloc | apply Kd.R_drewN | apply Kd.R_drew)); exact HO655.out) (Kd.R_base ho0) hb); have n2_ := Aside0.mk (Kd.R_lower (Kd.R_new' (Kd.R_new' (Kd.R_mono (ok' := fun k_ => True) ho0 (fun _ hk_ => trivial)) (Kd.R_lt (by (with_reducible repeat (first | apply Kd.R_alloc | apply Kd.R_drewN | apply Kd.R_drew)); exact HO651.out))) (Kd.R_lt (by (with_reducible repeat (first | apply Kd.R_alloc | apply Kd.R_drewN | apply Kd.R_drew)); exact HO655.out))) (below_size (by repeat (first | (with_reducible first | exact HB.out | apply below_alloc | apply pw_below_drewN | apply below_drew1 | refine below_set ?_ GE641.out | refine below_set ?_ GE642.out | refine below_set ?_ GE643.out | refine below_set ?_ GE657.out) | exact HB.out)))); have n3_ := Aside0.mk (Kd.V_lower (Kd.V_mono (ok' := fun k_ => some k_ ≠ (v661 : Value).ownBlock ∧ some k_ ≠ (.slice Ao46 t649.length co46 : Value).ownBlock ∧ some k_ ≠ (.slice Ao47 t653.length co47 : Value).ownBlock ∧ k_ ≠ gb641 ∧ k_ ≠ gb642 ∧ k_ ≠ gb643 ∧ k_ ≠ gb657) ho1 (fun k_ hk_ => ⟨hk_.2, Or.elim hk_.1 (fun hs_ => fun e_ => Nat.not_le.2 hs_ (Kd.R_base HO651.out k_ e_.symm)) (fun hn_ => (Kd.fresh' (Kd.R_lt (by (with_reducible repeat (first | apply Kd.R_alloc | apply Kd.R_drewN | apply Kd.R_drew)); exact HO651.out)) k_ hn_)), Or.elim hk_.1 (fun hs_ => fun e_ => Nat.not_le.2 hs_ (Kd.R_base HO655.out k_ e_.symm)) (fun hn_ => (Kd.fresh' (Kd.R_lt (by (with_reducible repeat (first | apply Kd.R_alloc | apply Kd.R_drewN | apply Kd.R_drew)); exact HO655.out)) k_ hn_)), Or.elim hk_.1 (fun hs_ => fun e_ => Nat.not_le.2 hs_ (by rw [e_]; exact GW641.out)) (fun hn_ => (Kd.freshB (g := gb641) (o := .cells #[.string a0_0, .slice A0_1 l0_1.length c0_1] 51 (0, 0)) (by (with_reducible repeat (first | refine blk_drewN ?_ _ | refine blk_drew ?_ | refine blk_alloc ?_ _)); exact BK641.out) k_ hn_)), Or.elim hk_.1 (fun hs_ => fun e_ => Nat.not_le.2 hs_ (by rw [e_]; exact GW642.out)) (fun hn_ => (Kd.freshB (g := gb642) (o := .cells #[.int .i64 a1_0, .int .i64 a1_1] 41 (0, 0)) (by (with_reducible repeat (first | refine blk_drewN ?_ _ | refine blk_drew ?_ | refine blk_alloc ?_ _)); exact BK642.out) k_ hn_)), Or.elim hk_.1 (fun hs_ => fun e_ => Nat.not_le.2 hs_ (by rw [e_]; exact GW643.out)) (fun hn_ => (Kd.freshB (g := gb643) (o := .cells #[.string a2_0, .slice A2_1 l2_1.length c2_1] 51 (0, 0)) (by (with_reducible repeat (first | refine blk_drewN ?_ _ | refine blk_drew ?_ | refine blk_alloc ?_ _)); exact BK643.out) k_ hn_)), Or.elim hk_.1 (fun hs_ => fun e_ => Nat.not_le.2 hs_ (by rw [e_]; exact GW657.out)) (fun hn_ => (Kd.freshB (g := gb657) (o := .cells #[.int .i64 t647, .string t648, .slice Ao46 t649.length co46, .string t652, .slice Ao47 t653.length co47] 64 (0, 0)) (by (with_reducible repeat (first | refine blk_drewN ?_ _ | refine blk_drew ?_ | refine blk_alloc ?_ _)); exact BK657.out) k_ hn_))⟩)) (below_size (by repeat (first | (with_reducible first | exact HB.out | apply below_alloc | apply pw_below_drewN | apply below_drew1 | refine below_set ?_ GE641.out | refine below_set ?_ GE642.out | refine below_set ?_ GE643.out | refine below_set ?_ GE657.out) | exact HB.out)))); have n4_ := Aside0.mk (blk_below (g := gb641) (o := .cells #[.string a0_0, .slice A0_1 l0_1.length c0_1] 51 (0, 0)) (by (with_reducible repeat (first | refine blk_drewN ?_ _ | refine blk_drew ?_ | refine blk_alloc ?_ _)); exact BK641.out) hb); have n5_ := Aside0.mk (blk_below (g := gb642) (o := .cells #[.int .i64 a1_0, .int .i64 a1_1] 41 (0, 0)) (by (with_reducible repeat (first | refine blk_drewN ?_ _ | refine blk_drew ?_ | refine blk_alloc ?_ _)); exact BK642.out) hb); have n6_ := Aside0.mk (blk_below (g := gb643) (o := .cells #[.string a2_0, .slice A2_1 l2_1.length c2_1] 51 (0, 0)) (by (with_reducible repeat (first | refine blk_drewN ?_ _ | refine blk_drew ?_ | refine blk_alloc ?_ _)); exact BK643.out) hb); have n7_ := Aside0.mk (blk_below (g := gb657) (o := .cells #[.int .i64 t647, .string t648, .slice Ao46 t649.length co46, .string t652, .slice Ao47 t653.length co47] 64 (0, 0)) (by (with_reducible repeat (first | refine blk_drewN ?_ _ | refine blk_drew ?_ | refine blk_alloc ?_ _)); exact BK657.out) hb); have n8_ := Aside0.mk (below_step (by repeat (first | (with_reducible first | exact HB.out | apply below_alloc | apply pw_below_drewN | apply below_drew1 | refine below_set ?_ GE641.out | refine below_set ?_ GE642.out | refine below_set ?_ GE643.out | refine below_set ?_ GE657.out) | exact HB.out)) hb); clear HO651; clear HO655; clear BK641; clear BK642; clear BK643; clear BK657; clear HB; have HO651 := n0_; have HO655 := n1_; have HO662 := n2_; have HO666 := n3_; have BK641 := n4_; have BK642 := n5_; have BK643 := n6_; have BK657 := n7_; have HB := n8_; clear n0_ n1_ n2_ n3_ n4_ n5_ n6_ n7_ n8_; (try clear hb); (try clear hb2); (try clear hk); (try clear hi); (try clear ho0); (try clear ho1)) | ((with_reducible refine gate_dst (N := 9) rfl ?_); refine box_event ?hg (N := 9) ?hd (cs := #[.int .i64 0, .string (⟨#[]⟩ : ByteArray), .slice none 0 0, .string (⟨#[]⟩ : ByteArray), .slice none 0 0]) (t := 64) ?hr ?_; (case hd => rfl); (case hg => rfl); (case hr => first | (go_simp; done) | (go_simp; rfl)); intro gb668 hg w53 hbox hb; have n0_ := Aside0.mk (Kd.R_below (by (with_reducible repeat (first | apply Kd.R_alloc | apply Kd.R_drewN | apply Kd.R_drew)); exact HO651.out) hb); have n1_ := Aside0.mk (Kd.R_below (by (with_reducible repeat (first | apply Kd.R_alloc | apply Kd.R_drewN | apply Kd.R_drew)); exact HO655.out) hb); have n2_ := Aside0.mk (Kd.R_below (by (with_reducible repeat (first | apply Kd.R_alloc | apply Kd.R_drewN | apply Kd.R_drew)); exact HO662.out) hb); have n3_ := Aside0.mk (Kd.V_below (Kd.V_elderB (by (with_reducible repeat (first | apply Kd.V_alloc | apply Kd.V_drewN | apply Kd.V_drew)); exact HO666.out) gb668 (Nat.le_of_eq hg.symm)) hb); have n4_ := Aside0.mk (blk_below (g := gb641) (o := .cells #[.string a0_0, .slice A0_1 l0_1.length c0_1] 51 (0, 0)) (by (with_reducible repeat (first | refine blk_drewN ?_ _ | refine blk_drew ?_ | refine blk_alloc ?_ _)); exact BK641.out) hb); have n5_ := Aside0.mk (blk_below (g := gb642) (o := .cells #[.int .i64 a1_0, .int .i64 a1_1] 41 (0, 0)) (by (with_reducible repeat (first | refine blk_drewN ?_ _ | refine blk_drew ?_ | refine blk_alloc ?_ _)); exact BK642.out) hb); have n6_ := Aside0.mk (blk_below (g := gb643) (o := .cells #[.string a2_0, .slice A2_1 l2_1.length c2_1] 51 (0, 0)) (by (with_reducible repeat (first | refine blk_drewN ?_ _ | refine blk_drew ?_ | refine blk_alloc ?_ _)); exact BK643.out) hb); have n7_ := Aside0.mk (blk_below (g := gb657) (o := .cells #[.int .i64 t647, .string t648, .slice Ao46 t649.length co46, .string t652, .slice Ao47 t653.length co47] 64 (0, 0)) (by (with_reducible repeat (first | refine blk_drewN ?_ _ | refine blk_drew ?_ | refine blk_alloc ?_ _)); exact BK657.out) hb); have n8_ := Aside0.mk (below_step (by repeat (first | (with_reducible first | exact HB.out | apply below_alloc | apply pw_below_drewN | apply below_drew1 | refine below_set ?_ GE641.out | refine below_set ?_ GE642.out | refine below_set ?_ GE643.out | refine below_set ?_ GE657.out) | exact HB.out)) hb); have n9_ := Aside0.mk (hbox); have n10_ := Aside0.mk ((by rw [hg]; exact (below_size (by repeat (first | (with_reducible first | exact HB.out | apply below_alloc | apply pw_below_drewN | apply below_drew1 | refine below_set ?_ GE641.out | refine below_set ?_ GE642.out | refine below_set ?_ GE643.out | refine below_set ?_ GE657.out) | exact HB.out))) : w.heap.size ≤ gb668)); have n11_ := Aside0.mk ((by rw [hg]; exact (below_size (by repeat (first | (with_reducible first | exact HB.out | apply below_alloc | apply pw_below_drewN | apply below_drew1 | refine below_set ?_ GE641.out | refine below_set ?_ GE642.out | refine below_set ?_ GE643.out | refine below_set ?_ GE657.out) | exact HB.out))) : w.heap.size ≤ gb668)); have n12_ := Aside0.mk ((by rw [hg]; exact Nat.ne_of_lt (blk_lt (g := gb641) (o := .cells #[.string a0_0, .slice A0_1 l0_1.length c0_1] 51 (0, 0)) (by (with_reducible repeat (first | refine blk_drewN ?_ _ | refine blk_drew ?_ | refine blk_alloc ?_ _)); exact BK641.out)) : gb641 ≠ gb668)); have n13_ := Aside0.mk ((by rw [hg]; exact Nat.ne_of_gt (blk_lt (g := gb641) (o := .cells #[.string a0_0, .slice A0_1 l0_1.length c0_1] 51 (0, 0)) (by (with_reducible repeat (first | refine blk_drewN ?_ _ | refine blk_drew ?_ | refine blk_alloc ?_ _)); exact BK641.out)) : gb668 ≠ gb641)); have n14_ := Aside0.mk ((by rw [hg]; exact Nat.ne_of_lt (blk_lt (g := gb642) (o := .cells #[.int .i64 a1_0, .int .i64 a1_1] 41 (0, 0)) (by (with_reducible repeat (first | refine blk_drewN ?_ _ | refine blk_drew ?_ | refine blk_alloc ?_ _)); exact BK642.out)) : gb642 ≠ gb668)); have n15_ := Aside0.mk ((by rw [hg]; exact Nat.ne_of_gt (blk_lt (g := gb642) (o := .cells #[.int .i64 a1_0, .int .i64 a1_1] 41 (0, 0)) (by (with_reducible repeat (first | refine blk_drewN ?_ _ | refine blk_drew ?_ | refine blk_alloc ?_ _)); exact BK642.out)) : gb668 ≠ gb642)); have n16_ := Aside0.mk ((by rw [hg]; exact Nat.ne_of_lt (blk_lt (g := gb643) (o := .cells #[.string a2_0, .slice A2_1 l2_1.length c2_1] 51 (0, 0)) (by (with_reducible repeat (first | refine blk_drewN ?_ _ | refine blk_drew ?_ | refine blk_alloc ?_ _)); exact BK643.out)) : gb643 ≠ gb668)); have n17_ := Aside0.mk ((by rw [hg]; exact Nat.ne_of_gt (blk_lt (g := gb643) (o := .cells #[.string a2_0, .slice A2_1 l2_1.length c2_1] 51 (0, 0)) (by (with_reducible repeat (first | refine blk_drewN ?_ _ | refine blk_drew ?_ | refine blk_alloc ?_ _)); exact BK643.out)) : gb668 ≠ gb643)); have n18_ := Aside0.mk ((by rw [hg]; exact Nat.ne_of_lt (blk_lt (g := gb657) (o := .cells #[.int .i64 t647, .string t648, .slice Ao46 t649.length co46, .string t652, .slice Ao47 t653.length co47] 64 (0, 0)) (by (with_reducible repeat (first | refine blk_drewN ?_ _ | refine blk_drew ?_ | refine blk_alloc ?_ _)); exact BK657.out)) : gb657 ≠ gb668)); have n19_ := Aside0.mk ((by rw [hg]; exact Nat.ne_of_gt (blk_lt (g := gb657) (o := .cells #[.int .i64 t647, .string t648, .slice Ao46 t649.length co46, .string t652, .slice Ao47 t653.length co47] 64 (0, 0)) (by (with_reducible repeat (first | refine blk_drewN ?_ _ | refine blk_drew ?_ | refine blk_alloc ?_ _)); exact BK657.out)) : gb668 ≠ gb657)); clear HO651; clear HO655; clear HO662; clear HO666; clear BK641; clear BK642; clear BK643; clear BK657; clear HB; have HO651 := n0_; have HO655 := n1_; have HO662 := n2_; have HO666 := n3_; have BK641 := n4_; have BK642 := n5_; have BK643 := n6_; have BK657 := n7_; have HB := n8_; have BK668 := n9_; have GW668 := n10_; have GE668 := n11_; have NB641_668 := n12_; have NB668_641 := n13_; have NB642_668 := n14_; have NB668_642 := n15_; have NB643_668 := n16_; have NB668_643 := n17_; have NB657_668 := n18_; have NB668_657 := n19_; clear n0_ n1_ n2_ n3_ n4_ n5_ n6_ n7_ n8_ n9_ n10_ n11_ n12_ n13_ n14_ n15_ n16_ n17_ n18_ n19_; clear hb hbox hg; have hnb54 := NB668_641.out; have hnc54 := NB641_668.out; have hnb55 := NB668_642.out; have hnc55 := NB642_668.out; have hnb56 := NB668_643.out; have hnc56 := NB643_668.out; have hnb57 := NB668_657.out; have hnc57 := NB657_668.out; have hcz58_0 : w53.cell? ⟨gb668, 0, none⟩ = some (.int .i64 0) := (blk_cell BK668.out 0).trans rfl; have hcz58_1 : w53.cell? ⟨gb668, 1, none⟩ = some (.string (⟨#[]⟩ : ByteArray)) := (blk_cell BK668.out 1).trans rfl; have hcz58_2 : w53.cell? ⟨gb668, 2, none⟩ = some (.slice none 0 0) := (blk_cell BK668.out 2).trans rfl; have hcz58_3 : w53.cell? ⟨gb668, 3, none⟩ = some (.string (⟨#[]⟩ : ByteArray)) := (blk_cell BK668.out 3).trans rfl; have hcz58_4 : w53.cell? ⟨gb668, 4, none⟩ = some (.slice none 0 0) := (blk_cell BK668.out 4).trans rfl; have hfz58_0 := blk_frozen BK668.out 0; have hfz58_1 := blk_frozen BK668.out 1; have hfz58_2 := blk_frozen BK668.out 2; have hfz58_3 := blk_frozen BK668.out 3; have hfz58_4 := blk_frozen BK668.out 4; obtain ⟨Ao59, co59, eo59⟩ := Kd.R_slice HO662.out; subst eo59; obtain ⟨Ao60, co60, eo60⟩ := Kd.V_slice HO666.out; subst eo60))
              have n0_ : Aside0 (Kd.R k100 100 (((((w53.setCell ⟨gb668, 0, none⟩ (.int .i64 t658)).setCell ⟨gb668, 1, none⟩ (.string t659)).setCell ⟨gb668, 2, none⟩ (.slice Ao59 t660.length co59)).setCell ⟨gb668, 3, none⟩ (.string t663)).setCell ⟨gb668, 4, none⟩ (.slice Ao60 t664.length co60)) w.heap.size (fun k_ => some k_ ≠ (.slice Ao47 t653.length co47 : Value).ownBlock ∧ some k_ ≠ (.slice Ao59 t660.length co59 : Value).ownBlock) (.slice Ao46 t649.length co46) t649) := ⟨by (with_reducible repeat (first | apply Kd.R_alloc | apply Kd.R_drewN | apply Kd.R_drew)); exact Kd.R_mono (Kd.R_far (p := ⟨gb668, 4, none⟩) (Kd.R_far (p := ⟨gb668, 3, none⟩) (Kd.R_far (p := ⟨gb668, 2, none⟩) (Kd.R_far (p := ⟨gb668, 1, none⟩) (Kd.R_far (p := ⟨gb668, 0, none⟩) (Kd.R_types HO651.out BK668.out (by decide)) (fun _ hk => hk.2) (.int .i64 t658)) (fun _ hk => hk.2) (.string t659)) (fun _ hk => hk.2) (.slice Ao59 t660.length co59)) (fun _ hk => hk.2) (.string t663)) (fun _ hk => hk.2) (.slice Ao60 t664.length co60)) (fun _ hk => ⟨hk.1.1, hk.1.2⟩)⟩
              have n1_ : Aside0 (Kd.R k100 100 (((((w53.setCell ⟨gb668, 0, none⟩ (.int .i64 t658)).setCell ⟨gb668, 1, none⟩ (.string t659)).setCell ⟨gb668, 2, none⟩ (.slice Ao59 t660.length co59)).setCell ⟨gb668, 3, none⟩ (.string t663)).setCell ⟨gb668, 4, none⟩ (.slice Ao60 t664.length co60)) w.heap.size (fun k_ => some k_ ≠ (.slice Ao46 t649.length co46 : Value).ownBlock ∧ some k_ ≠ (.slice Ao59 t660.length co59 : Value).ownBlock) (.slice Ao47 t653.length co47) t653) := ⟨by (with_reducible repeat (first | apply Kd.R_alloc | apply Kd.R_drewN | apply Kd.R_drew)); exact Kd.R_mono (Kd.R_far (p := ⟨gb668, 4, none⟩) (Kd.R_far (p := ⟨gb668, 3, none⟩) (Kd.R_far (p := ⟨gb668, 2, none⟩) (Kd.R_far (p := ⟨gb668, 1, none⟩) (Kd.R_far (p := ⟨gb668, 0, none⟩) (Kd.R_types HO655.out BK668.out (by decide)) (fun _ hk => hk.2) (.int .i64 t658)) (fun _ hk => hk.2) (.string t659)) (fun _ hk => hk.2) (.slice Ao59 t660.length co59)) (fun _ hk => hk.2) (.string t663)) (fun _ hk => hk.2) (.slice Ao60 t664.length co60)) (fun _ hk => ⟨hk.1.1, hk.1.2⟩)⟩
              have n2_ : Aside0 (Kd.R k100 100 (((((w53.setCell ⟨gb668, 0, none⟩ (.int .i64 t658)).setCell ⟨gb668, 1, none⟩ (.string t659)).setCell ⟨gb668, 2, none⟩ (.slice Ao59 t660.length co59)).setCell ⟨gb668, 3, none⟩ (.string t663)).setCell ⟨gb668, 4, none⟩ (.slice Ao60 t664.length co60)) w.heap.size (fun k_ => some k_ ≠ (.slice Ao46 t649.length co46 : Value).ownBlock ∧ some k_ ≠ (.slice Ao47 t653.length co47 : Value).ownBlock) (.slice Ao59 t660.length co59) t660) := ⟨by (with_reducible repeat (first | apply Kd.R_alloc | apply Kd.R_drewN | apply Kd.R_drew)); exact Kd.R_mono (Kd.R_far (p := ⟨gb668, 4, none⟩) (Kd.R_far (p := ⟨gb668, 3, none⟩) (Kd.R_far (p := ⟨gb668, 2, none⟩) (Kd.R_far (p := ⟨gb668, 1, none⟩) (Kd.R_far (p := ⟨gb668, 0, none⟩) (Kd.R_types HO662.out BK668.out (by decide)) (fun _ hk => hk.2) (.int .i64 t658)) (fun _ hk => hk.2) (.string t659)) (fun _ hk => hk.2) (.slice Ao59 t660.length co59)) (fun _ hk => hk.2) (.string t663)) (fun _ hk => hk.2) (.slice Ao60 t664.length co60)) (fun _ hk => ⟨hk.1.1.2, hk.1.2⟩)⟩
              have n3_ : Aside0 (Kd.V k100 100 (((((w53.setCell ⟨gb668, 0, none⟩ (.int .i64 t658)).setCell ⟨gb668, 1, none⟩ (.string t659)).setCell ⟨gb668, 2, none⟩ (.slice Ao59 t660.length co59)).setCell ⟨gb668, 3, none⟩ (.string t663)).setCell ⟨gb668, 4, none⟩ (.slice Ao60 t664.length co60)) w.heap.size (fun k_ => some k_ ≠ (.slice Ao46 t649.length co46 : Value).ownBlock ∧ some k_ ≠ (.slice Ao47 t653.length co47 : Value).ownBlock ∧ some k_ ≠ (.slice Ao59 t660.length co59 : Value).ownBlock ∧ k_ ≠ gb641 ∧ k_ ≠ gb642 ∧ k_ ≠ gb643 ∧ k_ ≠ gb657 ∧ k_ ≠ gb668) (.slice Ao60 t664.length co60) t664) := ⟨by (with_reducible repeat (first | apply Kd.V_alloc | apply Kd.V_drewN | apply Kd.V_drew)); exact Kd.V_mono (Kd.V_far (p := ⟨gb668, 4, none⟩) (Kd.V_far (p := ⟨gb668, 3, none⟩) (Kd.V_far (p := ⟨gb668, 2, none⟩) (Kd.V_far (p := ⟨gb668, 1, none⟩) (Kd.V_far (p := ⟨gb668, 0, none⟩) (Kd.V_mono HO666.out (fun k_ hk => (⟨hk, hk.2⟩ : _ ∧ k_ ≠ gb668))) (fun _ hk => hk.2) (.int .i64 t658)) (fun _ hk => hk.2) (.string t659)) (fun _ hk => hk.2) (.slice Ao59 t660.length co59)) (fun _ hk => hk.2) (.string t663)) (fun _ hk => hk.2) (.slice Ao60 t664.length co60)) (fun _ hk => ⟨hk.1.1.2.1, ⟨hk.1.1.2.2.1, ⟨hk.1.1.1, ⟨hk.1.1.2.2.2.1, ⟨hk.1.1.2.2.2.2.1, ⟨hk.1.1.2.2.2.2.2.1, ⟨hk.1.1.2.2.2.2.2.2, hk.1.2⟩⟩⟩⟩⟩⟩⟩)⟩
              have n4_ : Aside0 ((((((w53.setCell ⟨gb668, 0, none⟩ (.int .i64 t658)).setCell ⟨gb668, 1, none⟩ (.string t659)).setCell ⟨gb668, 2, none⟩ (.slice Ao59 t660.length co59)).setCell ⟨gb668, 3, none⟩ (.string t663)).setCell ⟨gb668, 4, none⟩ (.slice Ao60 t664.length co60)).heap[gb641]? = some (.cells #[.string a0_0, .slice A0_1 l0_1.length c0_1] 51 (0, 0))) := ⟨by (with_reducible repeat (first | refine blk_drewN ?_ _ | refine blk_drew ?_ | refine blk_alloc ?_ _)); refine blk_far ?_ NB641_668.out _; (with_reducible repeat (first | refine blk_drewN ?_ _ | refine blk_drew ?_ | refine blk_alloc ?_ _)); refine blk_far ?_ NB641_668.out _; (with_reducible repeat (first | refine blk_drewN ?_ _ | refine blk_drew ?_ | refine blk_alloc ?_ _)); refine blk_far ?_ NB641_668.out _; (with_reducible repeat (first | refine blk_drewN ?_ _ | refine blk_drew ?_ | refine blk_alloc ?_ _)); refine blk_far ?_ NB641_668.out _; (with_reducible repeat (first | refine blk_drewN ?_ _ | refine blk_drew ?_ | refine blk_alloc ?_ _)); refine blk_far ?_ NB641_668.out _; (with_reducible repeat (first | refine blk_drewN ?_ _ | refine blk_drew ?_ | refine blk_alloc ?_ _)); exact BK641.out⟩
              have n5_ : Aside0 ((((((w53.setCell ⟨gb668, 0, none⟩ (.int .i64 t658)).setCell ⟨gb668, 1, none⟩ (.string t659)).setCell ⟨gb668, 2, none⟩ (.slice Ao59 t660.length co59)).setCell ⟨gb668, 3, none⟩ (.string t663)).setCell ⟨gb668, 4, none⟩ (.slice Ao60 t664.length co60)).heap[gb642]? = some (.cells #[.int .i64 a1_0, .int .i64 a1_1] 41 (0, 0))) := ⟨by (with_reducible repeat (first | refine blk_drewN ?_ _ | refine blk_drew ?_ | refine blk_alloc ?_ _)); refine blk_far ?_ NB642_668.out _; (with_reducible repeat (first | refine blk_drewN ?_ _ | refine blk_drew ?_ | refine blk_alloc ?_ _)); refine blk_far ?_ NB642_668.out _; (with_reducible repeat (first | refine blk_drewN ?_ _ | refine blk_drew ?_ | refine blk_alloc ?_ _)); refine blk_far ?_ NB642_668.out _; (with_reducible repeat (first | refine blk_drewN ?_ _ | refine blk_drew ?_ | refine blk_alloc ?_ _)); refine blk_far ?_ NB642_668.out _; (with_reducible repeat (first | refine blk_drewN ?_ _ | refine blk_drew ?_ | refine blk_alloc ?_ _)); refine blk_far ?_ NB642_668.out _; (with_reducible repeat (first | refine blk_drewN ?_ _ | refine blk_drew ?_ | refine blk_alloc ?_ _)); exact BK642.out⟩
              have n6_ : Aside0 ((((((w53.setCell ⟨gb668, 0, none⟩ (.int .i64 t658)).setCell ⟨gb668, 1, none⟩ (.string t659)).setCell ⟨gb668, 2, none⟩ (.slice Ao59 t660.length co59)).setCell ⟨gb668, 3, none⟩ (.string t663)).setCell ⟨gb668, 4, none⟩ (.slice Ao60 t664.length co60)).heap[gb643]? = some (.cells #[.string a2_0, .slice A2_1 l2_1.length c2_1] 51 (0, 0))) := ⟨by (with_reducible repeat (first | refine blk_drewN ?_ _ | refine blk_drew ?_ | refine blk_alloc ?_ _)); refine blk_far ?_ NB643_668.out _; (with_reducible repeat (first | refine blk_drewN ?_ _ | refine blk_drew ?_ | refine blk_alloc ?_ _)); refine blk_far ?_ NB643_668.out _; (with_reducible repeat (first | refine blk_drewN ?_ _ | refine blk_drew ?_ | refine blk_alloc ?_ _)); refine blk_far ?_ NB643_668.out _; (with_reducible repeat (first | refine blk_drewN ?_ _ | refine blk_drew ?_ | refine blk_alloc ?_ _)); refine blk_far ?_ NB643_668.out _; (with_reducible repeat (first | refine blk_drewN ?_ _ | refine blk_drew ?_ | refine blk_alloc ?_ _)); refine blk_far ?_ NB643_668.out _; (with_reducible repeat (first | refine blk_drewN ?_ _ | refine blk_drew ?_ | refine blk_alloc ?_ _)); exact BK643.out⟩
              have n7_ : Aside0 ((((((w53.setCell ⟨gb668, 0, none⟩ (.int .i64 t658)).setCell ⟨gb668, 1, none⟩ (.string t659)).setCell ⟨gb668, 2, none⟩ (.slice Ao59 t660.length co59)).setCell ⟨gb668, 3, none⟩ (.string t663)).setCell ⟨gb668, 4, none⟩ (.slice Ao60 t664.length co60)).heap[gb657]? = some (.cells #[.int .i64 t647, .string t648, .slice Ao46 t649.length co46, .string t652, .slice Ao47 t653.length co47] 64 (0, 0))) := ⟨by (with_reducible repeat (first | refine blk_drewN ?_ _ | refine blk_drew ?_ | refine blk_alloc ?_ _)); refine blk_far ?_ NB657_668.out _; (with_reducible repeat (first | refine blk_drewN ?_ _ | refine blk_drew ?_ | refine blk_alloc ?_ _)); refine blk_far ?_ NB657_668.out _; (with_reducible repeat (first | refine blk_drewN ?_ _ | refine blk_drew ?_ | refine blk_alloc ?_ _)); refine blk_far ?_ NB657_668.out _; (with_reducible repeat (first | refine blk_drewN ?_ _ | refine blk_drew ?_ | refine blk_alloc ?_ _)); refine blk_far ?_ NB657_668.out _; (with_reducible repeat (first | refine blk_drewN ?_ _ | refine blk_drew ?_ | refine blk_alloc ?_ _)); refine blk_far ?_ NB657_668.out _; (with_reducible repeat (first | refine blk_drewN ?_ _ | refine blk_drew ?_ | refine blk_alloc ?_ _)); exact BK657.out⟩
              have n8_ : Aside0 ((((((w53.setCell ⟨gb668, 0, none⟩ (.int .i64 t658)).setCell ⟨gb668, 1, none⟩ (.string t659)).setCell ⟨gb668, 2, none⟩ (.slice Ao59 t660.length co59)).setCell ⟨gb668, 3, none⟩ (.string t663)).setCell ⟨gb668, 4, none⟩ (.slice Ao60 t664.length co60)).heap[gb668]? = some (.cells #[.int .i64 t658, .string t659, .slice Ao59 t660.length co59, .string t663, .slice Ao60 t664.length co60] 64 (0, 0))) := ⟨by (with_reducible repeat (first | refine blk_drewN ?_ _ | refine blk_drew ?_ | refine blk_alloc ?_ _)); refine blk_put (cs := #[.int .i64 t658, .string t659, .slice Ao59 t660.length co59, .string t663, .slice none 0 0]) ?_ 4 _ rfl; (with_reducible repeat (first | refine blk_drewN ?_ _ | refine blk_drew ?_ | refine blk_alloc ?_ _)); refine blk_put (cs := #[.int .i64 t658, .string t659, .slice Ao59 t660.length co59, .string (⟨#[]⟩ : ByteArray), .slice none 0 0]) ?_ 3 _ rfl; (with_reducible repeat (first | refine blk_drewN ?_ _ | refine blk_drew ?_ | refine blk_alloc ?_ _)); refine blk_put (cs := #[.int .i64 t658, .string t659, .slice none 0 0, .string (⟨#[]⟩ : ByteArray), .slice none 0 0]) ?_ 2 _ rfl; (with_reducible repeat (first | refine blk_drewN ?_ _ | refine blk_drew ?_ | refine blk_alloc ?_ _)); refine blk_put (cs := #[.int .i64 t658, .string (⟨#[]⟩ : ByteArray), .slice none 0 0, .string (⟨#[]⟩ : ByteArray), .slice none 0 0]) ?_ 1 _ rfl; (with_reducible repeat (first | refine blk_drewN ?_ _ | refine blk_drew ?_ | refine blk_alloc ?_ _)); refine blk_put (cs := #[.int .i64 0, .string (⟨#[]⟩ : ByteArray), .slice none 0 0, .string (⟨#[]⟩ : ByteArray), .slice none 0 0]) ?_ 0 _ rfl; (with_reducible repeat (first | refine blk_drewN ?_ _ | refine blk_drew ?_ | refine blk_alloc ?_ _)); exact BK668.out⟩
              have n9_ : Aside0 (Below w.heap.size w (((((w53.setCell ⟨gb668, 0, none⟩ (.int .i64 t658)).setCell ⟨gb668, 1, none⟩ (.string t659)).setCell ⟨gb668, 2, none⟩ (.slice Ao59 t660.length co59)).setCell ⟨gb668, 3, none⟩ (.string t663)).setCell ⟨gb668, 4, none⟩ (.slice Ao60 t664.length co60))) := ⟨by repeat (first | (with_reducible first | exact HB.out | apply below_alloc | apply pw_below_drewN | apply below_drew1 | refine below_set ?_ GE641.out | refine below_set ?_ GE642.out | refine below_set ?_ GE643.out | refine below_set ?_ GE657.out | refine below_set ?_ GE668.out) | exact HB.out)⟩
              (try clear HO651)
              (try clear HO655)
              (try clear HO662)
              (try clear HO666)
              (try clear BK641)
              (try clear BK642)
              (try clear BK643)
              (try clear BK657)
              (try clear BK668)
              (try clear HB)
              generalize (((((w53.setCell ⟨gb668, 0, none⟩ (.int .i64 t658)).setCell ⟨gb668, 1, none⟩ (.string t659)).setCell ⟨gb668, 2, none⟩ (.slice Ao59 t660.length co59)).setCell ⟨gb668, 3, none⟩ (.string t663)).setCell ⟨gb668, 4, none⟩ (.slice Ao60 t664.length co60)) = w61 at n0_ n1_ n2_ n3_ n4_ n5_ n6_ n7_ n8_ n9_ ⊢
              have HO651 := n0_
              have HO655 := n1_
              have HO662 := n2_
              have HO666 := n3_
              have BK641 := n4_
              have BK642 := n5_
              have BK643 := n6_
              have BK657 := n7_
              have BK668 := n8_
              have HB := n9_
              clear n0_ n1_ n2_ n3_ n4_ n5_ n6_ n7_ n8_ n9_
              have n0_ := Aside0.mk (Kd.R_drew HO651.out)
              have n1_ := Aside0.mk (Kd.R_drew HO655.out)
              have n2_ := Aside0.mk (Kd.R_drew HO662.out)
              have n3_ := Aside0.mk (Kd.V_drew HO666.out)
              have n4_ := Aside0.mk (blk_drew BK641.out)
              have n5_ := Aside0.mk (blk_drew BK642.out)
              have n6_ := Aside0.mk (blk_drew BK643.out)
              have n7_ := Aside0.mk (blk_drew BK657.out)
              have n8_ := Aside0.mk (blk_drew BK668.out)
              have n9_ := Aside0.mk (below_drew1 HB.out)
              clear HO651
              clear HO655
              clear HO662
              clear HO666
              clear BK641
              clear BK642
              clear BK643
              clear BK657
              clear BK668
              clear HB
              have HO651 := n0_
              have HO655 := n1_
              have HO662 := n2_
              have HO666 := n3_
              have BK641 := n4_
              have BK642 := n5_
              have BK643 := n6_
              have BK657 := n7_
              have BK668 := n8_
              have HB := n9_
              clear n0_ n1_ n2_ n3_ n4_ n5_ n6_ n7_ n8_ n9_
              refine start_ (n := 16) (S := fun w' => w'.cell? ⟨gb657, 0, none⟩ = some (.int .i64 t647) ∧ w'.cell? ⟨gb657, 1, none⟩ = some (.string t648) ∧ w'.cell? ⟨gb657, 2, none⟩ = some (.slice Ao46 t649.length co46) ∧ w'.cell? ⟨gb657, 3, none⟩ = some (.string t652) ∧ w'.cell? ⟨gb657, 4, none⟩ = some (.slice Ao47 t653.length co47) ∧ w'.cell? ⟨gb668, 0, none⟩ = some (.int .i64 t658) ∧ w'.cell? ⟨gb668, 1, none⟩ = some (.string t659) ∧ w'.cell? ⟨gb668, 2, none⟩ = some (.slice Ao59 t660.length co59) ∧ w'.cell? ⟨gb668, 3, none⟩ = some (.string t663) ∧ w'.cell? ⟨gb668, 4, none⟩ = some (.slice Ao60 t664.length co60)) (ds := []) #[false, false, false, false, false, false, false, false, false, false, false, false, false, false, false, false] (by kernel_rfl) rfl rfl ⟨(blk_cell BK657.out 0).trans rfl, (blk_cell BK657.out 1).trans rfl, (blk_cell BK657.out 2).trans rfl, (blk_cell BK657.out 3).trans rfl, (blk_cell BK657.out 4).trans rfl, (blk_cell BK668.out 0).trans rfl, (blk_cell BK668.out 1).trans rfl, (blk_cell BK668.out 2).trans rfl, (blk_cell BK668.out 3).trans rfl, (blk_cell BK668.out 4).trans rfl⟩ (fun hHeld => ?_); refine with_tabW bureaulaw07_EditMakes.tab7 bureaulaw07_EditMakes.bits7 (fun HT_ HW_ => ?_)
              generalize w61.drew = w62 at HO651 HO655 HO662 HO666 BK641 BK642 BK643 BK657 BK668 HB hHeld ⊢
              refine take_ (i := 0) (N := some 41) (v := ?_) (a' := ?_) #[true, false, false, false, false, false, false, false, false, false, false, false, false, false, false, false] rfl rfl (take_ofW HT_.out HW_.out (by kernel_rfl)) (fun _ _ _ h => h) (Or.inl ⟨by rfl, ?_⟩) hHeld ?_ ?_
              rotate_left
              · rintro w' ⟨s0, s1, s2, s3, s4, s5, s6, s7, s8, s9⟩
                go_simp
                with_reducible rfl
              rotate_left
              · simp only [Act.put, List.setIfInBounds_toArray, List.set_cons_zero, List.set_cons_succ, i64_w, i32_w]
                rfl
              refine take_ (i := 1) (N := some 42) (v := ?_) (a' := ?_) #[true, true, false, false, false, false, false, false, false, false, false, false, false, false, false, false] rfl rfl (take_ofW HT_.out HW_.out (by kernel_rfl)) (fun _ _ _ h => h) (Or.inl ⟨by rfl, ?_⟩) hHeld ?_ ?_
              rotate_left
              · rintro w' ⟨s0, s1, s2, s3, s4, s5, s6, s7, s8, s9⟩
                go_simp
                with_reducible rfl
              rotate_left
              · simp only [Act.put, List.setIfInBounds_toArray, List.set_cons_zero, List.set_cons_succ, i64_w, i32_w]
                rfl
              refine one_ (i := 2) (N := some 43) #[true, true, true, false, false, false, false, false, false, false, false, false, false, false, false, false] rfl rfl (one_of HT_.out (by kernel_rfl)) (by decide) (fun K hK => ?_)
              refine goes_ Try.func58 (by kernel_rfl) rfl #[.agg #[.int .i64 t647, .string t648, .slice Ao46 t649.length co46, .string t652, .slice Ao47 t653.length co47], .agg #[.int .i64 t658, .string t659, .slice Ao59 t660.length co59, .string t663, .slice Ao60 t664.length co60]] (by rfl) rfl rfl (by (try simp only [List.map_toArray, List.map_cons, List.map_nil]); first | done | rfl | (simp only [List.length_drop, List.length_take]; rfl)) ?_
              with_reducible refine (bureauref07_Same.calls kj5 t647 t648 _ _ t649 t652 _ _ t653 t658 t659 _ _ t660 t663 _ _ t664 true _ ?side1 ?side2 ?side3 ?side4 ?side5 ?side6 ?side7 ?side8 A28.out).mono ?_
              (case side1 => repeat (first | exact (Kd.R_reads' HO651.out).2.2 | (with_reducible refine Kd.C_alloc ?_ _) | (with_reducible refine Kd.C_drewN ?_ _) | (with_reducible refine Kd.C_drew ?_)))
              (case side2 => exact (Kd.R_reads' HO651.out).2.1)
              (case side3 => repeat (first | exact (Kd.R_reads' HO655.out).2.2 | (with_reducible refine Kd.C_alloc ?_ _) | (with_reducible refine Kd.C_drewN ?_ _) | (with_reducible refine Kd.C_drew ?_)))
              (case side4 => exact (Kd.R_reads' HO655.out).2.1)
              (case side5 => repeat (first | exact (Kd.R_reads' HO662.out).2.2 | (with_reducible refine Kd.C_alloc ?_ _) | (with_reducible refine Kd.C_drewN ?_ _) | (with_reducible refine Kd.C_drew ?_)))
              (case side6 => exact (Kd.R_reads' HO662.out).2.1)
              (case side7 => repeat (first | exact (Kd.V_reads' HO666.out).2.2 | (with_reducible refine Kd.C_alloc ?_ _) | (with_reducible refine Kd.C_drewN ?_ _) | (with_reducible refine Kd.C_drew ?_)))
              (case side8 => exact (Kd.V_reads' HO666.out).2.1)
              rintro e w63 ⟨rfl, hb⟩
              refine ⟨_, rfl, ?_⟩
              have n0_ := Aside0.mk (Kd.R_below (by (with_reducible repeat (first | apply Kd.R_alloc | apply Kd.R_drewN | apply Kd.R_drew)); exact HO651.out) hb)
              have n1_ := Aside0.mk (Kd.R_below (by (with_reducible repeat (first | apply Kd.R_alloc | apply Kd.R_drewN | apply Kd.R_drew)); exact HO655.out) hb)
              have n2_ := Aside0.mk (Kd.R_below (by (with_reducible repeat (first | apply Kd.R_alloc | apply Kd.R_drewN | apply Kd.R_drew)); exact HO662.out) hb)
              have n3_ := Aside0.mk (Kd.V_below (by (with_reducible repeat (first | apply Kd.V_alloc | apply Kd.V_drewN | apply Kd.V_drew)); exact HO666.out) hb)
              have n4_ := Aside0.mk (blk_below (g := gb641) (o := .cells #[.string a0_0, .slice A0_1 l0_1.length c0_1] 51 (0, 0)) (by (with_reducible repeat (first | refine blk_drewN ?_ _ | refine blk_drew ?_ | refine blk_alloc ?_ _)); exact BK641.out) hb)
              have n5_ := Aside0.mk (blk_below (g := gb642) (o := .cells #[.int .i64 a1_0, .int .i64 a1_1] 41 (0, 0)) (by (with_reducible repeat (first | refine blk_drewN ?_ _ | refine blk_drew ?_ | refine blk_alloc ?_ _)); exact BK642.out) hb)
              have n6_ := Aside0.mk (blk_below (g := gb643) (o := .cells #[.string a2_0, .slice A2_1 l2_1.length c2_1] 51 (0, 0)) (by (with_reducible repeat (first | refine blk_drewN ?_ _ | refine blk_drew ?_ | refine blk_alloc ?_ _)); exact BK643.out) hb)
              have n7_ := Aside0.mk (blk_below (g := gb657) (o := .cells #[.int .i64 t647, .string t648, .slice Ao46 t649.length co46, .string t652, .slice Ao47 t653.length co47] 64 (0, 0)) (by (with_reducible repeat (first | refine blk_drewN ?_ _ | refine blk_drew ?_ | refine blk_alloc ?_ _)); exact BK657.out) hb)
              have n8_ := Aside0.mk (blk_below (g := gb668) (o := .cells #[.int .i64 t658, .string t659, .slice Ao59 t660.length co59, .string t663, .slice Ao60 t664.length co60] 64 (0, 0)) (by (with_reducible repeat (first | refine blk_drewN ?_ _ | refine blk_drew ?_ | refine blk_alloc ?_ _)); exact BK668.out) hb)
              have n9_ := Aside0.mk (below_step (by repeat (first | (with_reducible first | exact HB.out | apply below_alloc | apply pw_below_drewN | apply below_drew1 | refine below_set ?_ GE641.out | refine below_set ?_ GE642.out | refine below_set ?_ GE643.out | refine below_set ?_ GE657.out | refine below_set ?_ GE668.out) | exact HB.out)) hb)
              clear HO651
              clear HO655
              clear HO662
              clear HO666
              clear BK641
              clear BK642
              clear BK643
              clear BK657
              clear BK668
              clear HB
              have HO651 := n0_
              have HO655 := n1_
              have HO662 := n2_
              have HO666 := n3_
              have BK641 := n4_
              have BK642 := n5_
              have BK643 := n6_
              have BK657 := n7_
              have BK668 := n8_
              have HB := n9_
              clear n0_ n1_ n2_ n3_ n4_ n5_ n6_ n7_ n8_ n9_
              (try clear hb)
              (try clear hb2)
              (try clear hk)
              (try clear hi)
              refine hK.out _ _ ⟨(blk_cell BK657.out 0).trans rfl, (blk_cell BK657.out 1).trans rfl, (blk_cell BK657.out 2).trans rfl, (blk_cell BK657.out 3).trans rfl, (blk_cell BK657.out 4).trans rfl, (blk_cell BK668.out 0).trans rfl, (blk_cell BK668.out 1).trans rfl, (blk_cell BK668.out 2).trans rfl, (blk_cell BK668.out 3).trans rfl, (blk_cell BK668.out 4).trans rfl⟩ (fun hHeld => ?_)
              clear hK K
              refine norm_ (a' := ?_) ?_ ?_
              rotate_left
              · show Act.put _ (some 43) _ = _
                simp only [Act.put, List.setIfInBounds_toArray, List.set_cons_zero, List.set_cons_succ, i64_w, i32_w]
                rfl
              refine pure_ (i := 3) (N := some 44) (v := ?_) (a' := ?_) #[true, true, true, true, false, false, false, false, false, false, false, false, false, false, false, false] rfl rfl (any_of HT_.out (by kernel_rfl)) (fun _ _ _ h => h) (Or.inl ⟨by rfl, ?_⟩) ?_ ?_
              rotate_left
              · intro w'
                go_simp
                with_reducible rfl
              rotate_left
              · simp only [Act.put, List.setIfInBounds_toArray, List.set_cons_zero, List.set_cons_succ, i64_w, i32_w]
                rfl
              refine pure_ (i := 4) (N := some 45) (v := ?_) (a' := ?_) #[true, true, true, true, true, false, false, false, false, false, false, false, false, false, false, false] rfl rfl (any_of HT_.out (by kernel_rfl)) (fun _ _ _ h => h) (Or.inl ⟨by rfl, ?_⟩) ?_ ?_
              rotate_left
              · intro w'
                go_simp
                with_reducible rfl
              rotate_left
              · simp only [Act.put, List.setIfInBounds_toArray, List.set_cons_zero, List.set_cons_succ, i64_w, i32_w]
                rfl
              refine pure_ (i := 5) (N := some 46) (v := ?_) (a' := ?_) #[true, true, true, true, true, true, false, false, false, false, false, false, false, false, false, false] rfl rfl (any_of HT_.out (by kernel_rfl)) (fun _ _ _ h => h) (Or.inl ⟨by rfl, ?_⟩) ?_ ?_
              rotate_left
              · intro w'
                go_simp
                with_reducible rfl
              rotate_left
              · simp only [Act.put, List.setIfInBounds_toArray, List.set_cons_zero, List.set_cons_succ, i64_w, i32_w]
                rfl
              refine pure_ (i := 6) (N := some 47) (v := ?_) (a' := ?_) #[true, true, true, true, true, true, true, false, false, false, false, false, false, false, false, false] rfl rfl (any_of HT_.out (by kernel_rfl)) (fun _ _ _ h => h) (Or.inl ⟨by rfl, ?_⟩) ?_ ?_
              rotate_left
              · intro w'
                go_simp
                with_reducible rfl
              rotate_left
              · simp only [Act.put, List.setIfInBounds_toArray, List.set_cons_zero, List.set_cons_succ, i64_w, i32_w]
                rfl
              refine pure_ (i := 7) (N := some 48) (v := ?_) (a' := ?_) #[true, true, true, true, true, true, true, true, false, false, false, false, false, false, false, false] rfl rfl (any_of HT_.out (by kernel_rfl)) (fun _ _ _ h => h) (Or.inl ⟨by rfl, ?_⟩) ?_ ?_
              rotate_left
              · intro w'
                go_simp
                with_reducible rfl
              rotate_left
              · simp only [Act.put, List.setIfInBounds_toArray, List.set_cons_zero, List.set_cons_succ, i64_w, i32_w]
                rfl
              refine pure_ (i := 8) (N := some 49) (v := ?_) (a' := ?_) #[true, true, true, true, true, true, true, true, true, false, false, false, false, false, false, false] rfl rfl (any_of HT_.out (by kernel_rfl)) (fun _ _ _ h => h) (Or.inl ⟨by rfl, ?_⟩) ?_ ?_
              rotate_left
              · intro w'
                go_simp
                with_reducible rfl
              rotate_left
              · simp only [Act.put, List.setIfInBounds_toArray, List.set_cons_zero, List.set_cons_succ, i64_w, i32_w]
                rfl
              refine take_ (i := 9) (N := some 50) (v := ?_) (a' := ?_) #[true, true, true, true, true, true, true, true, true, true, false, false, false, false, false, false] rfl rfl (take_ofW HT_.out HW_.out (by kernel_rfl)) (fun _ _ _ h => h) (Or.inl ⟨by rfl, ?_⟩) hHeld ?_ ?_
              rotate_left
              · rintro w' ⟨s0, s1, s2, s3, s4, s5, s6, s7, s8, s9⟩
                go_simp
                with_reducible rfl
              rotate_left
              · simp only [Act.put, List.setIfInBounds_toArray, List.set_cons_zero, List.set_cons_succ, i64_w, i32_w]
                rfl
              refine take_ (i := 11) (N := some 52) (v := ?_) (a' := ?_) #[true, true, true, true, true, true, true, true, true, true, false, true, false, false, false, false] rfl rfl (take_ofW HT_.out HW_.out (by kernel_rfl)) (fun _ _ _ h => h) (Or.inl ⟨by rfl, ?_⟩) hHeld ?_ ?_
              rotate_left
              · rintro w' ⟨s0, s1, s2, s3, s4, s5, s6, s7, s8, s9⟩
                go_simp
                with_reducible rfl
              rotate_left
              · simp only [Act.put, List.setIfInBounds_toArray, List.set_cons_zero, List.set_cons_succ, i64_w, i32_w]
                rfl
              refine one_ (i := 10) (N := some 51) #[true, true, true, true, true, true, true, true, true, true, true, true, false, false, false, false] rfl rfl (one_of HT_.out (by kernel_rfl)) (by decide) (fun K hK => ?_)
              refine goes_ Try.func59 (by kernel_rfl) rfl #[.agg #[.int .i64 t647, .string t648, .slice Ao46 t649.length co46, .string t652, .slice Ao47 t653.length co47]] (by rfl) rfl rfl (by (try simp only [List.map_toArray, List.map_cons, List.map_nil]); first | done | rfl | (simp only [List.length_drop, List.length_take]; rfl)) ?_
              with_reducible refine (edit_Invert.calls t647 t648 _ _ t649 t652 _ _ t653 t670 t671 t672 t675 t676 _ ?side1 ?side2 ?side3 ?side4 A31.out).mono ?_
              (case side1 => repeat (first | exact (Kd.R_reads' HO651.out).2.2 | (with_reducible refine Kd.C_alloc ?_ _) | (with_reducible refine Kd.C_drewN ?_ _) | (with_reducible refine Kd.C_drew ?_)))
              (case side2 => exact (Kd.R_reads' HO651.out).2.1)
              (case side3 => repeat (first | exact (Kd.R_reads' HO655.out).2.2 | (with_reducible refine Kd.C_alloc ?_ _) | (with_reducible refine Kd.C_drewN ?_ _) | (with_reducible refine Kd.C_drew ?_)))
              (case side4 => exact (Kd.R_reads' HO655.out).2.1)
              rintro e w64 ⟨v673, v677, rfl, ho0, ho1, hb⟩
              refine ⟨_, rfl, ?_⟩
              have n0_ := Aside0.mk (Kd.R_mono (Kd.R_told (Kd.R_told (Kd.R_old (by (with_reducible repeat (first | apply Kd.R_alloc | apply Kd.R_drewN | apply Kd.R_drew)); exact HO651.out) hb) (Kd.R_base ho0)) (Kd.R_base ho1)) (fun _ h_ => h_.1))
              have n1_ := Aside0.mk (Kd.R_mono (Kd.R_told (Kd.R_told (Kd.R_old (by (with_reducible repeat (first | apply Kd.R_alloc | apply Kd.R_drewN | apply Kd.R_drew)); exact HO655.out) hb) (Kd.R_base ho0)) (Kd.R_base ho1)) (fun _ h_ => h_.1))
              have n2_ := Aside0.mk (Kd.R_mono (Kd.R_told (Kd.R_told (Kd.R_old (by (with_reducible repeat (first | apply Kd.R_alloc | apply Kd.R_drewN | apply Kd.R_drew)); exact HO662.out) hb) (Kd.R_base ho0)) (Kd.R_base ho1)) (fun _ h_ => h_.1))
              have n3_ := Aside0.mk (Kd.V_mono (Kd.V_told (Kd.V_told (Kd.V_old (by (with_reducible repeat (first | apply Kd.V_alloc | apply Kd.V_drewN | apply Kd.V_drew)); exact HO666.out) hb) (Kd.R_base ho0)) (Kd.R_base ho1)) (fun _ h_ => h_.1))
              have n4_ := Aside0.mk (Kd.R_lower (Kd.R_new' (Kd.R_new' (Kd.R_new' ho0 (Kd.R_lt (by (with_reducible repeat (first | apply Kd.R_alloc | apply Kd.R_drewN | apply Kd.R_drew)); exact HO651.out))) (Kd.R_lt (by (with_reducible repeat (first | apply Kd.R_alloc | apply Kd.R_drewN | apply Kd.R_drew)); exact HO655.out))) (Kd.R_lt (by (with_reducible repeat (first | apply Kd.R_alloc | apply Kd.R_drewN | apply Kd.R_drew)); exact HO662.out))) (below_size (by repeat (first | (with_reducible first | exact HB.out | apply below_alloc | apply pw_below_drewN | apply below_drew1 | refine below_set ?_ GE641.out | refine below_set ?_ GE642.out | refine below_set ?_ GE643.out | refine below_set ?_ GE657.out | refine below_set ?_ GE668.out) | exact HB.out))))
              have n5_ := Aside0.mk (Kd.R_lower (Kd.R_new' (Kd.R_new' (Kd.R_new' ho1 (Kd.R_lt (by (with_reducible repeat (first | apply Kd.R_alloc | apply Kd.R_drewN | apply Kd.R_drew)); exact HO651.out))) (Kd.R_lt (by (with_reducible repeat (first | apply Kd.R_alloc | apply Kd.R_drewN | apply Kd.R_drew)); exact HO655.out))) (Kd.R_lt (by (with_reducible repeat (first | apply Kd.R_alloc | apply Kd.R_drewN | apply Kd.R_drew)); exact HO662.out))) (below_size (by repeat (first | (with_reducible first | exact HB.out | apply below_alloc | apply pw_below_drewN | apply below_drew1 | refine below_set ?_ GE641.out | refine below_set ?_ GE642.out | refine below_set ?_ GE643.out | refine below_set ?_ GE657.out | refine below_set ?_ GE668.out) | exact HB.out))))
              have n6_ := Aside0.mk (blk_below (g := gb641) (o := .cells #[.string a0_0, .slice A0_1 l0_1.length c0_1] 51 (0, 0)) (by (with_reducible repeat (first | refine blk_drewN ?_ _ | refine blk_drew ?_ | refine blk_alloc ?_ _)); exact BK641.out) hb)
              have n7_ := Aside0.mk (blk_below (g := gb642) (o := .cells #[.int .i64 a1_0, .int .i64 a1_1] 41 (0, 0)) (by (with_reducible repeat (first | refine blk_drewN ?_ _ | refine blk_drew ?_ | refine blk_alloc ?_ _)); exact BK642.out) hb)
              have n8_ := Aside0.mk (blk_below (g := gb643) (o := .cells #[.string a2_0, .slice A2_1 l2_1.length c2_1] 51 (0, 0)) (by (with_reducible repeat (first | refine blk_drewN ?_ _ | refine blk_drew ?_ | refine blk_alloc ?_ _)); exact BK643.out) hb)
              have n9_ := Aside0.mk (blk_below (g := gb657) (o := .cells #[.int .i64 t647, .string t648, .slice Ao46 t649.length co46, .string t652, .slice Ao47 t653.length co47] 64 (0, 0)) (by (with_reducible repeat (first | refine blk_drewN ?_ _ | refine blk_drew ?_ | refine blk_alloc ?_ _)); exact BK657.out) hb)
              have n10_ := Aside0.mk (blk_below (g := gb668) (o := .cells #[.int .i64 t658, .string t659, .slice Ao59 t660.length co59, .string t663, .slice Ao60 t664.length co60] 64 (0, 0)) (by (with_reducible repeat (first | refine blk_drewN ?_ _ | refine blk_drew ?_ | refine blk_alloc ?_ _)); exact BK668.out) hb)
              have n11_ := Aside0.mk (below_step (by repeat (first | (with_reducible first | exact HB.out | apply below_alloc | apply pw_below_drewN | apply below_drew1 | refine below_set ?_ GE641.out | refine below_set ?_ GE642.out | refine below_set ?_ GE643.out | refine below_set ?_ GE657.out | refine below_set ?_ GE668.out) | exact HB.out)) hb)
              clear HO651
              clear HO655
              clear HO662
              clear HO666
              clear BK641
              clear BK642
              clear BK643
              clear BK657
              clear BK668
              clear HB
              have HO651 := n0_
              have HO655 := n1_
              have HO662 := n2_
              have HO666 := n3_
              have HO674 := n4_
              have HO678 := n5_
              have BK641 := n6_
              have BK642 := n7_
              have BK643 := n8_
              have BK657 := n9_
              have BK668 := n10_
              have HB := n11_
              clear n0_ n1_ n2_ n3_ n4_ n5_ n6_ n7_ n8_ n9_ n10_ n11_
              (try clear hb)
              (try clear hb2)
              (try clear hk)
              (try clear hi)
              (try clear ho0)
              (try clear ho1)
              refine hK.out _ _ ⟨(blk_cell BK657.out 0).trans rfl, (blk_cell BK657.out 1).trans rfl, (blk_cell BK657.out 2).trans rfl, (blk_cell BK657.out 3).trans rfl, (blk_cell BK657.out 4).trans rfl, (blk_cell BK668.out 0).trans rfl, (blk_cell BK668.out 1).trans rfl, (blk_cell BK668.out 2).trans rfl, (blk_cell BK668.out 3).trans rfl, (blk_cell BK668.out 4).trans rfl⟩ (fun hHeld => ?_)
              clear hK K
              refine norm_ (a' := ?_) ?_ ?_
              rotate_left
              · show Act.put _ (some 51) _ = _
                simp only [Act.put, List.setIfInBounds_toArray, List.set_cons_zero, List.set_cons_succ, i64_w, i32_w]
                rfl
              refine one_ (i := 12) (N := some 53) #[true, true, true, true, true, true, true, true, true, true, true, true, true, false, false, false] rfl rfl (one_of HT_.out (by kernel_rfl)) (by decide) (fun K hK => ?_)
              refine goes_ Try.func60 (by kernel_rfl) rfl #[.agg #[.int .i64 t658, .string t659, .slice Ao59 t660.length co59, .string t663, .slice Ao60 t664.length co60]] (by rfl) rfl rfl (by (try simp only [List.map_toArray, List.map_cons, List.map_nil]); first | done | rfl | (simp only [List.length_drop, List.length_take]; rfl)) ?_
              with_reducible refine (bureauref07_Invert.calls t658 t659 (fun k_ => some k_ = (.slice Ao59 t660.length co59 : Value).ownBlock) _ _ t660 t663 (fun k_ => (((some k_ ≠ (.slice Ao46 t649.length co46 : Value).ownBlock ∧ (some k_ ≠ (.slice Ao47 t653.length co47 : Value).ownBlock ∧ (some k_ ≠ (.slice Ao59 t660.length co59 : Value).ownBlock ∧ (k_ ≠ gb641 ∧ (k_ ≠ gb642 ∧ (k_ ≠ gb643 ∧ (k_ ≠ gb657 ∧ k_ ≠ gb668))))))) ∧ some k_ ≠ (v673 : Value).ownBlock) ∧ some k_ ≠ (v677 : Value).ownBlock)) _ _ t664 t679 t680 t681 t684 t685 _ ?side1 ?side2 A32.out).mono ?_
              (case side1 => exact Kd.R_V (Kd.R_tight rfl (Kd.R_types (Kd.R_types (Kd.R_types (Kd.R_types (Kd.R_types (HO662.out) BK641.out (by decide)) BK642.out (by decide)) BK643.out (by decide)) BK657.out (by decide)) BK668.out (by decide))))
              (case side2 => exact HO666.out)
              rintro e w65 ⟨v682, v686, rfl, ho0, ho1, hb⟩
              refine ⟨_, rfl, ?_⟩
              have n0_ := Aside0.mk (Kd.R_below (by (with_reducible repeat (first | apply Kd.R_alloc | apply Kd.R_drewN | apply Kd.R_drew)); exact HO651.out) hb)
              have n1_ := Aside0.mk (Kd.R_below (by (with_reducible repeat (first | apply Kd.R_alloc | apply Kd.R_drewN | apply Kd.R_drew)); exact HO655.out) hb)
              have n2_ := Aside0.mk (Kd.R_below (by (with_reducible repeat (first | apply Kd.R_alloc | apply Kd.R_drewN | apply Kd.R_drew)); exact HO662.out) hb)
              have n3_ := Aside0.mk (Kd.V_below (by (with_reducible repeat (first | apply Kd.V_alloc | apply Kd.V_drewN | apply Kd.V_drew)); exact HO666.out) hb)
              have n4_ := Aside0.mk (Kd.R_below (by (with_reducible repeat (first | apply Kd.R_alloc | apply Kd.R_drewN | apply Kd.R_drew)); exact HO674.out) hb)
              have n5_ := Aside0.mk (Kd.R_below (by (with_reducible repeat (first | apply Kd.R_alloc | apply Kd.R_drewN | apply Kd.R_drew)); exact HO678.out) hb)
              have n6_ := Aside0.mk (Kd.V_lower (Kd.V_mono (ok' := fun k_ => some k_ ≠ (.slice Ao46 t649.length co46 : Value).ownBlock ∧ some k_ ≠ (.slice Ao47 t653.length co47 : Value).ownBlock ∧ some k_ ≠ (v673 : Value).ownBlock ∧ some k_ ≠ (v677 : Value).ownBlock ∧ k_ ≠ gb641 ∧ k_ ≠ gb642 ∧ k_ ≠ gb643 ∧ k_ ≠ gb657 ∧ k_ ≠ gb668) ho0 (fun k_ hk_ => ⟨Or.elim hk_ (fun hs_ => Or.elim hs_ (fun hs_ => ((Kd.R_types (Kd.R_types (Kd.R_types (Kd.R_types (Kd.R_types (HO662.out) BK641.out (by decide)) BK642.out (by decide)) BK643.out (by decide)) BK657.out (by decide)) BK668.out (by decide)).1 k_ hs_.symm).1.1.1.1.1.1.1.1) (fun hs_ => hs_.1.1.1)) (fun hn_ => (Kd.fresh' (Kd.R_lt (by (with_reducible repeat (first | apply Kd.R_alloc | apply Kd.R_drewN | apply Kd.R_drew)); exact HO651.out)) k_ hn_)), Or.elim hk_ (fun hs_ => Or.elim hs_ (fun hs_ => ((Kd.R_types (Kd.R_types (Kd.R_types (Kd.R_types (Kd.R_types (HO662.out) BK641.out (by decide)) BK642.out (by decide)) BK643.out (by decide)) BK657.out (by decide)) BK668.out (by decide)).1 k_ hs_.symm).1.1.1.1.1.1.1.2) (fun hs_ => hs_.1.1.2.1)) (fun hn_ => (Kd.fresh' (Kd.R_lt (by (with_reducible repeat (first | apply Kd.R_alloc | apply Kd.R_drewN | apply Kd.R_drew)); exact HO655.out)) k_ hn_)), Or.elim hk_ (fun hs_ => Or.elim hs_ (fun hs_ => ((Kd.R_types (Kd.R_types (Kd.R_types (Kd.R_types (Kd.R_types (HO662.out) BK641.out (by decide)) BK642.out (by decide)) BK643.out (by decide)) BK657.out (by decide)) BK668.out (by decide)).1 k_ hs_.symm).1.1.1.1.1.1.2) (fun hs_ => hs_.1.2)) (fun hn_ => (Kd.fresh' (Kd.R_lt (by (with_reducible repeat (first | apply Kd.R_alloc | apply Kd.R_drewN | apply Kd.R_drew)); exact HO674.out)) k_ hn_)), Or.elim hk_ (fun hs_ => Or.elim hs_ (fun hs_ => ((Kd.R_types (Kd.R_types (Kd.R_types (Kd.R_types (Kd.R_types (HO662.out) BK641.out (by decide)) BK642.out (by decide)) BK643.out (by decide)) BK657.out (by decide)) BK668.out (by decide)).1 k_ hs_.symm).1.1.1.1.1.2) (fun hs_ => hs_.2)) (fun hn_ => (Kd.fresh' (Kd.R_lt (by (with_reducible repeat (first | apply Kd.R_alloc | apply Kd.R_drewN | apply Kd.R_drew)); exact HO678.out)) k_ hn_)), Or.elim hk_ (fun hs_ => Or.elim hs_ (fun hs_ => ((Kd.R_types (Kd.R_types (Kd.R_types (Kd.R_types (Kd.R_types (HO662.out) BK641.out (by decide)) BK642.out (by decide)) BK643.out (by decide)) BK657.out (by decide)) BK668.out (by decide)).1 k_ hs_.symm).1.1.1.1.2) (fun hs_ => hs_.1.1.2.2.2.1)) (fun hn_ => (Kd.freshB (g := gb641) (o := .cells #[.string a0_0, .slice A0_1 l0_1.length c0_1] 51 (0, 0)) (by (with_reducible repeat (first | refine blk_drewN ?_ _ | refine blk_drew ?_ | refine blk_alloc ?_ _)); exact BK641.out) k_ hn_)), Or.elim hk_ (fun hs_ => Or.elim hs_ (fun hs_ => ((Kd.R_types (Kd.R_types (Kd.R_types (Kd.R_types (Kd.R_types (HO662.out) BK641.out (by decide)) BK642.out (by decide)) BK643.out (by decide)) BK657.out (by decide)) BK668.out (by decide)).1 k_ hs_.symm).1.1.1.2) (fun hs_ => hs_.1.1.2.2.2.2.1)) (fun hn_ => (Kd.freshB (g := gb642) (o := .cells #[.int .i64 a1_0, .int .i64 a1_1] 41 (0, 0)) (by (with_reducible repeat (first | refine blk_drewN ?_ _ | refine blk_drew ?_ | refine blk_alloc ?_ _)); exact BK642.out) k_ hn_)), Or.elim hk_ (fun hs_ => Or.elim hs_ (fun hs_ => ((Kd.R_types (Kd.R_types (Kd.R_types (Kd.R_types (Kd.R_types (HO662.out) BK641.out (by decide)) BK642.out (by decide)) BK643.out (by decide)) BK657.out (by decide)) BK668.out (by decide)).1 k_ hs_.symm).1.1.2) (fun hs_ => hs_.1.1.2.2.2.2.2.1)) (fun hn_ => (Kd.freshB (g := gb643) (o := .cells #[.string a2_0, .slice A2_1 l2_1.length c2_1] 51 (0, 0)) (by (with_reducible repeat (first | refine blk_drewN ?_ _ | refine blk_drew ?_ | refine blk_alloc ?_ _)); exact BK643.out) k_ hn_)), Or.elim hk_ (fun hs_ => Or.elim hs_ (fun hs_ => ((Kd.R_types (Kd.R_types (Kd.R_types (Kd.R_types (Kd.R_types (HO662.out) BK641.out (by decide)) BK642.out (by decide)) BK643.out (by decide)) BK657.out (by decide)) BK668.out (by decide)).1 k_ hs_.symm).1.2) (fun hs_ => hs_.1.1.2.2.2.2.2.2.1)) (fun hn_ => (Kd.freshB (g := gb657) (o := .cells #[.int .i64 t647, .string t648, .slice Ao46 t649.length co46, .string t652, .slice Ao47 t653.length co47] 64 (0, 0)) (by (with_reducible repeat (first | refine blk_drewN ?_ _ | refine blk_drew ?_ | refine blk_alloc ?_ _)); exact BK657.out) k_ hn_)), Or.elim hk_ (fun hs_ => Or.elim hs_ (fun hs_ => ((Kd.R_types (Kd.R_types (Kd.R_types (Kd.R_types (Kd.R_types (HO662.out) BK641.out (by decide)) BK642.out (by decide)) BK643.out (by decide)) BK657.out (by decide)) BK668.out (by decide)).1 k_ hs_.symm).2) (fun hs_ => hs_.1.1.2.2.2.2.2.2.2)) (fun hn_ => (Kd.freshB (g := gb668) (o := .cells #[.int .i64 t658, .string t659, .slice Ao59 t660.length co59, .string t663, .slice Ao60 t664.length co60] 64 (0, 0)) (by (with_reducible repeat (first | refine blk_drewN ?_ _ | refine blk_drew ?_ | refine blk_alloc ?_ _)); exact BK668.out) k_ hn_))⟩)) (below_size (by repeat (first | (with_reducible first | exact HB.out | apply below_alloc | apply pw_below_drewN | apply below_drew1 | refine below_set ?_ GE641.out | refine below_set ?_ GE642.out | refine below_set ?_ GE643.out | refine below_set ?_ GE657.out | refine below_set ?_ GE668.out) | exact HB.out))))
              have n7_ := Aside0.mk (Kd.V_lower (Kd.V_mono (ok' := fun k_ => some k_ ≠ (.slice Ao46 t649.length co46 : Value).ownBlock ∧ some k_ ≠ (.slice Ao47 t653.length co47 : Value).ownBlock ∧ some k_ ≠ (v673 : Value).ownBlock ∧ some k_ ≠ (v677 : Value).ownBlock ∧ k_ ≠ gb641 ∧ k_ ≠ gb642 ∧ k_ ≠ gb643 ∧ k_ ≠ gb657 ∧ k_ ≠ gb668) ho1 (fun k_ hk_ => ⟨Or.elim hk_ (fun hs_ => Or.elim hs_ (fun hs_ => ((Kd.R_types (Kd.R_types (Kd.R_types (Kd.R_types (Kd.R_types (HO662.out) BK641.out (by decide)) BK642.out (by decide)) BK643.out (by decide)) BK657.out (by decide)) BK668.out (by decide)).1 k_ hs_.symm).1.1.1.1.1.1.1.1) (fun hs_ => hs_.1.1.1)) (fun hn_ => (Kd.fresh' (Kd.R_lt (by (with_reducible repeat (first | apply Kd.R_alloc | apply Kd.R_drewN | apply Kd.R_drew)); exact HO651.out)) k_ hn_)), Or.elim hk_ (fun hs_ => Or.elim hs_ (fun hs_ => ((Kd.R_types (Kd.R_types (Kd.R_types (Kd.R_types (Kd.R_types (HO662.out) BK641.out (by decide)) BK642.out (by decide)) BK643.out (by decide)) BK657.out (by decide)) BK668.out (by decide)).1 k_ hs_.symm).1.1.1.1.1.1.1.2) (fun hs_ => hs_.1.1.2.1)) (fun hn_ => (Kd.fresh' (Kd.R_lt (by (with_reducible repeat (first | apply Kd.R_alloc | apply Kd.R_drewN | apply Kd.R_drew)); exact HO655.out)) k_ hn_)), Or.elim hk_ (fun hs_ => Or.elim hs_ (fun hs_ => ((Kd.R_types (Kd.R_types (Kd.R_types (Kd.R_types (Kd.R_types (HO662.out) BK641.out (by decide)) BK642.out (by decide)) BK643.out (by decide)) BK657.out (by decide)) BK668.out (by decide)).1 k_ hs_.symm).1.1.1.1.1.1.2) (fun hs_ => hs_.1.2)) (fun hn_ => (Kd.fresh' (Kd.R_lt (by (with_reducible repeat (first | apply Kd.R_alloc | apply Kd.R_drewN | apply Kd.R_drew)); exact HO674.out)) k_ hn_)), Or.elim hk_ (fun hs_ => Or.elim hs_ (fun hs_ => ((Kd.R_types (Kd.R_types (Kd.R_types (Kd.R_types (Kd.R_types (HO662.out) BK641.out (by decide)) BK642.out (by decide)) BK643.out (by decide)) BK657.out (by decide)) BK668.out (by decide)).1 k_ hs_.symm).1.1.1.1.1.2) (fun hs_ => hs_.2)) (fun hn_ => (Kd.fresh' (Kd.R_lt (by (with_reducible repeat (first | apply Kd.R_alloc | apply Kd.R_drewN | apply Kd.R_drew)); exact HO678.out)) k_ hn_)), Or.elim hk_ (fun hs_ => Or.elim hs_ (fun hs_ => ((Kd.R_types (Kd.R_types (Kd.R_types (Kd.R_types (Kd.R_types (HO662.out) BK641.out (by decide)) BK642.out (by decide)) BK643.out (by decide)) BK657.out (by decide)) BK668.out (by decide)).1 k_ hs_.symm).1.1.1.1.2) (fun hs_ => hs_.1.1.2.2.2.1)) (fun hn_ => (Kd.freshB (g := gb641) (o := .cells #[.string a0_0, .slice A0_1 l0_1.length c0_1] 51 (0, 0)) (by (with_reducible repeat (first | refine blk_drewN ?_ _ | refine blk_drew ?_ | refine blk_alloc ?_ _)); exact BK641.out) k_ hn_)), Or.elim hk_ (fun hs_ => Or.elim hs_ (fun hs_ => ((Kd.R_types (Kd.R_types (Kd.R_types (Kd.R_types (Kd.R_types (HO662.out) BK641.out (by decide)) BK642.out (by decide)) BK643.out (by decide)) BK657.out (by decide)) BK668.out (by decide)).1 k_ hs_.symm).1.1.1.2) (fun hs_ => hs_.1.1.2.2.2.2.1)) (fun hn_ => (Kd.freshB (g := gb642) (o := .cells #[.int .i64 a1_0, .int .i64 a1_1] 41 (0, 0)) (by (with_reducible repeat (first | refine blk_drewN ?_ _ | refine blk_drew ?_ | refine blk_alloc ?_ _)); exact BK642.out) k_ hn_)), Or.elim hk_ (fun hs_ => Or.elim hs_ (fun hs_ => ((Kd.R_types (Kd.R_types (Kd.R_types (Kd.R_types (Kd.R_types (HO662.out) BK641.out (by decide)) BK642.out (by decide)) BK643.out (by decide)) BK657.out (by decide)) BK668.out (by decide)).1 k_ hs_.symm).1.1.2) (fun hs_ => hs_.1.1.2.2.2.2.2.1)) (fun hn_ => (Kd.freshB (g := gb643) (o := .cells #[.string a2_0, .slice A2_1 l2_1.length c2_1] 51 (0, 0)) (by (with_reducible repeat (first | refine blk_drewN ?_ _ | refine blk_drew ?_ | refine blk_alloc ?_ _)); exact BK643.out) k_ hn_)), Or.elim hk_ (fun hs_ => Or.elim hs_ (fun hs_ => ((Kd.R_types (Kd.R_types (Kd.R_types (Kd.R_types (Kd.R_types (HO662.out) BK641.out (by decide)) BK642.out (by decide)) BK643.out (by decide)) BK657.out (by decide)) BK668.out (by decide)).1 k_ hs_.symm).1.2) (fun hs_ => hs_.1.1.2.2.2.2.2.2.1)) (fun hn_ => (Kd.freshB (g := gb657) (o := .cells #[.int .i64 t647, .string t648, .slice Ao46 t649.length co46, .string t652, .slice Ao47 t653.length co47] 64 (0, 0)) (by (with_reducible repeat (first | refine blk_drewN ?_ _ | refine blk_drew ?_ | refine blk_alloc ?_ _)); exact BK657.out) k_ hn_)), Or.elim hk_ (fun hs_ => Or.elim hs_ (fun hs_ => ((Kd.R_types (Kd.R_types (Kd.R_types (Kd.R_types (Kd.R_types (HO662.out) BK641.out (by decide)) BK642.out (by decide)) BK643.out (by decide)) BK657.out (by decide)) BK668.out (by decide)).1 k_ hs_.symm).2) (fun hs_ => hs_.1.1.2.2.2.2.2.2.2)) (fun hn_ => (Kd.freshB (g := gb668) (o := .cells #[.int .i64 t658, .string t659, .slice Ao59 t660.length co59, .string t663, .slice Ao60 t664.length co60] 64 (0, 0)) (by (with_reducible repeat (first | refine blk_drewN ?_ _ | refine blk_drew ?_ | refine blk_alloc ?_ _)); exact BK668.out) k_ hn_))⟩)) (below_size (by repeat (first | (with_reducible first | exact HB.out | apply below_alloc | apply pw_below_drewN | apply below_drew1 | refine below_set ?_ GE641.out | refine below_set ?_ GE642.out | refine below_set ?_ GE643.out | refine below_set ?_ GE657.out | refine below_set ?_ GE668.out) | exact HB.out))))
              have n8_ := Aside0.mk (blk_below (g := gb641) (o := .cells #[.string a0_0, .slice A0_1 l0_1.length c0_1] 51 (0, 0)) (by (with_reducible repeat (first | refine blk_drewN ?_ _ | refine blk_drew ?_ | refine blk_alloc ?_ _)); exact BK641.out) hb)
              have n9_ := Aside0.mk (blk_below (g := gb642) (o := .cells #[.int .i64 a1_0, .int .i64 a1_1] 41 (0, 0)) (by (with_reducible repeat (first | refine blk_drewN ?_ _ | refine blk_drew ?_ | refine blk_alloc ?_ _)); exact BK642.out) hb)
              have n10_ := Aside0.mk (blk_below (g := gb643) (o := .cells #[.string a2_0, .slice A2_1 l2_1.length c2_1] 51 (0, 0)) (by (with_reducible repeat (first | refine blk_drewN ?_ _ | refine blk_drew ?_ | refine blk_alloc ?_ _)); exact BK643.out) hb)
              have n11_ := Aside0.mk (blk_below (g := gb657) (o := .cells #[.int .i64 t647, .string t648, .slice Ao46 t649.length co46, .string t652, .slice Ao47 t653.length co47] 64 (0, 0)) (by (with_reducible repeat (first | refine blk_drewN ?_ _ | refine blk_drew ?_ | refine blk_alloc ?_ _)); exact BK657.out) hb)
              have n12_ := Aside0.mk (blk_below (g := gb668) (o := .cells #[.int .i64 t658, .string t659, .slice Ao59 t660.length co59, .string t663, .slice Ao60 t664.length co60] 64 (0, 0)) (by (with_reducible repeat (first | refine blk_drewN ?_ _ | refine blk_drew ?_ | refine blk_alloc ?_ _)); exact BK668.out) hb)
              have n13_ := Aside0.mk (below_step (by repeat (first | (with_reducible first | exact HB.out | apply below_alloc | apply pw_below_drewN | apply below_drew1 | refine below_set ?_ GE641.out | refine below_set ?_ GE642.out | refine below_set ?_ GE643.out | refine below_set ?_ GE657.out | refine below_set ?_ GE668.out) | exact HB.out)) hb)
              clear HO651
              clear HO655
              clear HO662
              clear HO666
              clear HO674
              clear HO678
              clear BK641
              clear BK642
              clear BK643
              clear BK657
              clear BK668
              clear HB
              have HO651 := n0_
              have HO655 := n1_
              have HO662 := n2_
              have HO666 := n3_
              have HO674 := n4_
              have HO678 := n5_
              have HO683 := n6_
              have HO687 := n7_
              have BK641 := n8_
              have BK642 := n9_
              have BK643 := n10_
              have BK657 := n11_
              have BK668 := n12_
              have HB := n13_
              clear n0_ n1_ n2_ n3_ n4_ n5_ n6_ n7_ n8_ n9_ n10_ n11_ n12_ n13_
              (try clear hb)
              (try clear hb2)
              (try clear hk)
              (try clear hi)
              (try clear ho0)
              (try clear ho1)
              obtain ⟨Ao66, co66, eo66⟩ := Kd.R_slice HO674.out
              (first | subst eo66 | (injection eo66 with f1_ f2_ f3_; have f4_ := f1_.symm; have f5_ := f3_.symm; clear f1_ f2_ f3_; subst f4_; subst f5_))
              obtain ⟨Ao67, co67, eo67⟩ := Kd.R_slice HO678.out
              (first | subst eo67 | (injection eo67 with f1_ f2_ f3_; have f4_ := f1_.symm; have f5_ := f3_.symm; clear f1_ f2_ f3_; subst f4_; subst f5_))
              obtain ⟨Ao68, co68, eo68⟩ := Kd.V_slice HO683.out
              (first | subst eo68 | (injection eo68 with f1_ f2_ f3_; have f4_ := f1_.symm; have f5_ := f3_.symm; clear f1_ f2_ f3_; subst f4_; subst f5_))
              obtain ⟨Ao69, co69, eo69⟩ := Kd.V_slice HO687.out
              (first | subst eo69 | (injection eo69 with f1_ f2_ f3_; have f4_ := f1_.symm; have f5_ := f3_.symm; clear f1_ f2_ f3_; subst f4_; subst f5_))
              refine hK.out _ _ ⟨(blk_cell BK657.out 0).trans rfl, (blk_cell BK657.out 1).trans rfl, (blk_cell BK657.out 2).trans rfl, (blk_cell BK657.out 3).trans rfl, (blk_cell BK657.out 4).trans rfl, (blk_cell BK668.out 0).trans rfl, (blk_cell BK668.out 1).trans rfl, (blk_cell BK668.out 2).trans rfl, (blk_cell BK668.out 3).trans rfl, (blk_cell BK668.out 4).trans rfl⟩ (fun hHeld => ?_)
              clear hK K
              refine norm_ (a' := ?_) ?_ ?_
              rotate_left
              · show Act.put _ (some 53) _ = _
                simp only [Act.put, List.setIfInBounds_toArray, List.set_cons_zero, List.set_cons_succ, i64_w, i32_w]
                rfl
              refine one_ (i := 13) (N := some 54) #[true, true, true, true, true, true, true, true, true, true, true, true, true, true, false, false] rfl rfl (one_of HT_.out (by kernel_rfl)) (by decide) (fun K hK => ?_)
              refine goes_ Try.func58 (by kernel_rfl) rfl #[.agg #[.int .i64 t670, .string t671, .slice Ao66 t672.length co66, .string t675, .slice Ao67 t676.length co67], .agg #[.int .i64 t679, .string t680, .slice Ao68 t681.length co68, .string t684, .slice Ao69 t685.length co69]] (by rfl) rfl rfl (by (try simp only [List.map_toArray, List.map_cons, List.map_nil]); first | done | rfl | (simp only [List.length_drop, List.length_take]; rfl)) ?_
              with_reducible refine (bureauref07_Same.calls kj5 t670 t671 _ _ t672 t675 _ _ t676 t679 t680 _ _ t681 t684 _ _ t685 t688 _ ?side1 ?side2 ?side3 ?side4 ?side5 ?side6 ?side7 ?side8 A33.out).mono ?_
              (case side1 => repeat (first | exact (Kd.R_reads' HO674.out).2.2 | (with_reducible refine Kd.C_alloc ?_ _) | (with_reducible refine Kd.C_drewN ?_ _) | (with_reducible refine Kd.C_drew ?_)))
              (case side2 => exact (Kd.R_reads' HO674.out).2.1)
              (case side3 => repeat (first | exact (Kd.R_reads' HO678.out).2.2 | (with_reducible refine Kd.C_alloc ?_ _) | (with_reducible refine Kd.C_drewN ?_ _) | (with_reducible refine Kd.C_drew ?_)))
              (case side4 => exact (Kd.R_reads' HO678.out).2.1)
              (case side5 => repeat (first | exact (Kd.V_reads' HO683.out).2.2 | (with_reducible refine Kd.C_alloc ?_ _) | (with_reducible refine Kd.C_drewN ?_ _) | (with_reducible refine Kd.C_drew ?_)))
              (case side6 => exact (Kd.V_reads' HO683.out).2.1)
              (case side7 => repeat (first | exact (Kd.V_reads' HO687.out).2.2 | (with_reducible refine Kd.C_alloc ?_ _) | (with_reducible refine Kd.C_drewN ?_ _) | (with_reducible refine Kd.C_drew ?_)))
              (case side8 => exact (Kd.V_reads' HO687.out).2.1)
              rintro e w70 ⟨rfl, hb⟩
              refine ⟨_, rfl, ?_⟩
              have n0_ := Aside0.mk (Kd.R_below (by (with_reducible repeat (first | apply Kd.R_alloc | apply Kd.R_drewN | apply Kd.R_drew)); exact HO651.out) hb)
              have n1_ := Aside0.mk (Kd.R_below (by (with_reducible repeat (first | apply Kd.R_alloc | apply Kd.R_drewN | apply Kd.R_drew)); exact HO655.out) hb)
              have n2_ := Aside0.mk (Kd.R_below (by (with_reducible repeat (first | apply Kd.R_alloc | apply Kd.R_drewN | apply Kd.R_drew)); exact HO662.out) hb)
              have n3_ := Aside0.mk (Kd.V_below (by (with_reducible repeat (first | apply Kd.V_alloc | apply Kd.V_drewN | apply Kd.V_drew)); exact HO666.out) hb)
              have n4_ := Aside0.mk (Kd.R_below (by (with_reducible repeat (first | apply Kd.R_alloc | apply Kd.R_drewN | apply Kd.R_drew)); exact HO674.out) hb)
              have n5_ := Aside0.mk (Kd.R_below (by (with_reducible repeat (first | apply Kd.R_alloc | apply Kd.R_drewN | apply Kd.R_drew)); exact HO678.out) hb)
              have n6_ := Aside0.mk (Kd.V_below (by (with_reducible repeat (first | apply Kd.V_alloc | apply Kd.V_drewN | apply Kd.V_drew)); exact HO683.out) hb)
              have n7_ := Aside0.mk (Kd.V_below (by (with_reducible repeat (first | apply Kd.V_alloc | apply Kd.V_drewN | apply Kd.V_drew)); exact HO687.out) hb)
              have n8_ := Aside0.mk (blk_below (g := gb641) (o := .cells #[.string a0_0, .slice A0_1 l0_1.length c0_1] 51 (0, 0)) (by (with_reducible repeat (first | refine blk_drewN ?_ _ | refine blk_drew ?_ | refine blk_alloc ?_ _)); exact BK641.out) hb)
              have n9_ := Aside0.mk (blk_below (g := gb642) (o := .cells #[.int .i64 a1_0, .int .i64 a1_1] 41 (0, 0)) (by (with_reducible repeat (first | refine blk_drewN ?_ _ | refine blk_drew ?_ | refine blk_alloc ?_ _)); exact BK642.out) hb)
              have n10_ := Aside0.mk (blk_below (g := gb643) (o := .cells #[.string a2_0, .slice A2_1 l2_1.length c2_1] 51 (0, 0)) (by (with_reducible repeat (first | refine blk_drewN ?_ _ | refine blk_drew ?_ | refine blk_alloc ?_ _)); exact BK643.out) hb)
              have n11_ := Aside0.mk (blk_below (g := gb657) (o := .cells #[.int .i64 t647, .string t648, .slice Ao46 t649.length co46, .string t652, .slice Ao47 t653.length co47] 64 (0, 0)) (by (with_reducible repeat (first | refine blk_drewN ?_ _ | refine blk_drew ?_ | refine blk_alloc ?_ _)); exact BK657.out) hb)
              have n12_ := Aside0.mk (blk_below (g := gb668) (o := .cells #[.int .i64 t658, .string t659, .slice Ao59 t660.length co59, .string t663, .slice Ao60 t664.length co60] 64 (0, 0)) (by (with_reducible repeat (first | refine blk_drewN ?_ _ | refine blk_drew ?_ | refine blk_alloc ?_ _)); exact BK668.out) hb)
              have n13_ := Aside0.mk (below_step (by repeat (first | (with_reducible first | exact HB.out | apply below_alloc | apply pw_below_drewN | apply below_drew1 | refine below_set ?_ GE641.out | refine below_set ?_ GE642.out | refine below_set ?_ GE643.out | refine below_set ?_ GE657.out | refine below_set ?_ GE668.out) | exact HB.out)) hb)
              clear HO651
              clear HO655
              clear HO662
              clear HO666
              clear HO674
              clear HO678
              clear HO683
              clear HO687
              clear BK641
              clear BK642
              clear BK643
              clear BK657
              clear BK668
              clear HB
              have HO651 := n0_
              have HO655 := n1_
              have HO662 := n2_
              have HO666 := n3_
              have HO674 := n4_
              have HO678 := n5_
              have HO683 := n6_
              have HO687 := n7_
              have BK641 := n8_
              have BK642 := n9_
              have BK643 := n10_
              have BK657 := n11_
              have BK668 := n12_
              have HB := n13_
              clear n0_ n1_ n2_ n3_ n4_ n5_ n6_ n7_ n8_ n9_ n10_ n11_ n12_ n13_
              (try clear hb)
              (try clear hb2)
              (try clear hk)
              (try clear hi)
              refine hK.out _ _ ⟨(blk_cell BK657.out 0).trans rfl, (blk_cell BK657.out 1).trans rfl, (blk_cell BK657.out 2).trans rfl, (blk_cell BK657.out 3).trans rfl, (blk_cell BK657.out 4).trans rfl, (blk_cell BK668.out 0).trans rfl, (blk_cell BK668.out 1).trans rfl, (blk_cell BK668.out 2).trans rfl, (blk_cell BK668.out 3).trans rfl, (blk_cell BK668.out 4).trans rfl⟩ (fun hHeld => ?_)
              clear hK K
              refine norm_ (a' := ?_) ?_ ?_
              rotate_left
              · show Act.put _ (some 54) _ = _
                simp only [Act.put, List.setIfInBounds_toArray, List.set_cons_zero, List.set_cons_succ, i64_w, i32_w]
                rfl
              refine pure_ (i := 14) (N := some 55) (v := ?_) (a' := ?_) #[true, true, true, true, true, true, true, true, true, true, true, true, true, true, true, false] rfl rfl (any_of HT_.out (by kernel_rfl)) (fun _ _ _ h => h) (Or.inl ⟨by rfl, ?_⟩) ?_ ?_
              rotate_left
              · intro w'
                go_simp
                with_reducible rfl
              rotate_left
              · simp only [Act.put, List.setIfInBounds_toArray, List.set_cons_zero, List.set_cons_succ, i64_w, i32_w]
                rfl
              refine pure_ (i := 15) (N := some 6) (v := ?_) (a' := ?_) #[true, true, true, true, true, true, true, true, true, true, true, true, true, true, true, true] rfl rfl (any_of HT_.out (by kernel_rfl)) (fun _ _ _ h => h) (Or.inl ⟨by rfl, ?_⟩) ?_ ?_
              rotate_left
              · intro w'
                go_simp
                with_reducible rfl
              rotate_left
              · simp only [Act.put, List.setIfInBounds_toArray, List.set_cons_zero, List.set_cons_succ, i64_w, i32_w]
                rfl
              refine done_ (done_of HT_.out (by kernel_rfl)) ?_
              try go_wp2
              go_ret
              exact ⟨by first | rfl | (simp [errW_none, errW_some] <;> rfl) | (simp [*, errW_none, errW_some] <;> rfl), by repeat (first | (with_reducible first | exact HB.out | apply below_alloc | apply pw_below_drewN | apply below_drew1 | refine below_set ?_ GE641.out | refine below_set ?_ GE642.out | refine below_set ?_ GE643.out | refine below_set ?_ GE657.out | refine below_set ?_ GE668.out) | exact HB.out)⟩
            · rw [if_neg c30] at H
              have c30b0 : (t656 == t667) = false := beq_eq_false_iff_ne.mpr c30
              have c30b1 : (t656 != t667) = true := bne_iff_ne.mpr c30
              obtain rfl := Option.some.inj H
              have hnb71 := NB641_642.out
              have hnc71 := NB642_641.out
              have hnb72 := NB641_643.out
              have hnc72 := NB643_641.out
              have hcz73_0 : wc.cell? ⟨gb641, 0, none⟩ = some (.string a0_0) := (blk_cell BK641.out 0).trans rfl
              have hcz73_1 : wc.cell? ⟨gb641, 1, none⟩ = some (.slice A0_1 l0_1.length c0_1) := (blk_cell BK641.out 1).trans rfl
              have hfz73_0 := blk_frozen BK641.out 0
              have hfz73_1 := blk_frozen BK641.out 1
              have hnb74 := NB642_643.out
              have hnc74 := NB643_642.out
              have hcz75_0 : wc.cell? ⟨gb642, 0, none⟩ = some (.int .i64 a1_0) := (blk_cell BK642.out 0).trans rfl
              have hcz75_1 : wc.cell? ⟨gb642, 1, none⟩ = some (.int .i64 a1_1) := (blk_cell BK642.out 1).trans rfl
              have hfz75_0 := blk_frozen BK642.out 0
              have hfz75_1 := blk_frozen BK642.out 1
              have hcz76_0 : wc.cell? ⟨gb643, 0, none⟩ = some (.string a2_0) := (blk_cell BK643.out 0).trans rfl
              have hcz76_1 : wc.cell? ⟨gb643, 1, none⟩ = some (.slice A2_1 l2_1.length c2_1) := (blk_cell BK643.out 1).trans rfl
              have hfz76_0 := blk_frozen BK643.out 0
              have hfz76_1 := blk_frozen BK643.out 1
              try go_wp2_with (first | ((with_reducible refine gate_callee (f := 56) rfl ?_); refine goesL_ (some 28) rfl rfl Try.func56 (by kernel_rfl) rfl #[.agg #[.string a0_0, .slice A0_1 l0_1.length c0_1], .int .i64 a1_0, .int .i64 a1_1, .agg #[.string a2_0, .slice A2_1 l2_1.length c2_1]] rfl (by (try simp only [List.map_toArray, List.map_cons, List.map_nil]); first | done | rfl | (simp only [List.length_drop, List.length_take]; rfl)) ?_; (with_reducible refine (edit_Of.calls kj5 a0_0 _ _ l0_1 a1_0 a1_1 a2_0 _ _ l2_1 t647 t648 t649 t652 t653 t656 _ ?side1 ?side2 ?side3 ?side4 A26.out).mono ?_); (case side1 => repeat (first | exact (Kd.C_below HR0_1.out HB.out) | (with_reducible refine Kd.C_alloc ?_ _) | (with_reducible refine Kd.C_drewN ?_ _) | (with_reducible refine Kd.C_drew ?_))); (case side2 => exact HC0_1.out); (case side3 => repeat (first | exact (Kd.C_below HR2_1.out HB.out) | (with_reducible refine Kd.C_alloc ?_ _) | (with_reducible refine Kd.C_drewN ?_ _) | (with_reducible refine Kd.C_drew ?_))); (case side4 => exact HC2_1.out); rintro e w77 ⟨v650, v654, rfl, ho0, ho1, hb⟩; refine ⟨_, rfl, ?_⟩; have n0_ := Aside0.mk (Kd.R_lower ho0 (below_size (by repeat (first | (with_reducible first | exact HB.out | apply below_alloc | apply pw_below_drewN | apply below_drew1 | refine below_set ?_ GE641.out | refine below_set ?_ GE642.out | refine below_set ?_ GE643.out) | exact HB.out)))); have n1_ := Aside0.mk (Kd.R_lower ho1 (below_size (by repeat (first | (with_reducible first | exact HB.out | apply below_alloc | apply pw_below_drewN | apply below_drew1 | refine below_set ?_ GE641.out | refine below_set ?_ GE642.out | refine below_set ?_ GE643.out) | exact HB.out)))); have n2_ := Aside0.mk (blk_below (g := gb641) (o := .cells #[.string a0_0, .slice A0_1 l0_1.length c0_1] 51 (0, 0)) (by (with_reducible repeat (first | refine blk_drewN ?_ _ | refine blk_drew ?_ | refine blk_alloc ?_ _)); exact BK641.out) hb); have n3_ := Aside0.mk (blk_below (g := gb642) (o := .cells #[.int .i64 a1_0, .int .i64 a1_1] 41 (0, 0)) (by (with_reducible repeat (first | refine blk_drewN ?_ _ | refine blk_drew ?_ | refine blk_alloc ?_ _)); exact BK642.out) hb); have n4_ := Aside0.mk (blk_below (g := gb643) (o := .cells #[.string a2_0, .slice A2_1 l2_1.length c2_1] 51 (0, 0)) (by (with_reducible repeat (first | refine blk_drewN ?_ _ | refine blk_drew ?_ | refine blk_alloc ?_ _)); exact BK643.out) hb); have n5_ := Aside0.mk (below_step (by repeat (first | (with_reducible first | exact HB.out | apply below_alloc | apply pw_below_drewN | apply below_drew1 | refine below_set ?_ GE641.out | refine below_set ?_ GE642.out | refine below_set ?_ GE643.out) | exact HB.out)) hb); clear BK641; clear BK642; clear BK643; clear HB; have HO651 := n0_; have HO655 := n1_; have BK641 := n2_; have BK642 := n3_; have BK643 := n4_; have HB := n5_; clear n0_ n1_ n2_ n3_ n4_ n5_; (try clear hb); (try clear hb2); (try clear hk); (try clear hi); (try clear ho0); (try clear ho1)) | ((with_reducible refine gate_dst (N := 7) rfl ?_); refine box_event ?hg (N := 7) ?hd (cs := #[.int .i64 0, .string (⟨#[]⟩ : ByteArray), .slice none 0 0, .string (⟨#[]⟩ : ByteArray), .slice none 0 0]) (t := 64) ?hr ?_; (case hd => rfl); (case hg => rfl); (case hr => first | (go_simp; done) | (go_simp; rfl)); intro gb657 hg w78 hbox hb; have n0_ := Aside0.mk (Kd.R_below (by (with_reducible repeat (first | apply Kd.R_alloc | apply Kd.R_drewN | apply Kd.R_drew)); exact HO651.out) hb); have n1_ := Aside0.mk (Kd.R_below (by (with_reducible repeat (first | apply Kd.R_alloc | apply Kd.R_drewN | apply Kd.R_drew)); exact HO655.out) hb); have n2_ := Aside0.mk (blk_below (g := gb641) (o := .cells #[.string a0_0, .slice A0_1 l0_1.length c0_1] 51 (0, 0)) (by (with_reducible repeat (first | refine blk_drewN ?_ _ | refine blk_drew ?_ | refine blk_alloc ?_ _)); exact BK641.out) hb); have n3_ := Aside0.mk (blk_below (g := gb642) (o := .cells #[.int .i64 a1_0, .int .i64 a1_1] 41 (0, 0)) (by (with_reducible repeat (first | refine blk_drewN ?_ _ | refine blk_drew ?_ | refine blk_alloc ?_ _)); exact BK642.out) hb); have n4_ := Aside0.mk (blk_below (g := gb643) (o := .cells #[.string a2_0, .slice A2_1 l2_1.length c2_1] 51 (0, 0)) (by (with_reducible repeat (first | refine blk_drewN ?_ _ | refine blk_drew ?_ | refine blk_alloc ?_ _)); exact BK643.out) hb); have n5_ := Aside0.mk (below_step (by repeat (first | (with_reducible first | exact HB.out | apply below_alloc | apply pw_below_drewN | apply below_drew1 | refine below_set ?_ GE641.out | refine below_set ?_ GE642.out | refine below_set ?_ GE643.out) | exact HB.out)) hb); have n6_ := Aside0.mk (hbox); have n7_ := Aside0.mk ((by rw [hg]; exact (below_size (by repeat (first | (with_reducible first | exact HB.out | apply below_alloc | apply pw_below_drewN | apply below_drew1 | refine below_set ?_ GE641.out | refine below_set ?_ GE642.out | refine below_set ?_ GE643.out) | exact HB.out))) : w.heap.size ≤ gb657)); have n8_ := Aside0.mk ((by rw [hg]; exact (below_size (by repeat (first | (with_reducible first | exact HB.out | apply below_alloc | apply pw_below_drewN | apply below_drew1 | refine below_set ?_ GE641.out | refine below_set ?_ GE642.out | refine below_set ?_ GE643.out) | exact HB.out))) : w.heap.size ≤ gb657)); have n9_ := Aside0.mk ((by rw [hg]; exact Nat.ne_of_lt (blk_lt (g := gb641) (o := .cells #[.string a0_0, .slice A0_1 l0_1.length c0_1] 51 (0, 0)) (by (with_reducible repeat (first | refine blk_drewN ?_ _ | refine blk_drew ?_ | refine blk_alloc ?_ _)); exact BK641.out)) : gb641 ≠ gb657)); have n10_ := Aside0.mk ((by rw [hg]; exact Nat.ne_of_gt (blk_lt (g := gb641) (o := .cells #[.string a0_0, .slice A0_1 l0_1.length c0_1] 51 (0, 0)) (by (with_reducible repeat (first | refine blk_drewN ?_ _ | refine blk_drew ?_ | refine blk_alloc ?_ _)); exact BK641.out)) : gb657 ≠ gb641)); have n11_ := Aside0.mk ((by rw [hg]; exact Nat.ne_of_lt (blk_lt (g := gb642) (o := .cells #[.int .i64 a1_0, .int .i64 a1_1] 41 (0, 0)) (by (with_reducible repeat (first | refine blk_drewN ?_ _ | refine blk_drew ?_ | refine blk_alloc ?_ _)); exact BK642.out)) : gb642 ≠ gb657)); have n12_ := Aside0.mk ((by rw [hg]; exact Nat.ne_of_gt (blk_lt (g := gb642) (o := .cells #[.int .i64 a1_0, .int .i64 a1_1] 41 (0, 0)) (by (with_reducible repeat (first | refine blk_drewN ?_ _ | refine blk_drew ?_ | refine blk_alloc ?_ _)); exact BK642.out)) : gb657 ≠ gb642)); have n13_ := Aside0.mk ((by rw [hg]; exact Nat.ne_of_lt (blk_lt (g := gb643) (o := .cells #[.string a2_0, .slice A2_1 l2_1.length c2_1] 51 (0, 0)) (by (with_reducible repeat (first | refine blk_drewN ?_ _ | refine blk_drew ?_ | refine blk_alloc ?_ _)); exact BK643.out)) : gb643 ≠ gb657)); have n14_ := Aside0.mk ((by rw [hg]; exact Nat.ne_of_gt (blk_lt (g := gb643) (o := .cells #[.string a2_0, .slice A2_1 l2_1.length c2_1] 51 (0, 0)) (by (with_reducible repeat (first | refine blk_drewN ?_ _ | refine blk_drew ?_ | refine blk_alloc ?_ _)); exact BK643.out)) : gb657 ≠ gb643)); clear HO651; clear HO655; clear BK641; clear BK642; clear BK643; clear HB; have HO651 := n0_; have HO655 := n1_; have BK641 := n2_; have BK642 := n3_; have BK643 := n4_; have HB := n5_; have BK657 := n6_; have GW657 := n7_; have GE657 := n8_; have NB641_657 := n9_; have NB657_641 := n10_; have NB642_657 := n11_; have NB657_642 := n12_; have NB643_657 := n13_; have NB657_643 := n14_; clear n0_ n1_ n2_ n3_ n4_ n5_ n6_ n7_ n8_ n9_ n10_ n11_ n12_ n13_ n14_; clear hb hbox hg; have hnb79 := NB657_641.out; have hnc79 := NB641_657.out; have hnb80 := NB657_642.out; have hnc80 := NB642_657.out; have hnb81 := NB657_643.out; have hnc81 := NB643_657.out; have hcz82_0 : w78.cell? ⟨gb657, 0, none⟩ = some (.int .i64 0) := (blk_cell BK657.out 0).trans rfl; have hcz82_1 : w78.cell? ⟨gb657, 1, none⟩ = some (.string (⟨#[]⟩ : ByteArray)) := (blk_cell BK657.out 1).trans rfl; have hcz82_2 : w78.cell? ⟨gb657, 2, none⟩ = some (.slice none 0 0) := (blk_cell BK657.out 2).trans rfl; have hcz82_3 : w78.cell? ⟨gb657, 3, none⟩ = some (.string (⟨#[]⟩ : ByteArray)) := (blk_cell BK657.out 3).trans rfl; have hcz82_4 : w78.cell? ⟨gb657, 4, none⟩ = some (.slice none 0 0) := (blk_cell BK657.out 4).trans rfl; have hfz82_0 := blk_frozen BK657.out 0; have hfz82_1 := blk_frozen BK657.out 1; have hfz82_2 := blk_frozen BK657.out 2; have hfz82_3 := blk_frozen BK657.out 3; have hfz82_4 := blk_frozen BK657.out 4; obtain ⟨Ao83, co83, eo83⟩ := Kd.R_slice HO651.out; subst eo83; obtain ⟨Ao84, co84, eo84⟩ := Kd.R_slice HO655.out; subst eo84) | ((with_reducible refine gate_store (t := 64) (p := 7) rfl ?_); refine store_event (t := 64) (p := 7) (v := ?vo_w85) (w1 := (((((w78.setCell ⟨gb657, 0, none⟩ (.int .i64 t647)).setCell ⟨gb657, 1, none⟩ (.string t648)).setCell ⟨gb657, 2, none⟩ (.slice Ao83 t649.length co83)).setCell ⟨gb657, 3, none⟩ (.string t652)).setCell ⟨gb657, 4, none⟩ (.slice Ao84 t653.length co84))) ?hg ?ho ?hn ?hr ?_; (case ho => rfl); (case hg => rfl); (case hn => rfl); (case hr => first | (go_simp; done) | (go_simp; rfl)); intro w85 hw; have n0_ : Aside0 (Kd.R k100 100 w85 w.heap.size (fun k_ => some k_ ≠ (.slice Ao84 t653.length co84 : Value).ownBlock) (.slice Ao83 t649.length co83) t649) := ⟨(by rw [hw]; exact (by (with_reducible repeat (first | apply Kd.R_alloc | apply Kd.R_drewN | apply Kd.R_drew)); exact Kd.R_mono (Kd.R_far (p := ⟨gb657, 4, none⟩) (Kd.R_far (p := ⟨gb657, 3, none⟩) (Kd.R_far (p := ⟨gb657, 2, none⟩) (Kd.R_far (p := ⟨gb657, 1, none⟩) (Kd.R_far (p := ⟨gb657, 0, none⟩) (Kd.R_types HO651.out BK657.out (by decide)) (fun _ hk => hk.2) (.int .i64 t647)) (fun _ hk => hk.2) (.string t648)) (fun _ hk => hk.2) (.slice Ao83 t649.length co83)) (fun _ hk => hk.2) (.string t652)) (fun _ hk => hk.2) (.slice Ao84 t653.length co84)) (fun _ hk => hk.1)))⟩; have n1_ : Aside0 (Kd.R k100 100 w85 w.heap.size (fun k_ => some k_ ≠ (.slice Ao83 t649.length co83 : Value).ownBlock) (.slice Ao84 t653.length co84) t653) := ⟨(by rw [hw]; exact (by (with_reducible repeat (first | apply Kd.R_alloc | apply Kd.R_drewN | apply Kd.R_drew)); exact Kd.R_mono (Kd.R_far (p := ⟨gb657, 4, none⟩) (Kd.R_far (p := ⟨gb657, 3, none⟩) (Kd.R_far (p := ⟨gb657, 2, none⟩) (Kd.R_far (p := ⟨gb657, 1, none⟩) (Kd.R_far (p := ⟨gb657, 0, none⟩) (Kd.R_types HO655.out BK657.out (by decide)) (fun _ hk => hk.2) (.int .i64 t647)) (fun _ hk => hk.2) (.string t648)) (fun _ hk => hk.2) (.slice Ao83 t649.length co83)) (fun _ hk => hk.2) (.string t652)) (fun _ hk => hk.2) (.slice Ao84 t653.length co84)) (fun _ hk => hk.1)))⟩; have n2_ : Aside0 (w85.heap[gb641]? = some (.cells #[.string a0_0, .slice A0_1 l0_1.length c0_1] 51 (0, 0))) := ⟨(by rw [hw]; exact (by (with_reducible repeat (first | refine blk_drewN ?_ _ | refine blk_drew ?_ | refine blk_alloc ?_ _)); refine blk_far ?_ NB641_657.out _; (with_reducible repeat (first | refine blk_drewN ?_ _ | refine blk_drew ?_ | refine blk_alloc ?_ _)); refine blk_far ?_ NB641_657.out _; (with_reducible repeat (first | refine blk_drewN ?_ _ | refine blk_drew ?_ | refine blk_alloc ?_ _)); refine blk_far ?_ NB641_657.out _; (with_reducible repeat (first | refine blk_drewN ?_ _ | refine blk_drew ?_ | refine blk_alloc ?_ _)); refine blk_far ?_ NB641_657.out _; (with_reducible repeat (first | refine blk_drewN ?_ _ | refine blk_drew ?_ | refine blk_alloc ?_ _)); refine blk_far ?_ NB641_657.out _; (with_reducible repeat (first | refine blk_drewN ?_ _ | refine blk_drew ?_ | refine blk_alloc ?_ _)); exact BK641.out))⟩; have n3_ : Aside0 (w85.heap[gb642]? = some (.cells #[.int .i64 a1_0, .int .i64 a1_1] 41 (0, 0))) := ⟨(by rw [hw]; exact (by (with_reducible repeat (first | refine blk_drewN ?_ _ | refine blk_drew ?_ | refine blk_alloc ?_ _)); refine blk_far ?_ NB642_657.out _; (with_reducible repeat (first | refine blk_drewN ?_ _ | refine blk_drew ?_ | refine blk_alloc ?_ _)); refine blk_far ?_ NB642_657.out _; (with_reducible repeat (first | refine blk_drewN ?_ _ | refine blk_drew ?_ | refine blk_alloc ?_ _)); refine blk_far ?_ NB642_657.out _; (with_reducible repeat (first | refine blk_drewN ?_ _ | refine blk_drew ?_ | refine blk_alloc ?_ _)); refine blk_far ?_ NB642_657.out _; (with_reducible repeat (first | refine blk_drewN ?_ _ | refine blk_drew ?_ | refine blk_alloc ?_ _)); refine blk_far ?_ NB642_657.out _; (with_reducible repeat (first | refine blk_drewN ?_ _ | refine blk_drew ?_ | refine blk_alloc ?_ _)); exact BK642.out))⟩; have n4_ : Aside0 (w85.heap[gb643]? = some (.cells #[.string a2_0, .slice A2_1 l2_1.length c2_1] 51 (0, 0))) := ⟨(by rw [hw]; exact (by (with_reducible repeat (first | refine blk_drewN ?_ _ | refine blk_drew ?_ | refine blk_alloc ?_ _)); refine blk_far ?_ NB643_657.out _; (with_reducible repeat (first | refine blk_drewN ?_ _ | refine blk_drew ?_ | refine blk_alloc ?_ _)); refine blk_far ?_ NB643_657.out _; (with_reducible repeat (first | refine blk_drewN ?_ _ | refine blk_drew ?_ | refine blk_alloc ?_ _)); refine blk_far ?_ NB643_657.out _; (with_reducible repeat (first | refine blk_drewN ?_ _ | refine blk_drew ?_ | refine blk_alloc ?_ _)); refine blk_far ?_ NB643_657.out _; (with_reducible repeat (first | refine blk_drewN ?_ _ | refine blk_drew ?_ | refine blk_alloc ?_ _)); refine blk_far ?_ NB643_657.out _; (with_reducible repeat (first | refine blk_drewN ?_ _ | refine blk_drew ?_ | refine blk_alloc ?_ _)); exact BK643.out))⟩; have n5_ : Aside0 (w85.heap[gb657]? = some (.cells #[.int .i64 t647, .string t648, .slice Ao83 t649.length co83, .string t652, .slice Ao84 t653.length co84] 64 (0, 0))) := ⟨(by rw [hw]; exact (by (with_reducible repeat (first | refine blk_drewN ?_ _ | refine blk_drew ?_ | refine blk_alloc ?_ _)); refine blk_put (cs := #[.int .i64 t647, .string t648, .slice Ao83 t649.length co83, .string t652, .slice none 0 0]) ?_ 4 _ rfl; (with_reducible repeat (first | refine blk_drewN ?_ _ | refine blk_drew ?_ | refine blk_alloc ?_ _)); refine blk_put (cs := #[.int .i64 t647, .string t648, .slice Ao83 t649.length co83, .string (⟨#[]⟩ : ByteArray), .slice none 0 0]) ?_ 3 _ rfl; (with_reducible repeat (first | refine blk_drewN ?_ _ | refine blk_drew ?_ | refine blk_alloc ?_ _)); refine blk_put (cs := #[.int .i64 t647, .string t648, .slice none 0 0, .string (⟨#[]⟩ : ByteArray), .slice none 0 0]) ?_ 2 _ rfl; (with_reducible repeat (first | refine blk_drewN ?_ _ | refine blk_drew ?_ | refine blk_alloc ?_ _)); refine blk_put (cs := #[.int .i64 t647, .string (⟨#[]⟩ : ByteArray), .slice none 0 0, .string (⟨#[]⟩ : ByteArray), .slice none 0 0]) ?_ 1 _ rfl; (with_reducible repeat (first | refine blk_drewN ?_ _ | refine blk_drew ?_ | refine blk_alloc ?_ _)); refine blk_put (cs := #[.int .i64 0, .string (⟨#[]⟩ : ByteArray), .slice none 0 0, .string (⟨#[]⟩ : ByteArray), .slice none 0 0]) ?_ 0 _ rfl; (with_reducible repeat (first | refine blk_drewN ?_ _ | refine blk_drew ?_ | refine blk_alloc ?_ _)); exact BK657.out))⟩; have n6_ : Aside0 (Below w.heap.size w w85) := ⟨(by rw [hw]; exact (by repeat (first | (with_reducible first | exact HB.out | apply below_alloc | apply pw_below_drewN | apply below_drew1 | refine below_set ?_ GE641.out | refine below_set ?_ GE642.out | refine below_set ?_ GE643.out | refine below_set ?_ GE657.out) | exact HB.out)))⟩; clear hw; clear HO651; clear HO655; clear BK641; clear BK642; clear BK643; clear BK657; clear HB; have HO651 := n0_; have HO655 := n1_; have BK641 := n2_; have BK642 := n3_; have BK643 := n4_; have BK657 := n5_; have HB := n6_; clear n0_ n1_ n2_ n3_ n4_ n5_ n6_; have hcz86_0 : w85.cell? ⟨gb641, 0, none⟩ = some (.string a0_0) := (blk_cell BK641.out 0).trans rfl; have hcz86_1 : w85.cell? ⟨gb641, 1, none⟩ = some (.slice A0_1 l0_1.length c0_1) := (blk_cell BK641.out 1).trans rfl; have hfz86_0 := blk_frozen BK641.out 0; have hfz86_1 := blk_frozen BK641.out 1; have hcz87_0 : w85.cell? ⟨gb642, 0, none⟩ = some (.int .i64 a1_0) := (blk_cell BK642.out 0).trans rfl; have hcz87_1 : w85.cell? ⟨gb642, 1, none⟩ = some (.int .i64 a1_1) := (blk_cell BK642.out 1).trans rfl; have hfz87_0 := blk_frozen BK642.out 0; have hfz87_1 := blk_frozen BK642.out 1; have hcz88_0 : w85.cell? ⟨gb643, 0, none⟩ = some (.string a2_0) := (blk_cell BK643.out 0).trans rfl; have hcz88_1 : w85.cell? ⟨gb643, 1, none⟩ = some (.slice A2_1 l2_1.length c2_1) := (blk_cell BK643.out 1).trans rfl; have hfz88_0 := blk_frozen BK643.out 0; have hfz88_1 := blk_frozen BK643.out 1) | ((with_reducible refine gate_callee (f := 57) rfl ?_); refine goesL_ (some 38) rfl rfl Try.func57 (by kernel_rfl) rfl #[.agg #[.string a0_0, .slice A0_1 l0_1.length c0_1], .int .i64 a1_0, .int .i64 a1_1, .agg #[.string a2_0, .slice A2_1 l2_1.length c2_1]] rfl (by (try simp only [List.map_toArray, List.map_cons, List.map_nil]); first | done | rfl | (simp only [List.length_drop, List.length_take]; rfl)) ?_; (with_reducible refine (bureauref07_Of.calls kj5 a0_0 _ _ l0_1 a1_0 a1_1 a2_0 (fun k_ => k_ < w.heap.size) _ _ l2_1 t658 t659 t660 t663 t664 t667 _ ?side1 ?side2 ?side3 A27.out).mono ?_); (case side1 => repeat (first | exact (Kd.C_below HR0_1.out HB.out) | (with_reducible refine Kd.C_alloc ?_ _) | (with_reducible refine Kd.C_drewN ?_ _) | (with_reducible refine Kd.C_drew ?_))); (case side2 => exact HC0_1.out); (case side3 => exact Kd.V_mk HC2_1.out (Kd.F_below (Kd.C_F k100_heap HR2_1.out) (by repeat (first | (with_reducible first | exact HB.out | apply below_alloc | apply pw_below_drewN | apply below_drew1 | refine below_set ?_ GE641.out | refine below_set ?_ GE642.out | refine below_set ?_ GE643.out | refine below_set ?_ GE657.out) | exact HB.out)))); rintro e w89 ⟨v661, v665, rfl, ho0, ho1, hb⟩; refine ⟨_, rfl, ?_⟩; have n0_ := Aside0.mk (Kd.R_elder' (by (with_reducible repeat (first | apply Kd.R_alloc | apply Kd.R_drewN | apply Kd.R_drew)); exact HO651.out) (Kd.R_base ho0) hb); have n1_ := Aside0.mk (Kd.R_elder' (by (with_reducible repeat (first | apply Kd.R_alloc | apply Kd.R_drewN | apply Kd.R_drew)); exact HO655.out) (Kd.R_base ho0) hb); have n2_ := Aside0.mk (Kd.R_lower (Kd.R_new' (Kd.R_new' (Kd.R_mono (ok' := fun k_ => True) ho0 (fun _ hk_ => trivial)) (Kd.R_lt (by (with_reducible repeat (first | apply Kd.R_alloc | apply Kd.R_drewN | apply Kd.R_drew)); exact HO651.out))) (Kd.R_lt (by (with_reducible repeat (first | apply Kd.R_alloc | apply Kd.R_drewN | apply Kd.R_drew)); exact HO655.out))) (below_size (by repeat (first | (with_reducible first | exact HB.out | apply below_alloc | apply pw_below_drewN | apply below_drew1 | refine below_set ?_ GE641.out | refine below_set ?_ GE642.out | refine below_set ?_ GE643.out | refine below_set ?_ GE657.out) | exact HB.out)))); have n3_ := Aside0.mk (Kd.V_lower (Kd.V_mono (ok' := fun k_ => some k_ ≠ (v661 : Value).ownBlock ∧ some k_ ≠ (.slice Ao83 t649.length co83 : Value).ownBlock ∧ some k_ ≠ (.slice Ao84 t653.length co84 : Value).ownBlock ∧ k_ ≠ gb641 ∧ k_ ≠ gb642 ∧ k_ ≠ gb643 ∧ k_ ≠ gb657) ho1 (fun k_ hk_ => ⟨hk_.2, Or.elim hk_.1 (fun hs_ => fun e_ => Nat.not_le.2 hs_ (Kd.R_base HO651.out k_ e_.symm)) (fun hn_ => (Kd.fresh' (Kd.R_lt (by (with_reducible repeat (first | apply Kd.R_alloc | apply Kd.R_drewN | apply Kd.R_drew)); exact HO651.out)) k_ hn_)), Or.elim hk_.1 (fun hs_ => fun e_ => Nat.not_le.2 hs_ (Kd.R_base HO655.out k_ e_.symm)) (fun hn_ => (Kd.fresh' (Kd.R_lt (by (with_reducible repeat (first | apply Kd.R_alloc | apply Kd.R_drewN | apply Kd.R_drew)); exact HO655.out)) k_ hn_)), Or.elim hk_.1 (fun hs_ => fun e_ => Nat.not_le.2 hs_ (by rw [e_]; exact GW641.out)) (fun hn_ => (Kd.freshB (g := gb641) (o := .cells #[.string a0_0, .slice A0_1 l0_1.length c0_1] 51 (0, 0)) (by (with_reducible repeat (first | refine blk_drewN ?_ _ | refine blk_drew ?_ | refine blk_alloc ?_ _)); exact BK641.out) k_ hn_)), Or.elim hk_.1 (fun hs_ => fun e_ => Nat.not_le.2 hs_ (by rw [e_]; exact GW642.out)) (fun hn_ => (Kd.freshB (g := gb642) (o := .cells #[.int .i64 a1_0, .int .i64 a1_1] 41 (0, 0)) (by (with_reducible repeat (first | refine blk_drewN ?_ _ | refine blk_drew ?_ | refine blk_alloc ?_ _)); exact BK642.out) k_ hn_)), Or.elim hk_.1 (fun hs_ => fun e_ => Nat.not_le.2 hs_ (by rw [e_]; exact GW643.out)) (fun hn_ => (Kd.freshB (g := gb643) (o := .cells #[.string a2_0, .slice A2_1 l2_1.length c2_1] 51 (0, 0)) (by (with_reducible repeat (first | refine blk_drewN ?_ _ | refine blk_drew ?_ | refine blk_alloc ?_ _)); exact BK643.out) k_ hn_)), Or.elim hk_.1 (fun hs_ => fun e_ => Nat.not_le.2 hs_ (by rw [e_]; exact GW657.out)) (fun hn_ => (Kd.freshB (g := gb657) (o := .cells #[.int .i64 t647, .string t648, .slice Ao83 t649.length co83, .string t652, .slice Ao84 t653.length co84] 64 (0, 0)) (by (with_reducible repeat (first | refine blk_drewN ?_ _ | refine blk_drew ?_ | refine blk_alloc ?_ _)); exact BK657.out) k_ hn_))⟩)) (below_size (by repeat (first | (with_reducible first | exact HB.out | apply below_alloc | apply pw_below_drewN | apply below_drew1 | refine below_set ?_ GE641.out | refine below_set ?_ GE642.out | refine below_set ?_ GE643.out | refine below_set ?_ GE657.out) | exact HB.out)))); have n4_ := Aside0.mk (blk_below (g := gb641) (o := .cells #[.string a0_0, .slice A0_1 l0_1.length c0_1] 51 (0, 0)) (by (with_reducible repeat (first | refine blk_drewN ?_ _ | refine blk_drew ?_ | refine blk_alloc ?_ _)); exact BK641.out) hb); have n5_ := Aside0.mk (blk_below (g := gb642) (o := .cells #[.int .i64 a1_0, .int .i64 a1_1] 41 (0, 0)) (by (with_reducible repeat (first | refine blk_drewN ?_ _ | refine blk_drew ?_ | refine blk_alloc ?_ _)); exact BK642.out) hb); have n6_ := Aside0.mk (blk_below (g := gb643) (o := .cells #[.string a2_0, .slice A2_1 l2_1.length c2_1] 51 (0, 0)) (by (with_reducible repeat (first | refine blk_drewN ?_ _ | refine blk_drew ?_ | refine blk_alloc ?_ _)); exact BK643.out) hb); have n7_ := Aside0.mk (blk_below (g := gb657) (o := .cells #[.int .i64 t647, .string t648, .slice Ao83 t649.length co83, .string t652, .slice Ao84 t653.length co84] 64 (0, 0)) (by (with_reducible repeat (first | refine blk_drewN ?_ _ | refine blk_drew ?_ | refine blk_alloc ?_ _)); exact BK657.out) hb); have n8_ := Aside0.mk (below_step (by repeat (first | (with_reducible first | exact HB.out | apply below_alloc | apply pw_below_drewN | apply below_drew1 | refine below_set ?_ GE641.out | refine below_set ?_ GE642.out | refine below_set ?_ GE643.out | refine below_set ?_ GE657.out) | exact HB.out)) hb); clear HO651; clear HO655; clear BK641; clear BK642; clear BK643; clear BK657; clear HB; have HO651 := n0_; have HO655 := n1_; have HO662 := n2_; have HO666 := n3_; have BK641 := n4_; have BK642 := n5_; have BK643 := n6_; have BK657 := n7_; have HB := n8_; clear n0_ n1_ n2_ n3_ n4_ n5_ n6_ n7_ n8_; (try clear hb); (try clear hb2); (try clear hk); (try clear hi); (try clear ho0); (try clear ho1)) | ((with_reducible refine gate_dst (N := 9) rfl ?_); refine box_event ?hg (N := 9) ?hd (cs := #[.int .i64 0, .string (⟨#[]⟩ : ByteArray), .slice none 0 0, .string (⟨#[]⟩ : ByteArray), .slice none 0 0]) (t := 64) ?hr ?_; (case hd => rfl); (case hg => rfl); (case hr => first | (go_simp; done) | (go_simp; rfl)); intro gb668 hg w90 hbox hb; have n0_ := Aside0.mk (Kd.R_below (by (with_reducible repeat (first | apply Kd.R_alloc | apply Kd.R_drewN | apply Kd.R_drew)); exact HO651.out) hb); have n1_ := Aside0.mk (Kd.R_below (by (with_reducible repeat (first | apply Kd.R_alloc | apply Kd.R_drewN | apply Kd.R_drew)); exact HO655.out) hb); have n2_ := Aside0.mk (Kd.R_below (by (with_reducible repeat (first | apply Kd.R_alloc | apply Kd.R_drewN | apply Kd.R_drew)); exact HO662.out) hb); have n3_ := Aside0.mk (Kd.V_below (Kd.V_elderB (by (with_reducible repeat (first | apply Kd.V_alloc | apply Kd.V_drewN | apply Kd.V_drew)); exact HO666.out) gb668 (Nat.le_of_eq hg.symm)) hb); have n4_ := Aside0.mk (blk_below (g := gb641) (o := .cells #[.string a0_0, .slice A0_1 l0_1.length c0_1] 51 (0, 0)) (by (with_reducible repeat (first | refine blk_drewN ?_ _ | refine blk_drew ?_ | refine blk_alloc ?_ _)); exact BK641.out) hb); have n5_ := Aside0.mk (blk_below (g := gb642) (o := .cells #[.int .i64 a1_0, .int .i64 a1_1] 41 (0, 0)) (by (with_reducible repeat (first | refine blk_drewN ?_ _ | refine blk_drew ?_ | refine blk_alloc ?_ _)); exact BK642.out) hb); have n6_ := Aside0.mk (blk_below (g := gb643) (o := .cells #[.string a2_0, .slice A2_1 l2_1.length c2_1] 51 (0, 0)) (by (with_reducible repeat (first | refine blk_drewN ?_ _ | refine blk_drew ?_ | refine blk_alloc ?_ _)); exact BK643.out) hb); have n7_ := Aside0.mk (blk_below (g := gb657) (o := .cells #[.int .i64 t647, .string t648, .slice Ao83 t649.length co83, .string t652, .slice Ao84 t653.length co84] 64 (0, 0)) (by (with_reducible repeat (first | refine blk_drewN ?_ _ | refine blk_drew ?_ | refine blk_alloc ?_ _)); exact BK657.out) hb); have n8_ := Aside0.mk (below_step (by repeat (first | (with_reducible first | exact HB.out | apply below_alloc | apply pw_below_drewN | apply below_drew1 | refine below_set ?_ GE641.out | refine below_set ?_ GE642.out | refine below_set ?_ GE643.out | refine below_set ?_ GE657.out) | exact HB.out)) hb); have n9_ := Aside0.mk (hbox); have n10_ := Aside0.mk ((by rw [hg]; exact (below_size (by repeat (first | (with_reducible first | exact HB.out | apply below_alloc | apply pw_below_drewN | apply below_drew1 | refine below_set ?_ GE641.out | refine below_set ?_ GE642.out | refine below_set ?_ GE643.out | refine below_set ?_ GE657.out) | exact HB.out))) : w.heap.size ≤ gb668)); have n11_ := Aside0.mk ((by rw [hg]; exact (below_size (by repeat (first | (with_reducible first | exact HB.out | apply below_alloc | apply pw_below_drewN | apply below_drew1 | refine below_set ?_ GE641.out | refine below_set ?_ GE642.out | refine below_set ?_ GE643.out | refine below_set ?_ GE657.out) | exact HB.out))) : w.heap.size ≤ gb668)); have n12_ := Aside0.mk ((by rw [hg]; exact Nat.ne_of_lt (blk_lt (g := gb641) (o := .cells #[.string a0_0, .slice A0_1 l0_1.length c0_1] 51 (0, 0)) (by (with_reducible repeat (first | refine blk_drewN ?_ _ | refine blk_drew ?_ | refine blk_alloc ?_ _)); exact BK641.out)) : gb641 ≠ gb668)); have n13_ := Aside0.mk ((by rw [hg]; exact Nat.ne_of_gt (blk_lt (g := gb641) (o := .cells #[.string a0_0, .slice A0_1 l0_1.length c0_1] 51 (0, 0)) (by (with_reducible repeat (first | refine blk_drewN ?_ _ | refine blk_drew ?_ | refine blk_alloc ?_ _)); exact BK641.out)) : gb668 ≠ gb641)); have n14_ := Aside0.mk ((by rw [hg]; exact Nat.ne_of_lt (blk_lt (g := gb642) (o := .cells #[.int .i64 a1_0, .int .i64 a1_1] 41 (0, 0)) (by (with_reducible repeat (first | refine blk_drewN ?_ _ | refine blk_drew ?_ | refine blk_alloc ?_ _)); exact BK642.out)) : gb642 ≠ gb668)); have n15_ := Aside0.mk ((by rw [hg]; exact Nat.ne_of_gt (blk_lt (g := gb642) (o := .cells #[.int .i64 a1_0, .int .i64 a1_1] 41 (0, 0)) (by (with_reducible repeat (first | refine blk_drewN ?_ _ | refine blk_drew ?_ | refine blk_alloc ?_ _)); exact BK642.out)) : gb668 ≠ gb642)); have n16_ := Aside0.mk ((by rw [hg]; exact Nat.ne_of_lt (blk_lt (g := gb643) (o := .cells #[.string a2_0, .slice A2_1 l2_1.length c2_1] 51 (0, 0)) (by (with_reducible repeat (first | refine blk_drewN ?_ _ | refine blk_drew ?_ | refine blk_alloc ?_ _)); exact BK643.out)) : gb643 ≠ gb668)); have n17_ := Aside0.mk ((by rw [hg]; exact Nat.ne_of_gt (blk_lt (g := gb643) (o := .cells #[.string a2_0, .slice A2_1 l2_1.length c2_1] 51 (0, 0)) (by (with_reducible repeat (first | refine blk_drewN ?_ _ | refine blk_drew ?_ | refine blk_alloc ?_ _)); exact BK643.out)) : gb668 ≠ gb643)); have n18_ := Aside0.mk ((by rw [hg]; exact Nat.ne_of_lt (blk_lt (g := gb657) (o := .cells #[.int .i64 t647, .string t648, .slice Ao83 t649.length co83, .string t652, .slice Ao84 t653.length co84] 64 (0, 0)) (by (with_reducible repeat (first | refine blk_drewN ?_ _ | refine blk_drew ?_ | refine blk_alloc ?_ _)); exact BK657.out)) : gb657 ≠ gb668)); have n19_ := Aside0.mk ((by rw [hg]; exact Nat.ne_of_gt (blk_lt (g := gb657) (o := .cells #[.int .i64 t647, .string t648, .slice Ao83 t649.length co83, .string t652, .slice Ao84 t653.length co84] 64 (0, 0)) (by (with_reducible repeat (first | refine blk_drewN ?_ _ | refine blk_drew ?_ | refine blk_alloc ?_ _)); exact BK657.out)) : gb668 ≠ gb657)); clear HO651; clear HO655; clear HO662; clear HO666; clear BK641; clear BK642; clear BK643; clear BK657; clear HB; have HO651 := n0_; have HO655 := n1_; have HO662 := n2_; have HO666 := n3_; have BK641 := n4_; have BK642 := n5_; have BK643 := n6_; have BK657 := n7_; have HB := n8_; have BK668 := n9_; have GW668 := n10_; have GE668 := n11_; have NB641_668 := n12_; have NB668_641 := n13_; have NB642_668 := n14_; have NB668_642 := n15_; have NB643_668 := n16_; have NB668_643 := n17_; have NB657_668 := n18_; have NB668_657 := n19_; clear n0_ n1_ n2_ n3_ n4_ n5_ n6_ n7_ n8_ n9_ n10_ n11_ n12_ n13_ n14_ n15_ n16_ n17_ n18_ n19_; clear hb hbox hg; have hnb91 := NB668_641.out; have hnc91 := NB641_668.out; have hnb92 := NB668_642.out; have hnc92 := NB642_668.out; have hnb93 := NB668_643.out; have hnc93 := NB643_668.out; have hnb94 := NB668_657.out; have hnc94 := NB657_668.out; have hcz95_0 : w90.cell? ⟨gb668, 0, none⟩ = some (.int .i64 0) := (blk_cell BK668.out 0).trans rfl; have hcz95_1 : w90.cell? ⟨gb668, 1, none⟩ = some (.string (⟨#[]⟩ : ByteArray)) := (blk_cell BK668.out 1).trans rfl; have hcz95_2 : w90.cell? ⟨gb668, 2, none⟩ = some (.slice none 0 0) := (blk_cell BK668.out 2).trans rfl; have hcz95_3 : w90.cell? ⟨gb668, 3, none⟩ = some (.string (⟨#[]⟩ : ByteArray)) := (blk_cell BK668.out 3).trans rfl; have hcz95_4 : w90.cell? ⟨gb668, 4, none⟩ = some (.slice none 0 0) := (blk_cell BK668.out 4).trans rfl; have hfz95_0 := blk_frozen BK668.out 0; have hfz95_1 := blk_frozen BK668.out 1; have hfz95_2 := blk_frozen BK668.out 2; have hfz95_3 := blk_frozen BK668.out 3; have hfz95_4 := blk_frozen BK668.out 4; obtain ⟨Ao96, co96, eo96⟩ := Kd.R_slice HO662.out; subst eo96; obtain ⟨Ao97, co97, eo97⟩ := Kd.V_slice HO666.out; subst eo97))
              have n0_ : Aside0 (Kd.R k100 100 (((((w90.setCell ⟨gb668, 0, none⟩ (.int .i64 t658)).setCell ⟨gb668, 1, none⟩ (.string t659)).setCell ⟨gb668, 2, none⟩ (.slice Ao96 t660.length co96)).setCell ⟨gb668, 3, none⟩ (.string t663)).setCell ⟨gb668, 4, none⟩ (.slice Ao97 t664.length co97)) w.heap.size (fun k_ => some k_ ≠ (.slice Ao84 t653.length co84 : Value).ownBlock ∧ some k_ ≠ (.slice Ao96 t660.length co96 : Value).ownBlock) (.slice Ao83 t649.length co83) t649) := ⟨by (with_reducible repeat (first | apply Kd.R_alloc | apply Kd.R_drewN | apply Kd.R_drew)); exact Kd.R_mono (Kd.R_far (p := ⟨gb668, 4, none⟩) (Kd.R_far (p := ⟨gb668, 3, none⟩) (Kd.R_far (p := ⟨gb668, 2, none⟩) (Kd.R_far (p := ⟨gb668, 1, none⟩) (Kd.R_far (p := ⟨gb668, 0, none⟩) (Kd.R_types HO651.out BK668.out (by decide)) (fun _ hk => hk.2) (.int .i64 t658)) (fun _ hk => hk.2) (.string t659)) (fun _ hk => hk.2) (.slice Ao96 t660.length co96)) (fun _ hk => hk.2) (.string t663)) (fun _ hk => hk.2) (.slice Ao97 t664.length co97)) (fun _ hk => ⟨hk.1.1, hk.1.2⟩)⟩
              have n1_ : Aside0 (Kd.R k100 100 (((((w90.setCell ⟨gb668, 0, none⟩ (.int .i64 t658)).setCell ⟨gb668, 1, none⟩ (.string t659)).setCell ⟨gb668, 2, none⟩ (.slice Ao96 t660.length co96)).setCell ⟨gb668, 3, none⟩ (.string t663)).setCell ⟨gb668, 4, none⟩ (.slice Ao97 t664.length co97)) w.heap.size (fun k_ => some k_ ≠ (.slice Ao83 t649.length co83 : Value).ownBlock ∧ some k_ ≠ (.slice Ao96 t660.length co96 : Value).ownBlock) (.slice Ao84 t653.length co84) t653) := ⟨by (with_reducible repeat (first | apply Kd.R_alloc | apply Kd.R_drewN | apply Kd.R_drew)); exact Kd.R_mono (Kd.R_far (p := ⟨gb668, 4, none⟩) (Kd.R_far (p := ⟨gb668, 3, none⟩) (Kd.R_far (p := ⟨gb668, 2, none⟩) (Kd.R_far (p := ⟨gb668, 1, none⟩) (Kd.R_far (p := ⟨gb668, 0, none⟩) (Kd.R_types HO655.out BK668.out (by decide)) (fun _ hk => hk.2) (.int .i64 t658)) (fun _ hk => hk.2) (.string t659)) (fun _ hk => hk.2) (.slice Ao96 t660.length co96)) (fun _ hk => hk.2) (.string t663)) (fun _ hk => hk.2) (.slice Ao97 t664.length co97)) (fun _ hk => ⟨hk.1.1, hk.1.2⟩)⟩
              have n2_ : Aside0 (Kd.R k100 100 (((((w90.setCell ⟨gb668, 0, none⟩ (.int .i64 t658)).setCell ⟨gb668, 1, none⟩ (.string t659)).setCell ⟨gb668, 2, none⟩ (.slice Ao96 t660.length co96)).setCell ⟨gb668, 3, none⟩ (.string t663)).setCell ⟨gb668, 4, none⟩ (.slice Ao97 t664.length co97)) w.heap.size (fun k_ => some k_ ≠ (.slice Ao83 t649.length co83 : Value).ownBlock ∧ some k_ ≠ (.slice Ao84 t653.length co84 : Value).ownBlock) (.slice Ao96 t660.length co96) t660) := ⟨by (with_reducible repeat (first | apply Kd.R_alloc | apply Kd.R_drewN | apply Kd.R_drew)); exact Kd.R_mono (Kd.R_far (p := ⟨gb668, 4, none⟩) (Kd.R_far (p := ⟨gb668, 3, none⟩) (Kd.R_far (p := ⟨gb668, 2, none⟩) (Kd.R_far (p := ⟨gb668, 1, none⟩) (Kd.R_far (p := ⟨gb668, 0, none⟩) (Kd.R_types HO662.out BK668.out (by decide)) (fun _ hk => hk.2) (.int .i64 t658)) (fun _ hk => hk.2) (.string t659)) (fun _ hk => hk.2) (.slice Ao96 t660.length co96)) (fun _ hk => hk.2) (.string t663)) (fun _ hk => hk.2) (.slice Ao97 t664.length co97)) (fun _ hk => ⟨hk.1.1.2, hk.1.2⟩)⟩
              have n3_ : Aside0 (Kd.V k100 100 (((((w90.setCell ⟨gb668, 0, none⟩ (.int .i64 t658)).setCell ⟨gb668, 1, none⟩ (.string t659)).setCell ⟨gb668, 2, none⟩ (.slice Ao96 t660.length co96)).setCell ⟨gb668, 3, none⟩ (.string t663)).setCell ⟨gb668, 4, none⟩ (.slice Ao97 t664.length co97)) w.heap.size (fun k_ => some k_ ≠ (.slice Ao83 t649.length co83 : Value).ownBlock ∧ some k_ ≠ (.slice Ao84 t653.length co84 : Value).ownBlock ∧ some k_ ≠ (.slice Ao96 t660.length co96 : Value).ownBlock ∧ k_ ≠ gb641 ∧ k_ ≠ gb642 ∧ k_ ≠ gb643 ∧ k_ ≠ gb657 ∧ k_ ≠ gb668) (.slice Ao97 t664.length co97) t664) := ⟨by (with_reducible repeat (first | apply Kd.V_alloc | apply Kd.V_drewN | apply Kd.V_drew)); exact Kd.V_mono (Kd.V_far (p := ⟨gb668, 4, none⟩) (Kd.V_far (p := ⟨gb668, 3, none⟩) (Kd.V_far (p := ⟨gb668, 2, none⟩) (Kd.V_far (p := ⟨gb668, 1, none⟩) (Kd.V_far (p := ⟨gb668, 0, none⟩) (Kd.V_mono HO666.out (fun k_ hk => (⟨hk, hk.2⟩ : _ ∧ k_ ≠ gb668))) (fun _ hk => hk.2) (.int .i64 t658)) (fun _ hk => hk.2) (.string t659)) (fun _ hk => hk.2) (.slice Ao96 t660.length co96)) (fun _ hk => hk.2) (.string t663)) (fun _ hk => hk.2) (.slice Ao97 t664.length co97)) (fun _ hk => ⟨hk.1.1.2.1, ⟨hk.1.1.2.2.1, ⟨hk.1.1.1, ⟨hk.1.1.2.2.2.1, ⟨hk.1.1.2.2.2.2.1, ⟨hk.1.1.2.2.2.2.2.1, ⟨hk.1.1.2.2.2.2.2.2, hk.1.2⟩⟩⟩⟩⟩⟩⟩)⟩
              have n4_ : Aside0 ((((((w90.setCell ⟨gb668, 0, none⟩ (.int .i64 t658)).setCell ⟨gb668, 1, none⟩ (.string t659)).setCell ⟨gb668, 2, none⟩ (.slice Ao96 t660.length co96)).setCell ⟨gb668, 3, none⟩ (.string t663)).setCell ⟨gb668, 4, none⟩ (.slice Ao97 t664.length co97)).heap[gb641]? = some (.cells #[.string a0_0, .slice A0_1 l0_1.length c0_1] 51 (0, 0))) := ⟨by (with_reducible repeat (first | refine blk_drewN ?_ _ | refine blk_drew ?_ | refine blk_alloc ?_ _)); refine blk_far ?_ NB641_668.out _; (with_reducible repeat (first | refine blk_drewN ?_ _ | refine blk_drew ?_ | refine blk_alloc ?_ _)); refine blk_far ?_ NB641_668.out _; (with_reducible repeat (first | refine blk_drewN ?_ _ | refine blk_drew ?_ | refine blk_alloc ?_ _)); refine blk_far ?_ NB641_668.out _; (with_reducible repeat (first | refine blk_drewN ?_ _ | refine blk_drew ?_ | refine blk_alloc ?_ _)); refine blk_far ?_ NB641_668.out _; (with_reducible repeat (first | refine blk_drewN ?_ _ | refine blk_drew ?_ | refine blk_alloc ?_ _)); refine blk_far ?_ NB641_668.out _; (with_reducible repeat (first | refine blk_drewN ?_ _ | refine blk_drew ?_ | refine blk_alloc ?_ _)); exact BK641.out⟩
              have n5_ : Aside0 ((((((w90.setCell ⟨gb668, 0, none⟩ (.int .i64 t658)).setCell ⟨gb668, 1, none⟩ (.string t659)).setCell ⟨gb668, 2, none⟩ (.slice Ao96 t660.length co96)).setCell ⟨gb668, 3, none⟩ (.string t663)).setCell ⟨gb668, 4, none⟩ (.slice Ao97 t664.length co97)).heap[gb642]? = some (.cells #[.int .i64 a1_0, .int .i64 a1_1] 41 (0, 0))) := ⟨by (with_reducible repeat (first | refine blk_drewN ?_ _ | refine blk_drew ?_ | refine blk_alloc ?_ _)); refine blk_far ?_ NB642_668.out _; (with_reducible repeat (first | refine blk_drewN ?_ _ | refine blk_drew ?_ | refine blk_alloc ?_ _)); refine blk_far ?_ NB642_668.out _; (with_reducible repeat (first | refine blk_drewN ?_ _ | refine blk_drew ?_ | refine blk_alloc ?_ _)); refine blk_far ?_ NB642_668.out _; (with_reducible repeat (first | refine blk_drewN ?_ _ | refine blk_drew ?_ | refine blk_alloc ?_ _)); refine blk_far ?_ NB642_668.out _; (with_reducible repeat (first | refine blk_drewN ?_ _ | refine blk_drew ?_ | refine blk_alloc ?_ _)); refine blk_far ?_ NB642_668.out _; (with_reducible repeat (first | refine blk_drewN ?_ _ | refine blk_drew ?_ | refine blk_alloc ?_ _)); exact BK642.out⟩
              have n6_ : Aside0 ((((((w90.setCell ⟨gb668, 0, none⟩ (.int .i64 t658)).setCell ⟨gb668, 1, none⟩ (.string t659)).setCell ⟨gb668, 2, none⟩ (.slice Ao96 t660.length co96)).setCell ⟨gb668, 3, none⟩ (.string t663)).setCell ⟨gb668, 4, none⟩ (.slice Ao97 t664.length co97)).heap[gb643]? = some (.cells #[.string a2_0, .slice A2_1 l2_1.length c2_1] 51 (0, 0))) := ⟨by (with_reducible repeat (first | refine blk_drewN ?_ _ | refine blk_drew ?_ | refine blk_alloc ?_ _)); refine blk_far ?_ NB643_668.out _; (with_reducible repeat (first | refine blk_drewN ?_ _ | refine blk_drew ?_ | refine blk_alloc ?_ _)); refine blk_far ?_ NB643_668.out _; (with_reducible repeat (first | refine blk_drewN ?_ _ | refine blk_drew ?_ | refine blk_alloc ?_ _)); refine blk_far ?_ NB643_668.out _; (with_reducible repeat (first | refine blk_drewN ?_ _ | refine blk_drew ?_ | refine blk_alloc ?_ _)); refine blk_far ?_ NB643_668.out _; (with_reducible repeat (first | refine blk_drewN ?_ _ | refine blk_drew ?_ | refine blk_alloc ?_ _)); refine blk_far ?_ NB643_668.out _; (with_reducible repeat (first | refine blk_drewN ?_ _ | refine blk_drew ?_ | refine blk_alloc ?_ _)); exact BK643.out⟩
              have n7_ : Aside0 ((((((w90.setCell ⟨gb668, 0, none⟩ (.int .i64 t658)).setCell ⟨gb668, 1, none⟩ (.string t659)).setCell ⟨gb668, 2, none⟩ (.slice Ao96 t660.length co96)).setCell ⟨gb668, 3, none⟩ (.string t663)).setCell ⟨gb668, 4, none⟩ (.slice Ao97 t664.length co97)).heap[gb657]? = some (.cells #[.int .i64 t647, .string t648, .slice Ao83 t649.length co83, .string t652, .slice Ao84 t653.length co84] 64 (0, 0))) := ⟨by (with_reducible repeat (first | refine blk_drewN ?_ _ | refine blk_drew ?_ | refine blk_alloc ?_ _)); refine blk_far ?_ NB657_668.out _; (with_reducible repeat (first | refine blk_drewN ?_ _ | refine blk_drew ?_ | refine blk_alloc ?_ _)); refine blk_far ?_ NB657_668.out _; (with_reducible repeat (first | refine blk_drewN ?_ _ | refine blk_drew ?_ | refine blk_alloc ?_ _)); refine blk_far ?_ NB657_668.out _; (with_reducible repeat (first | refine blk_drewN ?_ _ | refine blk_drew ?_ | refine blk_alloc ?_ _)); refine blk_far ?_ NB657_668.out _; (with_reducible repeat (first | refine blk_drewN ?_ _ | refine blk_drew ?_ | refine blk_alloc ?_ _)); refine blk_far ?_ NB657_668.out _; (with_reducible repeat (first | refine blk_drewN ?_ _ | refine blk_drew ?_ | refine blk_alloc ?_ _)); exact BK657.out⟩
              have n8_ : Aside0 ((((((w90.setCell ⟨gb668, 0, none⟩ (.int .i64 t658)).setCell ⟨gb668, 1, none⟩ (.string t659)).setCell ⟨gb668, 2, none⟩ (.slice Ao96 t660.length co96)).setCell ⟨gb668, 3, none⟩ (.string t663)).setCell ⟨gb668, 4, none⟩ (.slice Ao97 t664.length co97)).heap[gb668]? = some (.cells #[.int .i64 t658, .string t659, .slice Ao96 t660.length co96, .string t663, .slice Ao97 t664.length co97] 64 (0, 0))) := ⟨by (with_reducible repeat (first | refine blk_drewN ?_ _ | refine blk_drew ?_ | refine blk_alloc ?_ _)); refine blk_put (cs := #[.int .i64 t658, .string t659, .slice Ao96 t660.length co96, .string t663, .slice none 0 0]) ?_ 4 _ rfl; (with_reducible repeat (first | refine blk_drewN ?_ _ | refine blk_drew ?_ | refine blk_alloc ?_ _)); refine blk_put (cs := #[.int .i64 t658, .string t659, .slice Ao96 t660.length co96, .string (⟨#[]⟩ : ByteArray), .slice none 0 0]) ?_ 3 _ rfl; (with_reducible repeat (first | refine blk_drewN ?_ _ | refine blk_drew ?_ | refine blk_alloc ?_ _)); refine blk_put (cs := #[.int .i64 t658, .string t659, .slice none 0 0, .string (⟨#[]⟩ : ByteArray), .slice none 0 0]) ?_ 2 _ rfl; (with_reducible repeat (first | refine blk_drewN ?_ _ | refine blk_drew ?_ | refine blk_alloc ?_ _)); refine blk_put (cs := #[.int .i64 t658, .string (⟨#[]⟩ : ByteArray), .slice none 0 0, .string (⟨#[]⟩ : ByteArray), .slice none 0 0]) ?_ 1 _ rfl; (with_reducible repeat (first | refine blk_drewN ?_ _ | refine blk_drew ?_ | refine blk_alloc ?_ _)); refine blk_put (cs := #[.int .i64 0, .string (⟨#[]⟩ : ByteArray), .slice none 0 0, .string (⟨#[]⟩ : ByteArray), .slice none 0 0]) ?_ 0 _ rfl; (with_reducible repeat (first | refine blk_drewN ?_ _ | refine blk_drew ?_ | refine blk_alloc ?_ _)); exact BK668.out⟩
              have n9_ : Aside0 (Below w.heap.size w (((((w90.setCell ⟨gb668, 0, none⟩ (.int .i64 t658)).setCell ⟨gb668, 1, none⟩ (.string t659)).setCell ⟨gb668, 2, none⟩ (.slice Ao96 t660.length co96)).setCell ⟨gb668, 3, none⟩ (.string t663)).setCell ⟨gb668, 4, none⟩ (.slice Ao97 t664.length co97))) := ⟨by repeat (first | (with_reducible first | exact HB.out | apply below_alloc | apply pw_below_drewN | apply below_drew1 | refine below_set ?_ GE641.out | refine below_set ?_ GE642.out | refine below_set ?_ GE643.out | refine below_set ?_ GE657.out | refine below_set ?_ GE668.out) | exact HB.out)⟩
              (try clear HO651)
              (try clear HO655)
              (try clear HO662)
              (try clear HO666)
              (try clear BK641)
              (try clear BK642)
              (try clear BK643)
              (try clear BK657)
              (try clear BK668)
              (try clear HB)
              generalize (((((w90.setCell ⟨gb668, 0, none⟩ (.int .i64 t658)).setCell ⟨gb668, 1, none⟩ (.string t659)).setCell ⟨gb668, 2, none⟩ (.slice Ao96 t660.length co96)).setCell ⟨gb668, 3, none⟩ (.string t663)).setCell ⟨gb668, 4, none⟩ (.slice Ao97 t664.length co97)) = w98 at n0_ n1_ n2_ n3_ n4_ n5_ n6_ n7_ n8_ n9_ ⊢
              have HO651 := n0_
              have HO655 := n1_
              have HO662 := n2_
              have HO666 := n3_
              have BK641 := n4_
              have BK642 := n5_
              have BK643 := n6_
              have BK657 := n7_
              have BK668 := n8_
              have HB := n9_
              clear n0_ n1_ n2_ n3_ n4_ n5_ n6_ n7_ n8_ n9_
              have n0_ := Aside0.mk (Kd.R_drew HO651.out)
              have n1_ := Aside0.mk (Kd.R_drew HO655.out)
              have n2_ := Aside0.mk (Kd.R_drew HO662.out)
              have n3_ := Aside0.mk (Kd.V_drew HO666.out)
              have n4_ := Aside0.mk (blk_drew BK641.out)
              have n5_ := Aside0.mk (blk_drew BK642.out)
              have n6_ := Aside0.mk (blk_drew BK643.out)
              have n7_ := Aside0.mk (blk_drew BK657.out)
              have n8_ := Aside0.mk (blk_drew BK668.out)
              have n9_ := Aside0.mk (below_drew1 HB.out)
              clear HO651
              clear HO655
              clear HO662
              clear HO666
              clear BK641
              clear BK642
              clear BK643
              clear BK657
              clear BK668
              clear HB
              have HO651 := n0_
              have HO655 := n1_
              have HO662 := n2_
              have HO666 := n3_
              have BK641 := n4_
              have BK642 := n5_
              have BK643 := n6_
              have BK657 := n7_
              have BK668 := n8_
              have HB := n9_
              clear n0_ n1_ n2_ n3_ n4_ n5_ n6_ n7_ n8_ n9_
              refine start_ (n := 16) (S := fun w' => w'.cell? ⟨gb657, 0, none⟩ = some (.int .i64 t647) ∧ w'.cell? ⟨gb657, 1, none⟩ = some (.string t648) ∧ w'.cell? ⟨gb657, 2, none⟩ = some (.slice Ao83 t649.length co83) ∧ w'.cell? ⟨gb657, 3, none⟩ = some (.string t652) ∧ w'.cell? ⟨gb657, 4, none⟩ = some (.slice Ao84 t653.length co84) ∧ w'.cell? ⟨gb668, 0, none⟩ = some (.int .i64 t658) ∧ w'.cell? ⟨gb668, 1, none⟩ = some (.string t659) ∧ w'.cell? ⟨gb668, 2, none⟩ = some (.slice Ao96 t660.length co96) ∧ w'.cell? ⟨gb668, 3, none⟩ = some (.string t663) ∧ w'.cell? ⟨gb668, 4, none⟩ = some (.slice Ao97 t664.length co97)) (ds := []) #[false, false, false, false, false, false, false, false, false, false, false, false, false, false, false, false] (by kernel_rfl) rfl rfl ⟨(blk_cell BK657.out 0).trans rfl, (blk_cell BK657.out 1).trans rfl, (blk_cell BK657.out 2).trans rfl, (blk_cell BK657.out 3).trans rfl, (blk_cell BK657.out 4).trans rfl, (blk_cell BK668.out 0).trans rfl, (blk_cell BK668.out 1).trans rfl, (blk_cell BK668.out 2).trans rfl, (blk_cell BK668.out 3).trans rfl, (blk_cell BK668.out 4).trans rfl⟩ (fun hHeld => ?_); refine with_tabW bureaulaw07_EditMakes.tab7 bureaulaw07_EditMakes.bits7 (fun HT_ HW_ => ?_)
              generalize w98.drew = w99 at HO651 HO655 HO662 HO666 BK641 BK642 BK643 BK657 BK668 HB hHeld ⊢
              refine take_ (i := 0) (N := some 41) (v := ?_) (a' := ?_) #[true, false, false, false, false, false, false, false, false, false, false, false, false, false, false, false] rfl rfl (take_ofW HT_.out HW_.out (by kernel_rfl)) (fun _ _ _ h => h) (Or.inl ⟨by rfl, ?_⟩) hHeld ?_ ?_
              rotate_left
              · rintro w' ⟨s0, s1, s2, s3, s4, s5, s6, s7, s8, s9⟩
                go_simp
                with_reducible rfl
              rotate_left
              · simp only [Act.put, List.setIfInBounds_toArray, List.set_cons_zero, List.set_cons_succ, i64_w, i32_w]
                rfl
              refine take_ (i := 1) (N := some 42) (v := ?_) (a' := ?_) #[true, true, false, false, false, false, false, false, false, false, false, false, false, false, false, false] rfl rfl (take_ofW HT_.out HW_.out (by kernel_rfl)) (fun _ _ _ h => h) (Or.inl ⟨by rfl, ?_⟩) hHeld ?_ ?_
              rotate_left
              · rintro w' ⟨s0, s1, s2, s3, s4, s5, s6, s7, s8, s9⟩
                go_simp
                with_reducible rfl
              rotate_left
              · simp only [Act.put, List.setIfInBounds_toArray, List.set_cons_zero, List.set_cons_succ, i64_w, i32_w]
                rfl
              refine one_ (i := 2) (N := some 43) #[true, true, true, false, false, false, false, false, false, false, false, false, false, false, false, false] rfl rfl (one_of HT_.out (by kernel_rfl)) (by decide) (fun K hK => ?_)
              refine goes_ Try.func58 (by kernel_rfl) rfl #[.agg #[.int .i64 t647, .string t648, .slice Ao83 t649.length co83, .string t652, .slice Ao84 t653.length co84], .agg #[.int .i64 t658, .string t659, .slice Ao96 t660.length co96, .string t663, .slice Ao97 t664.length co97]] (by rfl) rfl rfl (by (try simp only [List.map_toArray, List.map_cons, List.map_nil]); first | done | rfl | (simp only [List.length_drop, List.length_take]; rfl)) ?_
              with_reducible refine (bureauref07_Same.calls kj5 t647 t648 _ _ t649 t652 _ _ t653 t658 t659 _ _ t660 t663 _ _ t664 true _ ?side1 ?side2 ?side3 ?side4 ?side5 ?side6 ?side7 ?side8 A28.out).mono ?_
              (case side1 => repeat (first | exact (Kd.R_reads' HO651.out).2.2 | (with_reducible refine Kd.C_alloc ?_ _) | (with_reducible refine Kd.C_drewN ?_ _) | (with_reducible refine Kd.C_drew ?_)))
              (case side2 => exact (Kd.R_reads' HO651.out).2.1)
              (case side3 => repeat (first | exact (Kd.R_reads' HO655.out).2.2 | (with_reducible refine Kd.C_alloc ?_ _) | (with_reducible refine Kd.C_drewN ?_ _) | (with_reducible refine Kd.C_drew ?_)))
              (case side4 => exact (Kd.R_reads' HO655.out).2.1)
              (case side5 => repeat (first | exact (Kd.R_reads' HO662.out).2.2 | (with_reducible refine Kd.C_alloc ?_ _) | (with_reducible refine Kd.C_drewN ?_ _) | (with_reducible refine Kd.C_drew ?_)))
              (case side6 => exact (Kd.R_reads' HO662.out).2.1)
              (case side7 => repeat (first | exact (Kd.V_reads' HO666.out).2.2 | (with_reducible refine Kd.C_alloc ?_ _) | (with_reducible refine Kd.C_drewN ?_ _) | (with_reducible refine Kd.C_drew ?_)))
              (case side8 => exact (Kd.V_reads' HO666.out).2.1)
              rintro e w100 ⟨rfl, hb⟩
              refine ⟨_, rfl, ?_⟩
              have n0_ := Aside0.mk (Kd.R_below (by (with_reducible repeat (first | apply Kd.R_alloc | apply Kd.R_drewN | apply Kd.R_drew)); exact HO651.out) hb)
              have n1_ := Aside0.mk (Kd.R_below (by (with_reducible repeat (first | apply Kd.R_alloc | apply Kd.R_drewN | apply Kd.R_drew)); exact HO655.out) hb)
              have n2_ := Aside0.mk (Kd.R_below (by (with_reducible repeat (first | apply Kd.R_alloc | apply Kd.R_drewN | apply Kd.R_drew)); exact HO662.out) hb)
              have n3_ := Aside0.mk (Kd.V_below (by (with_reducible repeat (first | apply Kd.V_alloc | apply Kd.V_drewN | apply Kd.V_drew)); exact HO666.out) hb)
              have n4_ := Aside0.mk (blk_below (g := gb641) (o := .cells #[.string a0_0, .slice A0_1 l0_1.length c0_1] 51 (0, 0)) (by (with_reducible repeat (first | refine blk_drewN ?_ _ | refine blk_drew ?_ | refine blk_alloc ?_ _)); exact BK641.out) hb)
              have n5_ := Aside0.mk (blk_below (g := gb642) (o := .cells #[.int .i64 a1_0, .int .i64 a1_1] 41 (0, 0)) (by (with_reducible repeat (first | refine blk_drewN ?_ _ | refine blk_drew ?_ | refine blk_alloc ?_ _)); exact BK642.out) hb)
              have n6_ := Aside0.mk (blk_below (g := gb643) (o := .cells #[.string a2_0, .slice A2_1 l2_1.length c2_1] 51 (0, 0)) (by (with_reducible repeat (first | refine blk_drewN ?_ _ | refine blk_drew ?_ | refine blk_alloc ?_ _)); exact BK643.out) hb)
              have n7_ := Aside0.mk (blk_below (g := gb657) (o := .cells #[.int .i64 t647, .string t648, .slice Ao83 t649.length co83, .string t652, .slice Ao84 t653.length co84] 64 (0, 0)) (by (with_reducible repeat (first | refine blk_drewN ?_ _ | refine blk_drew ?_ | refine blk_alloc ?_ _)); exact BK657.out) hb)
              have n8_ := Aside0.mk (blk_below (g := gb668) (o := .cells #[.int .i64 t658, .string t659, .slice Ao96 t660.length co96, .string t663, .slice Ao97 t664.length co97] 64 (0, 0)) (by (with_reducible repeat (first | refine blk_drewN ?_ _ | refine blk_drew ?_ | refine blk_alloc ?_ _)); exact BK668.out) hb)
              have n9_ := Aside0.mk (below_step (by repeat (first | (with_reducible first | exact HB.out | apply below_alloc | apply pw_below_drewN | apply below_drew1 | refine below_set ?_ GE641.out | refine below_set ?_ GE642.out | refine below_set ?_ GE643.out | refine below_set ?_ GE657.out | refine below_set ?_ GE668.out) | exact HB.out)) hb)
              clear HO651
              clear HO655
              clear HO662
              clear HO666
              clear BK641
              clear BK642
              clear BK643
              clear BK657
              clear BK668
              clear HB
              have HO651 := n0_
              have HO655 := n1_
              have HO662 := n2_
              have HO666 := n3_
              have BK641 := n4_
              have BK642 := n5_
              have BK643 := n6_
              have BK657 := n7_
              have BK668 := n8_
              have HB := n9_
              clear n0_ n1_ n2_ n3_ n4_ n5_ n6_ n7_ n8_ n9_
              (try clear hb)
              (try clear hb2)
              (try clear hk)
              (try clear hi)
              refine hK.out _ _ ⟨(blk_cell BK657.out 0).trans rfl, (blk_cell BK657.out 1).trans rfl, (blk_cell BK657.out 2).trans rfl, (blk_cell BK657.out 3).trans rfl, (blk_cell BK657.out 4).trans rfl, (blk_cell BK668.out 0).trans rfl, (blk_cell BK668.out 1).trans rfl, (blk_cell BK668.out 2).trans rfl, (blk_cell BK668.out 3).trans rfl, (blk_cell BK668.out 4).trans rfl⟩ (fun hHeld => ?_)
              clear hK K
              refine norm_ (a' := ?_) ?_ ?_
              rotate_left
              · show Act.put _ (some 43) _ = _
                simp only [Act.put, List.setIfInBounds_toArray, List.set_cons_zero, List.set_cons_succ, i64_w, i32_w]
                rfl
              refine pure_ (i := 3) (N := some 44) (v := ?_) (a' := ?_) #[true, true, true, true, false, false, false, false, false, false, false, false, false, false, false, false] rfl rfl (any_of HT_.out (by kernel_rfl)) (fun _ _ _ h => h) (Or.inl ⟨by rfl, ?_⟩) ?_ ?_
              rotate_left
              · intro w'
                go_simp
                with_reducible rfl
              rotate_left
              · simp only [Act.put, List.setIfInBounds_toArray, List.set_cons_zero, List.set_cons_succ, i64_w, i32_w]
                rfl
              refine pure_ (i := 4) (N := some 45) (v := ?_) (a' := ?_) #[true, true, true, true, true, false, false, false, false, false, false, false, false, false, false, false] rfl rfl (any_of HT_.out (by kernel_rfl)) (fun _ _ _ h => h) (Or.inl ⟨by rfl, ?_⟩) ?_ ?_
              rotate_left
              · intro w'
                go_simp
                with_reducible rfl
              rotate_left
              · simp only [Act.put, List.setIfInBounds_toArray, List.set_cons_zero, List.set_cons_succ, i64_w, i32_w]
                rfl
              refine pure_ (i := 5) (N := some 46) (v := ?_) (a' := ?_) #[true, true, true, true, true, true, false, false, false, false, false, false, false, false, false, false] rfl rfl (any_of HT_.out (by kernel_rfl)) (fun _ _ _ h => h) (Or.inl ⟨by rfl, ?_⟩) ?_ ?_
              rotate_left
              · intro w'
                go_simp
                with_reducible rfl
              rotate_left
              · simp only [Act.put, List.setIfInBounds_toArray, List.set_cons_zero, List.set_cons_succ, i64_w, i32_w]
                rfl
              refine pure_ (i := 6) (N := some 47) (v := ?_) (a' := ?_) #[true, true, true, true, true, true, true, false, false, false, false, false, false, false, false, false] rfl rfl (any_of HT_.out (by kernel_rfl)) (fun _ _ _ h => h) (Or.inl ⟨by rfl, ?_⟩) ?_ ?_
              rotate_left
              · intro w'
                go_simp
                with_reducible rfl
              rotate_left
              · simp only [Act.put, List.setIfInBounds_toArray, List.set_cons_zero, List.set_cons_succ, i64_w, i32_w]
                rfl
              refine pure_ (i := 7) (N := some 48) (v := ?_) (a' := ?_) #[true, true, true, true, true, true, true, true, false, false, false, false, false, false, false, false] rfl rfl (any_of HT_.out (by kernel_rfl)) (fun _ _ _ h => h) (Or.inl ⟨by rfl, ?_⟩) ?_ ?_
              rotate_left
              · intro w'
                go_simp
                with_reducible rfl
              rotate_left
              · simp only [Act.put, List.setIfInBounds_toArray, List.set_cons_zero, List.set_cons_succ, i64_w, i32_w]
                rfl
              refine pure_ (i := 8) (N := some 49) (v := ?_) (a' := ?_) #[true, true, true, true, true, true, true, true, true, false, false, false, false, false, false, false] rfl rfl (any_of HT_.out (by kernel_rfl)) (fun _ _ _ h => h) (Or.inl ⟨by rfl, ?_⟩) ?_ ?_
              rotate_left
              · intro w'
                go_simp
                with_reducible rfl
              rotate_left
              · simp only [Act.put, List.setIfInBounds_toArray, List.set_cons_zero, List.set_cons_succ, i64_w, i32_w]
                rfl
              refine pure_ (i := 9) (N := some 50) (v := undef) (a' := ?_) #[true, true, true, true, true, true, true, true, true, true, false, false, false, false, false, false] rfl rfl (any_of HT_.out (by kernel_rfl)) (fun _ _ _ h => h) (Or.inr ⟨by rfl, rfl⟩) ?_ ?_
              rotate_left
              · simp only [Act.put, List.setIfInBounds_toArray, List.set_cons_zero, List.set_cons_succ, i64_w, i32_w]
                rfl
              refine pure_ (i := 10) (N := some 51) (v := undef) (a' := ?_) #[true, true, true, true, true, true, true, true, true, true, true, false, false, false, false, false] rfl rfl (any_of HT_.out (by kernel_rfl)) (fun _ _ _ h => h) (Or.inr ⟨by rfl, rfl⟩) ?_ ?_
              rotate_left
              · simp only [Act.put, List.setIfInBounds_toArray, List.set_cons_zero, List.set_cons_succ, i64_w, i32_w]
                rfl
              refine pure_ (i := 11) (N := some 52) (v := undef) (a' := ?_) #[true, true, true, true, true, true, true, true, true, true, true, true, false, false, false, false] rfl rfl (any_of HT_.out (by kernel_rfl)) (fun _ _ _ h => h) (Or.inr ⟨by rfl, rfl⟩) ?_ ?_
              rotate_left
              · simp only [Act.put, List.setIfInBounds_toArray, List.set_cons_zero, List.set_cons_succ, i64_w, i32_w]
                rfl
              refine pure_ (i := 12) (N := some 53) (v := undef) (a' := ?_) #[true, true, true, true, true, true, true, true, true, true, true, true, true, false, false, false] rfl rfl (any_of HT_.out (by kernel_rfl)) (fun _ _ _ h => h) (Or.inr ⟨by rfl, rfl⟩) ?_ ?_
              rotate_left
              · simp only [Act.put, List.setIfInBounds_toArray, List.set_cons_zero, List.set_cons_succ, i64_w, i32_w]
                rfl
              refine pure_ (i := 13) (N := some 54) (v := undef) (a' := ?_) #[true, true, true, true, true, true, true, true, true, true, true, true, true, true, false, false] rfl rfl (any_of HT_.out (by kernel_rfl)) (fun _ _ _ h => h) (Or.inr ⟨by rfl, rfl⟩) ?_ ?_
              rotate_left
              · simp only [Act.put, List.setIfInBounds_toArray, List.set_cons_zero, List.set_cons_succ, i64_w, i32_w]
                rfl
              refine pure_ (i := 14) (N := some 55) (v := ?_) (a' := ?_) #[true, true, true, true, true, true, true, true, true, true, true, true, true, true, true, false] rfl rfl (any_of HT_.out (by kernel_rfl)) (fun _ _ _ h => h) (Or.inl ⟨by rfl, ?_⟩) ?_ ?_
              rotate_left
              · intro w'
                go_simp
                with_reducible rfl
              rotate_left
              · simp only [Act.put, List.setIfInBounds_toArray, List.set_cons_zero, List.set_cons_succ, i64_w, i32_w]
                rfl
              refine pure_ (i := 15) (N := some 6) (v := ?_) (a' := ?_) #[true, true, true, true, true, true, true, true, true, true, true, true, true, true, true, true] rfl rfl (any_of HT_.out (by kernel_rfl)) (fun _ _ _ h => h) (Or.inl ⟨by rfl, ?_⟩) ?_ ?_
              rotate_left
              · intro w'
                go_simp
                with_reducible rfl
              rotate_left
              · simp only [Act.put, List.setIfInBounds_toArray, List.set_cons_zero, List.set_cons_succ, i64_w, i32_w]
                rfl
              refine done_ (done_of HT_.out (by kernel_rfl)) ?_
              try go_wp2
              go_ret
              exact ⟨by first | rfl | (simp [errW_none, errW_some] <;> rfl) | (simp [*, errW_none, errW_some] <;> rfl), by repeat (first | (with_reducible first | exact HB.out | apply below_alloc | apply pw_below_drewN | apply below_drew1 | refine below_set ?_ GE641.out | refine below_set ?_ GE642.out | refine below_set ?_ GE643.out | refine below_set ?_ GE657.out | refine below_set ?_ GE668.out) | exact HB.out)⟩
          · replace c29 := Bool.eq_false_iff.mpr c29
            subst c29
            have H1 : (some false) = some r := by rw [if_neg (show ¬ (false = true) by decide)] at H; exact H
            clear H
            have H := H1
            clear H1
            obtain rfl := Option.some.inj H
            have hnb101 := NB641_642.out
            have hnc101 := NB642_641.out
            have hnb102 := NB641_643.out
            have hnc102 := NB643_641.out
            have hcz103_0 : wc.cell? ⟨gb641, 0, none⟩ = some (.string a0_0) := (blk_cell BK641.out 0).trans rfl
            have hcz103_1 : wc.cell? ⟨gb641, 1, none⟩ = some (.slice A0_1 l0_1.length c0_1) := (blk_cell BK641.out 1).trans rfl
            have hfz103_0 := blk_frozen BK641.out 0
            have hfz103_1 := blk_frozen BK641.out 1
            have hnb104 := NB642_643.out
            have hnc104 := NB643_642.out
            have hcz105_0 : wc.cell? ⟨gb642, 0, none⟩ = some (.int .i64 a1_0) := (blk_cell BK642.out 0).trans rfl
            have hcz105_1 : wc.cell? ⟨gb642, 1, none⟩ = some (.int .i64 a1_1) := (blk_cell BK642.out 1).trans rfl
            have hfz105_0 := blk_frozen BK642.out 0
            have hfz105_1 := blk_frozen BK642.out 1
            have hcz106_0 : wc.cell? ⟨gb643, 0, none⟩ = some (.string a2_0) := (blk_cell BK643.out 0).trans rfl
            have hcz106_1 : wc.cell? ⟨gb643, 1, none⟩ = some (.slice A2_1 l2_1.length c2_1) := (blk_cell BK643.out 1).trans rfl
            have hfz106_0 := blk_frozen BK643.out 0
            have hfz106_1 := blk_frozen BK643.out 1
            try go_wp2_with (first | ((with_reducible refine gate_callee (f := 56) rfl ?_); refine goesL_ (some 28) rfl rfl Try.func56 (by kernel_rfl) rfl #[.agg #[.string a0_0, .slice A0_1 l0_1.length c0_1], .int .i64 a1_0, .int .i64 a1_1, .agg #[.string a2_0, .slice A2_1 l2_1.length c2_1]] rfl (by (try simp only [List.map_toArray, List.map_cons, List.map_nil]); first | done | rfl | (simp only [List.length_drop, List.length_take]; rfl)) ?_; (with_reducible refine (edit_Of.calls kj5 a0_0 _ _ l0_1 a1_0 a1_1 a2_0 _ _ l2_1 t647 t648 t649 t652 t653 t656 _ ?side1 ?side2 ?side3 ?side4 A26.out).mono ?_); (case side1 => repeat (first | exact (Kd.C_below HR0_1.out HB.out) | (with_reducible refine Kd.C_alloc ?_ _) | (with_reducible refine Kd.C_drewN ?_ _) | (with_reducible refine Kd.C_drew ?_))); (case side2 => exact HC0_1.out); (case side3 => repeat (first | exact (Kd.C_below HR2_1.out HB.out) | (with_reducible refine Kd.C_alloc ?_ _) | (with_reducible refine Kd.C_drewN ?_ _) | (with_reducible refine Kd.C_drew ?_))); (case side4 => exact HC2_1.out); rintro e w107 ⟨v650, v654, rfl, ho0, ho1, hb⟩; refine ⟨_, rfl, ?_⟩; have n0_ := Aside0.mk (Kd.R_lower ho0 (below_size (by repeat (first | (with_reducible first | exact HB.out | apply below_alloc | apply pw_below_drewN | apply below_drew1 | refine below_set ?_ GE641.out | refine below_set ?_ GE642.out | refine below_set ?_ GE643.out) | exact HB.out)))); have n1_ := Aside0.mk (Kd.R_lower ho1 (below_size (by repeat (first | (with_reducible first | exact HB.out | apply below_alloc | apply pw_below_drewN | apply below_drew1 | refine below_set ?_ GE641.out | refine below_set ?_ GE642.out | refine below_set ?_ GE643.out) | exact HB.out)))); have n2_ := Aside0.mk (blk_below (g := gb641) (o := .cells #[.string a0_0, .slice A0_1 l0_1.length c0_1] 51 (0, 0)) (by (with_reducible repeat (first | refine blk_drewN ?_ _ | refine blk_drew ?_ | refine blk_alloc ?_ _)); exact BK641.out) hb); have n3_ := Aside0.mk (blk_below (g := gb642) (o := .cells #[.int .i64 a1_0, .int .i64 a1_1] 41 (0, 0)) (by (with_reducible repeat (first | refine blk_drewN ?_ _ | refine blk_drew ?_ | refine blk_alloc ?_ _)); exact BK642.out) hb); have n4_ := Aside0.mk (blk_below (g := gb643) (o := .cells #[.string a2_0, .slice A2_1 l2_1.length c2_1] 51 (0, 0)) (by (with_reducible repeat (first | refine blk_drewN ?_ _ | refine blk_drew ?_ | refine blk_alloc ?_ _)); exact BK643.out) hb); have n5_ := Aside0.mk (below_step (by repeat (first | (with_reducible first | exact HB.out | apply below_alloc | apply pw_below_drewN | apply below_drew1 | refine below_set ?_ GE641.out | refine below_set ?_ GE642.out | refine below_set ?_ GE643.out) | exact HB.out)) hb); clear BK641; clear BK642; clear BK643; clear HB; have HO651 := n0_; have HO655 := n1_; have BK641 := n2_; have BK642 := n3_; have BK643 := n4_; have HB := n5_; clear n0_ n1_ n2_ n3_ n4_ n5_; (try clear hb); (try clear hb2); (try clear hk); (try clear hi); (try clear ho0); (try clear ho1)) | ((with_reducible refine gate_dst (N := 7) rfl ?_); refine box_event ?hg (N := 7) ?hd (cs := #[.int .i64 0, .string (⟨#[]⟩ : ByteArray), .slice none 0 0, .string (⟨#[]⟩ : ByteArray), .slice none 0 0]) (t := 64) ?hr ?_; (case hd => rfl); (case hg => rfl); (case hr => first | (go_simp; done) | (go_simp; rfl)); intro gb657 hg w108 hbox hb; have n0_ := Aside0.mk (Kd.R_below (by (with_reducible repeat (first | apply Kd.R_alloc | apply Kd.R_drewN | apply Kd.R_drew)); exact HO651.out) hb); have n1_ := Aside0.mk (Kd.R_below (by (with_reducible repeat (first | apply Kd.R_alloc | apply Kd.R_drewN | apply Kd.R_drew)); exact HO655.out) hb); have n2_ := Aside0.mk (blk_below (g := gb641) (o := .cells #[.string a0_0, .slice A0_1 l0_1.length c0_1] 51 (0, 0)) (by (with_reducible repeat (first | refine blk_drewN ?_ _ | refine blk_drew ?_ | refine blk_alloc ?_ _)); exact BK641.out) hb); have n3_ := Aside0.mk (blk_below (g := gb642) (o := .cells #[.int .i64 a1_0, .int .i64 a1_1] 41 (0, 0)) (by (with_reducible repeat (first | refine blk_drewN ?_ _ | refine blk_drew ?_ | refine blk_alloc ?_ _)); exact BK642.out) hb); have n4_ := Aside0.mk (blk_below (g := gb643) (o := .cells #[.string a2_0, .slice A2_1 l2_1.length c2_1] 51 (0, 0)) (by (with_reducible repeat (first | refine blk_drewN ?_ _ | refine blk_drew ?_ | refine blk_alloc ?_ _)); exact BK643.out) hb); have n5_ := Aside0.mk (below_step (by repeat (first | (with_reducible first | exact HB.out | apply below_alloc | apply pw_below_drewN | apply below_drew1 | refine below_set ?_ GE641.out | refine below_set ?_ GE642.out | refine below_set ?_ GE643.out) | exact HB.out)) hb); have n6_ := Aside0.mk (hbox); have n7_ := Aside0.mk ((by rw [hg]; exact (below_size (by repeat (first | (with_reducible first | exact HB.out | apply below_alloc | apply pw_below_drewN | apply below_drew1 | refine below_set ?_ GE641.out | refine below_set ?_ GE642.out | refine below_set ?_ GE643.out) | exact HB.out))) : w.heap.size ≤ gb657)); have n8_ := Aside0.mk ((by rw [hg]; exact (below_size (by repeat (first | (with_reducible first | exact HB.out | apply below_alloc | apply pw_below_drewN | apply below_drew1 | refine below_set ?_ GE641.out | refine below_set ?_ GE642.out | refine below_set ?_ GE643.out) | exact HB.out))) : w.heap.size ≤ gb657)); have n9_ := Aside0.mk ((by rw [hg]; exact Nat.ne_of_lt (blk_lt (g := gb641) (o := .cells #[.string a0_0, .slice A0_1 l0_1.length c0_1] 51 (0, 0)) (by (with_reducible repeat (first | refine blk_drewN ?_ _ | refine blk_drew ?_ | refine blk_alloc ?_ _)); exact BK641.out)) : gb641 ≠ gb657)); have n10_ := Aside0.mk ((by rw [hg]; exact Nat.ne_of_gt (blk_lt (g := gb641) (o := .cells #[.string a0_0, .slice A0_1 l0_1.length c0_1] 51 (0, 0)) (by (with_reducible repeat (first | refine blk_drewN ?_ _ | refine blk_drew ?_ | refine blk_alloc ?_ _)); exact BK641.out)) : gb657 ≠ gb641)); have n11_ := Aside0.mk ((by rw [hg]; exact Nat.ne_of_lt (blk_lt (g := gb642) (o := .cells #[.int .i64 a1_0, .int .i64 a1_1] 41 (0, 0)) (by (with_reducible repeat (first | refine blk_drewN ?_ _ | refine blk_drew ?_ | refine blk_alloc ?_ _)); exact BK642.out)) : gb642 ≠ gb657)); have n12_ := Aside0.mk ((by rw [hg]; exact Nat.ne_of_gt (blk_lt (g := gb642) (o := .cells #[.int .i64 a1_0, .int .i64 a1_1] 41 (0, 0)) (by (with_reducible repeat (first | refine blk_drewN ?_ _ | refine blk_drew ?_ | refine blk_alloc ?_ _)); exact BK642.out)) : gb657 ≠ gb642)); have n13_ := Aside0.mk ((by rw [hg]; exact Nat.ne_of_lt (blk_lt (g := gb643) (o := .cells #[.string a2_0, .slice A2_1 l2_1.length c2_1] 51 (0, 0)) (by (with_reducible repeat (first | refine blk_drewN ?_ _ | refine blk_drew ?_ | refine blk_alloc ?_ _)); exact BK643.out)) : gb643 ≠ gb657)); have n14_ := Aside0.mk ((by rw [hg]; exact Nat.ne_of_gt (blk_lt (g := gb643) (o := .cells #[.string a2_0, .slice A2_1 l2_1.length c2_1] 51 (0, 0)) (by (with_reducible repeat (first | refine blk_drewN ?_ _ | refine blk_drew ?_ | refine blk_alloc ?_ _)); exact BK643.out)) : gb657 ≠ gb643)); clear HO651; clear HO655; clear BK641; clear BK642; clear BK643; clear HB; have HO651 := n0_; have HO655 := n1_; have BK641 := n2_; have BK642 := n3_; have BK643 := n4_; have HB := n5_; have BK657 := n6_; have GW657 := n7_; have GE657 := n8_; have NB641_657 := n9_; have NB657_641 := n10_; have NB642_657 := n11_; have NB657_642 := n12_; have NB643_657 := n13_; have NB657_643 := n14_; clear n0_ n1_ n2_ n3_ n4_ n5_ n6_ n7_ n8_ n9_ n10_ n11_ n12_ n13_ n14_; clear hb hbox hg; have hnb109 := NB657_641.out; have hnc109 := NB641_657.out; have hnb110 := NB657_642.out; have hnc110 := NB642_657.out; have hnb111 := NB657_643.out; have hnc111 := NB643_657.out; have hcz112_0 : w108.cell? ⟨gb657, 0, none⟩ = some (.int .i64 0) := (blk_cell BK657.out 0).trans rfl; have hcz112_1 : w108.cell? ⟨gb657, 1, none⟩ = some (.string (⟨#[]⟩ : ByteArray)) := (blk_cell BK657.out 1).trans rfl; have hcz112_2 : w108.cell? ⟨gb657, 2, none⟩ = some (.slice none 0 0) := (blk_cell BK657.out 2).trans rfl; have hcz112_3 : w108.cell? ⟨gb657, 3, none⟩ = some (.string (⟨#[]⟩ : ByteArray)) := (blk_cell BK657.out 3).trans rfl; have hcz112_4 : w108.cell? ⟨gb657, 4, none⟩ = some (.slice none 0 0) := (blk_cell BK657.out 4).trans rfl; have hfz112_0 := blk_frozen BK657.out 0; have hfz112_1 := blk_frozen BK657.out 1; have hfz112_2 := blk_frozen BK657.out 2; have hfz112_3 := blk_frozen BK657.out 3; have hfz112_4 := blk_frozen BK657.out 4; obtain ⟨Ao113, co113, eo113⟩ := Kd.R_slice HO651.out; subst eo113; obtain ⟨Ao114, co114, eo114⟩ := Kd.R_slice HO655.out; subst eo114) | ((with_reducible refine gate_store (t := 64) (p := 7) rfl ?_); refine store_event (t := 64) (p := 7) (v := ?vo_w115) (w1 := (((((w108.setCell ⟨gb657, 0, none⟩ (.int .i64 t647)).setCell ⟨gb657, 1, none⟩ (.string t648)).setCell ⟨gb657, 2, none⟩ (.slice Ao113 t649.length co113)).setCell ⟨gb657, 3, none⟩ (.string t652)).setCell ⟨gb657, 4, none⟩ (.slice Ao114 t653.length co114))) ?hg ?ho ?hn ?hr ?_; (case ho => rfl); (case hg => rfl); (case hn => rfl); (case hr => first | (go_simp; done) | (go_simp; rfl)); intro w115 hw; have n0_ : Aside0 (Kd.R k100 100 w115 w.heap.size (fun k_ => some k_ ≠ (.slice Ao114 t653.length co114 : Value).ownBlock) (.slice Ao113 t649.length co113) t649) := ⟨(by rw [hw]; exact (by (with_reducible repeat (first | apply Kd.R_alloc | apply Kd.R_drewN | apply Kd.R_drew)); exact Kd.R_mono (Kd.R_far (p := ⟨gb657, 4, none⟩) (Kd.R_far (p := ⟨gb657, 3, none⟩) (Kd.R_far (p := ⟨gb657, 2, none⟩) (Kd.R_far (p := ⟨gb657, 1, none⟩) (Kd.R_far (p := ⟨gb657, 0, none⟩) (Kd.R_types HO651.out BK657.out (by decide)) (fun _ hk => hk.2) (.int .i64 t647)) (fun _ hk => hk.2) (.string t648)) (fun _ hk => hk.2) (.slice Ao113 t649.length co113)) (fun _ hk => hk.2) (.string t652)) (fun _ hk => hk.2) (.slice Ao114 t653.length co114)) (fun _ hk => hk.1)))⟩; have n1_ : Aside0 (Kd.R k100 100 w115 w.heap.size (fun k_ => some k_ ≠ (.slice Ao113 t649.length co113 : Value).ownBlock) (.slice Ao114 t653.length co114) t653) := ⟨(by rw [hw]; exact (by (with_reducible repeat (first | apply Kd.R_alloc | apply Kd.R_drewN | apply Kd.R_drew)); exact Kd.R_mono (Kd.R_far (p := ⟨gb657, 4, none⟩) (Kd.R_far (p := ⟨gb657, 3, none⟩) (Kd.R_far (p := ⟨gb657, 2, none⟩) (Kd.R_far (p := ⟨gb657, 1, none⟩) (Kd.R_far (p := ⟨gb657, 0, none⟩) (Kd.R_types HO655.out BK657.out (by decide)) (fun _ hk => hk.2) (.int .i64 t647)) (fun _ hk => hk.2) (.string t648)) (fun _ hk => hk.2) (.slice Ao113 t649.length co113)) (fun _ hk => hk.2) (.string t652)) (fun _ hk => hk.2) (.slice Ao114 t653.length co114)) (fun _ hk => hk.1)))⟩; have n2_ : Aside0 (w115.heap[gb641]? = some (.cells #[.string a0_0, .slice A0_1 l0_1.length c0_1] 51 (0, 0))) := ⟨(by rw [hw]; exact (by (with_reducible repeat (first | refine blk_drewN ?_ _ | refine blk_drew ?_ | refine blk_alloc ?_ _)); refine blk_far ?_ NB641_657.out _; (with_reducible repeat (first | refine blk_drewN ?_ _ | refine blk_drew ?_ | refine blk_alloc ?_ _)); refine blk_far ?_ NB641_657.out _; (with_reducible repeat (first | refine blk_drewN ?_ _ | refine blk_drew ?_ | refine blk_alloc ?_ _)); refine blk_far ?_ NB641_657.out _; (with_reducible repeat (first | refine blk_drewN ?_ _ | refine blk_drew ?_ | refine blk_alloc ?_ _)); refine blk_far ?_ NB641_657.out _; (with_reducible repeat (first | refine blk_drewN ?_ _ | refine blk_drew ?_ | refine blk_alloc ?_ _)); refine blk_far ?_ NB641_657.out _; (with_reducible repeat (first | refine blk_drewN ?_ _ | refine blk_drew ?_ | refine blk_alloc ?_ _)); exact BK641.out))⟩; have n3_ : Aside0 (w115.heap[gb642]? = some (.cells #[.int .i64 a1_0, .int .i64 a1_1] 41 (0, 0))) := ⟨(by rw [hw]; exact (by (with_reducible repeat (first | refine blk_drewN ?_ _ | refine blk_drew ?_ | refine blk_alloc ?_ _)); refine blk_far ?_ NB642_657.out _; (with_reducible repeat (first | refine blk_drewN ?_ _ | refine blk_drew ?_ | refine blk_alloc ?_ _)); refine blk_far ?_ NB642_657.out _; (with_reducible repeat (first | refine blk_drewN ?_ _ | refine blk_drew ?_ | refine blk_alloc ?_ _)); refine blk_far ?_ NB642_657.out _; (with_reducible repeat (first | refine blk_drewN ?_ _ | refine blk_drew ?_ | refine blk_alloc ?_ _)); refine blk_far ?_ NB642_657.out _; (with_reducible repeat (first | refine blk_drewN ?_ _ | refine blk_drew ?_ | refine blk_alloc ?_ _)); refine blk_far ?_ NB642_657.out _; (with_reducible repeat (first | refine blk_drewN ?_ _ | refine blk_drew ?_ | refine blk_alloc ?_ _)); exact BK642.out))⟩; have n4_ : Aside0 (w115.heap[gb643]? = some (.cells #[.string a2_0, .slice A2_1 l2_1.length c2_1] 51 (0, 0))) := ⟨(by rw [hw]; exact (by (with_reducible repeat (first | refine blk_drewN ?_ _ | refine blk_drew ?_ | refine blk_alloc ?_ _)); refine blk_far ?_ NB643_657.out _; (with_reducible repeat (first | refine blk_drewN ?_ _ | refine blk_drew ?_ | refine blk_alloc ?_ _)); refine blk_far ?_ NB643_657.out _; (with_reducible repeat (first | refine blk_drewN ?_ _ | refine blk_drew ?_ | refine blk_alloc ?_ _)); refine blk_far ?_ NB643_657.out _; (with_reducible repeat (first | refine blk_drewN ?_ _ | refine blk_drew ?_ | refine blk_alloc ?_ _)); refine blk_far ?_ NB643_657.out _; (with_reducible repeat (first | refine blk_drewN ?_ _ | refine blk_drew ?_ | refine blk_alloc ?_ _)); refine blk_far ?_ NB643_657.out _; (with_reducible repeat (first | refine blk_drewN ?_ _ | refine blk_drew ?_ | refine blk_alloc ?_ _)); exact BK643.out))⟩; have n5_ : Aside0 (w115.heap[gb657]? = some (.cells #[.int .i64 t647, .string t648, .slice Ao113 t649.length co113, .string t652, .slice Ao114 t653.length co114] 64 (0, 0))) := ⟨(by rw [hw]; exact (by (with_reducible repeat (first | refine blk_drewN ?_ _ | refine blk_drew ?_ | refine blk_alloc ?_ _)); refine blk_put (cs := #[.int .i64 t647, .string t648, .slice Ao113 t649.length co113, .string t652, .slice none 0 0]) ?_ 4 _ rfl; (with_reducible repeat (first | refine blk_drewN ?_ _ | refine blk_drew ?_ | refine blk_alloc ?_ _)); refine blk_put (cs := #[.int .i64 t647, .string t648, .slice Ao113 t649.length co113, .string (⟨#[]⟩ : ByteArray), .slice none 0 0]) ?_ 3 _ rfl; (with_reducible repeat (first | refine blk_drewN ?_ _ | refine blk_drew ?_ | refine blk_alloc ?_ _)); refine blk_put (cs := #[.int .i64 t647, .string t648, .slice none 0 0, .string (⟨#[]⟩ : ByteArray), .slice none 0 0]) ?_ 2 _ rfl; (with_reducible repeat (first | refine blk_drewN ?_ _ | refine blk_drew ?_ | refine blk_alloc ?_ _)); refine blk_put (cs := #[.int .i64 t647, .string (⟨#[]⟩ : ByteArray), .slice none 0 0, .string (⟨#[]⟩ : ByteArray), .slice none 0 0]) ?_ 1 _ rfl; (with_reducible repeat (first | refine blk_drewN ?_ _ | refine blk_drew ?_ | refine blk_alloc ?_ _)); refine blk_put (cs := #[.int .i64 0, .string (⟨#[]⟩ : ByteArray), .slice none 0 0, .string (⟨#[]⟩ : ByteArray), .slice none 0 0]) ?_ 0 _ rfl; (with_reducible repeat (first | refine blk_drewN ?_ _ | refine blk_drew ?_ | refine blk_alloc ?_ _)); exact BK657.out))⟩; have n6_ : Aside0 (Below w.heap.size w w115) := ⟨(by rw [hw]; exact (by repeat (first | (with_reducible first | exact HB.out | apply below_alloc | apply pw_below_drewN | apply below_drew1 | refine below_set ?_ GE641.out | refine below_set ?_ GE642.out | refine below_set ?_ GE643.out | refine below_set ?_ GE657.out) | exact HB.out)))⟩; clear hw; clear HO651; clear HO655; clear BK641; clear BK642; clear BK643; clear BK657; clear HB; have HO651 := n0_; have HO655 := n1_; have BK641 := n2_; have BK642 := n3_; have BK643 := n4_; have BK657 := n5_; have HB := n6_; clear n0_ n1_ n2_ n3_ n4_ n5_ n6_; have hcz116_0 : w115.cell? ⟨gb641, 0, none⟩ = some (.string a0_0) := (blk_cell BK641.out 0).trans rfl; have hcz116_1 : w115.cell? ⟨gb641, 1, none⟩ = some (.slice A0_1 l0_1.length c0_1) := (blk_cell BK641.out 1).trans rfl; have hfz116_0 := blk_frozen BK641.out 0; have hfz116_1 := blk_frozen BK641.out 1; have hcz117_0 : w115.cell? ⟨gb642, 0, none⟩ = some (.int .i64 a1_0) := (blk_cell BK642.out 0).trans rfl; have hcz117_1 : w115.cell? ⟨gb642, 1, none⟩ = some (.int .i64 a1_1) := (blk_cell BK642.out 1).trans rfl; have hfz117_0 := blk_frozen BK642.out 0; have hfz117_1 := blk_frozen BK642.out 1; have hcz118_0 : w115.cell? ⟨gb643, 0, none⟩ = some (.string a2_0) := (blk_cell BK643.out 0).trans rfl; have hcz118_1 : w115.cell? ⟨gb643, 1, none⟩ = some (.slice A2_1 l2_1.length c2_1) := (blk_cell BK643.out 1).trans rfl; have hfz118_0 := blk_frozen BK643.out 0; have hfz118_1 := blk_frozen BK643.out 1) | ((with_reducible refine gate_callee (f := 57) rfl ?_); refine goesL_ (some 38) rfl rfl Try.func57 (by kernel_rfl) rfl #[.agg #[.string a0_0, .slice A0_1 l0_1.length c0_1], .int .i64 a1_0, .int .i64 a1_1, .agg #[.string a2_0, .slice A2_1 l2_1.length c2_1]] rfl (by (try simp only [List.map_toArray, List.map_cons, List.map_nil]); first | done | rfl | (simp only [List.length_drop, List.length_take]; rfl)) ?_; (with_reducible refine (bureauref07_Of.calls kj5 a0_0 _ _ l0_1 a1_0 a1_1 a2_0 (fun k_ => k_ < w.heap.size) _ _ l2_1 t658 t659 t660 t663 t664 t667 _ ?side1 ?side2 ?side3 A27.out).mono ?_); (case side1 => repeat (first | exact (Kd.C_below HR0_1.out HB.out) | (with_reducible refine Kd.C_alloc ?_ _) | (with_reducible refine Kd.C_drewN ?_ _) | (with_reducible refine Kd.C_drew ?_))); (case side2 => exact HC0_1.out); (case side3 => exact Kd.V_mk HC2_1.out (Kd.F_below (Kd.C_F k100_heap HR2_1.out) (by repeat (first | (with_reducible first | exact HB.out | apply below_alloc | apply pw_below_drewN | apply below_drew1 | refine below_set ?_ GE641.out | refine below_set ?_ GE642.out | refine below_set ?_ GE643.out | refine below_set ?_ GE657.out) | exact HB.out)))); rintro e w119 ⟨v661, v665, rfl, ho0, ho1, hb⟩; refine ⟨_, rfl, ?_⟩; have n0_ := Aside0.mk (Kd.R_elder' (by (with_reducible repeat (first | apply Kd.R_alloc | apply Kd.R_drewN | apply Kd.R_drew)); exact HO651.out) (Kd.R_base ho0) hb); have n1_ := Aside0.mk (Kd.R_elder' (by (with_reducible repeat (first | apply Kd.R_alloc | apply Kd.R_drewN | apply Kd.R_drew)); exact HO655.out) (Kd.R_base ho0) hb); have n2_ := Aside0.mk (Kd.R_lower (Kd.R_new' (Kd.R_new' (Kd.R_mono (ok' := fun k_ => True) ho0 (fun _ hk_ => trivial)) (Kd.R_lt (by (with_reducible repeat (first | apply Kd.R_alloc | apply Kd.R_drewN | apply Kd.R_drew)); exact HO651.out))) (Kd.R_lt (by (with_reducible repeat (first | apply Kd.R_alloc | apply Kd.R_drewN | apply Kd.R_drew)); exact HO655.out))) (below_size (by repeat (first | (with_reducible first | exact HB.out | apply below_alloc | apply pw_below_drewN | apply below_drew1 | refine below_set ?_ GE641.out | refine below_set ?_ GE642.out | refine below_set ?_ GE643.out | refine below_set ?_ GE657.out) | exact HB.out)))); have n3_ := Aside0.mk (Kd.V_lower (Kd.V_mono (ok' := fun k_ => some k_ ≠ (v661 : Value).ownBlock ∧ some k_ ≠ (.slice Ao113 t649.length co113 : Value).ownBlock ∧ some k_ ≠ (.slice Ao114 t653.length co114 : Value).ownBlock ∧ k_ ≠ gb641 ∧ k_ ≠ gb642 ∧ k_ ≠ gb643 ∧ k_ ≠ gb657) ho1 (fun k_ hk_ => ⟨hk_.2, Or.elim hk_.1 (fun hs_ => fun e_ => Nat.not_le.2 hs_ (Kd.R_base HO651.out k_ e_.symm)) (fun hn_ => (Kd.fresh' (Kd.R_lt (by (with_reducible repeat (first | apply Kd.R_alloc | apply Kd.R_drewN | apply Kd.R_drew)); exact HO651.out)) k_ hn_)), Or.elim hk_.1 (fun hs_ => fun e_ => Nat.not_le.2 hs_ (Kd.R_base HO655.out k_ e_.symm)) (fun hn_ => (Kd.fresh' (Kd.R_lt (by (with_reducible repeat (first | apply Kd.R_alloc | apply Kd.R_drewN | apply Kd.R_drew)); exact HO655.out)) k_ hn_)), Or.elim hk_.1 (fun hs_ => fun e_ => Nat.not_le.2 hs_ (by rw [e_]; exact GW641.out)) (fun hn_ => (Kd.freshB (g := gb641) (o := .cells #[.string a0_0, .slice A0_1 l0_1.length c0_1] 51 (0, 0)) (by (with_reducible repeat (first | refine blk_drewN ?_ _ | refine blk_drew ?_ | refine blk_alloc ?_ _)); exact BK641.out) k_ hn_)), Or.elim hk_.1 (fun hs_ => fun e_ => Nat.not_le.2 hs_ (by rw [e_]; exact GW642.out)) (fun hn_ => (Kd.freshB (g := gb642) (o := .cells #[.int .i64 a1_0, .int .i64 a1_1] 41 (0, 0)) (by (with_reducible repeat (first | refine blk_drewN ?_ _ | refine blk_drew ?_ | refine blk_alloc ?_ _)); exact BK642.out) k_ hn_)), Or.elim hk_.1 (fun hs_ => fun e_ => Nat.not_le.2 hs_ (by rw [e_]; exact GW643.out)) (fun hn_ => (Kd.freshB (g := gb643) (o := .cells #[.string a2_0, .slice A2_1 l2_1.length c2_1] 51 (0, 0)) (by (with_reducible repeat (first | refine blk_drewN ?_ _ | refine blk_drew ?_ | refine blk_alloc ?_ _)); exact BK643.out) k_ hn_)), Or.elim hk_.1 (fun hs_ => fun e_ => Nat.not_le.2 hs_ (by rw [e_]; exact GW657.out)) (fun hn_ => (Kd.freshB (g := gb657) (o := .cells #[.int .i64 t647, .string t648, .slice Ao113 t649.length co113, .string t652, .slice Ao114 t653.length co114] 64 (0, 0)) (by (with_reducible repeat (first | refine blk_drewN ?_ _ | refine blk_drew ?_ | refine blk_alloc ?_ _)); exact BK657.out) k_ hn_))⟩)) (below_size (by repeat (first | (with_reducible first | exact HB.out | apply below_alloc | apply pw_below_drewN | apply below_drew1 | refine below_set ?_ GE641.out | refine below_set ?_ GE642.out | refine below_set ?_ GE643.out | refine below_set ?_ GE657.out) | exact HB.out)))); have n4_ := Aside0.mk (blk_below (g := gb641) (o := .cells #[.string a0_0, .slice A0_1 l0_1.length c0_1] 51 (0, 0)) (by (with_reducible repeat (first | refine blk_drewN ?_ _ | refine blk_drew ?_ | refine blk_alloc ?_ _)); exact BK641.out) hb); have n5_ := Aside0.mk (blk_below (g := gb642) (o := .cells #[.int .i64 a1_0, .int .i64 a1_1] 41 (0, 0)) (by (with_reducible repeat (first | refine blk_drewN ?_ _ | refine blk_drew ?_ | refine blk_alloc ?_ _)); exact BK642.out) hb); have n6_ := Aside0.mk (blk_below (g := gb643) (o := .cells #[.string a2_0, .slice A2_1 l2_1.length c2_1] 51 (0, 0)) (by (with_reducible repeat (first | refine blk_drewN ?_ _ | refine blk_drew ?_ | refine blk_alloc ?_ _)); exact BK643.out) hb); have n7_ := Aside0.mk (blk_below (g := gb657) (o := .cells #[.int .i64 t647, .string t648, .slice Ao113 t649.length co113, .string t652, .slice Ao114 t653.length co114] 64 (0, 0)) (by (with_reducible repeat (first | refine blk_drewN ?_ _ | refine blk_drew ?_ | refine blk_alloc ?_ _)); exact BK657.out) hb); have n8_ := Aside0.mk (below_step (by repeat (first | (with_reducible first | exact HB.out | apply below_alloc | apply pw_below_drewN | apply below_drew1 | refine below_set ?_ GE641.out | refine below_set ?_ GE642.out | refine below_set ?_ GE643.out | refine below_set ?_ GE657.out) | exact HB.out)) hb); clear HO651; clear HO655; clear BK641; clear BK642; clear BK643; clear BK657; clear HB; have HO651 := n0_; have HO655 := n1_; have HO662 := n2_; have HO666 := n3_; have BK641 := n4_; have BK642 := n5_; have BK643 := n6_; have BK657 := n7_; have HB := n8_; clear n0_ n1_ n2_ n3_ n4_ n5_ n6_ n7_ n8_; (try clear hb); (try clear hb2); (try clear hk); (try clear hi); (try clear ho0); (try clear ho1)) | ((with_reducible refine gate_dst (N := 9) rfl ?_); refine box_event ?hg (N := 9) ?hd (cs := #[.int .i64 0, .string (⟨#[]⟩ : ByteArray), .slice none 0 0, .string (⟨#[]⟩ : ByteArray), .slice none 0 0]) (t := 64) ?hr ?_; (case hd => rfl); (case hg => rfl); (case hr => first | (go_simp; done) | (go_simp; rfl)); intro gb668 hg w120 hbox hb; have n0_ := Aside0.mk (Kd.R_below (by (with_reducible repeat (first | apply Kd.R_alloc | apply Kd.R_drewN | apply Kd.R_drew)); exact HO651.out) hb); have n1_ := Aside0.mk (Kd.R_below (by (with_reducible repeat (first | apply Kd.R_alloc | apply Kd.R_drewN | apply Kd.R_drew)); exact HO655.out) hb); have n2_ := Aside0.mk (Kd.R_below (by (with_reducible repeat (first | apply Kd.R_alloc | apply Kd.R_drewN | apply Kd.R_drew)); exact HO662.out) hb); have n3_ := Aside0.mk (Kd.V_below (Kd.V_elderB (by (with_reducible repeat (first | apply Kd.V_alloc | apply Kd.V_drewN | apply Kd.V_drew)); exact HO666.out) gb668 (Nat.le_of_eq hg.symm)) hb); have n4_ := Aside0.mk (blk_below (g := gb641) (o := .cells #[.string a0_0, .slice A0_1 l0_1.length c0_1] 51 (0, 0)) (by (with_reducible repeat (first | refine blk_drewN ?_ _ | refine blk_drew ?_ | refine blk_alloc ?_ _)); exact BK641.out) hb); have n5_ := Aside0.mk (blk_below (g := gb642) (o := .cells #[.int .i64 a1_0, .int .i64 a1_1] 41 (0, 0)) (by (with_reducible repeat (first | refine blk_drewN ?_ _ | refine blk_drew ?_ | refine blk_alloc ?_ _)); exact BK642.out) hb); have n6_ := Aside0.mk (blk_below (g := gb643) (o := .cells #[.string a2_0, .slice A2_1 l2_1.length c2_1] 51 (0, 0)) (by (with_reducible repeat (first | refine blk_drewN ?_ _ | refine blk_drew ?_ | refine blk_alloc ?_ _)); exact BK643.out) hb); have n7_ := Aside0.mk (blk_below (g := gb657) (o := .cells #[.int .i64 t647, .string t648, .slice Ao113 t649.length co113, .string t652, .slice Ao114 t653.length co114] 64 (0, 0)) (by (with_reducible repeat (first | refine blk_drewN ?_ _ | refine blk_drew ?_ | refine blk_alloc ?_ _)); exact BK657.out) hb); have n8_ := Aside0.mk (below_step (by repeat (first | (with_reducible first | exact HB.out | apply below_alloc | apply pw_below_drewN | apply below_drew1 | refine below_set ?_ GE641.out | refine below_set ?_ GE642.out | refine below_set ?_ GE643.out | refine below_set ?_ GE657.out) | exact HB.out)) hb); have n9_ := Aside0.mk (hbox); have n10_ := Aside0.mk ((by rw [hg]; exact (below_size (by repeat (first | (with_reducible first | exact HB.out | apply below_alloc | apply pw_below_drewN | apply below_drew1 | refine below_set ?_ GE641.out | refine below_set ?_ GE642.out | refine below_set ?_ GE643.out | refine below_set ?_ GE657.out) | exact HB.out))) : w.heap.size ≤ gb668)); have n11_ := Aside0.mk ((by rw [hg]; exact (below_size (by repeat (first | (with_reducible first | exact HB.out | apply below_alloc | apply pw_below_drewN | apply below_drew1 | refine below_set ?_ GE641.out | refine below_set ?_ GE642.out | refine below_set ?_ GE643.out | refine below_set ?_ GE657.out) | exact HB.out))) : w.heap.size ≤ gb668)); have n12_ := Aside0.mk ((by rw [hg]; exact Nat.ne_of_lt (blk_lt (g := gb641) (o := .cells #[.string a0_0, .slice A0_1 l0_1.length c0_1] 51 (0, 0)) (by (with_reducible repeat (first | refine blk_drewN ?_ _ | refine blk_drew ?_ | refine blk_alloc ?_ _)); exact BK641.out)) : gb641 ≠ gb668)); have n13_ := Aside0.mk ((by rw [hg]; exact Nat.ne_of_gt (blk_lt (g := gb641) (o := .cells #[.string a0_0, .slice A0_1 l0_1.length c0_1] 51 (0, 0)) (by (with_reducible repeat (first | refine blk_drewN ?_ _ | refine blk_drew ?_ | refine blk_alloc ?_ _)); exact BK641.out)) : gb668 ≠ gb641)); have n14_ := Aside0.mk ((by rw [hg]; exact Nat.ne_of_lt (blk_lt (g := gb642) (o := .cells #[.int .i64 a1_0, .int .i64 a1_1] 41 (0, 0)) (by (with_reducible repeat (first | refine blk_drewN ?_ _ | refine blk_drew ?_ | refine blk_alloc ?_ _)); exact BK642.out)) : gb642 ≠ gb668)); have n15_ := Aside0.mk ((by rw [hg]; exact Nat.ne_of_gt (blk_lt (g := gb642) (o := .cells #[.int .i64 a1_0, .int .i64 a1_1] 41 (0, 0)) (by (with_reducible repeat (first | refine blk_drewN ?_ _ | refine blk_drew ?_ | refine blk_alloc ?_ _)); exact BK642.out)) : gb668 ≠ gb642)); have n16_ := Aside0.mk ((by rw [hg]; exact Nat.ne_of_lt (blk_lt (g := gb643) (o := .cells #[.string a2_0, .slice A2_1 l2_1.length c2_1] 51 (0, 0)) (by (with_reducible repeat (first | refine blk_drewN ?_ _ | refine blk_drew ?_ | refine blk_alloc ?_ _)); exact BK643.out)) : gb643 ≠ gb668)); have n17_ := Aside0.mk ((by rw [hg]; exact Nat.ne_of_gt (blk_lt (g := gb643) (o := .cells #[.string a2_0, .slice A2_1 l2_1.length c2_1] 51 (0, 0)) (by (with_reducible repeat (first | refine blk_drewN ?_ _ | refine blk_drew ?_ | refine blk_alloc ?_ _)); exact BK643.out)) : gb668 ≠ gb643)); have n18_ := Aside0.mk ((by rw [hg]; exact Nat.ne_of_lt (blk_lt (g := gb657) (o := .cells #[.int .i64 t647, .string t648, .slice Ao113 t649.length co113, .string t652, .slice Ao114 t653.length co114] 64 (0, 0)) (by (with_reducible repeat (first | refine blk_drewN ?_ _ | refine blk_drew ?_ | refine blk_alloc ?_ _)); exact BK657.out)) : gb657 ≠ gb668)); have n19_ := Aside0.mk ((by rw [hg]; exact Nat.ne_of_gt (blk_lt (g := gb657) (o := .cells #[.int .i64 t647, .string t648, .slice Ao113 t649.length co113, .string t652, .slice Ao114 t653.length co114] 64 (0, 0)) (by (with_reducible repeat (first | refine blk_drewN ?_ _ | refine blk_drew ?_ | refine blk_alloc ?_ _)); exact BK657.out)) : gb668 ≠ gb657)); clear HO651; clear HO655; clear HO662; clear HO666; clear BK641; clear BK642; clear BK643; clear BK657; clear HB; have HO651 := n0_; have HO655 := n1_; have HO662 := n2_; have HO666 := n3_; have BK641 := n4_; have BK642 := n5_; have BK643 := n6_; have BK657 := n7_; have HB := n8_; have BK668 := n9_; have GW668 := n10_; have GE668 := n11_; have NB641_668 := n12_; have NB668_641 := n13_; have NB642_668 := n14_; have NB668_642 := n15_; have NB643_668 := n16_; have NB668_643 := n17_; have NB657_668 := n18_; have NB668_657 := n19_; clear n0_ n1_ n2_ n3_ n4_ n5_ n6_ n7_ n8_ n9_ n10_ n11_ n12_ n13_ n14_ n15_ n16_ n17_ n18_ n19_; clear hb hbox hg; have hnb121 := NB668_641.out; have hnc121 := NB641_668.out; have hnb122 := NB668_642.out; have hnc122 := NB642_668.out; have hnb123 := NB668_643.out; have hnc123 := NB643_668.out; have hnb124 := NB668_657.out; have hnc124 := NB657_668.out; have hcz125_0 : w120.cell? ⟨gb668, 0, none⟩ = some (.int .i64 0) := (blk_cell BK668.out 0).trans rfl; have hcz125_1 : w120.cell? ⟨gb668, 1, none⟩ = some (.string (⟨#[]⟩ : ByteArray)) := (blk_cell BK668.out 1).trans rfl; have hcz125_2 : w120.cell? ⟨gb668, 2, none⟩ = some (.slice none 0 0) := (blk_cell BK668.out 2).trans rfl; have hcz125_3 : w120.cell? ⟨gb668, 3, none⟩ = some (.string (⟨#[]⟩ : ByteArray)) := (blk_cell BK668.out 3).trans rfl; have hcz125_4 : w120.cell? ⟨gb668, 4, none⟩ = some (.slice none 0 0) := (blk_cell BK668.out 4).trans rfl; have hfz125_0 := blk_frozen BK668.out 0; have hfz125_1 := blk_frozen BK668.out 1; have hfz125_2 := blk_frozen BK668.out 2; have hfz125_3 := blk_frozen BK668.out 3; have hfz125_4 := blk_frozen BK668.out 4; obtain ⟨Ao126, co126, eo126⟩ := Kd.R_slice HO662.out; subst eo126; obtain ⟨Ao127, co127, eo127⟩ := Kd.V_slice HO666.out; subst eo127))
            have n0_ : Aside0 (Kd.R k100 100 (((((w120.setCell ⟨gb668, 0, none⟩ (.int .i64 t658)).setCell ⟨gb668, 1, none⟩ (.string t659)).setCell ⟨gb668, 2, none⟩ (.slice Ao126 t660.length co126)).setCell ⟨gb668, 3, none⟩ (.string t663)).setCell ⟨gb668, 4, none⟩ (.slice Ao127 t664.length co127)) w.heap.size (fun k_ => some k_ ≠ (.slice Ao114 t653.length co114 : Value).ownBlock ∧ some k_ ≠ (.slice Ao126 t660.length co126 : Value).ownBlock) (.slice Ao113 t649.length co113) t649) := ⟨by (with_reducible repeat (first | apply Kd.R_alloc | apply Kd.R_drewN | apply Kd.R_drew)); exact Kd.R_mono (Kd.R_far (p := ⟨gb668, 4, none⟩) (Kd.R_far (p := ⟨gb668, 3, none⟩) (Kd.R_far (p := ⟨gb668, 2, none⟩) (Kd.R_far (p := ⟨gb668, 1, none⟩) (Kd.R_far (p := ⟨gb668, 0, none⟩) (Kd.R_types HO651.out BK668.out (by decide)) (fun _ hk => hk.2) (.int .i64 t658)) (fun _ hk => hk.2) (.string t659)) (fun _ hk => hk.2) (.slice Ao126 t660.length co126)) (fun _ hk => hk.2) (.string t663)) (fun _ hk => hk.2) (.slice Ao127 t664.length co127)) (fun _ hk => ⟨hk.1.1, hk.1.2⟩)⟩
            have n1_ : Aside0 (Kd.R k100 100 (((((w120.setCell ⟨gb668, 0, none⟩ (.int .i64 t658)).setCell ⟨gb668, 1, none⟩ (.string t659)).setCell ⟨gb668, 2, none⟩ (.slice Ao126 t660.length co126)).setCell ⟨gb668, 3, none⟩ (.string t663)).setCell ⟨gb668, 4, none⟩ (.slice Ao127 t664.length co127)) w.heap.size (fun k_ => some k_ ≠ (.slice Ao113 t649.length co113 : Value).ownBlock ∧ some k_ ≠ (.slice Ao126 t660.length co126 : Value).ownBlock) (.slice Ao114 t653.length co114) t653) := ⟨by (with_reducible repeat (first | apply Kd.R_alloc | apply Kd.R_drewN | apply Kd.R_drew)); exact Kd.R_mono (Kd.R_far (p := ⟨gb668, 4, none⟩) (Kd.R_far (p := ⟨gb668, 3, none⟩) (Kd.R_far (p := ⟨gb668, 2, none⟩) (Kd.R_far (p := ⟨gb668, 1, none⟩) (Kd.R_far (p := ⟨gb668, 0, none⟩) (Kd.R_types HO655.out BK668.out (by decide)) (fun _ hk => hk.2) (.int .i64 t658)) (fun _ hk => hk.2) (.string t659)) (fun _ hk => hk.2) (.slice Ao126 t660.length co126)) (fun _ hk => hk.2) (.string t663)) (fun _ hk => hk.2) (.slice Ao127 t664.length co127)) (fun _ hk => ⟨hk.1.1, hk.1.2⟩)⟩
            have n2_ : Aside0 (Kd.R k100 100 (((((w120.setCell ⟨gb668, 0, none⟩ (.int .i64 t658)).setCell ⟨gb668, 1, none⟩ (.string t659)).setCell ⟨gb668, 2, none⟩ (.slice Ao126 t660.length co126)).setCell ⟨gb668, 3, none⟩ (.string t663)).setCell ⟨gb668, 4, none⟩ (.slice Ao127 t664.length co127)) w.heap.size (fun k_ => some k_ ≠ (.slice Ao113 t649.length co113 : Value).ownBlock ∧ some k_ ≠ (.slice Ao114 t653.length co114 : Value).ownBlock) (.slice Ao126 t660.length co126) t660) := ⟨by (with_reducible repeat (first | apply Kd.R_alloc | apply Kd.R_drewN | apply Kd.R_drew)); exact Kd.R_mono (Kd.R_far (p := ⟨gb668, 4, none⟩) (Kd.R_far (p := ⟨gb668, 3, none⟩) (Kd.R_far (p := ⟨gb668, 2, none⟩) (Kd.R_far (p := ⟨gb668, 1, none⟩) (Kd.R_far (p := ⟨gb668, 0, none⟩) (Kd.R_types HO662.out BK668.out (by decide)) (fun _ hk => hk.2) (.int .i64 t658)) (fun _ hk => hk.2) (.string t659)) (fun _ hk => hk.2) (.slice Ao126 t660.length co126)) (fun _ hk => hk.2) (.string t663)) (fun _ hk => hk.2) (.slice Ao127 t664.length co127)) (fun _ hk => ⟨hk.1.1.2, hk.1.2⟩)⟩
            have n3_ : Aside0 (Kd.V k100 100 (((((w120.setCell ⟨gb668, 0, none⟩ (.int .i64 t658)).setCell ⟨gb668, 1, none⟩ (.string t659)).setCell ⟨gb668, 2, none⟩ (.slice Ao126 t660.length co126)).setCell ⟨gb668, 3, none⟩ (.string t663)).setCell ⟨gb668, 4, none⟩ (.slice Ao127 t664.length co127)) w.heap.size (fun k_ => some k_ ≠ (.slice Ao113 t649.length co113 : Value).ownBlock ∧ some k_ ≠ (.slice Ao114 t653.length co114 : Value).ownBlock ∧ some k_ ≠ (.slice Ao126 t660.length co126 : Value).ownBlock ∧ k_ ≠ gb641 ∧ k_ ≠ gb642 ∧ k_ ≠ gb643 ∧ k_ ≠ gb657 ∧ k_ ≠ gb668) (.slice Ao127 t664.length co127) t664) := ⟨by (with_reducible repeat (first | apply Kd.V_alloc | apply Kd.V_drewN | apply Kd.V_drew)); exact Kd.V_mono (Kd.V_far (p := ⟨gb668, 4, none⟩) (Kd.V_far (p := ⟨gb668, 3, none⟩) (Kd.V_far (p := ⟨gb668, 2, none⟩) (Kd.V_far (p := ⟨gb668, 1, none⟩) (Kd.V_far (p := ⟨gb668, 0, none⟩) (Kd.V_mono HO666.out (fun k_ hk => (⟨hk, hk.2⟩ : _ ∧ k_ ≠ gb668))) (fun _ hk => hk.2) (.int .i64 t658)) (fun _ hk => hk.2) (.string t659)) (fun _ hk => hk.2) (.slice Ao126 t660.length co126)) (fun _ hk => hk.2) (.string t663)) (fun _ hk => hk.2) (.slice Ao127 t664.length co127)) (fun _ hk => ⟨hk.1.1.2.1, ⟨hk.1.1.2.2.1, ⟨hk.1.1.1, ⟨hk.1.1.2.2.2.1, ⟨hk.1.1.2.2.2.2.1, ⟨hk.1.1.2.2.2.2.2.1, ⟨hk.1.1.2.2.2.2.2.2, hk.1.2⟩⟩⟩⟩⟩⟩⟩)⟩
            have n4_ : Aside0 ((((((w120.setCell ⟨gb668, 0, none⟩ (.int .i64 t658)).setCell ⟨gb668, 1, none⟩ (.string t659)).setCell ⟨gb668, 2, none⟩ (.slice Ao126 t660.length co126)).setCell ⟨gb668, 3, none⟩ (.string t663)).setCell ⟨gb668, 4, none⟩ (.slice Ao127 t664.length co127)).heap[gb641]? = some (.cells #[.string a0_0, .slice A0_1 l0_1.length c0_1] 51 (0, 0))) := ⟨by (with_reducible repeat (first | refine blk_drewN ?_ _ | refine blk_drew ?_ | refine blk_alloc ?_ _)); refine blk_far ?_ NB641_668.out _; (with_reducible repeat (first | refine blk_drewN ?_ _ | refine blk_drew ?_ | refine blk_alloc ?_ _)); refine blk_far ?_ NB641_668.out _; (with_reducible repeat (first | refine blk_drewN ?_ _ | refine blk_drew ?_ | refine blk_alloc ?_ _)); refine blk_far ?_ NB641_668.out _; (with_reducible repeat (first | refine blk_drewN ?_ _ | refine blk_drew ?_ | refine blk_alloc ?_ _)); refine blk_far ?_ NB641_668.out _; (with_reducible repeat (first | refine blk_drewN ?_ _ | refine blk_drew ?_ | refine blk_alloc ?_ _)); refine blk_far ?_ NB641_668.out _; (with_reducible repeat (first | refine blk_drewN ?_ _ | refine blk_drew ?_ | refine blk_alloc ?_ _)); exact BK641.out⟩
            have n5_ : Aside0 ((((((w120.setCell ⟨gb668, 0, none⟩ (.int .i64 t658)).setCell ⟨gb668, 1, none⟩ (.string t659)).setCell ⟨gb668, 2, none⟩ (.slice Ao126 t660.length co126)).setCell ⟨gb668, 3, none⟩ (.string t663)).setCell ⟨gb668, 4, none⟩ (.slice Ao127 t664.length co127)).heap[gb642]? = some (.cells #[.int .i64 a1_0, .int .i64 a1_1] 41 (0, 0))) := ⟨by (with_reducible repeat (first | refine blk_drewN ?_ _ | refine blk_drew ?_ | refine blk_alloc ?_ _)); refine blk_far ?_ NB642_668.out _; (with_reducible repeat (first | refine blk_drewN ?_ _ | refine blk_drew ?_ | refine blk_alloc ?_ _)); refine blk_far ?_ NB642_668.out _; (with_reducible repeat (first | refine blk_drewN ?_ _ | refine blk_drew ?_ | refine blk_alloc ?_ _)); refine blk_far ?_ NB642_668.out _; (with_reducible repeat (first | refine blk_drewN ?_ _ | refine blk_drew ?_ | refine blk_alloc ?_ _)); refine blk_far ?_ NB642_668.out _; (with_reducible repeat (first | refine blk_drewN ?_ _ | refine blk_drew ?_ | refine blk_alloc ?_ _)); refine blk_far ?_ NB642_668.out _; (with_reducible repeat (first | refine blk_drewN ?_ _ | refine blk_drew ?_ | refine blk_alloc ?_ _)); exact BK642.out⟩
            have n6_ : Aside0 ((((((w120.setCell ⟨gb668, 0, none⟩ (.int .i64 t658)).setCell ⟨gb668, 1, none⟩ (.string t659)).setCell ⟨gb668, 2, none⟩ (.slice Ao126 t660.length co126)).setCell ⟨gb668, 3, none⟩ (.string t663)).setCell ⟨gb668, 4, none⟩ (.slice Ao127 t664.length co127)).heap[gb643]? = some (.cells #[.string a2_0, .slice A2_1 l2_1.length c2_1] 51 (0, 0))) := ⟨by (with_reducible repeat (first | refine blk_drewN ?_ _ | refine blk_drew ?_ | refine blk_alloc ?_ _)); refine blk_far ?_ NB643_668.out _; (with_reducible repeat (first | refine blk_drewN ?_ _ | refine blk_drew ?_ | refine blk_alloc ?_ _)); refine blk_far ?_ NB643_668.out _; (with_reducible repeat (first | refine blk_drewN ?_ _ | refine blk_drew ?_ | refine blk_alloc ?_ _)); refine blk_far ?_ NB643_668.out _; (with_reducible repeat (first | refine blk_drewN ?_ _ | refine blk_drew ?_ | refine blk_alloc ?_ _)); refine blk_far ?_ NB643_668.out _; (with_reducible repeat (first | refine blk_drewN ?_ _ | refine blk_drew ?_ | refine blk_alloc ?_ _)); refine blk_far ?_ NB643_668.out _; (with_reducible repeat (first | refine blk_drewN ?_ _ | refine blk_drew ?_ | refine blk_alloc ?_ _)); exact BK643.out⟩
            have n7_ : Aside0 ((((((w120.setCell ⟨gb668, 0, none⟩ (.int .i64 t658)).setCell ⟨gb668, 1, none⟩ (.string t659)).setCell ⟨gb668, 2, none⟩ (.slice Ao126 t660.length co126)).setCell ⟨gb668, 3, none⟩ (.string t663)).setCell ⟨gb668, 4, none⟩ (.slice Ao127 t664.length co127)).heap[gb657]? = some (.cells #[.int .i64 t647, .string t648, .slice Ao113 t649.length co113, .string t652, .slice Ao114 t653.length co114] 64 (0, 0))) := ⟨by (with_reducible repeat (first | refine blk_drewN ?_ _ | refine blk_drew ?_ | refine blk_alloc ?_ _)); refine blk_far ?_ NB657_668.out _; (with_reducible repeat (first | refine blk_drewN ?_ _ | refine blk_drew ?_ | refine blk_alloc ?_ _)); refine blk_far ?_ NB657_668.out _; (with_reducible repeat (first | refine blk_drewN ?_ _ | refine blk_drew ?_ | refine blk_alloc ?_ _)); refine blk_far ?_ NB657_668.out _; (with_reducible repeat (first | refine blk_drewN ?_ _ | refine blk_drew ?_ | refine blk_alloc ?_ _)); refine blk_far ?_ NB657_668.out _; (with_reducible repeat (first | refine blk_drewN ?_ _ | refine blk_drew ?_ | refine blk_alloc ?_ _)); refine blk_far ?_ NB657_668.out _; (with_reducible repeat (first | refine blk_drewN ?_ _ | refine blk_drew ?_ | refine blk_alloc ?_ _)); exact BK657.out⟩
            have n8_ : Aside0 ((((((w120.setCell ⟨gb668, 0, none⟩ (.int .i64 t658)).setCell ⟨gb668, 1, none⟩ (.string t659)).setCell ⟨gb668, 2, none⟩ (.slice Ao126 t660.length co126)).setCell ⟨gb668, 3, none⟩ (.string t663)).setCell ⟨gb668, 4, none⟩ (.slice Ao127 t664.length co127)).heap[gb668]? = some (.cells #[.int .i64 t658, .string t659, .slice Ao126 t660.length co126, .string t663, .slice Ao127 t664.length co127] 64 (0, 0))) := ⟨by (with_reducible repeat (first | refine blk_drewN ?_ _ | refine blk_drew ?_ | refine blk_alloc ?_ _)); refine blk_put (cs := #[.int .i64 t658, .string t659, .slice Ao126 t660.length co126, .string t663, .slice none 0 0]) ?_ 4 _ rfl; (with_reducible repeat (first | refine blk_drewN ?_ _ | refine blk_drew ?_ | refine blk_alloc ?_ _)); refine blk_put (cs := #[.int .i64 t658, .string t659, .slice Ao126 t660.length co126, .string (⟨#[]⟩ : ByteArray), .slice none 0 0]) ?_ 3 _ rfl; (with_reducible repeat (first | refine blk_drewN ?_ _ | refine blk_drew ?_ | refine blk_alloc ?_ _)); refine blk_put (cs := #[.int .i64 t658, .string t659, .slice none 0 0, .string (⟨#[]⟩ : ByteArray), .slice none 0 0]) ?_ 2 _ rfl; (with_reducible repeat (first | refine blk_drewN ?_ _ | refine blk_drew ?_ | refine blk_alloc ?_ _)); refine blk_put (cs := #[.int .i64 t658, .string (⟨#[]⟩ : ByteArray), .slice none 0 0, .string (⟨#[]⟩ : ByteArray), .slice none 0 0]) ?_ 1 _ rfl; (with_reducible repeat (first | refine blk_drewN ?_ _ | refine blk_drew ?_ | refine blk_alloc ?_ _)); refine blk_put (cs := #[.int .i64 0, .string (⟨#[]⟩ : ByteArray), .slice none 0 0, .string (⟨#[]⟩ : ByteArray), .slice none 0 0]) ?_ 0 _ rfl; (with_reducible repeat (first | refine blk_drewN ?_ _ | refine blk_drew ?_ | refine blk_alloc ?_ _)); exact BK668.out⟩
            have n9_ : Aside0 (Below w.heap.size w (((((w120.setCell ⟨gb668, 0, none⟩ (.int .i64 t658)).setCell ⟨gb668, 1, none⟩ (.string t659)).setCell ⟨gb668, 2, none⟩ (.slice Ao126 t660.length co126)).setCell ⟨gb668, 3, none⟩ (.string t663)).setCell ⟨gb668, 4, none⟩ (.slice Ao127 t664.length co127))) := ⟨by repeat (first | (with_reducible first | exact HB.out | apply below_alloc | apply pw_below_drewN | apply below_drew1 | refine below_set ?_ GE641.out | refine below_set ?_ GE642.out | refine below_set ?_ GE643.out | refine below_set ?_ GE657.out | refine below_set ?_ GE668.out) | exact HB.out)⟩
            (try clear HO651)
            (try clear HO655)
            (try clear HO662)
            (try clear HO666)
            (try clear BK641)
            (try clear BK642)
            (try clear BK643)
            (try clear BK657)
            (try clear BK668)
            (try clear HB)
            generalize (((((w120.setCell ⟨gb668, 0, none⟩ (.int .i64 t658)).setCell ⟨gb668, 1, none⟩ (.string t659)).setCell ⟨gb668, 2, none⟩ (.slice Ao126 t660.length co126)).setCell ⟨gb668, 3, none⟩ (.string t663)).setCell ⟨gb668, 4, none⟩ (.slice Ao127 t664.length co127)) = w128 at n0_ n1_ n2_ n3_ n4_ n5_ n6_ n7_ n8_ n9_ ⊢
            have HO651 := n0_
            have HO655 := n1_
            have HO662 := n2_
            have HO666 := n3_
            have BK641 := n4_
            have BK642 := n5_
            have BK643 := n6_
            have BK657 := n7_
            have BK668 := n8_
            have HB := n9_
            clear n0_ n1_ n2_ n3_ n4_ n5_ n6_ n7_ n8_ n9_
            have n0_ := Aside0.mk (Kd.R_drew HO651.out)
            have n1_ := Aside0.mk (Kd.R_drew HO655.out)
            have n2_ := Aside0.mk (Kd.R_drew HO662.out)
            have n3_ := Aside0.mk (Kd.V_drew HO666.out)
            have n4_ := Aside0.mk (blk_drew BK641.out)
            have n5_ := Aside0.mk (blk_drew BK642.out)
            have n6_ := Aside0.mk (blk_drew BK643.out)
            have n7_ := Aside0.mk (blk_drew BK657.out)
            have n8_ := Aside0.mk (blk_drew BK668.out)
            have n9_ := Aside0.mk (below_drew1 HB.out)
            clear HO651
            clear HO655
            clear HO662
            clear HO666
            clear BK641
            clear BK642
            clear BK643
            clear BK657
            clear BK668
            clear HB
            have HO651 := n0_
            have HO655 := n1_
            have HO662 := n2_
            have HO666 := n3_
            have BK641 := n4_
            have BK642 := n5_
            have BK643 := n6_
            have BK657 := n7_
            have BK668 := n8_
            have HB := n9_
            clear n0_ n1_ n2_ n3_ n4_ n5_ n6_ n7_ n8_ n9_
            refine start_ (n := 16) (S := fun w' => w'.cell? ⟨gb657, 0, none⟩ = some (.int .i64 t647) ∧ w'.cell? ⟨gb657, 1, none⟩ = some (.string t648) ∧ w'.cell? ⟨gb657, 2, none⟩ = some (.slice Ao113 t649.length co113) ∧ w'.cell? ⟨gb657, 3, none⟩ = some (.string t652) ∧ w'.cell? ⟨gb657, 4, none⟩ = some (.slice Ao114 t653.length co114) ∧ w'.cell? ⟨gb668, 0, none⟩ = some (.int .i64 t658) ∧ w'.cell? ⟨gb668, 1, none⟩ = some (.string t659) ∧ w'.cell? ⟨gb668, 2, none⟩ = some (.slice Ao126 t660.length co126) ∧ w'.cell? ⟨gb668, 3, none⟩ = some (.string t663) ∧ w'.cell? ⟨gb668, 4, none⟩ = some (.slice Ao127 t664.length co127)) (ds := []) #[false, false, false, false, false, false, false, false, false, false, false, false, false, false, false, false] (by kernel_rfl) rfl rfl ⟨(blk_cell BK657.out 0).trans rfl, (blk_cell BK657.out 1).trans rfl, (blk_cell BK657.out 2).trans rfl, (blk_cell BK657.out 3).trans rfl, (blk_cell BK657.out 4).trans rfl, (blk_cell BK668.out 0).trans rfl, (blk_cell BK668.out 1).trans rfl, (blk_cell BK668.out 2).trans rfl, (blk_cell BK668.out 3).trans rfl, (blk_cell BK668.out 4).trans rfl⟩ (fun hHeld => ?_); refine with_tabW bureaulaw07_EditMakes.tab7 bureaulaw07_EditMakes.bits7 (fun HT_ HW_ => ?_)
            generalize w128.drew = w129 at HO651 HO655 HO662 HO666 BK641 BK642 BK643 BK657 BK668 HB hHeld ⊢
            refine take_ (i := 0) (N := some 41) (v := ?_) (a' := ?_) #[true, false, false, false, false, false, false, false, false, false, false, false, false, false, false, false] rfl rfl (take_ofW HT_.out HW_.out (by kernel_rfl)) (fun _ _ _ h => h) (Or.inl ⟨by rfl, ?_⟩) hHeld ?_ ?_
            rotate_left
            · rintro w' ⟨s0, s1, s2, s3, s4, s5, s6, s7, s8, s9⟩
              go_simp
              with_reducible rfl
            rotate_left
            · simp only [Act.put, List.setIfInBounds_toArray, List.set_cons_zero, List.set_cons_succ, i64_w, i32_w]
              rfl
            refine take_ (i := 1) (N := some 42) (v := ?_) (a' := ?_) #[true, true, false, false, false, false, false, false, false, false, false, false, false, false, false, false] rfl rfl (take_ofW HT_.out HW_.out (by kernel_rfl)) (fun _ _ _ h => h) (Or.inl ⟨by rfl, ?_⟩) hHeld ?_ ?_
            rotate_left
            · rintro w' ⟨s0, s1, s2, s3, s4, s5, s6, s7, s8, s9⟩
              go_simp
              with_reducible rfl
            rotate_left
            · simp only [Act.put, List.setIfInBounds_toArray, List.set_cons_zero, List.set_cons_succ, i64_w, i32_w]
              rfl
            refine one_ (i := 2) (N := some 43) #[true, true, true, false, false, false, false, false, false, false, false, false, false, false, false, false] rfl rfl (one_of HT_.out (by kernel_rfl)) (by decide) (fun K hK => ?_)
            refine goes_ Try.func58 (by kernel_rfl) rfl #[.agg #[.int .i64 t647, .string t648, .slice Ao113 t649.length co113, .string t652, .slice Ao114 t653.length co114], .agg #[.int .i64 t658, .string t659, .slice Ao126 t660.length co126, .string t663, .slice Ao127 t664.length co127]] (by rfl) rfl rfl (by (try simp only [List.map_toArray, List.map_cons, List.map_nil]); first | done | rfl | (simp only [List.length_drop, List.length_take]; rfl)) ?_
            with_reducible refine (bureauref07_Same.calls kj5 t647 t648 _ _ t649 t652 _ _ t653 t658 t659 _ _ t660 t663 _ _ t664 false _ ?side1 ?side2 ?side3 ?side4 ?side5 ?side6 ?side7 ?side8 A28.out).mono ?_
            (case side1 => repeat (first | exact (Kd.R_reads' HO651.out).2.2 | (with_reducible refine Kd.C_alloc ?_ _) | (with_reducible refine Kd.C_drewN ?_ _) | (with_reducible refine Kd.C_drew ?_)))
            (case side2 => exact (Kd.R_reads' HO651.out).2.1)
            (case side3 => repeat (first | exact (Kd.R_reads' HO655.out).2.2 | (with_reducible refine Kd.C_alloc ?_ _) | (with_reducible refine Kd.C_drewN ?_ _) | (with_reducible refine Kd.C_drew ?_)))
            (case side4 => exact (Kd.R_reads' HO655.out).2.1)
            (case side5 => repeat (first | exact (Kd.R_reads' HO662.out).2.2 | (with_reducible refine Kd.C_alloc ?_ _) | (with_reducible refine Kd.C_drewN ?_ _) | (with_reducible refine Kd.C_drew ?_)))
            (case side6 => exact (Kd.R_reads' HO662.out).2.1)
            (case side7 => repeat (first | exact (Kd.V_reads' HO666.out).2.2 | (with_reducible refine Kd.C_alloc ?_ _) | (with_reducible refine Kd.C_drewN ?_ _) | (with_reducible refine Kd.C_drew ?_)))
            (case side8 => exact (Kd.V_reads' HO666.out).2.1)
            rintro e w130 ⟨rfl, hb⟩
            refine ⟨_, rfl, ?_⟩
            have n0_ := Aside0.mk (Kd.R_below (by (with_reducible repeat (first | apply Kd.R_alloc | apply Kd.R_drewN | apply Kd.R_drew)); exact HO651.out) hb)
            have n1_ := Aside0.mk (Kd.R_below (by (with_reducible repeat (first | apply Kd.R_alloc | apply Kd.R_drewN | apply Kd.R_drew)); exact HO655.out) hb)
            have n2_ := Aside0.mk (Kd.R_below (by (with_reducible repeat (first | apply Kd.R_alloc | apply Kd.R_drewN | apply Kd.R_drew)); exact HO662.out) hb)
            have n3_ := Aside0.mk (Kd.V_below (by (with_reducible repeat (first | apply Kd.V_alloc | apply Kd.V_drewN | apply Kd.V_drew)); exact HO666.out) hb)
            have n4_ := Aside0.mk (blk_below (g := gb641) (o := .cells #[.string a0_0, .slice A0_1 l0_1.length c0_1] 51 (0, 0)) (by (with_reducible repeat (first | refine blk_drewN ?_ _ | refine blk_drew ?_ | refine blk_alloc ?_ _)); exact BK641.out) hb)
            have n5_ := Aside0.mk (blk_below (g := gb642) (o := .cells #[.int .i64 a1_0, .int .i64 a1_1] 41 (0, 0)) (by (with_reducible repeat (first | refine blk_drewN ?_ _ | refine blk_drew ?_ | refine blk_alloc ?_ _)); exact BK642.out) hb)
            have n6_ := Aside0.mk (blk_below (g := gb643) (o := .cells #[.string a2_0, .slice A2_1 l2_1.length c2_1] 51 (0, 0)) (by (with_reducible repeat (first | refine blk_drewN ?_ _ | refine blk_drew ?_ | refine blk_alloc ?_ _)); exact BK643.out) hb)
            have n7_ := Aside0.mk (blk_below (g := gb657) (o := .cells #[.int .i64 t647, .string t648, .slice Ao113 t649.length co113, .string t652, .slice Ao114 t653.length co114] 64 (0, 0)) (by (with_reducible repeat (first | refine blk_drewN ?_ _ | refine blk_drew ?_ | refine blk_alloc ?_ _)); exact BK657.out) hb)
            have n8_ := Aside0.mk (blk_below (g := gb668) (o := .cells #[.int .i64 t658, .string t659, .slice Ao126 t660.length co126, .string t663, .slice Ao127 t664.length co127] 64 (0, 0)) (by (with_reducible repeat (first | refine blk_drewN ?_ _ | refine blk_drew ?_ | refine blk_alloc ?_ _)); exact BK668.out) hb)
            have n9_ := Aside0.mk (below_step (by repeat (first | (with_reducible first | exact HB.out | apply below_alloc | apply pw_below_drewN | apply below_drew1 | refine below_set ?_ GE641.out | refine below_set ?_ GE642.out | refine below_set ?_ GE643.out | refine below_set ?_ GE657.out | refine below_set ?_ GE668.out) | exact HB.out)) hb)
            clear HO651
            clear HO655
            clear HO662
            clear HO666
            clear BK641
            clear BK642
            clear BK643
            clear BK657
            clear BK668
            clear HB
            have HO651 := n0_
            have HO655 := n1_
            have HO662 := n2_
            have HO666 := n3_
            have BK641 := n4_
            have BK642 := n5_
            have BK643 := n6_
            have BK657 := n7_
            have BK668 := n8_
            have HB := n9_
            clear n0_ n1_ n2_ n3_ n4_ n5_ n6_ n7_ n8_ n9_
            (try clear hb)
            (try clear hb2)
            (try clear hk)
            (try clear hi)
            refine hK.out _ _ ⟨(blk_cell BK657.out 0).trans rfl, (blk_cell BK657.out 1).trans rfl, (blk_cell BK657.out 2).trans rfl, (blk_cell BK657.out 3).trans rfl, (blk_cell BK657.out 4).trans rfl, (blk_cell BK668.out 0).trans rfl, (blk_cell BK668.out 1).trans rfl, (blk_cell BK668.out 2).trans rfl, (blk_cell BK668.out 3).trans rfl, (blk_cell BK668.out 4).trans rfl⟩ (fun hHeld => ?_)
            clear hK K
            refine norm_ (a' := ?_) ?_ ?_
            rotate_left
            · show Act.put _ (some 43) _ = _
              simp only [Act.put, List.setIfInBounds_toArray, List.set_cons_zero, List.set_cons_succ, i64_w, i32_w]
              rfl
            refine pure_ (i := 3) (N := some 44) (v := ?_) (a' := ?_) #[true, true, true, true, false, false, false, false, false, false, false, false, false, false, false, false] rfl rfl (any_of HT_.out (by kernel_rfl)) (fun _ _ _ h => h) (Or.inl ⟨by rfl, ?_⟩) ?_ ?_
            rotate_left
            · intro w'
              go_simp
              with_reducible rfl
            rotate_left
            · simp only [Act.put, List.setIfInBounds_toArray, List.set_cons_zero, List.set_cons_succ, i64_w, i32_w]
              rfl
            refine pure_ (i := 4) (N := some 45) (v := undef) (a' := ?_) #[true, true, true, true, true, false, false, false, false, false, false, false, false, false, false, false] rfl rfl (any_of HT_.out (by kernel_rfl)) (fun _ _ _ h => h) (Or.inr ⟨by rfl, rfl⟩) ?_ ?_
            rotate_left
            · simp only [Act.put, List.setIfInBounds_toArray, List.set_cons_zero, List.set_cons_succ, i64_w, i32_w]
              rfl
            refine pure_ (i := 5) (N := some 46) (v := undef) (a' := ?_) #[true, true, true, true, true, true, false, false, false, false, false, false, false, false, false, false] rfl rfl (any_of HT_.out (by kernel_rfl)) (fun _ _ _ h => h) (Or.inr ⟨by rfl, rfl⟩) ?_ ?_
            rotate_left
            · simp only [Act.put, List.setIfInBounds_toArray, List.set_cons_zero, List.set_cons_succ, i64_w, i32_w]
              rfl
            refine pure_ (i := 6) (N := some 47) (v := undef) (a' := ?_) #[true, true, true, true, true, true, true, false, false, false, false, false, false, false, false, false] rfl rfl (any_of HT_.out (by kernel_rfl)) (fun _ _ _ h => h) (Or.inr ⟨by rfl, rfl⟩) ?_ ?_
            rotate_left
            · simp only [Act.put, List.setIfInBounds_toArray, List.set_cons_zero, List.set_cons_succ, i64_w, i32_w]
              rfl
            refine pure_ (i := 7) (N := some 48) (v := ?_) (a' := ?_) #[true, true, true, true, true, true, true, true, false, false, false, false, false, false, false, false] rfl rfl (any_of HT_.out (by kernel_rfl)) (fun _ _ _ h => h) (Or.inl ⟨by rfl, ?_⟩) ?_ ?_
            rotate_left
            · intro w'
              go_simp
              with_reducible rfl
            rotate_left
            · simp only [Act.put, List.setIfInBounds_toArray, List.set_cons_zero, List.set_cons_succ, i64_w, i32_w]
              rfl
            refine pure_ (i := 8) (N := some 49) (v := ?_) (a' := ?_) #[true, true, true, true, true, true, true, true, true, false, false, false, false, false, false, false] rfl rfl (any_of HT_.out (by kernel_rfl)) (fun _ _ _ h => h) (Or.inl ⟨by rfl, ?_⟩) ?_ ?_
            rotate_left
            · intro w'
              go_simp
              with_reducible rfl
            rotate_left
            · simp only [Act.put, List.setIfInBounds_toArray, List.set_cons_zero, List.set_cons_succ, i64_w, i32_w]
              rfl
            refine pure_ (i := 9) (N := some 50) (v := undef) (a' := ?_) #[true, true, true, true, true, true, true, true, true, true, false, false, false, false, false, false] rfl rfl (any_of HT_.out (by kernel_rfl)) (fun _ _ _ h => h) (Or.inr ⟨by rfl, rfl⟩) ?_ ?_
            rotate_left
            · simp only [Act.put, List.setIfInBounds_toArray, List.set_cons_zero, List.set_cons_succ, i64_w, i32_w]
              rfl
            refine pure_ (i := 10) (N := some 51) (v := undef) (a' := ?_) #[true, true, true, true, true, true, true, true, true, true, true, false, false, false, false, false] rfl rfl (any_of HT_.out (by kernel_rfl)) (fun _ _ _ h => h) (Or.inr ⟨by rfl, rfl⟩) ?_ ?_
            rotate_left
            · simp only [Act.put, List.setIfInBounds_toArray, List.set_cons_zero, List.set_cons_succ, i64_w, i32_w]
              rfl
            refine pure_ (i := 11) (N := some 52) (v := undef) (a' := ?_) #[true, true, true, true, true, true, true, true, true, true, true, true, false, false, false, false] rfl rfl (any_of HT_.out (by kernel_rfl)) (fun _ _ _ h => h) (Or.inr ⟨by rfl, rfl⟩) ?_ ?_
            rotate_left
            · simp only [Act.put, List.setIfInBounds_toArray, List.set_cons_zero, List.set_cons_succ, i64_w, i32_w]
              rfl
            refine pure_ (i := 12) (N := some 53) (v := undef) (a' := ?_) #[true, true, true, true, true, true, true, true, true, true, true, true, true, false, false, false] rfl rfl (any_of HT_.out (by kernel_rfl)) (fun _ _ _ h => h) (Or.inr ⟨by rfl, rfl⟩) ?_ ?_
            rotate_left
            · simp only [Act.put, List.setIfInBounds_toArray, List.set_cons_zero, List.set_cons_succ, i64_w, i32_w]
              rfl
            refine pure_ (i := 13) (N := some 54) (v := undef) (a' := ?_) #[true, true, true, true, true, true, true, true, true, true, true, true, true, true, false, false] rfl rfl (any_of HT_.out (by kernel_rfl)) (fun _ _ _ h => h) (Or.inr ⟨by rfl, rfl⟩) ?_ ?_
            rotate_left
            · simp only [Act.put, List.setIfInBounds_toArray, List.set_cons_zero, List.set_cons_succ, i64_w, i32_w]
              rfl
            refine pure_ (i := 14) (N := some 55) (v := ?_) (a' := ?_) #[true, true, true, true, true, true, true, true, true, true, true, true, true, true, true, false] rfl rfl (any_of HT_.out (by kernel_rfl)) (fun _ _ _ h => h) (Or.inl ⟨by rfl, ?_⟩) ?_ ?_
            rotate_left
            · intro w'
              go_simp
              with_reducible rfl
            rotate_left
            · simp only [Act.put, List.setIfInBounds_toArray, List.set_cons_zero, List.set_cons_succ, i64_w, i32_w]
              rfl
            refine pure_ (i := 15) (N := some 6) (v := ?_) (a' := ?_) #[true, true, true, true, true, true, true, true, true, true, true, true, true, true, true, true] rfl rfl (any_of HT_.out (by kernel_rfl)) (fun _ _ _ h => h) (Or.inl ⟨by rfl, ?_⟩) ?_ ?_
            rotate_left
            · intro w'
              go_simp
              with_reducible rfl
            rotate_left
            · simp only [Act.put, List.setIfInBounds_toArray, List.set_cons_zero, List.set_cons_succ, i64_w, i32_w]
              rfl
            refine done_ (done_of HT_.out (by kernel_rfl)) ?_
            try go_wp2
            go_ret
            exact ⟨by first | rfl | (simp [errW_none, errW_some] <;> rfl) | (simp [*, errW_none, errW_some] <;> rfl), by repeat (first | (with_reducible first | exact HB.out | apply below_alloc | apply pw_below_drewN | apply below_drew1 | refine below_set ?_ GE641.out | refine below_set ?_ GE642.out | refine below_set ?_ GE643.out | refine below_set ?_ GE657.out | refine below_set ?_ GE668.out) | exact HB.out)⟩
  · replace c5 := Bool.eq_false_iff.mpr c5
    subst c5
    have H1 : (some false) = some r := by rw [if_neg (show ¬ (false = true) by decide)] at H; exact H
    clear H
    have H := H1
    clear H1
    obtain rfl := Option.some.inj H
    go_enter Try.func13, Try.ntmps13
    go_wp2_with (first | ((with_reducible refine gate_dst (N := 3) rfl ?_); refine box_event ?hg (N := 3) ?hd (cs := #[.string a0_0, .slice A0_1 l0_1.length c0_1]) (t := 51) ?hr ?_; (case hd => rfl); (case hg => rfl); (case hr => first | (go_simp; done) | (go_simp; rfl)); intro gb641 hg w131 hbox hb; have n0_ := Aside0.mk (below_step (by repeat (first | (with_reducible first | exact HB.out | apply below_alloc | apply pw_below_drewN | apply below_drew1) | exact HB.out)) hb); have n1_ := Aside0.mk (hbox); have n2_ := Aside0.mk ((by rw [hg]; exact (below_size (by repeat (first | (with_reducible first | exact HB.out | apply below_alloc | apply pw_below_drewN | apply below_drew1) | exact HB.out))) : w.heap.size ≤ gb641)); have n3_ := Aside0.mk ((by rw [hg]; exact (below_size (by repeat (first | (with_reducible first | exact HB.out | apply below_alloc | apply pw_below_drewN | apply below_drew1) | exact HB.out))) : w.heap.size ≤ gb641)); clear HB; have HB := n0_; have BK641 := n1_; have GW641 := n2_; have GE641 := n3_; clear n0_ n1_ n2_ n3_; clear hb hbox hg) | ((with_reducible refine gate_dst (N := 4) rfl ?_); refine box_event ?hg (N := 4) ?hd (cs := #[.int .i64 a1_0, .int .i64 a1_1]) (t := 41) ?hr ?_; (case hd => rfl); (case hg => rfl); (case hr => first | (go_simp; done) | (go_simp; rfl)); intro gb642 hg w132 hbox hb; have n0_ := Aside0.mk (blk_below (g := gb641) (o := .cells #[.string a0_0, .slice A0_1 l0_1.length c0_1] 51 (0, 0)) (by (with_reducible repeat (first | refine blk_drewN ?_ _ | refine blk_drew ?_ | refine blk_alloc ?_ _)); exact BK641.out) hb); have n1_ := Aside0.mk (below_step (by repeat (first | (with_reducible first | exact HB.out | apply below_alloc | apply pw_below_drewN | apply below_drew1 | refine below_set ?_ GE641.out) | exact HB.out)) hb); have n2_ := Aside0.mk (hbox); have n3_ := Aside0.mk ((by rw [hg]; exact (below_size (by repeat (first | (with_reducible first | exact HB.out | apply below_alloc | apply pw_below_drewN | apply below_drew1 | refine below_set ?_ GE641.out) | exact HB.out))) : w.heap.size ≤ gb642)); have n4_ := Aside0.mk ((by rw [hg]; exact (below_size (by repeat (first | (with_reducible first | exact HB.out | apply below_alloc | apply pw_below_drewN | apply below_drew1 | refine below_set ?_ GE641.out) | exact HB.out))) : w.heap.size ≤ gb642)); have n5_ := Aside0.mk ((by rw [hg]; exact Nat.ne_of_lt (blk_lt (g := gb641) (o := .cells #[.string a0_0, .slice A0_1 l0_1.length c0_1] 51 (0, 0)) (by (with_reducible repeat (first | refine blk_drewN ?_ _ | refine blk_drew ?_ | refine blk_alloc ?_ _)); exact BK641.out)) : gb641 ≠ gb642)); have n6_ := Aside0.mk ((by rw [hg]; exact Nat.ne_of_gt (blk_lt (g := gb641) (o := .cells #[.string a0_0, .slice A0_1 l0_1.length c0_1] 51 (0, 0)) (by (with_reducible repeat (first | refine blk_drewN ?_ _ | refine blk_drew ?_ | refine blk_alloc ?_ _)); exact BK641.out)) : gb642 ≠ gb641)); clear BK641; clear HB; have BK641 := n0_; have HB := n1_; have BK642 := n2_; have GW642 := n3_; have GE642 := n4_; have NB641_642 := n5_; have NB642_641 := n6_; clear n0_ n1_ n2_ n3_ n4_ n5_ n6_; clear hb hbox hg) | ((with_reducible refine gate_dst (N := 5) rfl ?_); refine box_event ?hg (N := 5) ?hd (cs := #[.string a2_0, .slice A2_1 l2_1.length c2_1]) (t := 51) ?hr ?_; (case hd => rfl); (case hg => rfl); (case hr => first | (go_simp; done) | (go_simp; rfl)); intro gb643 hg w133 hbox hb; have n0_ := Aside0.mk (blk_below (g := gb641) (o := .cells #[.string a0_0, .slice A0_1 l0_1.length c0_1] 51 (0, 0)) (by (with_reducible repeat (first | refine blk_drewN ?_ _ | refine blk_drew ?_ | refine blk_alloc ?_ _)); exact BK641.out) hb); have n1_ := Aside0.mk (blk_below (g := gb642) (o := .cells #[.int .i64 a1_0, .int .i64 a1_1] 41 (0, 0)) (by (with_reducible repeat (first | refine blk_drewN ?_ _ | refine blk_drew ?_ | refine blk_alloc ?_ _)); exact BK642.out) hb); have n2_ := Aside0.mk (below_step (by repeat (first | (with_reducible first | exact HB.out | apply below_alloc | apply pw_below_drewN | apply below_drew1 | refine below_set ?_ GE641.out | refine below_set ?_ GE642.out) | exact HB.out)) hb); have n3_ := Aside0.mk (hbox); have n4_ := Aside0.mk ((by rw [hg]; exact (below_size (by repeat (first | (with_reducible first | exact HB.out | apply below_alloc | apply pw_below_drewN | apply below_drew1 | refine below_set ?_ GE641.out | refine below_set ?_ GE642.out) | exact HB.out))) : w.heap.size ≤ gb643)); have n5_ := Aside0.mk ((by rw [hg]; exact (below_size (by repeat (first | (with_reducible first | exact HB.out | apply below_alloc | apply pw_below_drewN | apply below_drew1 | refine below_set ?_ GE641.out | refine below_set ?_ GE642.out) | exact HB.out))) : w.heap.size ≤ gb643)); have n6_ := Aside0.mk ((by rw [hg]; exact Nat.ne_of_lt (blk_lt (g := gb641) (o := .cells #[.string a0_0, .slice A0_1 l0_1.length c0_1] 51 (0, 0)) (by (with_reducible repeat (first | refine blk_drewN ?_ _ | refine blk_drew ?_ | refine blk_alloc ?_ _)); exact BK641.out)) : gb641 ≠ gb643)); have n7_ := Aside0.mk ((by rw [hg]; exact Nat.ne_of_gt (blk_lt (g := gb641) (o := .cells #[.string a0_0, .slice A0_1 l0_1.length c0_1] 51 (0, 0)) (by (with_reducible repeat (first | refine blk_drewN ?_ _ | refine blk_drew ?_ | refine blk_alloc ?_ _)); exact BK641.out)) : gb643 ≠ gb641)); have n8_ := Aside0.mk ((by rw [hg]; exact Nat.ne_of_lt (blk_lt (g := gb642) (o := .cells #[.int .i64 a1_0, .int .i64 a1_1] 41 (0, 0)) (by (with_reducible repeat (first | refine blk_drewN ?_ _ | refine blk_drew ?_ | refine blk_alloc ?_ _)); exact BK642.out)) : gb642 ≠ gb643)); have n9_ := Aside0.mk ((by rw [hg]; exact Nat.ne_of_gt (blk_lt (g := gb642) (o := .cells #[.int .i64 a1_0, .int .i64 a1_1] 41 (0, 0)) (by (with_reducible repeat (first | refine blk_drewN ?_ _ | refine blk_drew ?_ | refine blk_alloc ?_ _)); exact BK642.out)) : gb643 ≠ gb642)); clear BK641; clear BK642; clear HB; have BK641 := n0_; have BK642 := n1_; have HB := n2_; have BK643 := n3_; have GW643 := n4_; have GE643 := n5_; have NB641_643 := n6_; have NB643_641 := n7_; have NB642_643 := n8_; have NB643_642 := n9_; clear n0_ n1_ n2_ n3_ n4_ n5_ n6_ n7_ n8_ n9_; clear hb hbox hg) | ((with_reducible refine gate_callee (f := 55) rfl ?_); refine goesL_ (some 11) rfl rfl Try.func55 (by kernel_rfl) rfl #[] rfl (by (try simp only [List.map_toArray, List.map_cons, List.map_nil]); first | done | rfl | (simp only [List.length_drop, List.length_take]; rfl)) ?_; (with_reducible refine (bureaulaw07_alive.calls k  false _ A4.out).mono ?_); rintro e w134 ⟨rfl, hb⟩; refine ⟨_, rfl, ?_⟩; have n0_ := Aside0.mk (blk_below (g := gb641) (o := .cells #[.string a0_0, .slice A0_1 l0_1.length c0_1] 51 (0, 0)) (by (with_reducible repeat (first | refine blk_drewN ?_ _ | refine blk_drew ?_ | refine blk_alloc ?_ _)); exact BK641.out) hb); have n1_ := Aside0.mk (blk_below (g := gb642) (o := .cells #[.int .i64 a1_0, .int .i64 a1_1] 41 (0, 0)) (by (with_reducible repeat (first | refine blk_drewN ?_ _ | refine blk_drew ?_ | refine blk_alloc ?_ _)); exact BK642.out) hb); have n2_ := Aside0.mk (blk_below (g := gb643) (o := .cells #[.string a2_0, .slice A2_1 l2_1.length c2_1] 51 (0, 0)) (by (with_reducible repeat (first | refine blk_drewN ?_ _ | refine blk_drew ?_ | refine blk_alloc ?_ _)); exact BK643.out) hb); have n3_ := Aside0.mk (below_step (by repeat (first | (with_reducible first | exact HB.out | apply below_alloc | apply pw_below_drewN | apply below_drew1 | refine below_set ?_ GE641.out | refine below_set ?_ GE642.out | refine below_set ?_ GE643.out) | exact HB.out)) hb); clear BK641; clear BK642; clear BK643; clear HB; have BK641 := n0_; have BK642 := n1_; have BK643 := n2_; have HB := n3_; clear n0_ n1_ n2_ n3_; (try clear hb); (try clear hb2); (try clear hk); (try clear hi)))
    go_ret
    exact ⟨by first | rfl | (simp [errW_none, errW_some] <;> rfl) | (simp [*, errW_none, errW_some] <;> rfl), by repeat (first | (with_reducible first | exact HB.out | apply below_alloc | apply pw_below_drewN | apply below_drew1 | refine below_set ?_ GE641.out | refine below_set ?_ GE642.out | refine below_set ?_ GE643.out) | exact HB.out)⟩
end Go.Proofs.Ythpjagblnddjaaa.PB
end

section
namespace Go.Proofs.Ythpjagblnddjaaa.PB
open Go.RowKit Go.Proofs.YthpjagblnddjaaaW.PrintWords
set_option linter.unusedVariables false
def totF : List S100 → Int → Int
  | [], n => n
  | r :: l, n => if r.f1 > 4096 - n then 4097 else totF l (n + (if r.f1 < 0 then 0 else r.f1))
def tot (l : List S100) : Int := totF l 0
def bytes (l : List S100) : List Int := l.flatMap fun r => List.replicate r.f1.toNat r.f0
def step1 (acc : List S100) (x : Int) : List S100 :=
  if 0 < acc.length ∧ (acc.getD (acc.length - 1) z100).f0 = x then acc.set (acc.length - 1) ⟨x, (acc.getD (acc.length - 1) z100).f1 + 1⟩ else acc ++ [⟨x, 1⟩]
def packTo (acc : List S100) (b : List Int) : List S100 := b.foldl step1 acc
def pack (b : List Int) : List S100 := packTo [] b
theorem packTo_append (acc : List S100) (a b : List Int) : packTo acc (a ++ b) = packTo (packTo acc a) b := List.foldl_append
theorem snoc_cases (acc : List S100) : acc = [] ∨ ∃ pre q, acc = pre ++ [q] := by
  rcases List.eq_nil_or_concat acc with h | ⟨pre, q, h⟩
  · exact .inl h
  · exact .inr ⟨pre, q, by rw [h, List.concat_eq_append]⟩
theorem getD_snoc (pre : List S100) (q : S100) : (pre ++ [q]).getD ((pre ++ [q]).length - 1) z100 = q := by
  simp [List.getD_eq_getElem?_getD]
theorem set_snoc (pre : List S100) (q r : S100) : (pre ++ [q]).set ((pre ++ [q]).length - 1) r = pre ++ [r] := by
  simp
theorem step1_nil (x : Int) : step1 [] x = [⟨x, 1⟩] := by simp [step1]
theorem step1_same (pre : List S100) (q : S100) : step1 (pre ++ [q]) q.f0 = pre ++ [⟨q.f0, q.f1 + 1⟩] := by
  unfold step1
  rw [getD_snoc, set_snoc, if_pos ⟨by simp, rfl⟩]
theorem step1_other (pre : List S100) (q : S100) (x : Int) (h : q.f0 ≠ x) : step1 (pre ++ [q]) x = pre ++ [q] ++ [⟨x, 1⟩] := by
  unfold step1
  rw [getD_snoc, if_neg (fun hh => h hh.2)]
theorem addRun_small (acc : List S100) (r : S100) (h : r.f1 < 1) : addRun acc r = acc := by simp [addRun, h]
theorem addRun_nil (r : S100) (h : ¬ r.f1 < 1) : addRun [] r = [r] := by simp [addRun, h]
theorem addRun_same (pre : List S100) (q r : S100) (h : ¬ r.f1 < 1) (he : q.f0 = r.f0) : addRun (pre ++ [q]) r = pre ++ [⟨q.f0, wrap64 (q.f1 + r.f1)⟩] := by
  unfold addRun
  rw [if_neg h, getD_snoc, set_snoc, if_pos (by simp), if_pos he]
theorem addRun_other (pre : List S100) (q r : S100) (h : ¬ r.f1 < 1) (he : ¬ q.f0 = r.f0) : addRun (pre ++ [q]) r = pre ++ [q] ++ [r] := by
  unfold addRun
  rw [if_neg h, getD_snoc, if_pos (by simp), if_neg he]
theorem packTo_rep_same (pre : List S100) (x : Int) : ∀ (n : Nat) (m : Int), packTo (pre ++ [⟨x, m⟩]) (List.replicate n x) = pre ++ [⟨x, m + n⟩]
  | 0, m => by simp [packTo]
  | n + 1, m => by
    rw [List.replicate_succ]
    show packTo (step1 (pre ++ [⟨x, m⟩]) x) _ = _
    rw [show step1 (pre ++ [(⟨x, m⟩ : S100)]) x = pre ++ [⟨x, m + 1⟩] from step1_same pre ⟨x, m⟩, packTo_rep_same pre x n (m + 1)]
    congr 3
    push_cast
    omega
def capped (B : Int) (acc : List S100) : Prop := ∀ r ∈ acc, 0 ≤ r.f1 ∧ r.f1 ≤ B
theorem addRun_pack (acc : List S100) (L : Int) (N : Nat) (B : Int) (hc : capped B acc) (hB : B + N ≤ 9223372036854775807) : addRun acc ⟨L, N⟩ = packTo acc (List.replicate N L) := by
  cases N with
  | zero => rw [addRun_small _ _ (by show ((0 : Nat) : Int) < 1; omega)]; rfl
  | succ n =>
    have h1 : ¬ ((⟨L, ((n + 1 : Nat) : Int)⟩ : S100).f1 < 1) := by show ¬ ((n + 1 : Nat) : Int) < 1; omega
    rw [List.replicate_succ]
    rcases snoc_cases acc with rfl | ⟨pre, q, rfl⟩
    · rw [addRun_nil _ h1]
      show _ = packTo (step1 [] L) _
      rw [step1_nil, ← List.nil_append [(⟨L, 1⟩ : S100)], packTo_rep_same]
      simp
      omega
    · show _ = packTo (step1 (pre ++ [q]) L) _
      by_cases he : q.f0 = L
      · subst he
        have hq := hc q (by simp)
        rw [addRun_same pre q ⟨q.f0, ((n + 1 : Nat) : Int)⟩ h1 rfl, step1_same, packTo_rep_same]
        congr 3
        show wrap64 (q.f1 + ((n + 1 : Nat) : Int)) = _
        unfold wrap64
        omega
      · rw [addRun_other _ _ _ h1 he, step1_other _ _ _ he, packTo_rep_same]
        simp
        omega
theorem capped_mono {B B' : Int} {acc : List S100} (h : capped B acc) (hB : B ≤ B') : capped B' acc := fun r hr => ⟨(h r hr).1, by have := (h r hr).2; omega⟩
theorem step1_capped {B : Int} {acc : List S100} (h : capped B acc) (hB : 0 ≤ B) (x : Int) : capped (B + 1) (step1 acc x) := by
  rcases snoc_cases acc with rfl | ⟨pre, q, rfl⟩
  · rw [step1_nil]
    intro r hr
    obtain rfl := List.mem_singleton.1 hr
    exact ⟨by show (0 : Int) ≤ 1; omega, by show (1 : Int) ≤ B + 1; omega⟩
  · by_cases he : q.f0 = x
    · subst he
      rw [step1_same]
      intro r hr
      rcases List.mem_append.1 hr with hr | hr
      · have := h r (List.mem_append_left _ hr); omega
      · obtain rfl := List.mem_singleton.1 hr
        have := h q (by simp)
        exact ⟨by show 0 ≤ q.f1 + 1; omega, by show q.f1 + 1 ≤ B + 1; omega⟩
    · rw [step1_other _ _ _ he]
      intro r hr
      rcases List.mem_append.1 hr with hr | hr
      · have := h r hr; omega
      · obtain rfl := List.mem_singleton.1 hr
        exact ⟨by show (0 : Int) ≤ 1; omega, by show (1 : Int) ≤ B + 1; omega⟩
theorem packTo_capped (b : List Int) : ∀ {B : Int} {acc : List S100}, capped B acc → 0 ≤ B → capped (B + b.length) (packTo acc b) := by
  induction b with
  | nil => intro B acc h hB; simpa [packTo] using h
  | cons x b ih =>
    intro B acc h hB
    have := ih (step1_capped h hB x) (by omega)
    show capped _ (packTo (step1 acc x) b)
    refine capped_mono this ?_
    rw [List.length_cons]
    push_cast
    omega
theorem bytes_cons (r : S100) (l : List S100) : bytes (r :: l) = List.replicate r.f1.toNat r.f0 ++ bytes l := by simp [bytes]
theorem someTo_pack (a b : Nat) (l : List S100) : ∀ (p : Nat) (acc : List S100) (B : Int), (∀ r ∈ l, 0 ≤ r.f1) → capped B acc → 0 ≤ B → B + (bytes l).length ≤ 1000000 → p + (bytes l).length ≤ 1000000 → a ≤ 1000000 → b ≤ 1000000 →
    someTo addRun (a : Int) (b : Int) l (p : Int) acc = packTo acc (((bytes l).take (b - p)).drop (a - p)) := by
  induction l with
  | nil => intro p acc B _ _ _ _ _ _ _; simp [someTo, bytes, packTo]
  | cons r l ih =>
    intro p acc B h0 hc hB hlen hp ha hb
    obtain ⟨n, hn⟩ := Int.eq_ofNat_of_zero_le (h0 r List.mem_cons_self)
    have hn' : r.f1.toNat = n := by omega
    rw [bytes_cons, hn'] at hlen hp ⊢
    rw [List.length_append, List.length_replicate] at hlen hp
    push_cast at hlen hp
    have hw : wrap64 ((p : Int) + r.f1) = ((p + n : Nat) : Int) := by unfold wrap64; omega
    simp only [someTo]
    rw [hw]
    
    have hN : wrap64 ((if (b : Int) < ((p + n : Nat) : Int) then (b : Int) else ((p + n : Nat) : Int)) - (if (p : Int) < (a : Int) then (a : Int) else (p : Int))) = (min b (p + n) : Nat) - (max p a : Nat) := by
      unfold wrap64
      split <;> split <;> omega
    rw [hN]
    have hsplit : (((List.replicate n r.f0) ++ bytes l).take (b - p)).drop (a - p) = List.replicate (min b (p + n) - max p a) r.f0 ++ ((bytes l).take (b - (p + n))).drop (a - (p + n)) := by
      rw [List.take_append, List.drop_append, List.length_take, List.length_replicate, List.take_replicate, List.drop_replicate]
      congr 1
      · congr 1; omega
      · by_cases hbp : b ≤ p + n
        · rw [show b - p - n = 0 by omega, show b - (p + n) = 0 by omega]; simp
        · rw [show b - p - n = b - (p + n) by omega, show a - p - min (b - p) n = a - (p + n) by omega]
    rw [hsplit, packTo_append]
    by_cases hle : max p a ≤ min b (p + n)
    · rw [show ((min b (p + n) : Nat) : Int) - ((max p a : Nat) : Int) = ((min b (p + n) - max p a : Nat) : Int) by omega]
      rw [addRun_pack acc r.f0 _ B hc (by omega)]
      have hc2 := packTo_capped (List.replicate (min b (p + n) - max p a) r.f0) hc hB
      rw [List.length_replicate] at hc2
      exact ih (p + n) _ _ (fun r hr => h0 r (List.mem_cons_of_mem _ hr)) hc2 (by omega) (by omega) (by push_cast; omega) ha hb
    · rw [addRun_small _ _ (by show ((min b (p + n) : Nat) : Int) - ((max p a : Nat) : Int) < 1; omega), show min b (p + n) - max p a = 0 by omega]
      exact ih (p + n) acc B (fun r hr => h0 r (List.mem_cons_of_mem _ hr)) hc hB (by omega) (by push_cast; omega) ha hb
theorem totF_bytes (l : List S100) : ∀ n : Int, 0 ≤ n → totF l n ≤ 4096 → totF l n = n + (bytes l).length := by
  induction l with
  | nil => intro n _ h; simp [totF, bytes]
  | cons r l ih =>
    intro n h0 h
    simp only [totF] at h ⊢
    split at h
    · omega
    · rename_i hc
      rw [if_neg hc]
      rw [ih _ (by split <;> omega) h, bytes_cons, List.length_append, List.length_replicate]
      push_cast
      split <;> omega
theorem tot_bytes {l : List S100} (h : tot l ≤ 4096) : tot l = (bytes l).length := by
  have := totF_bytes l 0 (by omega) h
  unfold tot
  omega
def nrm : List S100 → Prop
  | [] => True
  | [r] => 1 ≤ r.f1
  | r :: s :: l => 1 ≤ r.f1 ∧ r.f0 ≠ s.f0 ∧ nrm (s :: l)
theorem nrm_tail {r : S100} {l : List S100} (h : nrm (r :: l)) : nrm l := by
  cases l with
  | nil => trivial
  | cons s l => exact h.2.2
theorem nrm_head {r : S100} {l : List S100} (h : nrm (r :: l)) : 1 ≤ r.f1 := by
  cases l with
  | nil => exact h
  | cons s l => exact h.1
theorem nrm_pos {l : List S100} (h : nrm l) : ∀ r ∈ l, 1 ≤ r.f1 := by
  induction l with
  | nil => intro r hr; cases hr
  | cons s l ih =>
    intro r hr
    rcases List.mem_cons.1 hr with rfl | hr
    · exact nrm_head h
    · exact ih (nrm_tail h) r hr
theorem nrm_snoc {pre : List S100} {q r : S100} : nrm (pre ++ [q]) → q.f0 ≠ r.f0 → 1 ≤ r.f1 → nrm (pre ++ [q] ++ [r]) := by
  induction pre with
  | nil => intro h h1 h2; exact ⟨h, h1, h2⟩
  | cons p pre ih =>
    intro h h1 h2
    cases pre with
    | nil => exact ⟨h.1, h.2.1, ih h.2.2 h1 h2⟩
    | cons s pre => exact ⟨h.1, h.2.1, ih h.2.2 h1 h2⟩
theorem nrm_last {pre : List S100} {q q' : S100} : nrm (pre ++ [q]) → q'.f0 = q.f0 → 1 ≤ q'.f1 → nrm (pre ++ [q']) := by
  induction pre with
  | nil => intro h h1 h2; exact h2
  | cons p pre ih =>
    intro h h1 h2
    cases pre with
    | nil => exact ⟨h.1, by rw [h1]; exact h.2.1, h2⟩
    | cons s pre => exact ⟨h.1, h.2.1, ih h.2.2 h1 h2⟩
theorem step1_nrm {acc : List S100} (h : nrm acc) (x : Int) : nrm (step1 acc x) := by
  rcases snoc_cases acc with rfl | ⟨pre, q, rfl⟩
  · rw [step1_nil]; show (1 : Int) ≤ 1; omega
  · by_cases he : q.f0 = x
    · subst he
      rw [step1_same]
      exact nrm_last h rfl (by have := nrm_pos h q (by simp); show 1 ≤ q.f1 + 1; omega)
    · rw [step1_other _ _ _ he]
      exact nrm_snoc h he (by show (1 : Int) ≤ 1; omega)
theorem packTo_nrm (b : List Int) : ∀ {acc : List S100}, nrm acc → nrm (packTo acc b) := by
  induction b with
  | nil => intro acc h; exact h
  | cons x b ih => intro acc h; exact ih (step1_nrm h x)
theorem pack_nrm (b : List Int) : nrm (pack b) := packTo_nrm b trivial
theorem packTo_normal (l : List S100) : ∀ (pre : List S100) (q : S100), nrm (q :: l) → packTo (pre ++ [q]) (bytes l) = pre ++ q :: l := by
  induction l with
  | nil => intro pre q _; simp [bytes, packTo]
  | cons s l ih =>
    intro pre q h
    have hs := nrm_head (nrm_tail h)
    obtain ⟨n, hn⟩ : ∃ n : Nat, s.f1 = ((n + 1 : Nat) : Int) := ⟨(s.f1 - 1).toNat, by omega⟩
    rw [bytes_cons, packTo_append, hn, Int.toNat_natCast, List.replicate_succ]
    show packTo (packTo (step1 (pre ++ [q]) s.f0) _) _ = _
    rw [step1_other _ _ _ h.2.1, packTo_rep_same]
    have e : (⟨s.f0, 1 + (n : Int)⟩ : S100) = s := by
      cases s
      simp only at hn
      subst hn
      congr 1
      push_cast
      omega
    rw [e, ih (pre ++ [q]) s (nrm_tail h)]
    simp
theorem pack_of_nrm {l : List S100} (h : nrm l) : pack (bytes l) = l := by
  cases l with
  | nil => rfl
  | cons s l =>
    have hs := nrm_head h
    obtain ⟨n, hn⟩ : ∃ n : Nat, s.f1 = ((n + 1 : Nat) : Int) := ⟨(s.f1 - 1).toNat, by omega⟩
    unfold pack
    rw [bytes_cons, packTo_append, hn, Int.toNat_natCast, List.replicate_succ]
    show packTo (packTo (step1 [] s.f0) _) _ = _
    rw [step1_nil, ← List.nil_append [(⟨s.f0, 1⟩ : S100)], packTo_rep_same]
    have e : (⟨s.f0, 1 + (n : Int)⟩ : S100) = s := by
      cases s
      simp only at hn
      subst hn
      congr 1
      push_cast
      omega
    rw [e, packTo_normal l [] s h]
    rfl
instance nrmDec : (l : List S100) → Decidable (nrm l)
  | [] => isTrue trivial
  | [r] => inferInstanceAs (Decidable (1 ≤ r.f1))
  | r :: s :: l => by
    have := nrmDec (s :: l)
    exact inferInstanceAs (Decidable (1 ≤ r.f1 ∧ r.f0 ≠ s.f0 ∧ nrm (s :: l)))
theorem nrm_iff {l : List S100} : nrm l ↔ l = pack (bytes l) := ⟨fun h => (pack_of_nrm h).symm, fun h => by rw [h]; exact pack_nrm _⟩
def good (l : List S100) : Bool := decide (nrm l) && decide (tot l ≤ 4096)
end Go.Proofs.Ythpjagblnddjaaa.PB
end

section
namespace Go.Proofs.Ythpjagblnddjaaa.PB
open Go.Proofs.YthpjagblnddjaaaW.PrintWords
theorem Ev.pos {α : Type} {c : Prop} [Decidable c] {A B : Nat → Option α} {r : α} (h : c) (k : Ev A r) : Ev (fun n => if c then A n else B n) r := by
  obtain ⟨K, hK⟩ := k
  exact ⟨K, fun n hn => by show (if c then A n else B n) = _; rw [if_pos h]; exact hK n hn⟩
theorem Ev.neg {α : Type} {c : Prop} [Decidable c] {A B : Nat → Option α} {r : α} (h : ¬ c) (k : Ev B r) : Ev (fun n => if c then A n else B n) r := by
  obtain ⟨K, hK⟩ := k
  exact ⟨K, fun n hn => by show (if c then A n else B n) = _; rw [if_neg h]; exact hK n hn⟩
theorem Ev.ite {α : Type} {c : Prop} [Decidable c] {A B : Nat → Option α} {r s : α} (h1 : c → Ev A r) (h2 : ¬ c → Ev B s) : Ev (fun n => if c then A n else B n) (if c then r else s) := by
  by_cases h : c
  · rw [if_pos h]; exact Ev.pos h (h1 h)
  · rw [if_neg h]; exact Ev.neg h (h2 h)
theorem Ev.ite' {α : Type} {c : Prop} [Decidable c] {A B : Nat → Option α} {r : α} (h1 : c → Ev A r) (h2 : ¬ c → Ev B r) : Ev (fun n => if c then A n else B n) r := by
  by_cases h : c
  · exact Ev.pos h (h1 h)
  · exact Ev.neg h (h2 h)
theorem ev_val {α : Type} {g : Nat → Option α} {a b : α} (h : Ev g a) (e : a = b) : Ev g b := e ▸ h
end Go.Proofs.Ythpjagblnddjaaa.PB
end
