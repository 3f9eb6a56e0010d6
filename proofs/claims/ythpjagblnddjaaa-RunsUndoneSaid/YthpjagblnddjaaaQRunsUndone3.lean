/- The row of a law out of its contract and its pure theorem. No condition. -/
import Derived.OpenShut
import Derived.ChangeArms
import Derived.Deep.Slices
import Derived.SizedLaws
import Derived.Test.YthpjagblnddjaaaRows
import Derived.ProofKit
import Derived.OpenShut
import Derived.ShutString
import Derived.ChangeOld
import Derived.SizedLaws
import Derived.Carry
import Derived.Test.YthpjagblnddjaaaQRunsUndone2
section
namespace Go.Proofs.Ythpjagblnddjaaa.PB
open Go.RowKit Go.Proofs.YthpjagblnddjaaaW.PrintWords Go.Proofs.YthpjagblnddjaaaW.PrintLast Go.Proofs.YthpjagblnddjaaaW.PrintMore
attribute [local go_sem] max2_int min2_int max_two min_two max_three min_three max_four min_four   
set_option linter.unusedVariables false
set_option linter.unusedSimpArgs false
mutual
def bureaulaw03_RunsUndone.j0 : Nat → List (S100) → List (S100) → Bool → Int → Int → Option (Bool)
  | 0, _, _, _, _, _ => none
  | k + 1, x0, x2, x24, x325000, x325001 => if x24 = true then (some true) else ((runs_Slice.f k x0 x325000 x325001).bind fun bt326 => ((runs_Splice.f k x0 x325000 x325001 x2).bind fun bt330 => (if bt326.2 = 0 then (bureaulaw03_RunsUndone.j1 k x0 x2 bt326.1 bt330.1 (bt330.2 != 0) x325000 x325001) else (bureaulaw03_RunsUndone.j1 k x0 x2 bt326.1 bt330.1 true x325000 x325001))))
def bureaulaw03_RunsUndone.j1 : Nat → List (S100) → List (S100) → List (S100) → List (S100) → Bool → Int → Int → Option (Bool)
  | 0, _, _, _, _, _, _, _ => none
  | k + 1, x0, x2, x7, x9, x49, x325000, x325001 => if x49 = true then (some true) else ((runs_Total.f k x2).bind fun t334 => ((runs_Slice.f k x9 x325000 (wrap64 (x325000 + t334))).bind fun bt335 => ((runs_Total.f k x2).bind fun t339 => ((runs_Splice.f k x9 x325000 (wrap64 (x325000 + t339)) x7).bind fun bt340 => (if bt335.2 = 0 then ((bureauref03_Same.f k bt335.1 x2).bind fun t344 => (if t344 = true then (if bt340.2 = 0 then ((bureauref03_Same.f k bt340.1 x0).bind fun t345 => (some t345)) else (some false)) else (some false))) else (some false))))))
end
def bureaulaw03_RunsUndone.f (k : Nat) (l0 : List (S100)) (a1_0 : Int) (a1_1 : Int) (l2 : List (S100)) : Option (Bool) := (bureaulaw03_alive.f k).bind fun t325 => (if t325 = true then (if (l0.length : Int) > 5000 then (bureaulaw03_RunsUndone.j0 k l0 l2 true a1_0 a1_1) else (bureaulaw03_RunsUndone.j0 k l0 l2 (decide ((l2.length : Int) > 5000)) a1_0 a1_1)) else (some false))
def bureaulaw03_RunsUndone.T9 : Bool × List (List Nat × List Nat) := (true, [([], []), ([], []), ([1], [1]), ([], []), ([3], [3]), ([], []), ([5], [5]), ([4, 6], [4, 6]), ([0, 2, 7, 6], [0, 2, 7]), ([8], [8]), ([9], [9]), ([9], [9]), ([10, 8, 0, 1, 2, 3, 4, 5, 6, 7, 8, 9, 10], [10]), ([11, 12, 0, 1, 2, 3, 4, 5, 6, 7, 8, 9, 10, 11, 12], [11])])
def bureaulaw03_RunsUndone.B9 : List Nat := [0, 0, 2, 0, 8, 0, 32, 120, 255, 511, 1023, 1023, 2047, 8191]
theorem bureaulaw03_RunsUndone.tab9 : rtab .any (opsOf Try.f9 9) = bureaulaw03_RunsUndone.T9 := by kernel_rfl
theorem bureaulaw03_RunsUndone.bits9 : waitsOk bureaulaw03_RunsUndone.T9.2 bureaulaw03_RunsUndone.B9 = true := by kernel_rfl
def bureaulaw03_RunsUndone.T10 : Bool × List (List Nat × List Nat) := (true, [([], []), ([], []), ([1], [1]), ([], []), ([3], [3]), ([], []), ([5], [5]), ([4, 6], [4, 6]), ([], []), ([0, 2, 7, 8, 6], [0, 2, 7, 8]), ([9], [9]), ([10], [10]), ([10], [10]), ([11, 9, 0, 1, 2, 3, 4, 5, 6, 7, 8, 9, 10, 11], [11]), ([12, 13, 0, 1, 2, 3, 4, 5, 6, 7, 8, 9, 10, 11, 12, 13], [12])])
def bureaulaw03_RunsUndone.B10 : List Nat := [0, 0, 2, 0, 8, 0, 32, 120, 0, 511, 1023, 2047, 2047, 4095, 16383]
theorem bureaulaw03_RunsUndone.tab10 : rtab .any (opsOf Try.f9 10) = bureaulaw03_RunsUndone.T10 := by kernel_rfl
theorem bureaulaw03_RunsUndone.bits10 : waitsOk bureaulaw03_RunsUndone.T10.2 bureaulaw03_RunsUndone.B10 = true := by kernel_rfl
set_option maxHeartbeats 8000000 in
set_option maxRecDepth 100000 in
theorem bureaulaw03_RunsUndone.calls (k : Nat) (A0 : Option Addr) (c0 : Nat) (l0 : List (S100)) (a1_0 : Int) (a1_1 : Int) (A2 : Option Addr) (c2 : Nat) (l2 : List (S100)) (r : Bool) (w : World) (hr0 : Kd.C k100 w A0 l0.length l0) (hc0 : l0.length ≤ c0) (hr2 : Kd.C k100 w A2 l2.length l2) (hc2 : l2.length ≤ c2) (h : bureaulaw03_RunsUndone.f k l0 a1_0 a1_1 l2 = some r) :
    Calls Try.prog 9 #[.slice A0 l0.length c0, .agg #[.int .i64 a1_0, .int .i64 a1_1], .slice A2 l2.length c2] w fun e w' => e = .returned (.bool r) ∧ Below w.heap.size w w' := by
  have hu41 := Try.underlying41
  have HR0 := Aside0.mk hr0
  have HC0 := Aside0.mk hc0
  clear hr0 hc0
  have HR2 := Aside0.mk hr2
  have HC2 := Aside0.mk hc2
  clear hr2 hc2
  have HB := Aside0.mk (Below.refl w.heap.size w)
  have H : ((bureaulaw03_alive.f k).bind fun t325 => (if t325 = true then (if (l0.length : Int) > 5000 then (bureaulaw03_RunsUndone.j0 k l0 l2 true a1_0 a1_1) else (bureaulaw03_RunsUndone.j0 k l0 l2 (decide ((l2.length : Int) > 5000)) a1_0 a1_1)) else (some false))) = some r := h
  clear h
  replace H := Option.bind_eq_some_iff.mp H
  obtain ⟨t325, A40, H⟩ := H
  replace H : (if t325 = true then (if (l0.length : Int) > 5000 then (bureaulaw03_RunsUndone.j0 k l0 l2 true a1_0 a1_1) else (bureaulaw03_RunsUndone.j0 k l0 l2 (decide ((l2.length : Int) > 5000)) a1_0 a1_1)) else (some false)) = some r := H
  have A4 := Aside0.mk A40
  clear A40
  by_cases c5 : t325 = true
  · subst c5
    have H1 : (if (l0.length : Int) > 5000 then (bureaulaw03_RunsUndone.j0 k l0 l2 true a1_0 a1_1) else (bureaulaw03_RunsUndone.j0 k l0 l2 (decide ((l2.length : Int) > 5000)) a1_0 a1_1)) = some r := by rw [if_pos rfl] at H; exact H
    clear H
    have H := H1
    clear H1
    have HC6 := Aside0.mk H
    clear H
    go_enter Try.func9, Try.ntmps9
    go_upto_region 3 with (first | ((with_reducible refine gate_dst (N := 4) rfl ?_); (try (refine gate_guard (by rfl) ?_; dsimp only)); refine box_event ?hg (N := 4) ?hd (cs := #[.int .i64 a1_0, .int .i64 a1_1]) (t := 41) ?hr ?_; (case hd => rfl); (case hg => rfl); (case hr => first | (go_simp; done) | (go_simp; rfl)); intro gb324 hg w7 hbox hb; have n0_ := Aside0.mk (below_step (by repeat (first | (with_reducible first | exact HB.out | apply below_alloc | apply pw_below_drewN | apply below_drew1) | exact HB.out)) hb); have n1_ := Aside0.mk (hbox); have n2_ := Aside0.mk ((by rw [hg]; exact (below_size (by repeat (first | (with_reducible first | exact HB.out | apply below_alloc | apply pw_below_drewN | apply below_drew1) | exact HB.out))) : w.heap.size ≤ gb324)); have n3_ := Aside0.mk ((by rw [hg]; exact (below_size (by repeat (first | (with_reducible first | exact HB.out | apply below_alloc | apply pw_below_drewN | apply below_drew1) | exact HB.out))) : w.heap.size ≤ gb324)); clear HB; have HB := n0_; have BK324 := n1_; have GW324 := n2_; have GE324 := n3_; clear n0_ n1_ n2_ n3_; clear hb hbox hg) | ((with_reducible refine gate_callee (f := 24) rfl ?_); refine goesL_ (some 15) rfl rfl Try.func24 (by kernel_rfl) rfl #[] rfl (by (try simp only [List.map_toArray, List.map_cons, List.map_nil]); first | done | rfl | (simp only [List.length_drop, List.length_take]; rfl)) ?_; (with_reducible refine (bureaulaw03_alive.calls k  true _ A4.out).mono ?_); rintro e w8 ⟨rfl, hb⟩; refine ⟨_, rfl, ?_⟩; have n0_ := Aside0.mk (blk_below (g := gb324) (o := .cells #[.int .i64 a1_0, .int .i64 a1_1] 41 (0, 0)) (by (with_reducible repeat (first | refine blk_drewN ?_ _ | refine blk_drew ?_ | refine blk_alloc ?_ _)); exact BK324.out) hb); have n1_ := Aside0.mk (below_step (by repeat (first | (with_reducible first | exact HB.out | apply below_alloc | apply pw_below_drewN | apply below_drew1 | refine below_set ?_ GE324.out) | exact HB.out)) hb); clear BK324; clear HB; have BK324 := n0_; have HB := n1_; clear n0_ n1_; (try clear hb); (try clear hb2); (try clear hk); (try clear hi)))
    (try simp only [Act.put, List.setIfInBounds_toArray, List.set_cons_zero, List.set_cons_succ])
    go_cut [24] (fun v24 wc => ∃ (kq : Nat) (x24_5 : Bool), v24 = .bool x24_5 ∧ Aside0 (bureaulaw03_RunsUndone.j0 kq l0 l2 x24_5 a1_0 a1_1 = some r) ∧ Aside0 (kq ≤ k) ∧ Aside0 (wc.heap[gb324]? = some (.cells #[.int .i64 a1_0, .int .i64 a1_1] 41 (0, 0))) ∧ Aside0 (Below w.heap.size w wc))
    case first =>
      have H := HC6.out
      clear HC6
      by_cases c9 : (l0.length : Int) > 5000
      · rw [if_pos c9] at H
        have c9b0 : decide (5000 < (l0.length : Int)) = true := decide_eq_true c9
        have c9b1 : decide (5000 < l0.length) = true := decide_eq_true (by omega)
        clear c9
        (first | rw [c9b0] | (simp only [i64_w, i32_w]; rw [c9b0]) | skip)
        have H' := Aside0.mk H
        clear H
        go_wp2
        go_meet
        case rel => exact ⟨_, (true), (by first | rfl | (simp; done) | (simp [*]; done)), H', ⟨by first | omega | exact Nat.le_refl _⟩, ⟨by (with_reducible repeat (first | refine blk_drewN ?_ _ | refine blk_drew ?_ | refine blk_alloc ?_ _)); exact BK324.out⟩, ⟨by repeat (first | (with_reducible first | exact HB.out | apply below_alloc | apply pw_below_drewN | apply below_drew1 | refine below_set ?_ GE324.out) | exact HB.out)⟩⟩
      · rw [if_neg c9] at H
        have c9b0 : decide (5000 < (l0.length : Int)) = false := decide_eq_false c9
        have c9b1 : decide (5000 < l0.length) = false := decide_eq_false (by omega)
        clear c9
        (first | rw [c9b0] | (simp only [i64_w, i32_w]; rw [c9b0]) | skip)
        have H' := Aside0.mk H
        clear H
        go_wp2
        go_meet
        case rel => exact ⟨_, (decide ((l2.length : Int) > 5000)), (by first | rfl | (simp; done) | (simp [*]; done)), H', ⟨by first | omega | exact Nat.le_refl _⟩, ⟨by (with_reducible repeat (first | refine blk_drewN ?_ _ | refine blk_drew ?_ | refine blk_alloc ?_ _)); exact BK324.out⟩, ⟨by repeat (first | (with_reducible first | exact HB.out | apply below_alloc | apply pw_below_drewN | apply below_drew1 | refine below_set ?_ GE324.out) | exact HB.out)⟩⟩
    case rest =>
      clear HC6
      try clear c2
      try clear p2
      try clear c5
      try clear c9
      try clear c9b0
      try clear c9b1
      obtain ⟨kq, x24_5, rfl, HA, HJ5, BK324, HB⟩ := hcut
      cases kq with
      | zero => exact absurd HA.out (by simp [bureaulaw03_RunsUndone.j0])
      | succ kj5 =>
        have H := HA.out
        clear HA
        simp only [bureaulaw03_RunsUndone.j0] at H
        by_cases c10 : x24_5 = true
        · subst c10
          have H1 : (some true) = some r := by rw [if_pos rfl] at H; exact H
          clear H
          have H := H1
          clear H1
          obtain rfl := Option.some.inj H
          go_wp2
          go_ret
          exact ⟨by first | rfl | (simp [errW_none, errW_some] <;> rfl) | (simp [*, errW_none, errW_some] <;> rfl), by repeat (first | (with_reducible first | exact HB.out | apply below_alloc | apply pw_below_drewN | apply below_drew1 | refine below_set ?_ GE324.out) | exact HB.out)⟩
        · replace c10 := Bool.eq_false_iff.mpr c10
          subst c10
          have H1 : ((runs_Slice.f kj5 l0 a1_0 a1_1).bind fun bt326 => ((runs_Splice.f kj5 l0 a1_0 a1_1 l2).bind fun bt330 => (if bt326.2 = 0 then (bureaulaw03_RunsUndone.j1 kj5 l0 l2 bt326.1 bt330.1 (bt330.2 != 0) a1_0 a1_1) else (bureaulaw03_RunsUndone.j1 kj5 l0 l2 bt326.1 bt330.1 true a1_0 a1_1)))) = some r := by rw [if_neg (show ¬ (false = true) by decide)] at H; exact H
          clear H
          have H := H1
          clear H1
          replace H := Option.bind_eq_some_iff.mp H
          obtain ⟨⟨t326, t327⟩, A110, H⟩ := H
          replace H : ((runs_Splice.f kj5 l0 a1_0 a1_1 l2).bind fun bt330 => (if t327 = 0 then (bureaulaw03_RunsUndone.j1 kj5 l0 l2 t326 bt330.1 (bt330.2 != 0) a1_0 a1_1) else (bureaulaw03_RunsUndone.j1 kj5 l0 l2 t326 bt330.1 true a1_0 a1_1))) = some r := H
          have A11 := Aside0.mk A110
          clear A110
          replace H := Option.bind_eq_some_iff.mp H
          obtain ⟨⟨t330, t331⟩, A120, H⟩ := H
          replace H : (if t327 = 0 then (bureaulaw03_RunsUndone.j1 kj5 l0 l2 t326 t330 (t331 != 0) a1_0 a1_1) else (bureaulaw03_RunsUndone.j1 kj5 l0 l2 t326 t330 true a1_0 a1_1)) = some r := H
          have A12 := Aside0.mk A120
          clear A120
          have HC13 := Aside0.mk H
          clear H
          have hcz14_0 : wc.cell? ⟨gb324, 0, none⟩ = some (.int .i64 a1_0) := (blk_cell BK324.out 0).trans rfl
          have hcz14_1 : wc.cell? ⟨gb324, 1, none⟩ = some (.int .i64 a1_1) := (blk_cell BK324.out 1).trans rfl
          have hfz14_0 := blk_frozen BK324.out 0
          have hfz14_1 := blk_frozen BK324.out 1
          go_upto_region 7 with (first | ((with_reducible refine gate_callee (f := 32) rfl ?_); refine goesL_ (some 31) rfl rfl Try.func32 (by kernel_rfl) rfl #[.slice A0 l0.length c0, .int .i64 a1_0, .int .i64 a1_1] rfl (by (try simp only [List.map_toArray, List.map_cons, List.map_nil]); first | done | rfl | (simp only [List.length_drop, List.length_take]; rfl)) ?_; (with_reducible refine (runs_Slice.calls kj5 _ _ l0 a1_0 a1_1 t326 t327 _ ?side1 ?side2 A11.out).mono ?_); (case side1 => repeat (first | exact (Kd.C_below HR0.out HB.out) | (with_reducible refine Kd.C_alloc ?_ _) | (with_reducible refine Kd.C_drewN ?_ _) | (with_reducible refine Kd.C_drew ?_))); (case side2 => exact HC0.out); rintro e w15 ⟨v328, rfl, ho0, hb⟩; refine ⟨_, rfl, ?_⟩; have n0_ := Aside0.mk (Kd.R_lower ho0 (below_size (by repeat (first | (with_reducible first | exact HB.out | apply below_alloc | apply pw_below_drewN | apply below_drew1 | refine below_set ?_ GE324.out) | exact HB.out)))); have n1_ := Aside0.mk (blk_below (g := gb324) (o := .cells #[.int .i64 a1_0, .int .i64 a1_1] 41 (0, 0)) (by (with_reducible repeat (first | refine blk_drewN ?_ _ | refine blk_drew ?_ | refine blk_alloc ?_ _)); exact BK324.out) hb); have n2_ := Aside0.mk (below_step (by repeat (first | (with_reducible first | exact HB.out | apply below_alloc | apply pw_below_drewN | apply below_drew1 | refine below_set ?_ GE324.out) | exact HB.out)) hb); clear BK324; clear HB; have HO329 := n0_; have BK324 := n1_; have HB := n2_; clear n0_ n1_ n2_; (try clear hb); (try clear hb2); (try clear hk); (try clear hi); (try clear ho0); have hcz16_0 : w15.cell? ⟨gb324, 0, none⟩ = some (.int .i64 a1_0) := (blk_cell BK324.out 0).trans rfl; have hcz16_1 : w15.cell? ⟨gb324, 1, none⟩ = some (.int .i64 a1_1) := (blk_cell BK324.out 1).trans rfl; have hfz16_0 := blk_frozen BK324.out 0; have hfz16_1 := blk_frozen BK324.out 1) | ((with_reducible refine gate_callee (f := 40) rfl ?_); refine goesL_ (some 41) rfl rfl Try.func40 (by kernel_rfl) rfl #[.slice A0 l0.length c0, .int .i64 a1_0, .int .i64 a1_1, .slice A2 l2.length c2] rfl (by (try simp only [List.map_toArray, List.map_cons, List.map_nil]); first | done | rfl | (simp only [List.length_drop, List.length_take]; rfl)) ?_; (with_reducible refine (runs_Splice.calls kj5 _ _ l0 a1_0 a1_1 _ _ l2 t330 t331 _ ?side1 ?side2 ?side3 ?side4 A12.out).mono ?_); (case side1 => repeat (first | exact (Kd.C_below HR0.out HB.out) | (with_reducible refine Kd.C_alloc ?_ _) | (with_reducible refine Kd.C_drewN ?_ _) | (with_reducible refine Kd.C_drew ?_))); (case side2 => exact HC0.out); (case side3 => repeat (first | exact (Kd.C_below HR2.out HB.out) | (with_reducible refine Kd.C_alloc ?_ _) | (with_reducible refine Kd.C_drewN ?_ _) | (with_reducible refine Kd.C_drew ?_))); (case side4 => exact HC2.out); rintro e w17 ⟨v332, rfl, ho0, hb⟩; refine ⟨_, rfl, ?_⟩; have n0_ := Aside0.mk (Kd.R_elder' (by (with_reducible repeat (first | apply Kd.R_alloc | apply Kd.R_drewN | apply Kd.R_drew)); exact HO329.out) (Kd.R_base ho0) hb); have n1_ := Aside0.mk (Kd.R_lower (Kd.R_new' ho0 (Kd.R_lt (by (with_reducible repeat (first | apply Kd.R_alloc | apply Kd.R_drewN | apply Kd.R_drew)); exact HO329.out))) (below_size (by repeat (first | (with_reducible first | exact HB.out | apply below_alloc | apply pw_below_drewN | apply below_drew1 | refine below_set ?_ GE324.out) | exact HB.out)))); have n2_ := Aside0.mk (blk_below (g := gb324) (o := .cells #[.int .i64 a1_0, .int .i64 a1_1] 41 (0, 0)) (by (with_reducible repeat (first | refine blk_drewN ?_ _ | refine blk_drew ?_ | refine blk_alloc ?_ _)); exact BK324.out) hb); have n3_ := Aside0.mk (below_step (by repeat (first | (with_reducible first | exact HB.out | apply below_alloc | apply pw_below_drewN | apply below_drew1 | refine below_set ?_ GE324.out) | exact HB.out)) hb); clear HO329; clear BK324; clear HB; have HO329 := n0_; have HO333 := n1_; have BK324 := n2_; have HB := n3_; clear n0_ n1_ n2_ n3_; (try clear hb); (try clear hb2); (try clear hk); (try clear hi); (try clear ho0)))
          (try simp only [Act.put, List.setIfInBounds_toArray, List.set_cons_zero, List.set_cons_succ])
          go_cut [49] (fun v49 wc => ∃ (kq : Nat) (x49_12 : Bool), v49 = .bool x49_12 ∧ Aside0 (bureaulaw03_RunsUndone.j1 kq l0 l2 t326 t330 x49_12 a1_0 a1_1 = some r) ∧ Aside0 (kq ≤ kj5) ∧ Aside0 (Kd.R k100 100 wc w.heap.size (fun k_ => some k_ ≠ (v332 : Value).ownBlock) v328 t326) ∧ Aside0 (Kd.R k100 100 wc w.heap.size (fun k_ => some k_ ≠ (v328 : Value).ownBlock) v332 t330) ∧ Aside0 (wc.heap[gb324]? = some (.cells #[.int .i64 a1_0, .int .i64 a1_1] 41 (0, 0))) ∧ Aside0 (Below w.heap.size w wc))
          case first =>
            have H := HC13.out
            clear HC13
            by_cases c18 : t327 = 0
            · rw [if_pos c18] at H
              have c18b0 : (t327 == 0) = true := beq_iff_eq.mpr c18
              have c18b1 : (t327 != 0) = false := bne_eq_false_iff_eq.mpr c18
              clear c18
              (first | rw [c18b0] | (simp only [i64_w, i32_w]; rw [c18b0]) | skip)
              have H' := Aside0.mk H
              clear H
              go_wp2
              go_meet
              case rel => exact ⟨_, ((t331 != 0)), (by first | rfl | (simp; done) | (simp [*]; done)), H', ⟨by have := HJ5.out; first | omega | exact Nat.le_refl _⟩, ⟨by (with_reducible repeat (first | apply Kd.R_alloc | apply Kd.R_drewN | apply Kd.R_drew)); exact Kd.R_mono HO329.out (fun _ hk => hk.2)⟩, ⟨by (with_reducible repeat (first | apply Kd.R_alloc | apply Kd.R_drewN | apply Kd.R_drew)); exact Kd.R_mono HO333.out (fun _ hk => hk.2)⟩, ⟨by (with_reducible repeat (first | refine blk_drewN ?_ _ | refine blk_drew ?_ | refine blk_alloc ?_ _)); exact BK324.out⟩, ⟨by repeat (first | (with_reducible first | exact HB.out | apply below_alloc | apply pw_below_drewN | apply below_drew1 | refine below_set ?_ GE324.out) | exact HB.out)⟩⟩
            · rw [if_neg c18] at H
              have c18b0 : (t327 == 0) = false := beq_eq_false_iff_ne.mpr c18
              have c18b1 : (t327 != 0) = true := bne_iff_ne.mpr c18
              (first | rw [c18b0] | (simp only [i64_w, i32_w]; rw [c18b0]) | skip)
              have H' := Aside0.mk H
              clear H
              go_wp2
              go_meet
              case rel => exact ⟨_, (true), (by first | rfl | (simp; done) | (simp [*]; done)), H', ⟨by have := HJ5.out; first | omega | exact Nat.le_refl _⟩, ⟨by (with_reducible repeat (first | apply Kd.R_alloc | apply Kd.R_drewN | apply Kd.R_drew)); exact Kd.R_mono HO329.out (fun _ hk => hk.2)⟩, ⟨by (with_reducible repeat (first | apply Kd.R_alloc | apply Kd.R_drewN | apply Kd.R_drew)); exact Kd.R_mono HO333.out (fun _ hk => hk.2)⟩, ⟨by (with_reducible repeat (first | refine blk_drewN ?_ _ | refine blk_drew ?_ | refine blk_alloc ?_ _)); exact BK324.out⟩, ⟨by repeat (first | (with_reducible first | exact HB.out | apply below_alloc | apply pw_below_drewN | apply below_drew1 | refine below_set ?_ GE324.out) | exact HB.out)⟩⟩
          case rest =>
            clear HC13
            try clear c1
            try clear c2
            try clear p2
            try clear c3
            try clear c4
            try clear c5
            try clear c9
            try clear c9b0
            try clear c9b1
            try clear c10
            try clear c18
            try clear c18b0
            try clear c18b1
            try clear hcz14_0
            try clear hcz14_1
            try clear hcz16_0
            try clear hcz16_1
            try clear hfz14_0
            try clear hfz14_1
            try clear hfz16_0
            try clear hfz16_1
            try clear p2
            obtain ⟨kq, x49_12, rfl, HA, HJ12, HO_7, HO_9, BK324, HB⟩ := hcut
            cases kq with
            | zero => exact absurd HA.out (by simp [bureaulaw03_RunsUndone.j1])
            | succ kj12 =>
              have H := HA.out
              clear HA
              simp only [bureaulaw03_RunsUndone.j1] at H
              by_cases c19 : x49_12 = true
              · subst c19
                have H1 : (some true) = some r := by rw [if_pos rfl] at H; exact H
                clear H
                have H := H1
                clear H1
                obtain rfl := Option.some.inj H
                go_wp2
                go_ret
                exact ⟨by first | rfl | (simp [errW_none, errW_some] <;> rfl) | (simp [*, errW_none, errW_some] <;> rfl), by repeat (first | (with_reducible first | exact HB.out | apply below_alloc | apply pw_below_drewN | apply below_drew1 | refine below_set ?_ GE324.out) | exact HB.out)⟩
              · replace c19 := Bool.eq_false_iff.mpr c19
                subst c19
                have H1 : ((runs_Total.f kj12 l2).bind fun t334 => ((runs_Slice.f kj12 t330 a1_0 (wrap64 (a1_0 + t334))).bind fun bt335 => ((runs_Total.f kj12 l2).bind fun t339 => ((runs_Splice.f kj12 t330 a1_0 (wrap64 (a1_0 + t339)) t326).bind fun bt340 => (if bt335.2 = 0 then ((bureauref03_Same.f kj12 bt335.1 l2).bind fun t344 => (if t344 = true then (if bt340.2 = 0 then ((bureauref03_Same.f kj12 bt340.1 l0).bind fun t345 => (some t345)) else (some false)) else (some false))) else (some false)))))) = some r := by rw [if_neg (show ¬ (false = true) by decide)] at H; exact H
                clear H
                have H := H1
                clear H1
                replace H := Option.bind_eq_some_iff.mp H
                obtain ⟨t334, A200, H⟩ := H
                replace H : ((runs_Slice.f kj12 t330 a1_0 (wrap64 (a1_0 + t334))).bind fun bt335 => ((runs_Total.f kj12 l2).bind fun t339 => ((runs_Splice.f kj12 t330 a1_0 (wrap64 (a1_0 + t339)) t326).bind fun bt340 => (if bt335.2 = 0 then ((bureauref03_Same.f kj12 bt335.1 l2).bind fun t344 => (if t344 = true then (if bt340.2 = 0 then ((bureauref03_Same.f kj12 bt340.1 l0).bind fun t345 => (some t345)) else (some false)) else (some false))) else (some false))))) = some r := H
                have A20 := Aside0.mk A200
                clear A200
                replace H := Option.bind_eq_some_iff.mp H
                obtain ⟨⟨t335, t336⟩, A210, H⟩ := H
                replace H : ((runs_Total.f kj12 l2).bind fun t339 => ((runs_Splice.f kj12 t330 a1_0 (wrap64 (a1_0 + t339)) t326).bind fun bt340 => (if t336 = 0 then ((bureauref03_Same.f kj12 t335 l2).bind fun t344 => (if t344 = true then (if bt340.2 = 0 then ((bureauref03_Same.f kj12 bt340.1 l0).bind fun t345 => (some t345)) else (some false)) else (some false))) else (some false)))) = some r := H
                have A21 := Aside0.mk A210
                clear A210
                replace H := Option.bind_eq_some_iff.mp H
                obtain ⟨t339, A220, H⟩ := H
                replace H : ((runs_Splice.f kj12 t330 a1_0 (wrap64 (a1_0 + t339)) t326).bind fun bt340 => (if t336 = 0 then ((bureauref03_Same.f kj12 t335 l2).bind fun t344 => (if t344 = true then (if bt340.2 = 0 then ((bureauref03_Same.f kj12 bt340.1 l0).bind fun t345 => (some t345)) else (some false)) else (some false))) else (some false))) = some r := H
                have A22 := Aside0.mk A220
                clear A220
                replace H := Option.bind_eq_some_iff.mp H
                obtain ⟨⟨t340, t341⟩, A230, H⟩ := H
                replace H : (if t336 = 0 then ((bureauref03_Same.f kj12 t335 l2).bind fun t344 => (if t344 = true then (if t341 = 0 then ((bureauref03_Same.f kj12 t340 l0).bind fun t345 => (some t345)) else (some false)) else (some false))) else (some false)) = some r := H
                have A23 := Aside0.mk A230
                clear A230
                by_cases c24 : t336 = 0
                · rw [if_pos c24] at H
                  have c24b0 : (t336 == 0) = true := beq_iff_eq.mpr c24
                  have c24b1 : (t336 != 0) = false := bne_eq_false_iff_eq.mpr c24
                  clear c24
                  replace H := Option.bind_eq_some_iff.mp H
                  obtain ⟨t344, A250, H⟩ := H
                  replace H : (if t344 = true then (if t341 = 0 then ((bureauref03_Same.f kj12 t340 l0).bind fun t345 => (some t345)) else (some false)) else (some false)) = some r := H
                  have A25 := Aside0.mk A250
                  clear A250
                  by_cases c26 : t344 = true
                  · subst c26
                    have H1 : (if t341 = 0 then ((bureauref03_Same.f kj12 t340 l0).bind fun t345 => (some t345)) else (some false)) = some r := by rw [if_pos rfl] at H; exact H
                    clear H
                    have H := H1
                    clear H1
                    by_cases c27 : t341 = 0
                    · rw [if_pos c27] at H
                      have c27b0 : (t341 == 0) = true := beq_iff_eq.mpr c27
                      have c27b1 : (t341 != 0) = false := bne_eq_false_iff_eq.mpr c27
                      clear c27
                      replace H := Option.bind_eq_some_iff.mp H
                      obtain ⟨t345, A280, H⟩ := H
                      replace H : (some t345) = some r := H
                      have A28 := Aside0.mk A280
                      clear A280
                      obtain rfl := Option.some.inj H
                      try go_wp2
                      have n0_ := Aside0.mk (Kd.R_drew HO_7.out)
                      have n1_ := Aside0.mk (Kd.R_drew HO_9.out)
                      have n2_ := Aside0.mk (blk_drew BK324.out)
                      have n3_ := Aside0.mk (below_drew1 HB.out)
                      clear HO_7
                      clear HO_9
                      clear BK324
                      clear HB
                      have HO_7 := n0_
                      have HO_9 := n1_
                      have BK324 := n2_
                      have HB := n3_
                      clear n0_ n1_ n2_ n3_
                      refine start_ (n := 14) (S := fun w' => w'.cell? ⟨gb324, 0, none⟩ = some (.int .i64 a1_0) ∧ w'.cell? ⟨gb324, 1, none⟩ = some (.int .i64 a1_1)) (ds := []) #[false, false, false, false, false, false, false, false, false, false, false, false, false, false] (by kernel_rfl) rfl rfl ⟨(blk_cell BK324.out 0).trans rfl, (blk_cell BK324.out 1).trans rfl⟩ (fun hHeld => ?_); refine with_tabW bureaulaw03_RunsUndone.tab9 bureaulaw03_RunsUndone.bits9 (fun HT_ HW_ => ?_)
                      generalize wc.drew = w29 at HO_7 HO_9 BK324 HB hHeld ⊢
                      refine pure_ (i := 0) (N := some 51) (v := ?_) (a' := ?_) #[true, false, false, false, false, false, false, false, false, false, false, false, false, false] rfl rfl (any_of HT_.out (by kernel_rfl)) (fun _ _ _ h => h) (Or.inl ⟨by rfl, ?_⟩) ?_ ?_
                      rotate_left
                      · intro w'
                        go_simp
                        with_reducible rfl
                      rotate_left
                      · simp only [Act.put, List.setIfInBounds_toArray, List.set_cons_zero, List.set_cons_succ, i64_w, i32_w]
                        rfl
                      refine pure_ (i := 1) (N := some 52) (v := ?_) (a' := ?_) #[true, true, false, false, false, false, false, false, false, false, false, false, false, false] rfl rfl (any_of HT_.out (by kernel_rfl)) (fun _ _ _ h => h) (Or.inl ⟨by rfl, ?_⟩) ?_ ?_
                      rotate_left
                      · intro w'
                        go_simp
                        with_reducible rfl
                      rotate_left
                      · simp only [Act.put, List.setIfInBounds_toArray, List.set_cons_zero, List.set_cons_succ, i64_w, i32_w]
                        rfl
                      refine pure_ (i := 3) (N := some 54) (v := ?_) (a' := ?_) #[true, true, false, true, false, false, false, false, false, false, false, false, false, false] rfl rfl (any_of HT_.out (by kernel_rfl)) (fun _ _ _ h => h) (Or.inl ⟨by rfl, ?_⟩) ?_ ?_
                      rotate_left
                      · intro w'
                        go_simp
                        with_reducible rfl
                      rotate_left
                      · simp only [Act.put, List.setIfInBounds_toArray, List.set_cons_zero, List.set_cons_succ, i64_w, i32_w]
                        rfl
                      refine pure_ (i := 5) (N := some 56) (v := ?_) (a' := ?_) #[true, true, false, true, false, true, false, false, false, false, false, false, false, false] rfl rfl (any_of HT_.out (by kernel_rfl)) (fun _ _ _ h => h) (Or.inl ⟨by rfl, ?_⟩) ?_ ?_
                      rotate_left
                      · intro w'
                        go_simp
                        with_reducible rfl
                      rotate_left
                      · simp only [Act.put, List.setIfInBounds_toArray, List.set_cons_zero, List.set_cons_succ, i64_w, i32_w]
                        rfl
                      refine take_ (i := 2) (N := some 53) (v := ?_) (a' := ?_) #[true, true, true, true, false, true, false, false, false, false, false, false, false, false] rfl rfl (take_ofW HT_.out HW_.out (by kernel_rfl)) (fun _ _ _ h => h) (Or.inl ⟨by rfl, ?_⟩) hHeld ?_ ?_
                      rotate_left
                      · rintro w' ⟨s0, s1⟩
                        go_simp
                        with_reducible rfl
                      rotate_left
                      · simp only [Act.put, List.setIfInBounds_toArray, List.set_cons_zero, List.set_cons_succ, i64_w, i32_w]
                        rfl
                      refine take_ (i := 4) (N := some 55) (v := ?_) (a' := ?_) #[true, true, true, true, true, true, false, false, false, false, false, false, false, false] rfl rfl (take_ofW HT_.out HW_.out (by kernel_rfl)) (fun _ _ _ h => h) (Or.inl ⟨by rfl, ?_⟩) hHeld ?_ ?_
                      rotate_left
                      · rintro w' ⟨s0, s1⟩
                        go_simp
                        with_reducible rfl
                      rotate_left
                      · simp only [Act.put, List.setIfInBounds_toArray, List.set_cons_zero, List.set_cons_succ, i64_w, i32_w]
                        rfl
                      refine one_ (i := 6) (N := some 57) #[true, true, true, true, true, true, true, false, false, false, false, false, false, false] rfl rfl (one_of HT_.out (by kernel_rfl)) (by decide) (fun K hK => ?_)
                      refine goes_ Try.func30 (by kernel_rfl) rfl #[.slice A2 l2.length c2] (by rfl) rfl rfl (by (try simp only [List.map_toArray, List.map_cons, List.map_nil]); first | done | rfl | (simp only [List.length_drop, List.length_take]; rfl)) ?_
                      with_reducible refine (runs_Total.calls kj12 _ _ l2 t334 _ ?side1 ?side2 A20.out).mono ?_
                      (case side1 => repeat (first | exact (Kd.C_below HR2.out HB.out) | (with_reducible refine Kd.C_alloc ?_ _) | (with_reducible refine Kd.C_drewN ?_ _) | (with_reducible refine Kd.C_drew ?_)))
                      (case side2 => exact HC2.out)
                      rintro e w30 ⟨rfl, hb⟩
                      refine ⟨_, rfl, ?_⟩
                      have n0_ := Aside0.mk (Kd.R_below (by (with_reducible repeat (first | apply Kd.R_alloc | apply Kd.R_drewN | apply Kd.R_drew)); exact HO_7.out) hb)
                      have n1_ := Aside0.mk (Kd.R_below (by (with_reducible repeat (first | apply Kd.R_alloc | apply Kd.R_drewN | apply Kd.R_drew)); exact HO_9.out) hb)
                      have n2_ := Aside0.mk (blk_below (g := gb324) (o := .cells #[.int .i64 a1_0, .int .i64 a1_1] 41 (0, 0)) (by (with_reducible repeat (first | refine blk_drewN ?_ _ | refine blk_drew ?_ | refine blk_alloc ?_ _)); exact BK324.out) hb)
                      have n3_ := Aside0.mk (below_step (by repeat (first | (with_reducible first | exact HB.out | apply below_alloc | apply pw_below_drewN | apply below_drew1 | refine below_set ?_ GE324.out) | exact HB.out)) hb)
                      clear HO_7
                      clear HO_9
                      clear BK324
                      clear HB
                      have HO_7 := n0_
                      have HO_9 := n1_
                      have BK324 := n2_
                      have HB := n3_
                      clear n0_ n1_ n2_ n3_
                      (try clear hb)
                      (try clear hb2)
                      (try clear hk)
                      (try clear hi)
                      obtain ⟨Ao31, co31, eo31⟩ := Kd.R_slice HO_9.out
                      (first | subst eo31 | (injection eo31 with f1_ f2_ f3_; have f4_ := f1_.symm; have f5_ := f3_.symm; clear f1_ f2_ f3_; subst f4_; subst f5_))
                      refine hK.out _ _ ⟨(blk_cell BK324.out 0).trans rfl, (blk_cell BK324.out 1).trans rfl⟩ (fun hHeld => ?_)
                      clear hK K
                      refine norm_ (a' := ?_) ?_ ?_
                      rotate_left
                      · show Act.put _ (some 57) _ = _
                        simp only [Act.put, List.setIfInBounds_toArray, List.set_cons_zero, List.set_cons_succ, i64_w, i32_w]
                        rfl
                      refine pure_ (i := 7) (N := some 58) (v := ?_) (a' := ?_) #[true, true, true, true, true, true, true, true, false, false, false, false, false, false] rfl rfl (any_of HT_.out (by kernel_rfl)) (fun _ _ _ h => h) (Or.inl ⟨by rfl, ?_⟩) ?_ ?_
                      rotate_left
                      · intro w'
                        go_simp
                        with_reducible rfl
                      rotate_left
                      · simp only [Act.put, List.setIfInBounds_toArray, List.set_cons_zero, List.set_cons_succ, i64_w, i32_w]
                        rfl
                      refine one_ (i := 8) (N := some 59) #[true, true, true, true, true, true, true, true, true, false, false, false, false, false] rfl rfl (one_of HT_.out (by kernel_rfl)) (by decide) (fun K hK => ?_)
                      refine goes_ Try.func32 (by kernel_rfl) rfl #[.slice Ao31 t330.length co31, .int .i64 a1_0, .int .i64 (wrap64 (a1_0 + t334))] (by rfl) rfl rfl (by (try simp only [List.map_toArray, List.map_cons, List.map_nil]); first | done | rfl | (simp only [List.length_drop, List.length_take]; rfl)) ?_
                      with_reducible refine (runs_Slice.calls kj12 _ _ t330 a1_0 (wrap64 (a1_0 + t334)) t335 t336 _ ?side1 ?side2 A21.out).mono ?_
                      (case side1 => repeat (first | exact (Kd.R_reads' HO_9.out).2.2 | (with_reducible refine Kd.C_alloc ?_ _) | (with_reducible refine Kd.C_drewN ?_ _) | (with_reducible refine Kd.C_drew ?_)))
                      (case side2 => exact (Kd.R_reads' HO_9.out).2.1)
                      rintro e w32 ⟨v337, rfl, ho0, hb⟩
                      refine ⟨_, rfl, ?_⟩
                      have n0_ := Aside0.mk (Kd.R_elder' (by (with_reducible repeat (first | apply Kd.R_alloc | apply Kd.R_drewN | apply Kd.R_drew)); exact HO_7.out) (Kd.R_base ho0) hb)
                      have n1_ := Aside0.mk (Kd.R_elder' (by (with_reducible repeat (first | apply Kd.R_alloc | apply Kd.R_drewN | apply Kd.R_drew)); exact HO_9.out) (Kd.R_base ho0) hb)
                      have n2_ := Aside0.mk (Kd.R_lower (Kd.R_new' (Kd.R_new' ho0 (Kd.R_lt (by (with_reducible repeat (first | apply Kd.R_alloc | apply Kd.R_drewN | apply Kd.R_drew)); exact HO_7.out))) (Kd.R_lt (by (with_reducible repeat (first | apply Kd.R_alloc | apply Kd.R_drewN | apply Kd.R_drew)); exact HO_9.out))) (below_size (by repeat (first | (with_reducible first | exact HB.out | apply below_alloc | apply pw_below_drewN | apply below_drew1 | refine below_set ?_ GE324.out) | exact HB.out))))
                      have n3_ := Aside0.mk (blk_below (g := gb324) (o := .cells #[.int .i64 a1_0, .int .i64 a1_1] 41 (0, 0)) (by (with_reducible repeat (first | refine blk_drewN ?_ _ | refine blk_drew ?_ | refine blk_alloc ?_ _)); exact BK324.out) hb)
                      have n4_ := Aside0.mk (below_step (by repeat (first | (with_reducible first | exact HB.out | apply below_alloc | apply pw_below_drewN | apply below_drew1 | refine below_set ?_ GE324.out) | exact HB.out)) hb)
                      clear HO_7
                      clear HO_9
                      clear BK324
                      clear HB
                      have HO_7 := n0_
                      have HO_9 := n1_
                      have HO338 := n2_
                      have BK324 := n3_
                      have HB := n4_
                      clear n0_ n1_ n2_ n3_ n4_
                      (try clear hb)
                      (try clear hb2)
                      (try clear hk)
                      (try clear hi)
                      (try clear ho0)
                      refine hK.out _ _ ⟨(blk_cell BK324.out 0).trans rfl, (blk_cell BK324.out 1).trans rfl⟩ (fun hHeld => ?_)
                      clear hK K
                      refine norm_ (a' := ?_) ?_ ?_
                      rotate_left
                      · show Act.put _ (some 59) _ = _
                        simp only [Act.put, List.setIfInBounds_toArray, List.set_cons_zero, List.set_cons_succ, i64_w, i32_w]
                        rfl
                      refine pure_ (i := 9) (N := some 50) (v := ?_) (a' := ?_) #[true, true, true, true, true, true, true, true, true, true, false, false, false, false] rfl rfl (any_of HT_.out (by kernel_rfl)) (fun _ _ _ h => h) (Or.inl ⟨by rfl, ?_⟩) ?_ ?_
                      rotate_left
                      · intro w'
                        go_simp
                        with_reducible rfl
                      rotate_left
                      · simp only [Act.put, List.setIfInBounds_toArray, List.set_cons_zero, List.set_cons_succ, i64_w, i32_w]
                        rfl
                      refine pure_ (i := 10) (N := some 60) (v := ?_) (a' := ?_) #[true, true, true, true, true, true, true, true, true, true, true, false, false, false] rfl rfl (any_of HT_.out (by kernel_rfl)) (fun _ _ _ h => h) (Or.inl ⟨by rfl, ?_⟩) ?_ ?_
                      rotate_left
                      · intro w'
                        go_simp
                        with_reducible rfl
                      rotate_left
                      · simp only [Act.put, List.setIfInBounds_toArray, List.set_cons_zero, List.set_cons_succ, i64_w, i32_w]
                        rfl
                      refine pure_ (i := 11) (N := some 61) (v := ?_) (a' := ?_) #[true, true, true, true, true, true, true, true, true, true, true, true, false, false] rfl rfl (any_of HT_.out (by kernel_rfl)) (fun _ _ _ h => h) (Or.inl ⟨by rfl, ?_⟩) ?_ ?_
                      rotate_left
                      · intro w'
                        go_simp
                        with_reducible rfl
                      rotate_left
                      · simp only [Act.put, List.setIfInBounds_toArray, List.set_cons_zero, List.set_cons_succ, i64_w, i32_w]
                        rfl
                      refine pure_ (i := 12) (N := some 11) (v := ?_) (a' := ?_) #[true, true, true, true, true, true, true, true, true, true, true, true, true, false] rfl rfl (any_of HT_.out (by kernel_rfl)) (fun _ _ _ h => h) (Or.inl ⟨by rfl, ?_⟩) ?_ ?_
                      rotate_left
                      · intro w'
                        go_simp
                        with_reducible rfl
                      rotate_left
                      · simp only [Act.put, List.setIfInBounds_toArray, List.set_cons_zero, List.set_cons_succ, i64_w, i32_w]
                        rfl
                      refine pure_ (i := 13) (N := some 12) (v := ?_) (a' := ?_) #[true, true, true, true, true, true, true, true, true, true, true, true, true, true] rfl rfl (any_of HT_.out (by kernel_rfl)) (fun _ _ _ h => h) (Or.inl ⟨by rfl, ?_⟩) ?_ ?_
                      rotate_left
                      · intro w'
                        go_simp
                        with_reducible rfl
                      rotate_left
                      · simp only [Act.put, List.setIfInBounds_toArray, List.set_cons_zero, List.set_cons_succ, i64_w, i32_w]
                        rfl
                      refine done_ (done_of HT_.out (by kernel_rfl)) ?_
                      try go_wp2
                      have n0_ := Aside0.mk (Kd.R_drew HO_7.out)
                      have n1_ := Aside0.mk (Kd.R_drew HO_9.out)
                      have n2_ := Aside0.mk (Kd.R_drew HO338.out)
                      have n3_ := Aside0.mk (blk_drew BK324.out)
                      have n4_ := Aside0.mk (below_drew1 HB.out)
                      clear HO_7
                      clear HO_9
                      clear HO338
                      clear BK324
                      clear HB
                      have HO_7 := n0_
                      have HO_9 := n1_
                      have HO338 := n2_
                      have BK324 := n3_
                      have HB := n4_
                      clear n0_ n1_ n2_ n3_ n4_
                      refine start_ (n := 15) (S := fun w' => w'.cell? ⟨gb324, 0, none⟩ = some (.int .i64 a1_0) ∧ w'.cell? ⟨gb324, 1, none⟩ = some (.int .i64 a1_1)) (ds := []) #[false, false, false, false, false, false, false, false, false, false, false, false, false, false, false] (by kernel_rfl) rfl rfl ⟨(blk_cell BK324.out 0).trans rfl, (blk_cell BK324.out 1).trans rfl⟩ (fun hHeld => ?_); refine with_tabW bureaulaw03_RunsUndone.tab10 bureaulaw03_RunsUndone.bits10 (fun HT_ HW_ => ?_)
                      generalize w32.drew = w33 at HO_7 HO_9 HO338 BK324 HB hHeld ⊢
                      refine pure_ (i := 0) (N := some 63) (v := ?_) (a' := ?_) #[true, false, false, false, false, false, false, false, false, false, false, false, false, false, false] rfl rfl (any_of HT_.out (by kernel_rfl)) (fun _ _ _ h => h) (Or.inl ⟨by rfl, ?_⟩) ?_ ?_
                      rotate_left
                      · intro w'
                        go_simp
                        with_reducible rfl
                      rotate_left
                      · simp only [Act.put, List.setIfInBounds_toArray, List.set_cons_zero, List.set_cons_succ, i64_w, i32_w]
                        rfl
                      refine pure_ (i := 1) (N := some 64) (v := ?_) (a' := ?_) #[true, true, false, false, false, false, false, false, false, false, false, false, false, false, false] rfl rfl (any_of HT_.out (by kernel_rfl)) (fun _ _ _ h => h) (Or.inl ⟨by rfl, ?_⟩) ?_ ?_
                      rotate_left
                      · intro w'
                        go_simp
                        with_reducible rfl
                      rotate_left
                      · simp only [Act.put, List.setIfInBounds_toArray, List.set_cons_zero, List.set_cons_succ, i64_w, i32_w]
                        rfl
                      refine pure_ (i := 3) (N := some 66) (v := ?_) (a' := ?_) #[true, true, false, true, false, false, false, false, false, false, false, false, false, false, false] rfl rfl (any_of HT_.out (by kernel_rfl)) (fun _ _ _ h => h) (Or.inl ⟨by rfl, ?_⟩) ?_ ?_
                      rotate_left
                      · intro w'
                        go_simp
                        with_reducible rfl
                      rotate_left
                      · simp only [Act.put, List.setIfInBounds_toArray, List.set_cons_zero, List.set_cons_succ, i64_w, i32_w]
                        rfl
                      refine pure_ (i := 5) (N := some 68) (v := ?_) (a' := ?_) #[true, true, false, true, false, true, false, false, false, false, false, false, false, false, false] rfl rfl (any_of HT_.out (by kernel_rfl)) (fun _ _ _ h => h) (Or.inl ⟨by rfl, ?_⟩) ?_ ?_
                      rotate_left
                      · intro w'
                        go_simp
                        with_reducible rfl
                      rotate_left
                      · simp only [Act.put, List.setIfInBounds_toArray, List.set_cons_zero, List.set_cons_succ, i64_w, i32_w]
                        rfl
                      refine pure_ (i := 8) (N := some 71) (v := ?_) (a' := ?_) #[true, true, false, true, false, true, false, false, true, false, false, false, false, false, false] rfl rfl (any_of HT_.out (by kernel_rfl)) (fun _ _ _ h => h) (Or.inl ⟨by rfl, ?_⟩) ?_ ?_
                      rotate_left
                      · intro w'
                        go_simp
                        with_reducible rfl
                      rotate_left
                      · simp only [Act.put, List.setIfInBounds_toArray, List.set_cons_zero, List.set_cons_succ, i64_w, i32_w]
                        rfl
                      refine take_ (i := 2) (N := some 65) (v := ?_) (a' := ?_) #[true, true, true, true, false, true, false, false, true, false, false, false, false, false, false] rfl rfl (take_ofW HT_.out HW_.out (by kernel_rfl)) (fun _ _ _ h => h) (Or.inl ⟨by rfl, ?_⟩) hHeld ?_ ?_
                      rotate_left
                      · rintro w' ⟨s0, s1⟩
                        go_simp
                        with_reducible rfl
                      rotate_left
                      · simp only [Act.put, List.setIfInBounds_toArray, List.set_cons_zero, List.set_cons_succ, i64_w, i32_w]
                        rfl
                      refine take_ (i := 4) (N := some 67) (v := ?_) (a' := ?_) #[true, true, true, true, true, true, false, false, true, false, false, false, false, false, false] rfl rfl (take_ofW HT_.out HW_.out (by kernel_rfl)) (fun _ _ _ h => h) (Or.inl ⟨by rfl, ?_⟩) hHeld ?_ ?_
                      rotate_left
                      · rintro w' ⟨s0, s1⟩
                        go_simp
                        with_reducible rfl
                      rotate_left
                      · simp only [Act.put, List.setIfInBounds_toArray, List.set_cons_zero, List.set_cons_succ, i64_w, i32_w]
                        rfl
                      refine one_ (i := 6) (N := some 69) #[true, true, true, true, true, true, true, false, true, false, false, false, false, false, false] rfl rfl (one_of HT_.out (by kernel_rfl)) (by decide) (fun K hK => ?_)
                      refine goes_ Try.func30 (by kernel_rfl) rfl #[.slice A2 l2.length c2] (by rfl) rfl rfl (by (try simp only [List.map_toArray, List.map_cons, List.map_nil]); first | done | rfl | (simp only [List.length_drop, List.length_take]; rfl)) ?_
                      with_reducible refine (runs_Total.calls kj12 _ _ l2 t339 _ ?side1 ?side2 A22.out).mono ?_
                      (case side1 => repeat (first | exact (Kd.C_below HR2.out HB.out) | (with_reducible refine Kd.C_alloc ?_ _) | (with_reducible refine Kd.C_drewN ?_ _) | (with_reducible refine Kd.C_drew ?_)))
                      (case side2 => exact HC2.out)
                      rintro e w34 ⟨rfl, hb⟩
                      refine ⟨_, rfl, ?_⟩
                      have n0_ := Aside0.mk (Kd.R_below (by (with_reducible repeat (first | apply Kd.R_alloc | apply Kd.R_drewN | apply Kd.R_drew)); exact HO_7.out) hb)
                      have n1_ := Aside0.mk (Kd.R_below (by (with_reducible repeat (first | apply Kd.R_alloc | apply Kd.R_drewN | apply Kd.R_drew)); exact HO_9.out) hb)
                      have n2_ := Aside0.mk (Kd.R_below (by (with_reducible repeat (first | apply Kd.R_alloc | apply Kd.R_drewN | apply Kd.R_drew)); exact HO338.out) hb)
                      have n3_ := Aside0.mk (blk_below (g := gb324) (o := .cells #[.int .i64 a1_0, .int .i64 a1_1] 41 (0, 0)) (by (with_reducible repeat (first | refine blk_drewN ?_ _ | refine blk_drew ?_ | refine blk_alloc ?_ _)); exact BK324.out) hb)
                      have n4_ := Aside0.mk (below_step (by repeat (first | (with_reducible first | exact HB.out | apply below_alloc | apply pw_below_drewN | apply below_drew1 | refine below_set ?_ GE324.out) | exact HB.out)) hb)
                      clear HO_7
                      clear HO_9
                      clear HO338
                      clear BK324
                      clear HB
                      have HO_7 := n0_
                      have HO_9 := n1_
                      have HO338 := n2_
                      have BK324 := n3_
                      have HB := n4_
                      clear n0_ n1_ n2_ n3_ n4_
                      (try clear hb)
                      (try clear hb2)
                      (try clear hk)
                      (try clear hi)
                      obtain ⟨Ao35, co35, eo35⟩ := Kd.R_slice HO_7.out
                      (first | subst eo35 | (injection eo35 with f1_ f2_ f3_; have f4_ := f1_.symm; have f5_ := f3_.symm; clear f1_ f2_ f3_; subst f4_; subst f5_))
                      refine hK.out _ _ ⟨(blk_cell BK324.out 0).trans rfl, (blk_cell BK324.out 1).trans rfl⟩ (fun hHeld => ?_)
                      clear hK K
                      refine norm_ (a' := ?_) ?_ ?_
                      rotate_left
                      · show Act.put _ (some 69) _ = _
                        simp only [Act.put, List.setIfInBounds_toArray, List.set_cons_zero, List.set_cons_succ, i64_w, i32_w]
                        rfl
                      refine pure_ (i := 7) (N := some 70) (v := ?_) (a' := ?_) #[true, true, true, true, true, true, true, true, true, false, false, false, false, false, false] rfl rfl (any_of HT_.out (by kernel_rfl)) (fun _ _ _ h => h) (Or.inl ⟨by rfl, ?_⟩) ?_ ?_
                      rotate_left
                      · intro w'
                        go_simp
                        with_reducible rfl
                      rotate_left
                      · simp only [Act.put, List.setIfInBounds_toArray, List.set_cons_zero, List.set_cons_succ, i64_w, i32_w]
                        rfl
                      refine one_ (i := 9) (N := some 72) #[true, true, true, true, true, true, true, true, true, true, false, false, false, false, false] rfl rfl (one_of HT_.out (by kernel_rfl)) (by decide) (fun K hK => ?_)
                      refine goes_ Try.func40 (by kernel_rfl) rfl #[.slice Ao31 t330.length co31, .int .i64 a1_0, .int .i64 (wrap64 (a1_0 + t339)), .slice Ao35 t326.length co35] (by rfl) rfl rfl (by (try simp only [List.map_toArray, List.map_cons, List.map_nil]); first | done | rfl | (simp only [List.length_drop, List.length_take]; rfl)) ?_
                      with_reducible refine (runs_Splice.calls kj12 _ _ t330 a1_0 (wrap64 (a1_0 + t339)) _ _ t326 t340 t341 _ ?side1 ?side2 ?side3 ?side4 A23.out).mono ?_
                      (case side1 => repeat (first | exact (Kd.R_reads' HO_9.out).2.2 | (with_reducible refine Kd.C_alloc ?_ _) | (with_reducible refine Kd.C_drewN ?_ _) | (with_reducible refine Kd.C_drew ?_)))
                      (case side2 => exact (Kd.R_reads' HO_9.out).2.1)
                      (case side3 => repeat (first | exact (Kd.R_reads' HO_7.out).2.2 | (with_reducible refine Kd.C_alloc ?_ _) | (with_reducible refine Kd.C_drewN ?_ _) | (with_reducible refine Kd.C_drew ?_)))
                      (case side4 => exact (Kd.R_reads' HO_7.out).2.1)
                      rintro e w36 ⟨v342, rfl, ho0, hb⟩
                      refine ⟨_, rfl, ?_⟩
                      have n0_ := Aside0.mk (Kd.R_elder' (by (with_reducible repeat (first | apply Kd.R_alloc | apply Kd.R_drewN | apply Kd.R_drew)); exact HO_7.out) (Kd.R_base ho0) hb)
                      have n1_ := Aside0.mk (Kd.R_elder' (by (with_reducible repeat (first | apply Kd.R_alloc | apply Kd.R_drewN | apply Kd.R_drew)); exact HO_9.out) (Kd.R_base ho0) hb)
                      have n2_ := Aside0.mk (Kd.R_elder' (by (with_reducible repeat (first | apply Kd.R_alloc | apply Kd.R_drewN | apply Kd.R_drew)); exact HO338.out) (Kd.R_base ho0) hb)
                      have n3_ := Aside0.mk (Kd.R_lower (Kd.R_new' (Kd.R_new' (Kd.R_new' ho0 (Kd.R_lt (by (with_reducible repeat (first | apply Kd.R_alloc | apply Kd.R_drewN | apply Kd.R_drew)); exact HO_7.out))) (Kd.R_lt (by (with_reducible repeat (first | apply Kd.R_alloc | apply Kd.R_drewN | apply Kd.R_drew)); exact HO_9.out))) (Kd.R_lt (by (with_reducible repeat (first | apply Kd.R_alloc | apply Kd.R_drewN | apply Kd.R_drew)); exact HO338.out))) (below_size (by repeat (first | (with_reducible first | exact HB.out | apply below_alloc | apply pw_below_drewN | apply below_drew1 | refine below_set ?_ GE324.out) | exact HB.out))))
                      have n4_ := Aside0.mk (blk_below (g := gb324) (o := .cells #[.int .i64 a1_0, .int .i64 a1_1] 41 (0, 0)) (by (with_reducible repeat (first | refine blk_drewN ?_ _ | refine blk_drew ?_ | refine blk_alloc ?_ _)); exact BK324.out) hb)
                      have n5_ := Aside0.mk (below_step (by repeat (first | (with_reducible first | exact HB.out | apply below_alloc | apply pw_below_drewN | apply below_drew1 | refine below_set ?_ GE324.out) | exact HB.out)) hb)
                      clear HO_7
                      clear HO_9
                      clear HO338
                      clear BK324
                      clear HB
                      have HO_7 := n0_
                      have HO_9 := n1_
                      have HO338 := n2_
                      have HO343 := n3_
                      have BK324 := n4_
                      have HB := n5_
                      clear n0_ n1_ n2_ n3_ n4_ n5_
                      (try clear hb)
                      (try clear hb2)
                      (try clear hk)
                      (try clear hi)
                      (try clear ho0)
                      refine hK.out _ _ ⟨(blk_cell BK324.out 0).trans rfl, (blk_cell BK324.out 1).trans rfl⟩ (fun hHeld => ?_)
                      clear hK K
                      refine norm_ (a' := ?_) ?_ ?_
                      rotate_left
                      · show Act.put _ (some 72) _ = _
                        simp only [Act.put, List.setIfInBounds_toArray, List.set_cons_zero, List.set_cons_succ, i64_w, i32_w]
                        rfl
                      refine pure_ (i := 10) (N := some 62) (v := ?_) (a' := ?_) #[true, true, true, true, true, true, true, true, true, true, true, false, false, false, false] rfl rfl (any_of HT_.out (by kernel_rfl)) (fun _ _ _ h => h) (Or.inl ⟨by rfl, ?_⟩) ?_ ?_
                      rotate_left
                      · intro w'
                        go_simp
                        with_reducible rfl
                      rotate_left
                      · simp only [Act.put, List.setIfInBounds_toArray, List.set_cons_zero, List.set_cons_succ, i64_w, i32_w]
                        rfl
                      refine pure_ (i := 11) (N := some 73) (v := ?_) (a' := ?_) #[true, true, true, true, true, true, true, true, true, true, true, true, false, false, false] rfl rfl (any_of HT_.out (by kernel_rfl)) (fun _ _ _ h => h) (Or.inl ⟨by rfl, ?_⟩) ?_ ?_
                      rotate_left
                      · intro w'
                        go_simp
                        with_reducible rfl
                      rotate_left
                      · simp only [Act.put, List.setIfInBounds_toArray, List.set_cons_zero, List.set_cons_succ, i64_w, i32_w]
                        rfl
                      refine pure_ (i := 12) (N := some 74) (v := ?_) (a' := ?_) #[true, true, true, true, true, true, true, true, true, true, true, true, true, false, false] rfl rfl (any_of HT_.out (by kernel_rfl)) (fun _ _ _ h => h) (Or.inl ⟨by rfl, ?_⟩) ?_ ?_
                      rotate_left
                      · intro w'
                        go_simp
                        with_reducible rfl
                      rotate_left
                      · simp only [Act.put, List.setIfInBounds_toArray, List.set_cons_zero, List.set_cons_succ, i64_w, i32_w]
                        rfl
                      refine pure_ (i := 13) (N := some 13) (v := ?_) (a' := ?_) #[true, true, true, true, true, true, true, true, true, true, true, true, true, true, false] rfl rfl (any_of HT_.out (by kernel_rfl)) (fun _ _ _ h => h) (Or.inl ⟨by rfl, ?_⟩) ?_ ?_
                      rotate_left
                      · intro w'
                        go_simp
                        with_reducible rfl
                      rotate_left
                      · simp only [Act.put, List.setIfInBounds_toArray, List.set_cons_zero, List.set_cons_succ, i64_w, i32_w]
                        rfl
                      refine pure_ (i := 14) (N := some 14) (v := ?_) (a' := ?_) #[true, true, true, true, true, true, true, true, true, true, true, true, true, true, true] rfl rfl (any_of HT_.out (by kernel_rfl)) (fun _ _ _ h => h) (Or.inl ⟨by rfl, ?_⟩) ?_ ?_
                      rotate_left
                      · intro w'
                        go_simp
                        with_reducible rfl
                      rotate_left
                      · simp only [Act.put, List.setIfInBounds_toArray, List.set_cons_zero, List.set_cons_succ, i64_w, i32_w]
                        rfl
                      refine done_ (done_of HT_.out (by kernel_rfl)) ?_
                      obtain ⟨Ao37, co37, eo37⟩ := Kd.R_slice HO338.out
                      subst eo37
                      try go_wp2_with (first | (go_at_call 27; (with_reducible refine (bureauref03_Same.calls kj12 _ _ t335 _ _ l2 true _ ?side1 ?side2 ?side3 ?side4 A25.out).mono ?_); (case side1 => repeat (first | exact (Kd.R_reads' HO338.out).2.2 | (with_reducible refine Kd.C_alloc ?_ _) | (with_reducible refine Kd.C_drewN ?_ _) | (with_reducible refine Kd.C_drew ?_))); (case side2 => exact (Kd.R_reads' HO338.out).2.1); (case side3 => repeat (first | exact (Kd.C_below HR2.out HB.out) | (with_reducible refine Kd.C_alloc ?_ _) | (with_reducible refine Kd.C_drewN ?_ _) | (with_reducible refine Kd.C_drew ?_))); (case side4 => exact HC2.out); rintro e w' ⟨rfl, ⟨nd, rfl⟩⟩; obtain ⟨Ao38, co38, eo38⟩ := Kd.R_slice HO343.out; subst eo38) | (go_at_call 27; (with_reducible refine (bureauref03_Same.calls kj12 _ _ t340 _ _ l0 t345 _ ?side1 ?side2 ?side3 ?side4 A28.out).mono ?_); (case side1 => repeat (first | exact (Kd.R_reads' HO343.out).2.2 | (with_reducible refine Kd.C_alloc ?_ _) | (with_reducible refine Kd.C_drewN ?_ _) | (with_reducible refine Kd.C_drew ?_))); (case side2 => exact (Kd.R_reads' HO343.out).2.1); (case side3 => repeat (first | exact (Kd.C_below HR0.out (by repeat (first | (with_reducible first | exact HB.out | apply below_alloc | apply pw_below_drewN | apply below_drew1 | refine below_set ?_ GE324.out) | exact HB.out))) | (with_reducible refine Kd.C_alloc ?_ _) | (with_reducible refine Kd.C_drewN ?_ _) | (with_reducible refine Kd.C_drew ?_))); (case side4 => exact HC0.out); rintro e w' ⟨rfl, ⟨nd, rfl⟩⟩))
                      go_ret
                      exact ⟨by first | rfl | (simp [errW_none, errW_some] <;> rfl) | (simp [*, errW_none, errW_some] <;> rfl), by repeat (first | (with_reducible first | exact HB.out | apply below_alloc | apply pw_below_drewN | apply below_drew1 | refine below_set ?_ GE324.out) | exact HB.out)⟩
                    · rw [if_neg c27] at H
                      have c27b0 : (t341 == 0) = false := beq_eq_false_iff_ne.mpr c27
                      have c27b1 : (t341 != 0) = true := bne_iff_ne.mpr c27
                      obtain rfl := Option.some.inj H
                      try go_wp2
                      have n0_ := Aside0.mk (Kd.R_drew HO_7.out)
                      have n1_ := Aside0.mk (Kd.R_drew HO_9.out)
                      have n2_ := Aside0.mk (blk_drew BK324.out)
                      have n3_ := Aside0.mk (below_drew1 HB.out)
                      clear HO_7
                      clear HO_9
                      clear BK324
                      clear HB
                      have HO_7 := n0_
                      have HO_9 := n1_
                      have BK324 := n2_
                      have HB := n3_
                      clear n0_ n1_ n2_ n3_
                      refine start_ (n := 14) (S := fun w' => w'.cell? ⟨gb324, 0, none⟩ = some (.int .i64 a1_0) ∧ w'.cell? ⟨gb324, 1, none⟩ = some (.int .i64 a1_1)) (ds := []) #[false, false, false, false, false, false, false, false, false, false, false, false, false, false] (by kernel_rfl) rfl rfl ⟨(blk_cell BK324.out 0).trans rfl, (blk_cell BK324.out 1).trans rfl⟩ (fun hHeld => ?_); refine with_tabW bureaulaw03_RunsUndone.tab9 bureaulaw03_RunsUndone.bits9 (fun HT_ HW_ => ?_)
                      generalize wc.drew = w39 at HO_7 HO_9 BK324 HB hHeld ⊢
                      refine pure_ (i := 0) (N := some 51) (v := ?_) (a' := ?_) #[true, false, false, false, false, false, false, false, false, false, false, false, false, false] rfl rfl (any_of HT_.out (by kernel_rfl)) (fun _ _ _ h => h) (Or.inl ⟨by rfl, ?_⟩) ?_ ?_
                      rotate_left
                      · intro w'
                        go_simp
                        with_reducible rfl
                      rotate_left
                      · simp only [Act.put, List.setIfInBounds_toArray, List.set_cons_zero, List.set_cons_succ, i64_w, i32_w]
                        rfl
                      refine pure_ (i := 1) (N := some 52) (v := ?_) (a' := ?_) #[true, true, false, false, false, false, false, false, false, false, false, false, false, false] rfl rfl (any_of HT_.out (by kernel_rfl)) (fun _ _ _ h => h) (Or.inl ⟨by rfl, ?_⟩) ?_ ?_
                      rotate_left
                      · intro w'
                        go_simp
                        with_reducible rfl
                      rotate_left
                      · simp only [Act.put, List.setIfInBounds_toArray, List.set_cons_zero, List.set_cons_succ, i64_w, i32_w]
                        rfl
                      refine pure_ (i := 3) (N := some 54) (v := ?_) (a' := ?_) #[true, true, false, true, false, false, false, false, false, false, false, false, false, false] rfl rfl (any_of HT_.out (by kernel_rfl)) (fun _ _ _ h => h) (Or.inl ⟨by rfl, ?_⟩) ?_ ?_
                      rotate_left
                      · intro w'
                        go_simp
                        with_reducible rfl
                      rotate_left
                      · simp only [Act.put, List.setIfInBounds_toArray, List.set_cons_zero, List.set_cons_succ, i64_w, i32_w]
                        rfl
                      refine pure_ (i := 5) (N := some 56) (v := ?_) (a' := ?_) #[true, true, false, true, false, true, false, false, false, false, false, false, false, false] rfl rfl (any_of HT_.out (by kernel_rfl)) (fun _ _ _ h => h) (Or.inl ⟨by rfl, ?_⟩) ?_ ?_
                      rotate_left
                      · intro w'
                        go_simp
                        with_reducible rfl
                      rotate_left
                      · simp only [Act.put, List.setIfInBounds_toArray, List.set_cons_zero, List.set_cons_succ, i64_w, i32_w]
                        rfl
                      refine take_ (i := 2) (N := some 53) (v := ?_) (a' := ?_) #[true, true, true, true, false, true, false, false, false, false, false, false, false, false] rfl rfl (take_ofW HT_.out HW_.out (by kernel_rfl)) (fun _ _ _ h => h) (Or.inl ⟨by rfl, ?_⟩) hHeld ?_ ?_
                      rotate_left
                      · rintro w' ⟨s0, s1⟩
                        go_simp
                        with_reducible rfl
                      rotate_left
                      · simp only [Act.put, List.setIfInBounds_toArray, List.set_cons_zero, List.set_cons_succ, i64_w, i32_w]
                        rfl
                      refine take_ (i := 4) (N := some 55) (v := ?_) (a' := ?_) #[true, true, true, true, true, true, false, false, false, false, false, false, false, false] rfl rfl (take_ofW HT_.out HW_.out (by kernel_rfl)) (fun _ _ _ h => h) (Or.inl ⟨by rfl, ?_⟩) hHeld ?_ ?_
                      rotate_left
                      · rintro w' ⟨s0, s1⟩
                        go_simp
                        with_reducible rfl
                      rotate_left
                      · simp only [Act.put, List.setIfInBounds_toArray, List.set_cons_zero, List.set_cons_succ, i64_w, i32_w]
                        rfl
                      refine one_ (i := 6) (N := some 57) #[true, true, true, true, true, true, true, false, false, false, false, false, false, false] rfl rfl (one_of HT_.out (by kernel_rfl)) (by decide) (fun K hK => ?_)
                      refine goes_ Try.func30 (by kernel_rfl) rfl #[.slice A2 l2.length c2] (by rfl) rfl rfl (by (try simp only [List.map_toArray, List.map_cons, List.map_nil]); first | done | rfl | (simp only [List.length_drop, List.length_take]; rfl)) ?_
                      with_reducible refine (runs_Total.calls kj12 _ _ l2 t334 _ ?side1 ?side2 A20.out).mono ?_
                      (case side1 => repeat (first | exact (Kd.C_below HR2.out HB.out) | (with_reducible refine Kd.C_alloc ?_ _) | (with_reducible refine Kd.C_drewN ?_ _) | (with_reducible refine Kd.C_drew ?_)))
                      (case side2 => exact HC2.out)
                      rintro e w40 ⟨rfl, hb⟩
                      refine ⟨_, rfl, ?_⟩
                      have n0_ := Aside0.mk (Kd.R_below (by (with_reducible repeat (first | apply Kd.R_alloc | apply Kd.R_drewN | apply Kd.R_drew)); exact HO_7.out) hb)
                      have n1_ := Aside0.mk (Kd.R_below (by (with_reducible repeat (first | apply Kd.R_alloc | apply Kd.R_drewN | apply Kd.R_drew)); exact HO_9.out) hb)
                      have n2_ := Aside0.mk (blk_below (g := gb324) (o := .cells #[.int .i64 a1_0, .int .i64 a1_1] 41 (0, 0)) (by (with_reducible repeat (first | refine blk_drewN ?_ _ | refine blk_drew ?_ | refine blk_alloc ?_ _)); exact BK324.out) hb)
                      have n3_ := Aside0.mk (below_step (by repeat (first | (with_reducible first | exact HB.out | apply below_alloc | apply pw_below_drewN | apply below_drew1 | refine below_set ?_ GE324.out) | exact HB.out)) hb)
                      clear HO_7
                      clear HO_9
                      clear BK324
                      clear HB
                      have HO_7 := n0_
                      have HO_9 := n1_
                      have BK324 := n2_
                      have HB := n3_
                      clear n0_ n1_ n2_ n3_
                      (try clear hb)
                      (try clear hb2)
                      (try clear hk)
                      (try clear hi)
                      obtain ⟨Ao41, co41, eo41⟩ := Kd.R_slice HO_9.out
                      (first | subst eo41 | (injection eo41 with f1_ f2_ f3_; have f4_ := f1_.symm; have f5_ := f3_.symm; clear f1_ f2_ f3_; subst f4_; subst f5_))
                      refine hK.out _ _ ⟨(blk_cell BK324.out 0).trans rfl, (blk_cell BK324.out 1).trans rfl⟩ (fun hHeld => ?_)
                      clear hK K
                      refine norm_ (a' := ?_) ?_ ?_
                      rotate_left
                      · show Act.put _ (some 57) _ = _
                        simp only [Act.put, List.setIfInBounds_toArray, List.set_cons_zero, List.set_cons_succ, i64_w, i32_w]
                        rfl
                      refine pure_ (i := 7) (N := some 58) (v := ?_) (a' := ?_) #[true, true, true, true, true, true, true, true, false, false, false, false, false, false] rfl rfl (any_of HT_.out (by kernel_rfl)) (fun _ _ _ h => h) (Or.inl ⟨by rfl, ?_⟩) ?_ ?_
                      rotate_left
                      · intro w'
                        go_simp
                        with_reducible rfl
                      rotate_left
                      · simp only [Act.put, List.setIfInBounds_toArray, List.set_cons_zero, List.set_cons_succ, i64_w, i32_w]
                        rfl
                      refine one_ (i := 8) (N := some 59) #[true, true, true, true, true, true, true, true, true, false, false, false, false, false] rfl rfl (one_of HT_.out (by kernel_rfl)) (by decide) (fun K hK => ?_)
                      refine goes_ Try.func32 (by kernel_rfl) rfl #[.slice Ao41 t330.length co41, .int .i64 a1_0, .int .i64 (wrap64 (a1_0 + t334))] (by rfl) rfl rfl (by (try simp only [List.map_toArray, List.map_cons, List.map_nil]); first | done | rfl | (simp only [List.length_drop, List.length_take]; rfl)) ?_
                      with_reducible refine (runs_Slice.calls kj12 _ _ t330 a1_0 (wrap64 (a1_0 + t334)) t335 t336 _ ?side1 ?side2 A21.out).mono ?_
                      (case side1 => repeat (first | exact (Kd.R_reads' HO_9.out).2.2 | (with_reducible refine Kd.C_alloc ?_ _) | (with_reducible refine Kd.C_drewN ?_ _) | (with_reducible refine Kd.C_drew ?_)))
                      (case side2 => exact (Kd.R_reads' HO_9.out).2.1)
                      rintro e w42 ⟨v337, rfl, ho0, hb⟩
                      refine ⟨_, rfl, ?_⟩
                      have n0_ := Aside0.mk (Kd.R_elder' (by (with_reducible repeat (first | apply Kd.R_alloc | apply Kd.R_drewN | apply Kd.R_drew)); exact HO_7.out) (Kd.R_base ho0) hb)
                      have n1_ := Aside0.mk (Kd.R_elder' (by (with_reducible repeat (first | apply Kd.R_alloc | apply Kd.R_drewN | apply Kd.R_drew)); exact HO_9.out) (Kd.R_base ho0) hb)
                      have n2_ := Aside0.mk (Kd.R_lower (Kd.R_new' (Kd.R_new' ho0 (Kd.R_lt (by (with_reducible repeat (first | apply Kd.R_alloc | apply Kd.R_drewN | apply Kd.R_drew)); exact HO_7.out))) (Kd.R_lt (by (with_reducible repeat (first | apply Kd.R_alloc | apply Kd.R_drewN | apply Kd.R_drew)); exact HO_9.out))) (below_size (by repeat (first | (with_reducible first | exact HB.out | apply below_alloc | apply pw_below_drewN | apply below_drew1 | refine below_set ?_ GE324.out) | exact HB.out))))
                      have n3_ := Aside0.mk (blk_below (g := gb324) (o := .cells #[.int .i64 a1_0, .int .i64 a1_1] 41 (0, 0)) (by (with_reducible repeat (first | refine blk_drewN ?_ _ | refine blk_drew ?_ | refine blk_alloc ?_ _)); exact BK324.out) hb)
                      have n4_ := Aside0.mk (below_step (by repeat (first | (with_reducible first | exact HB.out | apply below_alloc | apply pw_below_drewN | apply below_drew1 | refine below_set ?_ GE324.out) | exact HB.out)) hb)
                      clear HO_7
                      clear HO_9
                      clear BK324
                      clear HB
                      have HO_7 := n0_
                      have HO_9 := n1_
                      have HO338 := n2_
                      have BK324 := n3_
                      have HB := n4_
                      clear n0_ n1_ n2_ n3_ n4_
                      (try clear hb)
                      (try clear hb2)
                      (try clear hk)
                      (try clear hi)
                      (try clear ho0)
                      refine hK.out _ _ ⟨(blk_cell BK324.out 0).trans rfl, (blk_cell BK324.out 1).trans rfl⟩ (fun hHeld => ?_)
                      clear hK K
                      refine norm_ (a' := ?_) ?_ ?_
                      rotate_left
                      · show Act.put _ (some 59) _ = _
                        simp only [Act.put, List.setIfInBounds_toArray, List.set_cons_zero, List.set_cons_succ, i64_w, i32_w]
                        rfl
                      refine pure_ (i := 9) (N := some 50) (v := ?_) (a' := ?_) #[true, true, true, true, true, true, true, true, true, true, false, false, false, false] rfl rfl (any_of HT_.out (by kernel_rfl)) (fun _ _ _ h => h) (Or.inl ⟨by rfl, ?_⟩) ?_ ?_
                      rotate_left
                      · intro w'
                        go_simp
                        with_reducible rfl
                      rotate_left
                      · simp only [Act.put, List.setIfInBounds_toArray, List.set_cons_zero, List.set_cons_succ, i64_w, i32_w]
                        rfl
                      refine pure_ (i := 10) (N := some 60) (v := ?_) (a' := ?_) #[true, true, true, true, true, true, true, true, true, true, true, false, false, false] rfl rfl (any_of HT_.out (by kernel_rfl)) (fun _ _ _ h => h) (Or.inl ⟨by rfl, ?_⟩) ?_ ?_
                      rotate_left
                      · intro w'
                        go_simp
                        with_reducible rfl
                      rotate_left
                      · simp only [Act.put, List.setIfInBounds_toArray, List.set_cons_zero, List.set_cons_succ, i64_w, i32_w]
                        rfl
                      refine pure_ (i := 11) (N := some 61) (v := ?_) (a' := ?_) #[true, true, true, true, true, true, true, true, true, true, true, true, false, false] rfl rfl (any_of HT_.out (by kernel_rfl)) (fun _ _ _ h => h) (Or.inl ⟨by rfl, ?_⟩) ?_ ?_
                      rotate_left
                      · intro w'
                        go_simp
                        with_reducible rfl
                      rotate_left
                      · simp only [Act.put, List.setIfInBounds_toArray, List.set_cons_zero, List.set_cons_succ, i64_w, i32_w]
                        rfl
                      refine pure_ (i := 12) (N := some 11) (v := ?_) (a' := ?_) #[true, true, true, true, true, true, true, true, true, true, true, true, true, false] rfl rfl (any_of HT_.out (by kernel_rfl)) (fun _ _ _ h => h) (Or.inl ⟨by rfl, ?_⟩) ?_ ?_
                      rotate_left
                      · intro w'
                        go_simp
                        with_reducible rfl
                      rotate_left
                      · simp only [Act.put, List.setIfInBounds_toArray, List.set_cons_zero, List.set_cons_succ, i64_w, i32_w]
                        rfl
                      refine pure_ (i := 13) (N := some 12) (v := ?_) (a' := ?_) #[true, true, true, true, true, true, true, true, true, true, true, true, true, true] rfl rfl (any_of HT_.out (by kernel_rfl)) (fun _ _ _ h => h) (Or.inl ⟨by rfl, ?_⟩) ?_ ?_
                      rotate_left
                      · intro w'
                        go_simp
                        with_reducible rfl
                      rotate_left
                      · simp only [Act.put, List.setIfInBounds_toArray, List.set_cons_zero, List.set_cons_succ, i64_w, i32_w]
                        rfl
                      refine done_ (done_of HT_.out (by kernel_rfl)) ?_
                      try go_wp2
                      have n0_ := Aside0.mk (Kd.R_drew HO_7.out)
                      have n1_ := Aside0.mk (Kd.R_drew HO_9.out)
                      have n2_ := Aside0.mk (Kd.R_drew HO338.out)
                      have n3_ := Aside0.mk (blk_drew BK324.out)
                      have n4_ := Aside0.mk (below_drew1 HB.out)
                      clear HO_7
                      clear HO_9
                      clear HO338
                      clear BK324
                      clear HB
                      have HO_7 := n0_
                      have HO_9 := n1_
                      have HO338 := n2_
                      have BK324 := n3_
                      have HB := n4_
                      clear n0_ n1_ n2_ n3_ n4_
                      refine start_ (n := 15) (S := fun w' => w'.cell? ⟨gb324, 0, none⟩ = some (.int .i64 a1_0) ∧ w'.cell? ⟨gb324, 1, none⟩ = some (.int .i64 a1_1)) (ds := []) #[false, false, false, false, false, false, false, false, false, false, false, false, false, false, false] (by kernel_rfl) rfl rfl ⟨(blk_cell BK324.out 0).trans rfl, (blk_cell BK324.out 1).trans rfl⟩ (fun hHeld => ?_); refine with_tabW bureaulaw03_RunsUndone.tab10 bureaulaw03_RunsUndone.bits10 (fun HT_ HW_ => ?_)
                      generalize w42.drew = w43 at HO_7 HO_9 HO338 BK324 HB hHeld ⊢
                      refine pure_ (i := 0) (N := some 63) (v := ?_) (a' := ?_) #[true, false, false, false, false, false, false, false, false, false, false, false, false, false, false] rfl rfl (any_of HT_.out (by kernel_rfl)) (fun _ _ _ h => h) (Or.inl ⟨by rfl, ?_⟩) ?_ ?_
                      rotate_left
                      · intro w'
                        go_simp
                        with_reducible rfl
                      rotate_left
                      · simp only [Act.put, List.setIfInBounds_toArray, List.set_cons_zero, List.set_cons_succ, i64_w, i32_w]
                        rfl
                      refine pure_ (i := 1) (N := some 64) (v := ?_) (a' := ?_) #[true, true, false, false, false, false, false, false, false, false, false, false, false, false, false] rfl rfl (any_of HT_.out (by kernel_rfl)) (fun _ _ _ h => h) (Or.inl ⟨by rfl, ?_⟩) ?_ ?_
                      rotate_left
                      · intro w'
                        go_simp
                        with_reducible rfl
                      rotate_left
                      · simp only [Act.put, List.setIfInBounds_toArray, List.set_cons_zero, List.set_cons_succ, i64_w, i32_w]
                        rfl
                      refine pure_ (i := 3) (N := some 66) (v := ?_) (a' := ?_) #[true, true, false, true, false, false, false, false, false, false, false, false, false, false, false] rfl rfl (any_of HT_.out (by kernel_rfl)) (fun _ _ _ h => h) (Or.inl ⟨by rfl, ?_⟩) ?_ ?_
                      rotate_left
                      · intro w'
                        go_simp
                        with_reducible rfl
                      rotate_left
                      · simp only [Act.put, List.setIfInBounds_toArray, List.set_cons_zero, List.set_cons_succ, i64_w, i32_w]
                        rfl
                      refine pure_ (i := 5) (N := some 68) (v := ?_) (a' := ?_) #[true, true, false, true, false, true, false, false, false, false, false, false, false, false, false] rfl rfl (any_of HT_.out (by kernel_rfl)) (fun _ _ _ h => h) (Or.inl ⟨by rfl, ?_⟩) ?_ ?_
                      rotate_left
                      · intro w'
                        go_simp
                        with_reducible rfl
                      rotate_left
                      · simp only [Act.put, List.setIfInBounds_toArray, List.set_cons_zero, List.set_cons_succ, i64_w, i32_w]
                        rfl
                      refine pure_ (i := 8) (N := some 71) (v := ?_) (a' := ?_) #[true, true, false, true, false, true, false, false, true, false, false, false, false, false, false] rfl rfl (any_of HT_.out (by kernel_rfl)) (fun _ _ _ h => h) (Or.inl ⟨by rfl, ?_⟩) ?_ ?_
                      rotate_left
                      · intro w'
                        go_simp
                        with_reducible rfl
                      rotate_left
                      · simp only [Act.put, List.setIfInBounds_toArray, List.set_cons_zero, List.set_cons_succ, i64_w, i32_w]
                        rfl
                      refine take_ (i := 2) (N := some 65) (v := ?_) (a' := ?_) #[true, true, true, true, false, true, false, false, true, false, false, false, false, false, false] rfl rfl (take_ofW HT_.out HW_.out (by kernel_rfl)) (fun _ _ _ h => h) (Or.inl ⟨by rfl, ?_⟩) hHeld ?_ ?_
                      rotate_left
                      · rintro w' ⟨s0, s1⟩
                        go_simp
                        with_reducible rfl
                      rotate_left
                      · simp only [Act.put, List.setIfInBounds_toArray, List.set_cons_zero, List.set_cons_succ, i64_w, i32_w]
                        rfl
                      refine take_ (i := 4) (N := some 67) (v := ?_) (a' := ?_) #[true, true, true, true, true, true, false, false, true, false, false, false, false, false, false] rfl rfl (take_ofW HT_.out HW_.out (by kernel_rfl)) (fun _ _ _ h => h) (Or.inl ⟨by rfl, ?_⟩) hHeld ?_ ?_
                      rotate_left
                      · rintro w' ⟨s0, s1⟩
                        go_simp
                        with_reducible rfl
                      rotate_left
                      · simp only [Act.put, List.setIfInBounds_toArray, List.set_cons_zero, List.set_cons_succ, i64_w, i32_w]
                        rfl
                      refine one_ (i := 6) (N := some 69) #[true, true, true, true, true, true, true, false, true, false, false, false, false, false, false] rfl rfl (one_of HT_.out (by kernel_rfl)) (by decide) (fun K hK => ?_)
                      refine goes_ Try.func30 (by kernel_rfl) rfl #[.slice A2 l2.length c2] (by rfl) rfl rfl (by (try simp only [List.map_toArray, List.map_cons, List.map_nil]); first | done | rfl | (simp only [List.length_drop, List.length_take]; rfl)) ?_
                      with_reducible refine (runs_Total.calls kj12 _ _ l2 t339 _ ?side1 ?side2 A22.out).mono ?_
                      (case side1 => repeat (first | exact (Kd.C_below HR2.out HB.out) | (with_reducible refine Kd.C_alloc ?_ _) | (with_reducible refine Kd.C_drewN ?_ _) | (with_reducible refine Kd.C_drew ?_)))
                      (case side2 => exact HC2.out)
                      rintro e w44 ⟨rfl, hb⟩
                      refine ⟨_, rfl, ?_⟩
                      have n0_ := Aside0.mk (Kd.R_below (by (with_reducible repeat (first | apply Kd.R_alloc | apply Kd.R_drewN | apply Kd.R_drew)); exact HO_7.out) hb)
                      have n1_ := Aside0.mk (Kd.R_below (by (with_reducible repeat (first | apply Kd.R_alloc | apply Kd.R_drewN | apply Kd.R_drew)); exact HO_9.out) hb)
                      have n2_ := Aside0.mk (Kd.R_below (by (with_reducible repeat (first | apply Kd.R_alloc | apply Kd.R_drewN | apply Kd.R_drew)); exact HO338.out) hb)
                      have n3_ := Aside0.mk (blk_below (g := gb324) (o := .cells #[.int .i64 a1_0, .int .i64 a1_1] 41 (0, 0)) (by (with_reducible repeat (first | refine blk_drewN ?_ _ | refine blk_drew ?_ | refine blk_alloc ?_ _)); exact BK324.out) hb)
                      have n4_ := Aside0.mk (below_step (by repeat (first | (with_reducible first | exact HB.out | apply below_alloc | apply pw_below_drewN | apply below_drew1 | refine below_set ?_ GE324.out) | exact HB.out)) hb)
                      clear HO_7
                      clear HO_9
                      clear HO338
                      clear BK324
                      clear HB
                      have HO_7 := n0_
                      have HO_9 := n1_
                      have HO338 := n2_
                      have BK324 := n3_
                      have HB := n4_
                      clear n0_ n1_ n2_ n3_ n4_
                      (try clear hb)
                      (try clear hb2)
                      (try clear hk)
                      (try clear hi)
                      obtain ⟨Ao45, co45, eo45⟩ := Kd.R_slice HO_7.out
                      (first | subst eo45 | (injection eo45 with f1_ f2_ f3_; have f4_ := f1_.symm; have f5_ := f3_.symm; clear f1_ f2_ f3_; subst f4_; subst f5_))
                      refine hK.out _ _ ⟨(blk_cell BK324.out 0).trans rfl, (blk_cell BK324.out 1).trans rfl⟩ (fun hHeld => ?_)
                      clear hK K
                      refine norm_ (a' := ?_) ?_ ?_
                      rotate_left
                      · show Act.put _ (some 69) _ = _
                        simp only [Act.put, List.setIfInBounds_toArray, List.set_cons_zero, List.set_cons_succ, i64_w, i32_w]
                        rfl
                      refine pure_ (i := 7) (N := some 70) (v := ?_) (a' := ?_) #[true, true, true, true, true, true, true, true, true, false, false, false, false, false, false] rfl rfl (any_of HT_.out (by kernel_rfl)) (fun _ _ _ h => h) (Or.inl ⟨by rfl, ?_⟩) ?_ ?_
                      rotate_left
                      · intro w'
                        go_simp
                        with_reducible rfl
                      rotate_left
                      · simp only [Act.put, List.setIfInBounds_toArray, List.set_cons_zero, List.set_cons_succ, i64_w, i32_w]
                        rfl
                      refine one_ (i := 9) (N := some 72) #[true, true, true, true, true, true, true, true, true, true, false, false, false, false, false] rfl rfl (one_of HT_.out (by kernel_rfl)) (by decide) (fun K hK => ?_)
                      refine goes_ Try.func40 (by kernel_rfl) rfl #[.slice Ao41 t330.length co41, .int .i64 a1_0, .int .i64 (wrap64 (a1_0 + t339)), .slice Ao45 t326.length co45] (by rfl) rfl rfl (by (try simp only [List.map_toArray, List.map_cons, List.map_nil]); first | done | rfl | (simp only [List.length_drop, List.length_take]; rfl)) ?_
                      with_reducible refine (runs_Splice.calls kj12 _ _ t330 a1_0 (wrap64 (a1_0 + t339)) _ _ t326 t340 t341 _ ?side1 ?side2 ?side3 ?side4 A23.out).mono ?_
                      (case side1 => repeat (first | exact (Kd.R_reads' HO_9.out).2.2 | (with_reducible refine Kd.C_alloc ?_ _) | (with_reducible refine Kd.C_drewN ?_ _) | (with_reducible refine Kd.C_drew ?_)))
                      (case side2 => exact (Kd.R_reads' HO_9.out).2.1)
                      (case side3 => repeat (first | exact (Kd.R_reads' HO_7.out).2.2 | (with_reducible refine Kd.C_alloc ?_ _) | (with_reducible refine Kd.C_drewN ?_ _) | (with_reducible refine Kd.C_drew ?_)))
                      (case side4 => exact (Kd.R_reads' HO_7.out).2.1)
                      rintro e w46 ⟨v342, rfl, ho0, hb⟩
                      refine ⟨_, rfl, ?_⟩
                      have n0_ := Aside0.mk (Kd.R_elder' (by (with_reducible repeat (first | apply Kd.R_alloc | apply Kd.R_drewN | apply Kd.R_drew)); exact HO_7.out) (Kd.R_base ho0) hb)
                      have n1_ := Aside0.mk (Kd.R_elder' (by (with_reducible repeat (first | apply Kd.R_alloc | apply Kd.R_drewN | apply Kd.R_drew)); exact HO_9.out) (Kd.R_base ho0) hb)
                      have n2_ := Aside0.mk (Kd.R_elder' (by (with_reducible repeat (first | apply Kd.R_alloc | apply Kd.R_drewN | apply Kd.R_drew)); exact HO338.out) (Kd.R_base ho0) hb)
                      have n3_ := Aside0.mk (Kd.R_lower (Kd.R_new' (Kd.R_new' (Kd.R_new' ho0 (Kd.R_lt (by (with_reducible repeat (first | apply Kd.R_alloc | apply Kd.R_drewN | apply Kd.R_drew)); exact HO_7.out))) (Kd.R_lt (by (with_reducible repeat (first | apply Kd.R_alloc | apply Kd.R_drewN | apply Kd.R_drew)); exact HO_9.out))) (Kd.R_lt (by (with_reducible repeat (first | apply Kd.R_alloc | apply Kd.R_drewN | apply Kd.R_drew)); exact HO338.out))) (below_size (by repeat (first | (with_reducible first | exact HB.out | apply below_alloc | apply pw_below_drewN | apply below_drew1 | refine below_set ?_ GE324.out) | exact HB.out))))
                      have n4_ := Aside0.mk (blk_below (g := gb324) (o := .cells #[.int .i64 a1_0, .int .i64 a1_1] 41 (0, 0)) (by (with_reducible repeat (first | refine blk_drewN ?_ _ | refine blk_drew ?_ | refine blk_alloc ?_ _)); exact BK324.out) hb)
                      have n5_ := Aside0.mk (below_step (by repeat (first | (with_reducible first | exact HB.out | apply below_alloc | apply pw_below_drewN | apply below_drew1 | refine below_set ?_ GE324.out) | exact HB.out)) hb)
                      clear HO_7
                      clear HO_9
                      clear HO338
                      clear BK324
                      clear HB
                      have HO_7 := n0_
                      have HO_9 := n1_
                      have HO338 := n2_
                      have HO343 := n3_
                      have BK324 := n4_
                      have HB := n5_
                      clear n0_ n1_ n2_ n3_ n4_ n5_
                      (try clear hb)
                      (try clear hb2)
                      (try clear hk)
                      (try clear hi)
                      (try clear ho0)
                      refine hK.out _ _ ⟨(blk_cell BK324.out 0).trans rfl, (blk_cell BK324.out 1).trans rfl⟩ (fun hHeld => ?_)
                      clear hK K
                      refine norm_ (a' := ?_) ?_ ?_
                      rotate_left
                      · show Act.put _ (some 72) _ = _
                        simp only [Act.put, List.setIfInBounds_toArray, List.set_cons_zero, List.set_cons_succ, i64_w, i32_w]
                        rfl
                      refine pure_ (i := 10) (N := some 62) (v := ?_) (a' := ?_) #[true, true, true, true, true, true, true, true, true, true, true, false, false, false, false] rfl rfl (any_of HT_.out (by kernel_rfl)) (fun _ _ _ h => h) (Or.inl ⟨by rfl, ?_⟩) ?_ ?_
                      rotate_left
                      · intro w'
                        go_simp
                        with_reducible rfl
                      rotate_left
                      · simp only [Act.put, List.setIfInBounds_toArray, List.set_cons_zero, List.set_cons_succ, i64_w, i32_w]
                        rfl
                      refine pure_ (i := 11) (N := some 73) (v := ?_) (a' := ?_) #[true, true, true, true, true, true, true, true, true, true, true, true, false, false, false] rfl rfl (any_of HT_.out (by kernel_rfl)) (fun _ _ _ h => h) (Or.inl ⟨by rfl, ?_⟩) ?_ ?_
                      rotate_left
                      · intro w'
                        go_simp
                        with_reducible rfl
                      rotate_left
                      · simp only [Act.put, List.setIfInBounds_toArray, List.set_cons_zero, List.set_cons_succ, i64_w, i32_w]
                        rfl
                      refine pure_ (i := 12) (N := some 74) (v := ?_) (a' := ?_) #[true, true, true, true, true, true, true, true, true, true, true, true, true, false, false] rfl rfl (any_of HT_.out (by kernel_rfl)) (fun _ _ _ h => h) (Or.inl ⟨by rfl, ?_⟩) ?_ ?_
                      rotate_left
                      · intro w'
                        go_simp
                        with_reducible rfl
                      rotate_left
                      · simp only [Act.put, List.setIfInBounds_toArray, List.set_cons_zero, List.set_cons_succ, i64_w, i32_w]
                        rfl
                      refine pure_ (i := 13) (N := some 13) (v := ?_) (a' := ?_) #[true, true, true, true, true, true, true, true, true, true, true, true, true, true, false] rfl rfl (any_of HT_.out (by kernel_rfl)) (fun _ _ _ h => h) (Or.inl ⟨by rfl, ?_⟩) ?_ ?_
                      rotate_left
                      · intro w'
                        go_simp
                        with_reducible rfl
                      rotate_left
                      · simp only [Act.put, List.setIfInBounds_toArray, List.set_cons_zero, List.set_cons_succ, i64_w, i32_w]
                        rfl
                      refine pure_ (i := 14) (N := some 14) (v := ?_) (a' := ?_) #[true, true, true, true, true, true, true, true, true, true, true, true, true, true, true] rfl rfl (any_of HT_.out (by kernel_rfl)) (fun _ _ _ h => h) (Or.inl ⟨by rfl, ?_⟩) ?_ ?_
                      rotate_left
                      · intro w'
                        go_simp
                        with_reducible rfl
                      rotate_left
                      · simp only [Act.put, List.setIfInBounds_toArray, List.set_cons_zero, List.set_cons_succ, i64_w, i32_w]
                        rfl
                      refine done_ (done_of HT_.out (by kernel_rfl)) ?_
                      obtain ⟨Ao47, co47, eo47⟩ := Kd.R_slice HO338.out
                      subst eo47
                      try go_wp2_with (first | (go_at_call 27; (with_reducible refine (bureauref03_Same.calls kj12 _ _ t335 _ _ l2 true _ ?side1 ?side2 ?side3 ?side4 A25.out).mono ?_); (case side1 => repeat (first | exact (Kd.R_reads' HO338.out).2.2 | (with_reducible refine Kd.C_alloc ?_ _) | (with_reducible refine Kd.C_drewN ?_ _) | (with_reducible refine Kd.C_drew ?_))); (case side2 => exact (Kd.R_reads' HO338.out).2.1); (case side3 => repeat (first | exact (Kd.C_below HR2.out HB.out) | (with_reducible refine Kd.C_alloc ?_ _) | (with_reducible refine Kd.C_drewN ?_ _) | (with_reducible refine Kd.C_drew ?_))); (case side4 => exact HC2.out); rintro e w' ⟨rfl, ⟨nd, rfl⟩⟩))
                      go_ret
                      exact ⟨by first | rfl | (simp [errW_none, errW_some] <;> rfl) | (simp [*, errW_none, errW_some] <;> rfl), by repeat (first | (with_reducible first | exact HB.out | apply below_alloc | apply pw_below_drewN | apply below_drew1 | refine below_set ?_ GE324.out) | exact HB.out)⟩
                  · replace c26 := Bool.eq_false_iff.mpr c26
                    subst c26
                    have H1 : (some false) = some r := by rw [if_neg (show ¬ (false = true) by decide)] at H; exact H
                    clear H
                    have H := H1
                    clear H1
                    obtain rfl := Option.some.inj H
                    try go_wp2
                    have n0_ := Aside0.mk (Kd.R_drew HO_7.out)
                    have n1_ := Aside0.mk (Kd.R_drew HO_9.out)
                    have n2_ := Aside0.mk (blk_drew BK324.out)
                    have n3_ := Aside0.mk (below_drew1 HB.out)
                    clear HO_7
                    clear HO_9
                    clear BK324
                    clear HB
                    have HO_7 := n0_
                    have HO_9 := n1_
                    have BK324 := n2_
                    have HB := n3_
                    clear n0_ n1_ n2_ n3_
                    refine start_ (n := 14) (S := fun w' => w'.cell? ⟨gb324, 0, none⟩ = some (.int .i64 a1_0) ∧ w'.cell? ⟨gb324, 1, none⟩ = some (.int .i64 a1_1)) (ds := []) #[false, false, false, false, false, false, false, false, false, false, false, false, false, false] (by kernel_rfl) rfl rfl ⟨(blk_cell BK324.out 0).trans rfl, (blk_cell BK324.out 1).trans rfl⟩ (fun hHeld => ?_); refine with_tabW bureaulaw03_RunsUndone.tab9 bureaulaw03_RunsUndone.bits9 (fun HT_ HW_ => ?_)
                    generalize wc.drew = w48 at HO_7 HO_9 BK324 HB hHeld ⊢
                    refine pure_ (i := 0) (N := some 51) (v := ?_) (a' := ?_) #[true, false, false, false, false, false, false, false, false, false, false, false, false, false] rfl rfl (any_of HT_.out (by kernel_rfl)) (fun _ _ _ h => h) (Or.inl ⟨by rfl, ?_⟩) ?_ ?_
                    rotate_left
                    · intro w'
                      go_simp
                      with_reducible rfl
                    rotate_left
                    · simp only [Act.put, List.setIfInBounds_toArray, List.set_cons_zero, List.set_cons_succ, i64_w, i32_w]
                      rfl
                    refine pure_ (i := 1) (N := some 52) (v := ?_) (a' := ?_) #[true, true, false, false, false, false, false, false, false, false, false, false, false, false] rfl rfl (any_of HT_.out (by kernel_rfl)) (fun _ _ _ h => h) (Or.inl ⟨by rfl, ?_⟩) ?_ ?_
                    rotate_left
                    · intro w'
                      go_simp
                      with_reducible rfl
                    rotate_left
                    · simp only [Act.put, List.setIfInBounds_toArray, List.set_cons_zero, List.set_cons_succ, i64_w, i32_w]
                      rfl
                    refine pure_ (i := 3) (N := some 54) (v := ?_) (a' := ?_) #[true, true, false, true, false, false, false, false, false, false, false, false, false, false] rfl rfl (any_of HT_.out (by kernel_rfl)) (fun _ _ _ h => h) (Or.inl ⟨by rfl, ?_⟩) ?_ ?_
                    rotate_left
                    · intro w'
                      go_simp
                      with_reducible rfl
                    rotate_left
                    · simp only [Act.put, List.setIfInBounds_toArray, List.set_cons_zero, List.set_cons_succ, i64_w, i32_w]
                      rfl
                    refine pure_ (i := 5) (N := some 56) (v := ?_) (a' := ?_) #[true, true, false, true, false, true, false, false, false, false, false, false, false, false] rfl rfl (any_of HT_.out (by kernel_rfl)) (fun _ _ _ h => h) (Or.inl ⟨by rfl, ?_⟩) ?_ ?_
                    rotate_left
                    · intro w'
                      go_simp
                      with_reducible rfl
                    rotate_left
                    · simp only [Act.put, List.setIfInBounds_toArray, List.set_cons_zero, List.set_cons_succ, i64_w, i32_w]
                      rfl
                    refine take_ (i := 2) (N := some 53) (v := ?_) (a' := ?_) #[true, true, true, true, false, true, false, false, false, false, false, false, false, false] rfl rfl (take_ofW HT_.out HW_.out (by kernel_rfl)) (fun _ _ _ h => h) (Or.inl ⟨by rfl, ?_⟩) hHeld ?_ ?_
                    rotate_left
                    · rintro w' ⟨s0, s1⟩
                      go_simp
                      with_reducible rfl
                    rotate_left
                    · simp only [Act.put, List.setIfInBounds_toArray, List.set_cons_zero, List.set_cons_succ, i64_w, i32_w]
                      rfl
                    refine take_ (i := 4) (N := some 55) (v := ?_) (a' := ?_) #[true, true, true, true, true, true, false, false, false, false, false, false, false, false] rfl rfl (take_ofW HT_.out HW_.out (by kernel_rfl)) (fun _ _ _ h => h) (Or.inl ⟨by rfl, ?_⟩) hHeld ?_ ?_
                    rotate_left
                    · rintro w' ⟨s0, s1⟩
                      go_simp
                      with_reducible rfl
                    rotate_left
                    · simp only [Act.put, List.setIfInBounds_toArray, List.set_cons_zero, List.set_cons_succ, i64_w, i32_w]
                      rfl
                    refine one_ (i := 6) (N := some 57) #[true, true, true, true, true, true, true, false, false, false, false, false, false, false] rfl rfl (one_of HT_.out (by kernel_rfl)) (by decide) (fun K hK => ?_)
                    refine goes_ Try.func30 (by kernel_rfl) rfl #[.slice A2 l2.length c2] (by rfl) rfl rfl (by (try simp only [List.map_toArray, List.map_cons, List.map_nil]); first | done | rfl | (simp only [List.length_drop, List.length_take]; rfl)) ?_
                    with_reducible refine (runs_Total.calls kj12 _ _ l2 t334 _ ?side1 ?side2 A20.out).mono ?_
                    (case side1 => repeat (first | exact (Kd.C_below HR2.out HB.out) | (with_reducible refine Kd.C_alloc ?_ _) | (with_reducible refine Kd.C_drewN ?_ _) | (with_reducible refine Kd.C_drew ?_)))
                    (case side2 => exact HC2.out)
                    rintro e w49 ⟨rfl, hb⟩
                    refine ⟨_, rfl, ?_⟩
                    have n0_ := Aside0.mk (Kd.R_below (by (with_reducible repeat (first | apply Kd.R_alloc | apply Kd.R_drewN | apply Kd.R_drew)); exact HO_7.out) hb)
                    have n1_ := Aside0.mk (Kd.R_below (by (with_reducible repeat (first | apply Kd.R_alloc | apply Kd.R_drewN | apply Kd.R_drew)); exact HO_9.out) hb)
                    have n2_ := Aside0.mk (blk_below (g := gb324) (o := .cells #[.int .i64 a1_0, .int .i64 a1_1] 41 (0, 0)) (by (with_reducible repeat (first | refine blk_drewN ?_ _ | refine blk_drew ?_ | refine blk_alloc ?_ _)); exact BK324.out) hb)
                    have n3_ := Aside0.mk (below_step (by repeat (first | (with_reducible first | exact HB.out | apply below_alloc | apply pw_below_drewN | apply below_drew1 | refine below_set ?_ GE324.out) | exact HB.out)) hb)
                    clear HO_7
                    clear HO_9
                    clear BK324
                    clear HB
                    have HO_7 := n0_
                    have HO_9 := n1_
                    have BK324 := n2_
                    have HB := n3_
                    clear n0_ n1_ n2_ n3_
                    (try clear hb)
                    (try clear hb2)
                    (try clear hk)
                    (try clear hi)
                    obtain ⟨Ao50, co50, eo50⟩ := Kd.R_slice HO_9.out
                    (first | subst eo50 | (injection eo50 with f1_ f2_ f3_; have f4_ := f1_.symm; have f5_ := f3_.symm; clear f1_ f2_ f3_; subst f4_; subst f5_))
                    refine hK.out _ _ ⟨(blk_cell BK324.out 0).trans rfl, (blk_cell BK324.out 1).trans rfl⟩ (fun hHeld => ?_)
                    clear hK K
                    refine norm_ (a' := ?_) ?_ ?_
                    rotate_left
                    · show Act.put _ (some 57) _ = _
                      simp only [Act.put, List.setIfInBounds_toArray, List.set_cons_zero, List.set_cons_succ, i64_w, i32_w]
                      rfl
                    refine pure_ (i := 7) (N := some 58) (v := ?_) (a' := ?_) #[true, true, true, true, true, true, true, true, false, false, false, false, false, false] rfl rfl (any_of HT_.out (by kernel_rfl)) (fun _ _ _ h => h) (Or.inl ⟨by rfl, ?_⟩) ?_ ?_
                    rotate_left
                    · intro w'
                      go_simp
                      with_reducible rfl
                    rotate_left
                    · simp only [Act.put, List.setIfInBounds_toArray, List.set_cons_zero, List.set_cons_succ, i64_w, i32_w]
                      rfl
                    refine one_ (i := 8) (N := some 59) #[true, true, true, true, true, true, true, true, true, false, false, false, false, false] rfl rfl (one_of HT_.out (by kernel_rfl)) (by decide) (fun K hK => ?_)
                    refine goes_ Try.func32 (by kernel_rfl) rfl #[.slice Ao50 t330.length co50, .int .i64 a1_0, .int .i64 (wrap64 (a1_0 + t334))] (by rfl) rfl rfl (by (try simp only [List.map_toArray, List.map_cons, List.map_nil]); first | done | rfl | (simp only [List.length_drop, List.length_take]; rfl)) ?_
                    with_reducible refine (runs_Slice.calls kj12 _ _ t330 a1_0 (wrap64 (a1_0 + t334)) t335 t336 _ ?side1 ?side2 A21.out).mono ?_
                    (case side1 => repeat (first | exact (Kd.R_reads' HO_9.out).2.2 | (with_reducible refine Kd.C_alloc ?_ _) | (with_reducible refine Kd.C_drewN ?_ _) | (with_reducible refine Kd.C_drew ?_)))
                    (case side2 => exact (Kd.R_reads' HO_9.out).2.1)
                    rintro e w51 ⟨v337, rfl, ho0, hb⟩
                    refine ⟨_, rfl, ?_⟩
                    have n0_ := Aside0.mk (Kd.R_elder' (by (with_reducible repeat (first | apply Kd.R_alloc | apply Kd.R_drewN | apply Kd.R_drew)); exact HO_7.out) (Kd.R_base ho0) hb)
                    have n1_ := Aside0.mk (Kd.R_elder' (by (with_reducible repeat (first | apply Kd.R_alloc | apply Kd.R_drewN | apply Kd.R_drew)); exact HO_9.out) (Kd.R_base ho0) hb)
                    have n2_ := Aside0.mk (Kd.R_lower (Kd.R_new' (Kd.R_new' ho0 (Kd.R_lt (by (with_reducible repeat (first | apply Kd.R_alloc | apply Kd.R_drewN | apply Kd.R_drew)); exact HO_7.out))) (Kd.R_lt (by (with_reducible repeat (first | apply Kd.R_alloc | apply Kd.R_drewN | apply Kd.R_drew)); exact HO_9.out))) (below_size (by repeat (first | (with_reducible first | exact HB.out | apply below_alloc | apply pw_below_drewN | apply below_drew1 | refine below_set ?_ GE324.out) | exact HB.out))))
                    have n3_ := Aside0.mk (blk_below (g := gb324) (o := .cells #[.int .i64 a1_0, .int .i64 a1_1] 41 (0, 0)) (by (with_reducible repeat (first | refine blk_drewN ?_ _ | refine blk_drew ?_ | refine blk_alloc ?_ _)); exact BK324.out) hb)
                    have n4_ := Aside0.mk (below_step (by repeat (first | (with_reducible first | exact HB.out | apply below_alloc | apply pw_below_drewN | apply below_drew1 | refine below_set ?_ GE324.out) | exact HB.out)) hb)
                    clear HO_7
                    clear HO_9
                    clear BK324
                    clear HB
                    have HO_7 := n0_
                    have HO_9 := n1_
                    have HO338 := n2_
                    have BK324 := n3_
                    have HB := n4_
                    clear n0_ n1_ n2_ n3_ n4_
                    (try clear hb)
                    (try clear hb2)
                    (try clear hk)
                    (try clear hi)
                    (try clear ho0)
                    refine hK.out _ _ ⟨(blk_cell BK324.out 0).trans rfl, (blk_cell BK324.out 1).trans rfl⟩ (fun hHeld => ?_)
                    clear hK K
                    refine norm_ (a' := ?_) ?_ ?_
                    rotate_left
                    · show Act.put _ (some 59) _ = _
                      simp only [Act.put, List.setIfInBounds_toArray, List.set_cons_zero, List.set_cons_succ, i64_w, i32_w]
                      rfl
                    refine pure_ (i := 9) (N := some 50) (v := ?_) (a' := ?_) #[true, true, true, true, true, true, true, true, true, true, false, false, false, false] rfl rfl (any_of HT_.out (by kernel_rfl)) (fun _ _ _ h => h) (Or.inl ⟨by rfl, ?_⟩) ?_ ?_
                    rotate_left
                    · intro w'
                      go_simp
                      with_reducible rfl
                    rotate_left
                    · simp only [Act.put, List.setIfInBounds_toArray, List.set_cons_zero, List.set_cons_succ, i64_w, i32_w]
                      rfl
                    refine pure_ (i := 10) (N := some 60) (v := ?_) (a' := ?_) #[true, true, true, true, true, true, true, true, true, true, true, false, false, false] rfl rfl (any_of HT_.out (by kernel_rfl)) (fun _ _ _ h => h) (Or.inl ⟨by rfl, ?_⟩) ?_ ?_
                    rotate_left
                    · intro w'
                      go_simp
                      with_reducible rfl
                    rotate_left
                    · simp only [Act.put, List.setIfInBounds_toArray, List.set_cons_zero, List.set_cons_succ, i64_w, i32_w]
                      rfl
                    refine pure_ (i := 11) (N := some 61) (v := ?_) (a' := ?_) #[true, true, true, true, true, true, true, true, true, true, true, true, false, false] rfl rfl (any_of HT_.out (by kernel_rfl)) (fun _ _ _ h => h) (Or.inl ⟨by rfl, ?_⟩) ?_ ?_
                    rotate_left
                    · intro w'
                      go_simp
                      with_reducible rfl
                    rotate_left
                    · simp only [Act.put, List.setIfInBounds_toArray, List.set_cons_zero, List.set_cons_succ, i64_w, i32_w]
                      rfl
                    refine pure_ (i := 12) (N := some 11) (v := ?_) (a' := ?_) #[true, true, true, true, true, true, true, true, true, true, true, true, true, false] rfl rfl (any_of HT_.out (by kernel_rfl)) (fun _ _ _ h => h) (Or.inl ⟨by rfl, ?_⟩) ?_ ?_
                    rotate_left
                    · intro w'
                      go_simp
                      with_reducible rfl
                    rotate_left
                    · simp only [Act.put, List.setIfInBounds_toArray, List.set_cons_zero, List.set_cons_succ, i64_w, i32_w]
                      rfl
                    refine pure_ (i := 13) (N := some 12) (v := ?_) (a' := ?_) #[true, true, true, true, true, true, true, true, true, true, true, true, true, true] rfl rfl (any_of HT_.out (by kernel_rfl)) (fun _ _ _ h => h) (Or.inl ⟨by rfl, ?_⟩) ?_ ?_
                    rotate_left
                    · intro w'
                      go_simp
                      with_reducible rfl
                    rotate_left
                    · simp only [Act.put, List.setIfInBounds_toArray, List.set_cons_zero, List.set_cons_succ, i64_w, i32_w]
                      rfl
                    refine done_ (done_of HT_.out (by kernel_rfl)) ?_
                    try go_wp2
                    have n0_ := Aside0.mk (Kd.R_drew HO_7.out)
                    have n1_ := Aside0.mk (Kd.R_drew HO_9.out)
                    have n2_ := Aside0.mk (Kd.R_drew HO338.out)
                    have n3_ := Aside0.mk (blk_drew BK324.out)
                    have n4_ := Aside0.mk (below_drew1 HB.out)
                    clear HO_7
                    clear HO_9
                    clear HO338
                    clear BK324
                    clear HB
                    have HO_7 := n0_
                    have HO_9 := n1_
                    have HO338 := n2_
                    have BK324 := n3_
                    have HB := n4_
                    clear n0_ n1_ n2_ n3_ n4_
                    refine start_ (n := 15) (S := fun w' => w'.cell? ⟨gb324, 0, none⟩ = some (.int .i64 a1_0) ∧ w'.cell? ⟨gb324, 1, none⟩ = some (.int .i64 a1_1)) (ds := []) #[false, false, false, false, false, false, false, false, false, false, false, false, false, false, false] (by kernel_rfl) rfl rfl ⟨(blk_cell BK324.out 0).trans rfl, (blk_cell BK324.out 1).trans rfl⟩ (fun hHeld => ?_); refine with_tabW bureaulaw03_RunsUndone.tab10 bureaulaw03_RunsUndone.bits10 (fun HT_ HW_ => ?_)
                    generalize w51.drew = w52 at HO_7 HO_9 HO338 BK324 HB hHeld ⊢
                    refine pure_ (i := 0) (N := some 63) (v := ?_) (a' := ?_) #[true, false, false, false, false, false, false, false, false, false, false, false, false, false, false] rfl rfl (any_of HT_.out (by kernel_rfl)) (fun _ _ _ h => h) (Or.inl ⟨by rfl, ?_⟩) ?_ ?_
                    rotate_left
                    · intro w'
                      go_simp
                      with_reducible rfl
                    rotate_left
                    · simp only [Act.put, List.setIfInBounds_toArray, List.set_cons_zero, List.set_cons_succ, i64_w, i32_w]
                      rfl
                    refine pure_ (i := 1) (N := some 64) (v := ?_) (a' := ?_) #[true, true, false, false, false, false, false, false, false, false, false, false, false, false, false] rfl rfl (any_of HT_.out (by kernel_rfl)) (fun _ _ _ h => h) (Or.inl ⟨by rfl, ?_⟩) ?_ ?_
                    rotate_left
                    · intro w'
                      go_simp
                      with_reducible rfl
                    rotate_left
                    · simp only [Act.put, List.setIfInBounds_toArray, List.set_cons_zero, List.set_cons_succ, i64_w, i32_w]
                      rfl
                    refine pure_ (i := 3) (N := some 66) (v := ?_) (a' := ?_) #[true, true, false, true, false, false, false, false, false, false, false, false, false, false, false] rfl rfl (any_of HT_.out (by kernel_rfl)) (fun _ _ _ h => h) (Or.inl ⟨by rfl, ?_⟩) ?_ ?_
                    rotate_left
                    · intro w'
                      go_simp
                      with_reducible rfl
                    rotate_left
                    · simp only [Act.put, List.setIfInBounds_toArray, List.set_cons_zero, List.set_cons_succ, i64_w, i32_w]
                      rfl
                    refine pure_ (i := 5) (N := some 68) (v := ?_) (a' := ?_) #[true, true, false, true, false, true, false, false, false, false, false, false, false, false, false] rfl rfl (any_of HT_.out (by kernel_rfl)) (fun _ _ _ h => h) (Or.inl ⟨by rfl, ?_⟩) ?_ ?_
                    rotate_left
                    · intro w'
                      go_simp
                      with_reducible rfl
                    rotate_left
                    · simp only [Act.put, List.setIfInBounds_toArray, List.set_cons_zero, List.set_cons_succ, i64_w, i32_w]
                      rfl
                    refine pure_ (i := 8) (N := some 71) (v := ?_) (a' := ?_) #[true, true, false, true, false, true, false, false, true, false, false, false, false, false, false] rfl rfl (any_of HT_.out (by kernel_rfl)) (fun _ _ _ h => h) (Or.inl ⟨by rfl, ?_⟩) ?_ ?_
                    rotate_left
                    · intro w'
                      go_simp
                      with_reducible rfl
                    rotate_left
                    · simp only [Act.put, List.setIfInBounds_toArray, List.set_cons_zero, List.set_cons_succ, i64_w, i32_w]
                      rfl
                    refine take_ (i := 2) (N := some 65) (v := ?_) (a' := ?_) #[true, true, true, true, false, true, false, false, true, false, false, false, false, false, false] rfl rfl (take_ofW HT_.out HW_.out (by kernel_rfl)) (fun _ _ _ h => h) (Or.inl ⟨by rfl, ?_⟩) hHeld ?_ ?_
                    rotate_left
                    · rintro w' ⟨s0, s1⟩
                      go_simp
                      with_reducible rfl
                    rotate_left
                    · simp only [Act.put, List.setIfInBounds_toArray, List.set_cons_zero, List.set_cons_succ, i64_w, i32_w]
                      rfl
                    refine take_ (i := 4) (N := some 67) (v := ?_) (a' := ?_) #[true, true, true, true, true, true, false, false, true, false, false, false, false, false, false] rfl rfl (take_ofW HT_.out HW_.out (by kernel_rfl)) (fun _ _ _ h => h) (Or.inl ⟨by rfl, ?_⟩) hHeld ?_ ?_
                    rotate_left
                    · rintro w' ⟨s0, s1⟩
                      go_simp
                      with_reducible rfl
                    rotate_left
                    · simp only [Act.put, List.setIfInBounds_toArray, List.set_cons_zero, List.set_cons_succ, i64_w, i32_w]
                      rfl
                    refine one_ (i := 6) (N := some 69) #[true, true, true, true, true, true, true, false, true, false, false, false, false, false, false] rfl rfl (one_of HT_.out (by kernel_rfl)) (by decide) (fun K hK => ?_)
                    refine goes_ Try.func30 (by kernel_rfl) rfl #[.slice A2 l2.length c2] (by rfl) rfl rfl (by (try simp only [List.map_toArray, List.map_cons, List.map_nil]); first | done | rfl | (simp only [List.length_drop, List.length_take]; rfl)) ?_
                    with_reducible refine (runs_Total.calls kj12 _ _ l2 t339 _ ?side1 ?side2 A22.out).mono ?_
                    (case side1 => repeat (first | exact (Kd.C_below HR2.out HB.out) | (with_reducible refine Kd.C_alloc ?_ _) | (with_reducible refine Kd.C_drewN ?_ _) | (with_reducible refine Kd.C_drew ?_)))
                    (case side2 => exact HC2.out)
                    rintro e w53 ⟨rfl, hb⟩
                    refine ⟨_, rfl, ?_⟩
                    have n0_ := Aside0.mk (Kd.R_below (by (with_reducible repeat (first | apply Kd.R_alloc | apply Kd.R_drewN | apply Kd.R_drew)); exact HO_7.out) hb)
                    have n1_ := Aside0.mk (Kd.R_below (by (with_reducible repeat (first | apply Kd.R_alloc | apply Kd.R_drewN | apply Kd.R_drew)); exact HO_9.out) hb)
                    have n2_ := Aside0.mk (Kd.R_below (by (with_reducible repeat (first | apply Kd.R_alloc | apply Kd.R_drewN | apply Kd.R_drew)); exact HO338.out) hb)
                    have n3_ := Aside0.mk (blk_below (g := gb324) (o := .cells #[.int .i64 a1_0, .int .i64 a1_1] 41 (0, 0)) (by (with_reducible repeat (first | refine blk_drewN ?_ _ | refine blk_drew ?_ | refine blk_alloc ?_ _)); exact BK324.out) hb)
                    have n4_ := Aside0.mk (below_step (by repeat (first | (with_reducible first | exact HB.out | apply below_alloc | apply pw_below_drewN | apply below_drew1 | refine below_set ?_ GE324.out) | exact HB.out)) hb)
                    clear HO_7
                    clear HO_9
                    clear HO338
                    clear BK324
                    clear HB
                    have HO_7 := n0_
                    have HO_9 := n1_
                    have HO338 := n2_
                    have BK324 := n3_
                    have HB := n4_
                    clear n0_ n1_ n2_ n3_ n4_
                    (try clear hb)
                    (try clear hb2)
                    (try clear hk)
                    (try clear hi)
                    obtain ⟨Ao54, co54, eo54⟩ := Kd.R_slice HO_7.out
                    (first | subst eo54 | (injection eo54 with f1_ f2_ f3_; have f4_ := f1_.symm; have f5_ := f3_.symm; clear f1_ f2_ f3_; subst f4_; subst f5_))
                    refine hK.out _ _ ⟨(blk_cell BK324.out 0).trans rfl, (blk_cell BK324.out 1).trans rfl⟩ (fun hHeld => ?_)
                    clear hK K
                    refine norm_ (a' := ?_) ?_ ?_
                    rotate_left
                    · show Act.put _ (some 69) _ = _
                      simp only [Act.put, List.setIfInBounds_toArray, List.set_cons_zero, List.set_cons_succ, i64_w, i32_w]
                      rfl
                    refine pure_ (i := 7) (N := some 70) (v := ?_) (a' := ?_) #[true, true, true, true, true, true, true, true, true, false, false, false, false, false, false] rfl rfl (any_of HT_.out (by kernel_rfl)) (fun _ _ _ h => h) (Or.inl ⟨by rfl, ?_⟩) ?_ ?_
                    rotate_left
                    · intro w'
                      go_simp
                      with_reducible rfl
                    rotate_left
                    · simp only [Act.put, List.setIfInBounds_toArray, List.set_cons_zero, List.set_cons_succ, i64_w, i32_w]
                      rfl
                    refine one_ (i := 9) (N := some 72) #[true, true, true, true, true, true, true, true, true, true, false, false, false, false, false] rfl rfl (one_of HT_.out (by kernel_rfl)) (by decide) (fun K hK => ?_)
                    refine goes_ Try.func40 (by kernel_rfl) rfl #[.slice Ao50 t330.length co50, .int .i64 a1_0, .int .i64 (wrap64 (a1_0 + t339)), .slice Ao54 t326.length co54] (by rfl) rfl rfl (by (try simp only [List.map_toArray, List.map_cons, List.map_nil]); first | done | rfl | (simp only [List.length_drop, List.length_take]; rfl)) ?_
                    with_reducible refine (runs_Splice.calls kj12 _ _ t330 a1_0 (wrap64 (a1_0 + t339)) _ _ t326 t340 t341 _ ?side1 ?side2 ?side3 ?side4 A23.out).mono ?_
                    (case side1 => repeat (first | exact (Kd.R_reads' HO_9.out).2.2 | (with_reducible refine Kd.C_alloc ?_ _) | (with_reducible refine Kd.C_drewN ?_ _) | (with_reducible refine Kd.C_drew ?_)))
                    (case side2 => exact (Kd.R_reads' HO_9.out).2.1)
                    (case side3 => repeat (first | exact (Kd.R_reads' HO_7.out).2.2 | (with_reducible refine Kd.C_alloc ?_ _) | (with_reducible refine Kd.C_drewN ?_ _) | (with_reducible refine Kd.C_drew ?_)))
                    (case side4 => exact (Kd.R_reads' HO_7.out).2.1)
                    rintro e w55 ⟨v342, rfl, ho0, hb⟩
                    refine ⟨_, rfl, ?_⟩
                    have n0_ := Aside0.mk (Kd.R_elder' (by (with_reducible repeat (first | apply Kd.R_alloc | apply Kd.R_drewN | apply Kd.R_drew)); exact HO_7.out) (Kd.R_base ho0) hb)
                    have n1_ := Aside0.mk (Kd.R_elder' (by (with_reducible repeat (first | apply Kd.R_alloc | apply Kd.R_drewN | apply Kd.R_drew)); exact HO_9.out) (Kd.R_base ho0) hb)
                    have n2_ := Aside0.mk (Kd.R_elder' (by (with_reducible repeat (first | apply Kd.R_alloc | apply Kd.R_drewN | apply Kd.R_drew)); exact HO338.out) (Kd.R_base ho0) hb)
                    have n3_ := Aside0.mk (Kd.R_lower (Kd.R_new' (Kd.R_new' (Kd.R_new' ho0 (Kd.R_lt (by (with_reducible repeat (first | apply Kd.R_alloc | apply Kd.R_drewN | apply Kd.R_drew)); exact HO_7.out))) (Kd.R_lt (by (with_reducible repeat (first | apply Kd.R_alloc | apply Kd.R_drewN | apply Kd.R_drew)); exact HO_9.out))) (Kd.R_lt (by (with_reducible repeat (first | apply Kd.R_alloc | apply Kd.R_drewN | apply Kd.R_drew)); exact HO338.out))) (below_size (by repeat (first | (with_reducible first | exact HB.out | apply below_alloc | apply pw_below_drewN | apply below_drew1 | refine below_set ?_ GE324.out) | exact HB.out))))
                    have n4_ := Aside0.mk (blk_below (g := gb324) (o := .cells #[.int .i64 a1_0, .int .i64 a1_1] 41 (0, 0)) (by (with_reducible repeat (first | refine blk_drewN ?_ _ | refine blk_drew ?_ | refine blk_alloc ?_ _)); exact BK324.out) hb)
                    have n5_ := Aside0.mk (below_step (by repeat (first | (with_reducible first | exact HB.out | apply below_alloc | apply pw_below_drewN | apply below_drew1 | refine below_set ?_ GE324.out) | exact HB.out)) hb)
                    clear HO_7
                    clear HO_9
                    clear HO338
                    clear BK324
                    clear HB
                    have HO_7 := n0_
                    have HO_9 := n1_
                    have HO338 := n2_
                    have HO343 := n3_
                    have BK324 := n4_
                    have HB := n5_
                    clear n0_ n1_ n2_ n3_ n4_ n5_
                    (try clear hb)
                    (try clear hb2)
                    (try clear hk)
                    (try clear hi)
                    (try clear ho0)
                    refine hK.out _ _ ⟨(blk_cell BK324.out 0).trans rfl, (blk_cell BK324.out 1).trans rfl⟩ (fun hHeld => ?_)
                    clear hK K
                    refine norm_ (a' := ?_) ?_ ?_
                    rotate_left
                    · show Act.put _ (some 72) _ = _
                      simp only [Act.put, List.setIfInBounds_toArray, List.set_cons_zero, List.set_cons_succ, i64_w, i32_w]
                      rfl
                    refine pure_ (i := 10) (N := some 62) (v := ?_) (a' := ?_) #[true, true, true, true, true, true, true, true, true, true, true, false, false, false, false] rfl rfl (any_of HT_.out (by kernel_rfl)) (fun _ _ _ h => h) (Or.inl ⟨by rfl, ?_⟩) ?_ ?_
                    rotate_left
                    · intro w'
                      go_simp
                      with_reducible rfl
                    rotate_left
                    · simp only [Act.put, List.setIfInBounds_toArray, List.set_cons_zero, List.set_cons_succ, i64_w, i32_w]
                      rfl
                    refine pure_ (i := 11) (N := some 73) (v := ?_) (a' := ?_) #[true, true, true, true, true, true, true, true, true, true, true, true, false, false, false] rfl rfl (any_of HT_.out (by kernel_rfl)) (fun _ _ _ h => h) (Or.inl ⟨by rfl, ?_⟩) ?_ ?_
                    rotate_left
                    · intro w'
                      go_simp
                      with_reducible rfl
                    rotate_left
                    · simp only [Act.put, List.setIfInBounds_toArray, List.set_cons_zero, List.set_cons_succ, i64_w, i32_w]
                      rfl
                    refine pure_ (i := 12) (N := some 74) (v := ?_) (a' := ?_) #[true, true, true, true, true, true, true, true, true, true, true, true, true, false, false] rfl rfl (any_of HT_.out (by kernel_rfl)) (fun _ _ _ h => h) (Or.inl ⟨by rfl, ?_⟩) ?_ ?_
                    rotate_left
                    · intro w'
                      go_simp
                      with_reducible rfl
                    rotate_left
                    · simp only [Act.put, List.setIfInBounds_toArray, List.set_cons_zero, List.set_cons_succ, i64_w, i32_w]
                      rfl
                    refine pure_ (i := 13) (N := some 13) (v := ?_) (a' := ?_) #[true, true, true, true, true, true, true, true, true, true, true, true, true, true, false] rfl rfl (any_of HT_.out (by kernel_rfl)) (fun _ _ _ h => h) (Or.inl ⟨by rfl, ?_⟩) ?_ ?_
                    rotate_left
                    · intro w'
                      go_simp
                      with_reducible rfl
                    rotate_left
                    · simp only [Act.put, List.setIfInBounds_toArray, List.set_cons_zero, List.set_cons_succ, i64_w, i32_w]
                      rfl
                    refine pure_ (i := 14) (N := some 14) (v := ?_) (a' := ?_) #[true, true, true, true, true, true, true, true, true, true, true, true, true, true, true] rfl rfl (any_of HT_.out (by kernel_rfl)) (fun _ _ _ h => h) (Or.inl ⟨by rfl, ?_⟩) ?_ ?_
                    rotate_left
                    · intro w'
                      go_simp
                      with_reducible rfl
                    rotate_left
                    · simp only [Act.put, List.setIfInBounds_toArray, List.set_cons_zero, List.set_cons_succ, i64_w, i32_w]
                      rfl
                    refine done_ (done_of HT_.out (by kernel_rfl)) ?_
                    obtain ⟨Ao56, co56, eo56⟩ := Kd.R_slice HO338.out
                    subst eo56
                    try go_wp2_with (first | (go_at_call 27; (with_reducible refine (bureauref03_Same.calls kj12 _ _ t335 _ _ l2 false _ ?side1 ?side2 ?side3 ?side4 A25.out).mono ?_); (case side1 => repeat (first | exact (Kd.R_reads' HO338.out).2.2 | (with_reducible refine Kd.C_alloc ?_ _) | (with_reducible refine Kd.C_drewN ?_ _) | (with_reducible refine Kd.C_drew ?_))); (case side2 => exact (Kd.R_reads' HO338.out).2.1); (case side3 => repeat (first | exact (Kd.C_below HR2.out HB.out) | (with_reducible refine Kd.C_alloc ?_ _) | (with_reducible refine Kd.C_drewN ?_ _) | (with_reducible refine Kd.C_drew ?_))); (case side4 => exact HC2.out); rintro e w' ⟨rfl, ⟨nd, rfl⟩⟩))
                    go_ret
                    exact ⟨by first | rfl | (simp [errW_none, errW_some] <;> rfl) | (simp [*, errW_none, errW_some] <;> rfl), by repeat (first | (with_reducible first | exact HB.out | apply below_alloc | apply pw_below_drewN | apply below_drew1 | refine below_set ?_ GE324.out) | exact HB.out)⟩
                · rw [if_neg c24] at H
                  have c24b0 : (t336 == 0) = false := beq_eq_false_iff_ne.mpr c24
                  have c24b1 : (t336 != 0) = true := bne_iff_ne.mpr c24
                  obtain rfl := Option.some.inj H
                  try go_wp2
                  have n0_ := Aside0.mk (Kd.R_drew HO_7.out)
                  have n1_ := Aside0.mk (Kd.R_drew HO_9.out)
                  have n2_ := Aside0.mk (blk_drew BK324.out)
                  have n3_ := Aside0.mk (below_drew1 HB.out)
                  clear HO_7
                  clear HO_9
                  clear BK324
                  clear HB
                  have HO_7 := n0_
                  have HO_9 := n1_
                  have BK324 := n2_
                  have HB := n3_
                  clear n0_ n1_ n2_ n3_
                  refine start_ (n := 14) (S := fun w' => w'.cell? ⟨gb324, 0, none⟩ = some (.int .i64 a1_0) ∧ w'.cell? ⟨gb324, 1, none⟩ = some (.int .i64 a1_1)) (ds := []) #[false, false, false, false, false, false, false, false, false, false, false, false, false, false] (by kernel_rfl) rfl rfl ⟨(blk_cell BK324.out 0).trans rfl, (blk_cell BK324.out 1).trans rfl⟩ (fun hHeld => ?_); refine with_tabW bureaulaw03_RunsUndone.tab9 bureaulaw03_RunsUndone.bits9 (fun HT_ HW_ => ?_)
                  generalize wc.drew = w57 at HO_7 HO_9 BK324 HB hHeld ⊢
                  refine pure_ (i := 0) (N := some 51) (v := ?_) (a' := ?_) #[true, false, false, false, false, false, false, false, false, false, false, false, false, false] rfl rfl (any_of HT_.out (by kernel_rfl)) (fun _ _ _ h => h) (Or.inl ⟨by rfl, ?_⟩) ?_ ?_
                  rotate_left
                  · intro w'
                    go_simp
                    with_reducible rfl
                  rotate_left
                  · simp only [Act.put, List.setIfInBounds_toArray, List.set_cons_zero, List.set_cons_succ, i64_w, i32_w]
                    rfl
                  refine pure_ (i := 1) (N := some 52) (v := ?_) (a' := ?_) #[true, true, false, false, false, false, false, false, false, false, false, false, false, false] rfl rfl (any_of HT_.out (by kernel_rfl)) (fun _ _ _ h => h) (Or.inl ⟨by rfl, ?_⟩) ?_ ?_
                  rotate_left
                  · intro w'
                    go_simp
                    with_reducible rfl
                  rotate_left
                  · simp only [Act.put, List.setIfInBounds_toArray, List.set_cons_zero, List.set_cons_succ, i64_w, i32_w]
                    rfl
                  refine pure_ (i := 3) (N := some 54) (v := ?_) (a' := ?_) #[true, true, false, true, false, false, false, false, false, false, false, false, false, false] rfl rfl (any_of HT_.out (by kernel_rfl)) (fun _ _ _ h => h) (Or.inl ⟨by rfl, ?_⟩) ?_ ?_
                  rotate_left
                  · intro w'
                    go_simp
                    with_reducible rfl
                  rotate_left
                  · simp only [Act.put, List.setIfInBounds_toArray, List.set_cons_zero, List.set_cons_succ, i64_w, i32_w]
                    rfl
                  refine pure_ (i := 5) (N := some 56) (v := ?_) (a' := ?_) #[true, true, false, true, false, true, false, false, false, false, false, false, false, false] rfl rfl (any_of HT_.out (by kernel_rfl)) (fun _ _ _ h => h) (Or.inl ⟨by rfl, ?_⟩) ?_ ?_
                  rotate_left
                  · intro w'
                    go_simp
                    with_reducible rfl
                  rotate_left
                  · simp only [Act.put, List.setIfInBounds_toArray, List.set_cons_zero, List.set_cons_succ, i64_w, i32_w]
                    rfl
                  refine take_ (i := 2) (N := some 53) (v := ?_) (a' := ?_) #[true, true, true, true, false, true, false, false, false, false, false, false, false, false] rfl rfl (take_ofW HT_.out HW_.out (by kernel_rfl)) (fun _ _ _ h => h) (Or.inl ⟨by rfl, ?_⟩) hHeld ?_ ?_
                  rotate_left
                  · rintro w' ⟨s0, s1⟩
                    go_simp
                    with_reducible rfl
                  rotate_left
                  · simp only [Act.put, List.setIfInBounds_toArray, List.set_cons_zero, List.set_cons_succ, i64_w, i32_w]
                    rfl
                  refine take_ (i := 4) (N := some 55) (v := ?_) (a' := ?_) #[true, true, true, true, true, true, false, false, false, false, false, false, false, false] rfl rfl (take_ofW HT_.out HW_.out (by kernel_rfl)) (fun _ _ _ h => h) (Or.inl ⟨by rfl, ?_⟩) hHeld ?_ ?_
                  rotate_left
                  · rintro w' ⟨s0, s1⟩
                    go_simp
                    with_reducible rfl
                  rotate_left
                  · simp only [Act.put, List.setIfInBounds_toArray, List.set_cons_zero, List.set_cons_succ, i64_w, i32_w]
                    rfl
                  refine one_ (i := 6) (N := some 57) #[true, true, true, true, true, true, true, false, false, false, false, false, false, false] rfl rfl (one_of HT_.out (by kernel_rfl)) (by decide) (fun K hK => ?_)
                  refine goes_ Try.func30 (by kernel_rfl) rfl #[.slice A2 l2.length c2] (by rfl) rfl rfl (by (try simp only [List.map_toArray, List.map_cons, List.map_nil]); first | done | rfl | (simp only [List.length_drop, List.length_take]; rfl)) ?_
                  with_reducible refine (runs_Total.calls kj12 _ _ l2 t334 _ ?side1 ?side2 A20.out).mono ?_
                  (case side1 => repeat (first | exact (Kd.C_below HR2.out HB.out) | (with_reducible refine Kd.C_alloc ?_ _) | (with_reducible refine Kd.C_drewN ?_ _) | (with_reducible refine Kd.C_drew ?_)))
                  (case side2 => exact HC2.out)
                  rintro e w58 ⟨rfl, hb⟩
                  refine ⟨_, rfl, ?_⟩
                  have n0_ := Aside0.mk (Kd.R_below (by (with_reducible repeat (first | apply Kd.R_alloc | apply Kd.R_drewN | apply Kd.R_drew)); exact HO_7.out) hb)
                  have n1_ := Aside0.mk (Kd.R_below (by (with_reducible repeat (first | apply Kd.R_alloc | apply Kd.R_drewN | apply Kd.R_drew)); exact HO_9.out) hb)
                  have n2_ := Aside0.mk (blk_below (g := gb324) (o := .cells #[.int .i64 a1_0, .int .i64 a1_1] 41 (0, 0)) (by (with_reducible repeat (first | refine blk_drewN ?_ _ | refine blk_drew ?_ | refine blk_alloc ?_ _)); exact BK324.out) hb)
                  have n3_ := Aside0.mk (below_step (by repeat (first | (with_reducible first | exact HB.out | apply below_alloc | apply pw_below_drewN | apply below_drew1 | refine below_set ?_ GE324.out) | exact HB.out)) hb)
                  clear HO_7
                  clear HO_9
                  clear BK324
                  clear HB
                  have HO_7 := n0_
                  have HO_9 := n1_
                  have BK324 := n2_
                  have HB := n3_
                  clear n0_ n1_ n2_ n3_
                  (try clear hb)
                  (try clear hb2)
                  (try clear hk)
                  (try clear hi)
                  obtain ⟨Ao59, co59, eo59⟩ := Kd.R_slice HO_9.out
                  (first | subst eo59 | (injection eo59 with f1_ f2_ f3_; have f4_ := f1_.symm; have f5_ := f3_.symm; clear f1_ f2_ f3_; subst f4_; subst f5_))
                  refine hK.out _ _ ⟨(blk_cell BK324.out 0).trans rfl, (blk_cell BK324.out 1).trans rfl⟩ (fun hHeld => ?_)
                  clear hK K
                  refine norm_ (a' := ?_) ?_ ?_
                  rotate_left
                  · show Act.put _ (some 57) _ = _
                    simp only [Act.put, List.setIfInBounds_toArray, List.set_cons_zero, List.set_cons_succ, i64_w, i32_w]
                    rfl
                  refine pure_ (i := 7) (N := some 58) (v := ?_) (a' := ?_) #[true, true, true, true, true, true, true, true, false, false, false, false, false, false] rfl rfl (any_of HT_.out (by kernel_rfl)) (fun _ _ _ h => h) (Or.inl ⟨by rfl, ?_⟩) ?_ ?_
                  rotate_left
                  · intro w'
                    go_simp
                    with_reducible rfl
                  rotate_left
                  · simp only [Act.put, List.setIfInBounds_toArray, List.set_cons_zero, List.set_cons_succ, i64_w, i32_w]
                    rfl
                  refine one_ (i := 8) (N := some 59) #[true, true, true, true, true, true, true, true, true, false, false, false, false, false] rfl rfl (one_of HT_.out (by kernel_rfl)) (by decide) (fun K hK => ?_)
                  refine goes_ Try.func32 (by kernel_rfl) rfl #[.slice Ao59 t330.length co59, .int .i64 a1_0, .int .i64 (wrap64 (a1_0 + t334))] (by rfl) rfl rfl (by (try simp only [List.map_toArray, List.map_cons, List.map_nil]); first | done | rfl | (simp only [List.length_drop, List.length_take]; rfl)) ?_
                  with_reducible refine (runs_Slice.calls kj12 _ _ t330 a1_0 (wrap64 (a1_0 + t334)) t335 t336 _ ?side1 ?side2 A21.out).mono ?_
                  (case side1 => repeat (first | exact (Kd.R_reads' HO_9.out).2.2 | (with_reducible refine Kd.C_alloc ?_ _) | (with_reducible refine Kd.C_drewN ?_ _) | (with_reducible refine Kd.C_drew ?_)))
                  (case side2 => exact (Kd.R_reads' HO_9.out).2.1)
                  rintro e w60 ⟨v337, rfl, ho0, hb⟩
                  refine ⟨_, rfl, ?_⟩
                  have n0_ := Aside0.mk (Kd.R_elder' (by (with_reducible repeat (first | apply Kd.R_alloc | apply Kd.R_drewN | apply Kd.R_drew)); exact HO_7.out) (Kd.R_base ho0) hb)
                  have n1_ := Aside0.mk (Kd.R_elder' (by (with_reducible repeat (first | apply Kd.R_alloc | apply Kd.R_drewN | apply Kd.R_drew)); exact HO_9.out) (Kd.R_base ho0) hb)
                  have n2_ := Aside0.mk (Kd.R_lower (Kd.R_new' (Kd.R_new' ho0 (Kd.R_lt (by (with_reducible repeat (first | apply Kd.R_alloc | apply Kd.R_drewN | apply Kd.R_drew)); exact HO_7.out))) (Kd.R_lt (by (with_reducible repeat (first | apply Kd.R_alloc | apply Kd.R_drewN | apply Kd.R_drew)); exact HO_9.out))) (below_size (by repeat (first | (with_reducible first | exact HB.out | apply below_alloc | apply pw_below_drewN | apply below_drew1 | refine below_set ?_ GE324.out) | exact HB.out))))
                  have n3_ := Aside0.mk (blk_below (g := gb324) (o := .cells #[.int .i64 a1_0, .int .i64 a1_1] 41 (0, 0)) (by (with_reducible repeat (first | refine blk_drewN ?_ _ | refine blk_drew ?_ | refine blk_alloc ?_ _)); exact BK324.out) hb)
                  have n4_ := Aside0.mk (below_step (by repeat (first | (with_reducible first | exact HB.out | apply below_alloc | apply pw_below_drewN | apply below_drew1 | refine below_set ?_ GE324.out) | exact HB.out)) hb)
                  clear HO_7
                  clear HO_9
                  clear BK324
                  clear HB
                  have HO_7 := n0_
                  have HO_9 := n1_
                  have HO338 := n2_
                  have BK324 := n3_
                  have HB := n4_
                  clear n0_ n1_ n2_ n3_ n4_
                  (try clear hb)
                  (try clear hb2)
                  (try clear hk)
                  (try clear hi)
                  (try clear ho0)
                  refine hK.out _ _ ⟨(blk_cell BK324.out 0).trans rfl, (blk_cell BK324.out 1).trans rfl⟩ (fun hHeld => ?_)
                  clear hK K
                  refine norm_ (a' := ?_) ?_ ?_
                  rotate_left
                  · show Act.put _ (some 59) _ = _
                    simp only [Act.put, List.setIfInBounds_toArray, List.set_cons_zero, List.set_cons_succ, i64_w, i32_w]
                    rfl
                  refine pure_ (i := 9) (N := some 50) (v := ?_) (a' := ?_) #[true, true, true, true, true, true, true, true, true, true, false, false, false, false] rfl rfl (any_of HT_.out (by kernel_rfl)) (fun _ _ _ h => h) (Or.inl ⟨by rfl, ?_⟩) ?_ ?_
                  rotate_left
                  · intro w'
                    go_simp
                    with_reducible rfl
                  rotate_left
                  · simp only [Act.put, List.setIfInBounds_toArray, List.set_cons_zero, List.set_cons_succ, i64_w, i32_w]
                    rfl
                  refine pure_ (i := 10) (N := some 60) (v := ?_) (a' := ?_) #[true, true, true, true, true, true, true, true, true, true, true, false, false, false] rfl rfl (any_of HT_.out (by kernel_rfl)) (fun _ _ _ h => h) (Or.inl ⟨by rfl, ?_⟩) ?_ ?_
                  rotate_left
                  · intro w'
                    go_simp
                    with_reducible rfl
                  rotate_left
                  · simp only [Act.put, List.setIfInBounds_toArray, List.set_cons_zero, List.set_cons_succ, i64_w, i32_w]
                    rfl
                  refine pure_ (i := 11) (N := some 61) (v := ?_) (a' := ?_) #[true, true, true, true, true, true, true, true, true, true, true, true, false, false] rfl rfl (any_of HT_.out (by kernel_rfl)) (fun _ _ _ h => h) (Or.inl ⟨by rfl, ?_⟩) ?_ ?_
                  rotate_left
                  · intro w'
                    go_simp
                    with_reducible rfl
                  rotate_left
                  · simp only [Act.put, List.setIfInBounds_toArray, List.set_cons_zero, List.set_cons_succ, i64_w, i32_w]
                    rfl
                  refine pure_ (i := 12) (N := some 11) (v := ?_) (a' := ?_) #[true, true, true, true, true, true, true, true, true, true, true, true, true, false] rfl rfl (any_of HT_.out (by kernel_rfl)) (fun _ _ _ h => h) (Or.inl ⟨by rfl, ?_⟩) ?_ ?_
                  rotate_left
                  · intro w'
                    go_simp
                    with_reducible rfl
                  rotate_left
                  · simp only [Act.put, List.setIfInBounds_toArray, List.set_cons_zero, List.set_cons_succ, i64_w, i32_w]
                    rfl
                  refine pure_ (i := 13) (N := some 12) (v := ?_) (a' := ?_) #[true, true, true, true, true, true, true, true, true, true, true, true, true, true] rfl rfl (any_of HT_.out (by kernel_rfl)) (fun _ _ _ h => h) (Or.inl ⟨by rfl, ?_⟩) ?_ ?_
                  rotate_left
                  · intro w'
                    go_simp
                    with_reducible rfl
                  rotate_left
                  · simp only [Act.put, List.setIfInBounds_toArray, List.set_cons_zero, List.set_cons_succ, i64_w, i32_w]
                    rfl
                  refine done_ (done_of HT_.out (by kernel_rfl)) ?_
                  try go_wp2
                  have n0_ := Aside0.mk (Kd.R_drew HO_7.out)
                  have n1_ := Aside0.mk (Kd.R_drew HO_9.out)
                  have n2_ := Aside0.mk (Kd.R_drew HO338.out)
                  have n3_ := Aside0.mk (blk_drew BK324.out)
                  have n4_ := Aside0.mk (below_drew1 HB.out)
                  clear HO_7
                  clear HO_9
                  clear HO338
                  clear BK324
                  clear HB
                  have HO_7 := n0_
                  have HO_9 := n1_
                  have HO338 := n2_
                  have BK324 := n3_
                  have HB := n4_
                  clear n0_ n1_ n2_ n3_ n4_
                  refine start_ (n := 15) (S := fun w' => w'.cell? ⟨gb324, 0, none⟩ = some (.int .i64 a1_0) ∧ w'.cell? ⟨gb324, 1, none⟩ = some (.int .i64 a1_1)) (ds := []) #[false, false, false, false, false, false, false, false, false, false, false, false, false, false, false] (by kernel_rfl) rfl rfl ⟨(blk_cell BK324.out 0).trans rfl, (blk_cell BK324.out 1).trans rfl⟩ (fun hHeld => ?_); refine with_tabW bureaulaw03_RunsUndone.tab10 bureaulaw03_RunsUndone.bits10 (fun HT_ HW_ => ?_)
                  generalize w60.drew = w61 at HO_7 HO_9 HO338 BK324 HB hHeld ⊢
                  refine pure_ (i := 0) (N := some 63) (v := ?_) (a' := ?_) #[true, false, false, false, false, false, false, false, false, false, false, false, false, false, false] rfl rfl (any_of HT_.out (by kernel_rfl)) (fun _ _ _ h => h) (Or.inl ⟨by rfl, ?_⟩) ?_ ?_
                  rotate_left
                  · intro w'
                    go_simp
                    with_reducible rfl
                  rotate_left
                  · simp only [Act.put, List.setIfInBounds_toArray, List.set_cons_zero, List.set_cons_succ, i64_w, i32_w]
                    rfl
                  refine pure_ (i := 1) (N := some 64) (v := ?_) (a' := ?_) #[true, true, false, false, false, false, false, false, false, false, false, false, false, false, false] rfl rfl (any_of HT_.out (by kernel_rfl)) (fun _ _ _ h => h) (Or.inl ⟨by rfl, ?_⟩) ?_ ?_
                  rotate_left
                  · intro w'
                    go_simp
                    with_reducible rfl
                  rotate_left
                  · simp only [Act.put, List.setIfInBounds_toArray, List.set_cons_zero, List.set_cons_succ, i64_w, i32_w]
                    rfl
                  refine pure_ (i := 3) (N := some 66) (v := ?_) (a' := ?_) #[true, true, false, true, false, false, false, false, false, false, false, false, false, false, false] rfl rfl (any_of HT_.out (by kernel_rfl)) (fun _ _ _ h => h) (Or.inl ⟨by rfl, ?_⟩) ?_ ?_
                  rotate_left
                  · intro w'
                    go_simp
                    with_reducible rfl
                  rotate_left
                  · simp only [Act.put, List.setIfInBounds_toArray, List.set_cons_zero, List.set_cons_succ, i64_w, i32_w]
                    rfl
                  refine pure_ (i := 5) (N := some 68) (v := ?_) (a' := ?_) #[true, true, false, true, false, true, false, false, false, false, false, false, false, false, false] rfl rfl (any_of HT_.out (by kernel_rfl)) (fun _ _ _ h => h) (Or.inl ⟨by rfl, ?_⟩) ?_ ?_
                  rotate_left
                  · intro w'
                    go_simp
                    with_reducible rfl
                  rotate_left
                  · simp only [Act.put, List.setIfInBounds_toArray, List.set_cons_zero, List.set_cons_succ, i64_w, i32_w]
                    rfl
                  refine pure_ (i := 8) (N := some 71) (v := ?_) (a' := ?_) #[true, true, false, true, false, true, false, false, true, false, false, false, false, false, false] rfl rfl (any_of HT_.out (by kernel_rfl)) (fun _ _ _ h => h) (Or.inl ⟨by rfl, ?_⟩) ?_ ?_
                  rotate_left
                  · intro w'
                    go_simp
                    with_reducible rfl
                  rotate_left
                  · simp only [Act.put, List.setIfInBounds_toArray, List.set_cons_zero, List.set_cons_succ, i64_w, i32_w]
                    rfl
                  refine take_ (i := 2) (N := some 65) (v := ?_) (a' := ?_) #[true, true, true, true, false, true, false, false, true, false, false, false, false, false, false] rfl rfl (take_ofW HT_.out HW_.out (by kernel_rfl)) (fun _ _ _ h => h) (Or.inl ⟨by rfl, ?_⟩) hHeld ?_ ?_
                  rotate_left
                  · rintro w' ⟨s0, s1⟩
                    go_simp
                    with_reducible rfl
                  rotate_left
                  · simp only [Act.put, List.setIfInBounds_toArray, List.set_cons_zero, List.set_cons_succ, i64_w, i32_w]
                    rfl
                  refine take_ (i := 4) (N := some 67) (v := ?_) (a' := ?_) #[true, true, true, true, true, true, false, false, true, false, false, false, false, false, false] rfl rfl (take_ofW HT_.out HW_.out (by kernel_rfl)) (fun _ _ _ h => h) (Or.inl ⟨by rfl, ?_⟩) hHeld ?_ ?_
                  rotate_left
                  · rintro w' ⟨s0, s1⟩
                    go_simp
                    with_reducible rfl
                  rotate_left
                  · simp only [Act.put, List.setIfInBounds_toArray, List.set_cons_zero, List.set_cons_succ, i64_w, i32_w]
                    rfl
                  refine one_ (i := 6) (N := some 69) #[true, true, true, true, true, true, true, false, true, false, false, false, false, false, false] rfl rfl (one_of HT_.out (by kernel_rfl)) (by decide) (fun K hK => ?_)
                  refine goes_ Try.func30 (by kernel_rfl) rfl #[.slice A2 l2.length c2] (by rfl) rfl rfl (by (try simp only [List.map_toArray, List.map_cons, List.map_nil]); first | done | rfl | (simp only [List.length_drop, List.length_take]; rfl)) ?_
                  with_reducible refine (runs_Total.calls kj12 _ _ l2 t339 _ ?side1 ?side2 A22.out).mono ?_
                  (case side1 => repeat (first | exact (Kd.C_below HR2.out HB.out) | (with_reducible refine Kd.C_alloc ?_ _) | (with_reducible refine Kd.C_drewN ?_ _) | (with_reducible refine Kd.C_drew ?_)))
                  (case side2 => exact HC2.out)
                  rintro e w62 ⟨rfl, hb⟩
                  refine ⟨_, rfl, ?_⟩
                  have n0_ := Aside0.mk (Kd.R_below (by (with_reducible repeat (first | apply Kd.R_alloc | apply Kd.R_drewN | apply Kd.R_drew)); exact HO_7.out) hb)
                  have n1_ := Aside0.mk (Kd.R_below (by (with_reducible repeat (first | apply Kd.R_alloc | apply Kd.R_drewN | apply Kd.R_drew)); exact HO_9.out) hb)
                  have n2_ := Aside0.mk (Kd.R_below (by (with_reducible repeat (first | apply Kd.R_alloc | apply Kd.R_drewN | apply Kd.R_drew)); exact HO338.out) hb)
                  have n3_ := Aside0.mk (blk_below (g := gb324) (o := .cells #[.int .i64 a1_0, .int .i64 a1_1] 41 (0, 0)) (by (with_reducible repeat (first | refine blk_drewN ?_ _ | refine blk_drew ?_ | refine blk_alloc ?_ _)); exact BK324.out) hb)
                  have n4_ := Aside0.mk (below_step (by repeat (first | (with_reducible first | exact HB.out | apply below_alloc | apply pw_below_drewN | apply below_drew1 | refine below_set ?_ GE324.out) | exact HB.out)) hb)
                  clear HO_7
                  clear HO_9
                  clear HO338
                  clear BK324
                  clear HB
                  have HO_7 := n0_
                  have HO_9 := n1_
                  have HO338 := n2_
                  have BK324 := n3_
                  have HB := n4_
                  clear n0_ n1_ n2_ n3_ n4_
                  (try clear hb)
                  (try clear hb2)
                  (try clear hk)
                  (try clear hi)
                  obtain ⟨Ao63, co63, eo63⟩ := Kd.R_slice HO_7.out
                  (first | subst eo63 | (injection eo63 with f1_ f2_ f3_; have f4_ := f1_.symm; have f5_ := f3_.symm; clear f1_ f2_ f3_; subst f4_; subst f5_))
                  refine hK.out _ _ ⟨(blk_cell BK324.out 0).trans rfl, (blk_cell BK324.out 1).trans rfl⟩ (fun hHeld => ?_)
                  clear hK K
                  refine norm_ (a' := ?_) ?_ ?_
                  rotate_left
                  · show Act.put _ (some 69) _ = _
                    simp only [Act.put, List.setIfInBounds_toArray, List.set_cons_zero, List.set_cons_succ, i64_w, i32_w]
                    rfl
                  refine pure_ (i := 7) (N := some 70) (v := ?_) (a' := ?_) #[true, true, true, true, true, true, true, true, true, false, false, false, false, false, false] rfl rfl (any_of HT_.out (by kernel_rfl)) (fun _ _ _ h => h) (Or.inl ⟨by rfl, ?_⟩) ?_ ?_
                  rotate_left
                  · intro w'
                    go_simp
                    with_reducible rfl
                  rotate_left
                  · simp only [Act.put, List.setIfInBounds_toArray, List.set_cons_zero, List.set_cons_succ, i64_w, i32_w]
                    rfl
                  refine one_ (i := 9) (N := some 72) #[true, true, true, true, true, true, true, true, true, true, false, false, false, false, false] rfl rfl (one_of HT_.out (by kernel_rfl)) (by decide) (fun K hK => ?_)
                  refine goes_ Try.func40 (by kernel_rfl) rfl #[.slice Ao59 t330.length co59, .int .i64 a1_0, .int .i64 (wrap64 (a1_0 + t339)), .slice Ao63 t326.length co63] (by rfl) rfl rfl (by (try simp only [List.map_toArray, List.map_cons, List.map_nil]); first | done | rfl | (simp only [List.length_drop, List.length_take]; rfl)) ?_
                  with_reducible refine (runs_Splice.calls kj12 _ _ t330 a1_0 (wrap64 (a1_0 + t339)) _ _ t326 t340 t341 _ ?side1 ?side2 ?side3 ?side4 A23.out).mono ?_
                  (case side1 => repeat (first | exact (Kd.R_reads' HO_9.out).2.2 | (with_reducible refine Kd.C_alloc ?_ _) | (with_reducible refine Kd.C_drewN ?_ _) | (with_reducible refine Kd.C_drew ?_)))
                  (case side2 => exact (Kd.R_reads' HO_9.out).2.1)
                  (case side3 => repeat (first | exact (Kd.R_reads' HO_7.out).2.2 | (with_reducible refine Kd.C_alloc ?_ _) | (with_reducible refine Kd.C_drewN ?_ _) | (with_reducible refine Kd.C_drew ?_)))
                  (case side4 => exact (Kd.R_reads' HO_7.out).2.1)
                  rintro e w64 ⟨v342, rfl, ho0, hb⟩
                  refine ⟨_, rfl, ?_⟩
                  have n0_ := Aside0.mk (Kd.R_elder' (by (with_reducible repeat (first | apply Kd.R_alloc | apply Kd.R_drewN | apply Kd.R_drew)); exact HO_7.out) (Kd.R_base ho0) hb)
                  have n1_ := Aside0.mk (Kd.R_elder' (by (with_reducible repeat (first | apply Kd.R_alloc | apply Kd.R_drewN | apply Kd.R_drew)); exact HO_9.out) (Kd.R_base ho0) hb)
                  have n2_ := Aside0.mk (Kd.R_elder' (by (with_reducible repeat (first | apply Kd.R_alloc | apply Kd.R_drewN | apply Kd.R_drew)); exact HO338.out) (Kd.R_base ho0) hb)
                  have n3_ := Aside0.mk (Kd.R_lower (Kd.R_new' (Kd.R_new' (Kd.R_new' ho0 (Kd.R_lt (by (with_reducible repeat (first | apply Kd.R_alloc | apply Kd.R_drewN | apply Kd.R_drew)); exact HO_7.out))) (Kd.R_lt (by (with_reducible repeat (first | apply Kd.R_alloc | apply Kd.R_drewN | apply Kd.R_drew)); exact HO_9.out))) (Kd.R_lt (by (with_reducible repeat (first | apply Kd.R_alloc | apply Kd.R_drewN | apply Kd.R_drew)); exact HO338.out))) (below_size (by repeat (first | (with_reducible first | exact HB.out | apply below_alloc | apply pw_below_drewN | apply below_drew1 | refine below_set ?_ GE324.out) | exact HB.out))))
                  have n4_ := Aside0.mk (blk_below (g := gb324) (o := .cells #[.int .i64 a1_0, .int .i64 a1_1] 41 (0, 0)) (by (with_reducible repeat (first | refine blk_drewN ?_ _ | refine blk_drew ?_ | refine blk_alloc ?_ _)); exact BK324.out) hb)
                  have n5_ := Aside0.mk (below_step (by repeat (first | (with_reducible first | exact HB.out | apply below_alloc | apply pw_below_drewN | apply below_drew1 | refine below_set ?_ GE324.out) | exact HB.out)) hb)
                  clear HO_7
                  clear HO_9
                  clear HO338
                  clear BK324
                  clear HB
                  have HO_7 := n0_
                  have HO_9 := n1_
                  have HO338 := n2_
                  have HO343 := n3_
                  have BK324 := n4_
                  have HB := n5_
                  clear n0_ n1_ n2_ n3_ n4_ n5_
                  (try clear hb)
                  (try clear hb2)
                  (try clear hk)
                  (try clear hi)
                  (try clear ho0)
                  refine hK.out _ _ ⟨(blk_cell BK324.out 0).trans rfl, (blk_cell BK324.out 1).trans rfl⟩ (fun hHeld => ?_)
                  clear hK K
                  refine norm_ (a' := ?_) ?_ ?_
                  rotate_left
                  · show Act.put _ (some 72) _ = _
                    simp only [Act.put, List.setIfInBounds_toArray, List.set_cons_zero, List.set_cons_succ, i64_w, i32_w]
                    rfl
                  refine pure_ (i := 10) (N := some 62) (v := ?_) (a' := ?_) #[true, true, true, true, true, true, true, true, true, true, true, false, false, false, false] rfl rfl (any_of HT_.out (by kernel_rfl)) (fun _ _ _ h => h) (Or.inl ⟨by rfl, ?_⟩) ?_ ?_
                  rotate_left
                  · intro w'
                    go_simp
                    with_reducible rfl
                  rotate_left
                  · simp only [Act.put, List.setIfInBounds_toArray, List.set_cons_zero, List.set_cons_succ, i64_w, i32_w]
                    rfl
                  refine pure_ (i := 11) (N := some 73) (v := ?_) (a' := ?_) #[true, true, true, true, true, true, true, true, true, true, true, true, false, false, false] rfl rfl (any_of HT_.out (by kernel_rfl)) (fun _ _ _ h => h) (Or.inl ⟨by rfl, ?_⟩) ?_ ?_
                  rotate_left
                  · intro w'
                    go_simp
                    with_reducible rfl
                  rotate_left
                  · simp only [Act.put, List.setIfInBounds_toArray, List.set_cons_zero, List.set_cons_succ, i64_w, i32_w]
                    rfl
                  refine pure_ (i := 12) (N := some 74) (v := ?_) (a' := ?_) #[true, true, true, true, true, true, true, true, true, true, true, true, true, false, false] rfl rfl (any_of HT_.out (by kernel_rfl)) (fun _ _ _ h => h) (Or.inl ⟨by rfl, ?_⟩) ?_ ?_
                  rotate_left
                  · intro w'
                    go_simp
                    with_reducible rfl
                  rotate_left
                  · simp only [Act.put, List.setIfInBounds_toArray, List.set_cons_zero, List.set_cons_succ, i64_w, i32_w]
                    rfl
                  refine pure_ (i := 13) (N := some 13) (v := ?_) (a' := ?_) #[true, true, true, true, true, true, true, true, true, true, true, true, true, true, false] rfl rfl (any_of HT_.out (by kernel_rfl)) (fun _ _ _ h => h) (Or.inl ⟨by rfl, ?_⟩) ?_ ?_
                  rotate_left
                  · intro w'
                    go_simp
                    with_reducible rfl
                  rotate_left
                  · simp only [Act.put, List.setIfInBounds_toArray, List.set_cons_zero, List.set_cons_succ, i64_w, i32_w]
                    rfl
                  refine pure_ (i := 14) (N := some 14) (v := ?_) (a' := ?_) #[true, true, true, true, true, true, true, true, true, true, true, true, true, true, true] rfl rfl (any_of HT_.out (by kernel_rfl)) (fun _ _ _ h => h) (Or.inl ⟨by rfl, ?_⟩) ?_ ?_
                  rotate_left
                  · intro w'
                    go_simp
                    with_reducible rfl
                  rotate_left
                  · simp only [Act.put, List.setIfInBounds_toArray, List.set_cons_zero, List.set_cons_succ, i64_w, i32_w]
                    rfl
                  refine done_ (done_of HT_.out (by kernel_rfl)) ?_
                  try go_wp2
                  go_ret
                  exact ⟨by first | rfl | (simp [errW_none, errW_some] <;> rfl) | (simp [*, errW_none, errW_some] <;> rfl), by repeat (first | (with_reducible first | exact HB.out | apply below_alloc | apply pw_below_drewN | apply below_drew1 | refine below_set ?_ GE324.out) | exact HB.out)⟩
  · replace c5 := Bool.eq_false_iff.mpr c5
    subst c5
    have H1 : (some false) = some r := by rw [if_neg (show ¬ (false = true) by decide)] at H; exact H
    clear H
    have H := H1
    clear H1
    obtain rfl := Option.some.inj H
    go_enter Try.func9, Try.ntmps9
    go_wp2_with (first | ((with_reducible refine gate_dst (N := 4) rfl ?_); (try (refine gate_guard (by rfl) ?_; dsimp only)); refine box_event ?hg (N := 4) ?hd (cs := #[.int .i64 a1_0, .int .i64 a1_1]) (t := 41) ?hr ?_; (case hd => rfl); (case hg => rfl); (case hr => first | (go_simp; done) | (go_simp; rfl)); intro gb324 hg w65 hbox hb; have n0_ := Aside0.mk (below_step (by repeat (first | (with_reducible first | exact HB.out | apply below_alloc | apply pw_below_drewN | apply below_drew1) | exact HB.out)) hb); have n1_ := Aside0.mk (hbox); have n2_ := Aside0.mk ((by rw [hg]; exact (below_size (by repeat (first | (with_reducible first | exact HB.out | apply below_alloc | apply pw_below_drewN | apply below_drew1) | exact HB.out))) : w.heap.size ≤ gb324)); have n3_ := Aside0.mk ((by rw [hg]; exact (below_size (by repeat (first | (with_reducible first | exact HB.out | apply below_alloc | apply pw_below_drewN | apply below_drew1) | exact HB.out))) : w.heap.size ≤ gb324)); clear HB; have HB := n0_; have BK324 := n1_; have GW324 := n2_; have GE324 := n3_; clear n0_ n1_ n2_ n3_; clear hb hbox hg) | ((with_reducible refine gate_callee (f := 24) rfl ?_); refine goesL_ (some 15) rfl rfl Try.func24 (by kernel_rfl) rfl #[] rfl (by (try simp only [List.map_toArray, List.map_cons, List.map_nil]); first | done | rfl | (simp only [List.length_drop, List.length_take]; rfl)) ?_; (with_reducible refine (bureaulaw03_alive.calls k  false _ A4.out).mono ?_); rintro e w66 ⟨rfl, hb⟩; refine ⟨_, rfl, ?_⟩; have n0_ := Aside0.mk (blk_below (g := gb324) (o := .cells #[.int .i64 a1_0, .int .i64 a1_1] 41 (0, 0)) (by (with_reducible repeat (first | refine blk_drewN ?_ _ | refine blk_drew ?_ | refine blk_alloc ?_ _)); exact BK324.out) hb); have n1_ := Aside0.mk (below_step (by repeat (first | (with_reducible first | exact HB.out | apply below_alloc | apply pw_below_drewN | apply below_drew1 | refine below_set ?_ GE324.out) | exact HB.out)) hb); clear BK324; clear HB; have BK324 := n0_; have HB := n1_; clear n0_ n1_; (try clear hb); (try clear hb2); (try clear hk); (try clear hi)))
    go_ret
    exact ⟨by first | rfl | (simp [errW_none, errW_some] <;> rfl) | (simp [*, errW_none, errW_some] <;> rfl), by repeat (first | (with_reducible first | exact HB.out | apply below_alloc | apply pw_below_drewN | apply below_drew1 | refine below_set ?_ GE324.out) | exact HB.out)⟩
end Go.Proofs.Ythpjagblnddjaaa.PB
end

section
namespace Go.Proofs.Ythpjagblnddjaaa.PB
open Go.RowKit Go.Proofs.YthpjagblnddjaaaW.PrintWords
set_option linter.unusedVariables false
def totF : List S100 → Int → Int
  | [], n => n
  | r :: l, n => if r.f1 > 4096 - n then 4097 else totF l (n + (if r.f1 < 0 then 0 else r.f1))
def tot (l : List S100) : Int := totF l 0
def bytes (l : List S100) : List Int := l.flatMap fun r => List.replicate r.f1.toNat r.f0
def step1 (acc : List S100) (x : Int) : List S100 :=
  if 0 < acc.length ∧ (acc.getD (acc.length - 1) z100).f0 = x then acc.set (acc.length - 1) ⟨x, (acc.getD (acc.length - 1) z100).f1 + 1⟩ else acc ++ [⟨x, 1⟩]
def packTo (acc : List S100) (b : List Int) : List S100 := b.foldl step1 acc
def pack (b : List Int) : List S100 := packTo [] b
theorem packTo_append (acc : List S100) (a b : List Int) : packTo acc (a ++ b) = packTo (packTo acc a) b := List.foldl_append
theorem snoc_cases (acc : List S100) : acc = [] ∨ ∃ pre q, acc = pre ++ [q] := by
  rcases List.eq_nil_or_concat acc with h | ⟨pre, q, h⟩
  · exact .inl h
  · exact .inr ⟨pre, q, by rw [h, List.concat_eq_append]⟩
theorem getD_snoc (pre : List S100) (q : S100) : (pre ++ [q]).getD ((pre ++ [q]).length - 1) z100 = q := by
  simp [List.getD_eq_getElem?_getD]
theorem set_snoc (pre : List S100) (q r : S100) : (pre ++ [q]).set ((pre ++ [q]).length - 1) r = pre ++ [r] := by
  simp
theorem step1_nil (x : Int) : step1 [] x = [⟨x, 1⟩] := by simp [step1]
theorem step1_same (pre : List S100) (q : S100) : step1 (pre ++ [q]) q.f0 = pre ++ [⟨q.f0, q.f1 + 1⟩] := by
  unfold step1
  rw [getD_snoc, set_snoc, if_pos ⟨by simp, rfl⟩]
theorem step1_other (pre : List S100) (q : S100) (x : Int) (h : q.f0 ≠ x) : step1 (pre ++ [q]) x = pre ++ [q] ++ [⟨x, 1⟩] := by
  unfold step1
  rw [getD_snoc, if_neg (fun hh => h hh.2)]
theorem addRun_small (acc : List S100) (r : S100) (h : r.f1 < 1) : addRun acc r = acc := by simp [addRun, h]
theorem addRun_nil (r : S100) (h : ¬ r.f1 < 1) : addRun [] r = [r] := by simp [addRun, h]
theorem addRun_same (pre : List S100) (q r : S100) (h : ¬ r.f1 < 1) (he : q.f0 = r.f0) : addRun (pre ++ [q]) r = pre ++ [⟨q.f0, wrap64 (q.f1 + r.f1)⟩] := by
  unfold addRun
  rw [if_neg h, getD_snoc, set_snoc, if_pos (by simp), if_pos he]
theorem addRun_other (pre : List S100) (q r : S100) (h : ¬ r.f1 < 1) (he : ¬ q.f0 = r.f0) : addRun (pre ++ [q]) r = pre ++ [q] ++ [r] := by
  unfold addRun
  rw [if_neg h, getD_snoc, if_pos (by simp), if_neg he]
theorem packTo_rep_same (pre : List S100) (x : Int) : ∀ (n : Nat) (m : Int), packTo (pre ++ [⟨x, m⟩]) (List.replicate n x) = pre ++ [⟨x, m + n⟩]
  | 0, m => by simp [packTo]
  | n + 1, m => by
    rw [List.replicate_succ]
    show packTo (step1 (pre ++ [⟨x, m⟩]) x) _ = _
    rw [show step1 (pre ++ [(⟨x, m⟩ : S100)]) x = pre ++ [⟨x, m + 1⟩] from step1_same pre ⟨x, m⟩, packTo_rep_same pre x n (m + 1)]
    congr 3
    push_cast
    omega
def capped (B : Int) (acc : List S100) : Prop := ∀ r ∈ acc, 0 ≤ r.f1 ∧ r.f1 ≤ B
theorem addRun_pack (acc : List S100) (L : Int) (N : Nat) (B : Int) (hc : capped B acc) (hB : B + N ≤ 9223372036854775807) : addRun acc ⟨L, N⟩ = packTo acc (List.replicate N L) := by
  cases N with
  | zero => rw [addRun_small _ _ (by show ((0 : Nat) : Int) < 1; omega)]; rfl
  | succ n =>
    have h1 : ¬ ((⟨L, ((n + 1 : Nat) : Int)⟩ : S100).f1 < 1) := by show ¬ ((n + 1 : Nat) : Int) < 1; omega
    rw [List.replicate_succ]
    rcases snoc_cases acc with rfl | ⟨pre, q, rfl⟩
    · rw [addRun_nil _ h1]
      show _ = packTo (step1 [] L) _
      rw [step1_nil, ← List.nil_append [(⟨L, 1⟩ : S100)], packTo_rep_same]
      simp
      omega
    · show _ = packTo (step1 (pre ++ [q]) L) _
      by_cases he : q.f0 = L
      · subst he
        have hq := hc q (by simp)
        rw [addRun_same pre q ⟨q.f0, ((n + 1 : Nat) : Int)⟩ h1 rfl, step1_same, packTo_rep_same]
        congr 3
        show wrap64 (q.f1 + ((n + 1 : Nat) : Int)) = _
        unfold wrap64
        omega
      · rw [addRun_other _ _ _ h1 he, step1_other _ _ _ he, packTo_rep_same]
        simp
        omega
theorem capped_mono {B B' : Int} {acc : List S100} (h : capped B acc) (hB : B ≤ B') : capped B' acc := fun r hr => ⟨(h r hr).1, by have := (h r hr).2; omega⟩
theorem step1_capped {B : Int} {acc : List S100} (h : capped B acc) (hB : 0 ≤ B) (x : Int) : capped (B + 1) (step1 acc x) := by
  rcases snoc_cases acc with rfl | ⟨pre, q, rfl⟩
  · rw [step1_nil]
    intro r hr
    obtain rfl := List.mem_singleton.1 hr
    exact ⟨by show (0 : Int) ≤ 1; omega, by show (1 : Int) ≤ B + 1; omega⟩
  · by_cases he : q.f0 = x
    · subst he
      rw [step1_same]
      intro r hr
      rcases List.mem_append.1 hr with hr | hr
      · have := h r (List.mem_append_left _ hr); omega
      · obtain rfl := List.mem_singleton.1 hr
        have := h q (by simp)
        exact ⟨by show 0 ≤ q.f1 + 1; omega, by show q.f1 + 1 ≤ B + 1; omega⟩
    · rw [step1_other _ _ _ he]
      intro r hr
      rcases List.mem_append.1 hr with hr | hr
      · have := h r hr; omega
      · obtain rfl := List.mem_singleton.1 hr
        exact ⟨by show (0 : Int) ≤ 1; omega, by show (1 : Int) ≤ B + 1; omega⟩
theorem packTo_capped (b : List Int) : ∀ {B : Int} {acc : List S100}, capped B acc → 0 ≤ B → capped (B + b.length) (packTo acc b) := by
  induction b with
  | nil => intro B acc h hB; simpa [packTo] using h
  | cons x b ih =>
    intro B acc h hB
    have := ih (step1_capped h hB x) (by omega)
    show capped _ (packTo (step1 acc x) b)
    refine capped_mono this ?_
    rw [List.length_cons]
    push_cast
    omega
theorem bytes_cons (r : S100) (l : List S100) : bytes (r :: l) = List.replicate r.f1.toNat r.f0 ++ bytes l := by simp [bytes]
theorem bytes_append (a b : List S100) : bytes (a ++ b) = bytes a ++ bytes b := by simp [bytes]
theorem someTo_pack (a b : Nat) (l : List S100) : ∀ (p : Nat) (acc : List S100) (B : Int), (∀ r ∈ l, 0 ≤ r.f1) → capped B acc → 0 ≤ B → B + (bytes l).length ≤ 1000000 → p + (bytes l).length ≤ 1000000 → a ≤ 1000000 → b ≤ 1000000 →
    someTo addRun (a : Int) (b : Int) l (p : Int) acc = packTo acc (((bytes l).take (b - p)).drop (a - p)) := by
  induction l with
  | nil => intro p acc B _ _ _ _ _ _ _; simp [someTo, bytes, packTo]
  | cons r l ih =>
    intro p acc B h0 hc hB hlen hp ha hb
    obtain ⟨n, hn⟩ := Int.eq_ofNat_of_zero_le (h0 r List.mem_cons_self)
    have hn' : r.f1.toNat = n := by omega
    rw [bytes_cons, hn'] at hlen hp ⊢
    rw [List.length_append, List.length_replicate] at hlen hp
    push_cast at hlen hp
    have hw : wrap64 ((p : Int) + r.f1) = ((p + n : Nat) : Int) := by unfold wrap64; omega
    simp only [someTo]
    rw [hw]
    
    have hN : wrap64 ((if (b : Int) < ((p + n : Nat) : Int) then (b : Int) else ((p + n : Nat) : Int)) - (if (p : Int) < (a : Int) then (a : Int) else (p : Int))) = (min b (p + n) : Nat) - (max p a : Nat) := by
      unfold wrap64
      split <;> split <;> omega
    rw [hN]
    have hsplit : (((List.replicate n r.f0) ++ bytes l).take (b - p)).drop (a - p) = List.replicate (min b (p + n) - max p a) r.f0 ++ ((bytes l).take (b - (p + n))).drop (a - (p + n)) := by
      rw [List.take_append, List.drop_append, List.length_take, List.length_replicate, List.take_replicate, List.drop_replicate]
      congr 1
      · congr 1; omega
      · by_cases hbp : b ≤ p + n
        · rw [show b - p - n = 0 by omega, show b - (p + n) = 0 by omega]; simp
        · rw [show b - p - n = b - (p + n) by omega, show a - p - min (b - p) n = a - (p + n) by omega]
    rw [hsplit, packTo_append]
    by_cases hle : max p a ≤ min b (p + n)
    · rw [show ((min b (p + n) : Nat) : Int) - ((max p a : Nat) : Int) = ((min b (p + n) - max p a : Nat) : Int) by omega]
      rw [addRun_pack acc r.f0 _ B hc (by omega)]
      have hc2 := packTo_capped (List.replicate (min b (p + n) - max p a) r.f0) hc hB
      rw [List.length_replicate] at hc2
      exact ih (p + n) _ _ (fun r hr => h0 r (List.mem_cons_of_mem _ hr)) hc2 (by omega) (by omega) (by push_cast; omega) ha hb
    · rw [addRun_small _ _ (by show ((min b (p + n) : Nat) : Int) - ((max p a : Nat) : Int) < 1; omega), show min b (p + n) - max p a = 0 by omega]
      exact ih (p + n) acc B (fun r hr => h0 r (List.mem_cons_of_mem _ hr)) hc hB (by omega) (by push_cast; omega) ha hb
theorem totF_bytes (l : List S100) : ∀ n : Int, 0 ≤ n → totF l n ≤ 4096 → totF l n = n + (bytes l).length := by
  induction l with
  | nil => intro n _ h; simp [totF, bytes]
  | cons r l ih =>
    intro n h0 h
    simp only [totF] at h ⊢
    split at h
    · omega
    · rename_i hc
      rw [if_neg hc]
      rw [ih _ (by split <;> omega) h, bytes_cons, List.length_append, List.length_replicate]
      push_cast
      split <;> omega
theorem tot_bytes {l : List S100} (h : tot l ≤ 4096) : tot l = (bytes l).length := by
  have := totF_bytes l 0 (by omega) h
  unfold tot
  omega
theorem tot_of_bytes {l : List S100} (h0 : ∀ r ∈ l, 0 ≤ r.f1) (h : (bytes l).length ≤ 4096) : tot l = (bytes l).length := by
  have : ∀ (l : List S100) (n : Int), 0 ≤ n → (∀ r ∈ l, 0 ≤ r.f1) → n + (bytes l).length ≤ 4096 → totF l n = n + (bytes l).length := by
    intro l
    induction l with
    | nil => intro n _ _ _; simp [totF, bytes]
    | cons r l ih =>
      intro n hn h0 h
      have hr := h0 r List.mem_cons_self
      rw [bytes_cons, List.length_append, List.length_replicate] at h ⊢
      push_cast at h ⊢
      simp only [totF]
      rw [if_neg (by omega), if_neg (by omega), ih _ (by omega) (fun r hr => h0 r (List.mem_cons_of_mem _ hr)) (by omega)]
      omega
  have := this l 0 (by omega) h0 (by omega)
  unfold tot
  omega
def nrm : List S100 → Prop
  | [] => True
  | [r] => 1 ≤ r.f1
  | r :: s :: l => 1 ≤ r.f1 ∧ r.f0 ≠ s.f0 ∧ nrm (s :: l)
theorem nrm_tail {r : S100} {l : List S100} (h : nrm (r :: l)) : nrm l := by
  cases l with
  | nil => trivial
  | cons s l => exact h.2.2
theorem nrm_head {r : S100} {l : List S100} (h : nrm (r :: l)) : 1 ≤ r.f1 := by
  cases l with
  | nil => exact h
  | cons s l => exact h.1
theorem nrm_pos {l : List S100} (h : nrm l) : ∀ r ∈ l, 1 ≤ r.f1 := by
  induction l with
  | nil => intro r hr; cases hr
  | cons s l ih =>
    intro r hr
    rcases List.mem_cons.1 hr with rfl | hr
    · exact nrm_head h
    · exact ih (nrm_tail h) r hr
theorem nrm_snoc {pre : List S100} {q r : S100} : nrm (pre ++ [q]) → q.f0 ≠ r.f0 → 1 ≤ r.f1 → nrm (pre ++ [q] ++ [r]) := by
  induction pre with
  | nil => intro h h1 h2; exact ⟨h, h1, h2⟩
  | cons p pre ih =>
    intro h h1 h2
    cases pre with
    | nil => exact ⟨h.1, h.2.1, ih h.2.2 h1 h2⟩
    | cons s pre => exact ⟨h.1, h.2.1, ih h.2.2 h1 h2⟩
theorem nrm_last {pre : List S100} {q q' : S100} : nrm (pre ++ [q]) → q'.f0 = q.f0 → 1 ≤ q'.f1 → nrm (pre ++ [q']) := by
  induction pre with
  | nil => intro h h1 h2; exact h2
  | cons p pre ih =>
    intro h h1 h2
    cases pre with
    | nil => exact ⟨h.1, by rw [h1]; exact h.2.1, h2⟩
    | cons s pre => exact ⟨h.1, h.2.1, ih h.2.2 h1 h2⟩
theorem step1_nrm {acc : List S100} (h : nrm acc) (x : Int) : nrm (step1 acc x) := by
  rcases snoc_cases acc with rfl | ⟨pre, q, rfl⟩
  · rw [step1_nil]; show (1 : Int) ≤ 1; omega
  · by_cases he : q.f0 = x
    · subst he
      rw [step1_same]
      exact nrm_last h rfl (by have := nrm_pos h q (by simp); show 1 ≤ q.f1 + 1; omega)
    · rw [step1_other _ _ _ he]
      exact nrm_snoc h he (by show (1 : Int) ≤ 1; omega)
theorem packTo_nrm (b : List Int) : ∀ {acc : List S100}, nrm acc → nrm (packTo acc b) := by
  induction b with
  | nil => intro acc h; exact h
  | cons x b ih => intro acc h; exact ih (step1_nrm h x)
theorem pack_nrm (b : List Int) : nrm (pack b) := packTo_nrm b trivial
theorem step1_bytes {acc : List S100} (h : nrm acc) (x : Int) : bytes (step1 acc x) = bytes acc ++ [x] := by
  rcases snoc_cases acc with rfl | ⟨pre, q, rfl⟩
  · rw [step1_nil]; simp [bytes]
  · by_cases he : q.f0 = x
    · subst he
      have := nrm_pos h q (by simp)
      rw [step1_same, bytes_append, bytes_append, List.append_assoc]
      congr 1
      simp only [bytes, List.flatMap_cons, List.flatMap_nil, List.append_nil]
      rw [show (q.f1 + 1).toNat = q.f1.toNat + 1 by omega, List.replicate_succ']
    · rw [step1_other _ _ _ he, bytes_append]
      congr 1
theorem packTo_bytes (b : List Int) : ∀ {acc : List S100}, nrm acc → bytes (packTo acc b) = bytes acc ++ b := by
  induction b with
  | nil => intro acc h; simp [packTo]
  | cons x b ih =>
    intro acc h
    show bytes (packTo (step1 acc x) b) = _
    rw [ih (step1_nrm h x), step1_bytes h, List.append_assoc]
    rfl
theorem pack_bytes (b : List Int) : bytes (pack b) = b := by
  unfold pack
  rw [packTo_bytes b (acc := []) trivial]
  simp [bytes]
theorem packTo_normal (l : List S100) : ∀ (pre : List S100) (q : S100), nrm (q :: l) → packTo (pre ++ [q]) (bytes l) = pre ++ q :: l := by
  induction l with
  | nil => intro pre q _; simp [bytes, packTo]
  | cons s l ih =>
    intro pre q h
    have hs := nrm_head (nrm_tail h)
    obtain ⟨n, hn⟩ : ∃ n : Nat, s.f1 = ((n + 1 : Nat) : Int) := ⟨(s.f1 - 1).toNat, by omega⟩
    rw [bytes_cons, packTo_append, hn, Int.toNat_natCast, List.replicate_succ]
    show packTo (packTo (step1 (pre ++ [q]) s.f0) _) _ = _
    rw [step1_other _ _ _ h.2.1, packTo_rep_same]
    have e : (⟨s.f0, 1 + (n : Int)⟩ : S100) = s := by
      cases s
      simp only at hn
      subst hn
      congr 1
      push_cast
      omega
    rw [e, ih (pre ++ [q]) s (nrm_tail h)]
    simp
theorem pack_of_nrm {l : List S100} (h : nrm l) : pack (bytes l) = l := by
  cases l with
  | nil => rfl
  | cons s l =>
    have hs := nrm_head h
    obtain ⟨n, hn⟩ : ∃ n : Nat, s.f1 = ((n + 1 : Nat) : Int) := ⟨(s.f1 - 1).toNat, by omega⟩
    unfold pack
    rw [bytes_cons, packTo_append, hn, Int.toNat_natCast, List.replicate_succ]
    show packTo (packTo (step1 [] s.f0) _) _ = _
    rw [step1_nil, ← List.nil_append [(⟨s.f0, 1⟩ : S100)], packTo_rep_same]
    have e : (⟨s.f0, 1 + (n : Int)⟩ : S100) = s := by
      cases s
      simp only at hn
      subst hn
      congr 1
      push_cast
      omega
    rw [e, packTo_normal l [] s h]
    rfl
instance nrmDec : (l : List S100) → Decidable (nrm l)
  | [] => isTrue trivial
  | [r] => inferInstanceAs (Decidable (1 ≤ r.f1))
  | r :: s :: l => by
    have := nrmDec (s :: l)
    exact inferInstanceAs (Decidable (1 ≤ r.f1 ∧ r.f0 ≠ s.f0 ∧ nrm (s :: l)))
def good (l : List S100) : Bool := decide (nrm l) && decide (tot l ≤ 4096)
end Go.Proofs.Ythpjagblnddjaaa.PB
end

section
namespace Go.Proofs.Ythpjagblnddjaaa.PB
open Go.Proofs.YthpjagblnddjaaaW.PrintWords
theorem Ev.pos {α : Type} {c : Prop} [Decidable c] {A B : Nat → Option α} {r : α} (h : c) (k : Ev A r) : Ev (fun n => if c then A n else B n) r := by
  obtain ⟨K, hK⟩ := k
  exact ⟨K, fun n hn => by show (if c then A n else B n) = _; rw [if_pos h]; exact hK n hn⟩
theorem Ev.neg {α : Type} {c : Prop} [Decidable c] {A B : Nat → Option α} {r : α} (h : ¬ c) (k : Ev B r) : Ev (fun n => if c then A n else B n) r := by
  obtain ⟨K, hK⟩ := k
  exact ⟨K, fun n hn => by show (if c then A n else B n) = _; rw [if_neg h]; exact hK n hn⟩
theorem Ev.ite {α : Type} {c : Prop} [Decidable c] {A B : Nat → Option α} {r s : α} (h1 : c → Ev A r) (h2 : ¬ c → Ev B s) : Ev (fun n => if c then A n else B n) (if c then r else s) := by
  by_cases h : c
  · rw [if_pos h]; exact Ev.pos h (h1 h)
  · rw [if_neg h]; exact Ev.neg h (h2 h)
theorem Ev.ite' {α : Type} {c : Prop} [Decidable c] {A B : Nat → Option α} {r : α} (h1 : c → Ev A r) (h2 : ¬ c → Ev B r) : Ev (fun n => if c then A n else B n) r := by
  by_cases h : c
  · exact Ev.pos h (h1 h)
  · exact Ev.neg h (h2 h)
theorem ev_val {α : Type} {g : Nat → Option α} {a b : α} (h : Ev g a) (e : a = b) : Ev g b := e ▸ h
end Go.Proofs.Ythpjagblnddjaaa.PB
end

section
namespace Go.Proofs.Ythpjagblnddjaaa.PB
open Go.RowKit Go.Proofs.YthpjagblnddjaaaW.PrintWords
set_option linter.unusedVariables false
instance : DecidableEq S100 := fun a b => decidable_of_iff (a.f0 = b.f0 ∧ a.f1 = b.f1) (by cases a; cases b; simp)
theorem rdT (l : List S100) (i : Nat) : rd_T100 l (i : Int) = l.getD i z100 := by unfold rd_T100; rw [Int.toNat_natCast]
theorem dropT {l : List S100} {i : Nat} (h : i < l.length) : l.drop i = l.getD i z100 :: l.drop (i + 1) := by
  rw [List.drop_eq_getElem_cons h, List.getD_eq_getElem?_getD, List.getElem?_eq_getElem h]; rfl
theorem w1 {i n : Nat} (h : i < n) (hn : n ≤ 1000000000000000) : wrap64 ((i : Int) + 1) = ((i + 1 : Nat) : Int) := by unfold wrap64; omega
abbrev big : Nat := 1000000000000
theorem total_ev (l : List S100) (hl : l.length ≤ big) : Ev (fun k => runs_Total.f k l) (tot l) := by
  unfold big at hl
  have loop : ∀ (d i : Nat) (n : Int), i + d = l.length → 0 ≤ n → n ≤ 4096 → Ev (fun k => runs_Total.l0 k n l (l.length : Int) (i : Int)) (totF (l.drop i) n) := by
    intro d
    induction d with
    | zero =>
      intro i n hi h0 h1
      refine Ev.step (fun k => by simp only [runs_Total.l0]; rfl) ?_
      refine Ev.neg (by omega) ?_
      rw [List.drop_eq_nil_of_le (by omega)]
      exact Ev.now _
    | succ d ih =>
      intro i n hi h0 h1
      have hlt : i < l.length := by omega
      refine Ev.step (fun k => by simp only [runs_Total.l0]; rfl) ?_
      refine Ev.pos (by omega) (Ev.pos (by omega) (Ev.pos (by omega) ?_))
      rw [dropT hlt, rdT]
      simp only [totF]
      rw [show wrap64 (4096 - n) = 4096 - n by unfold wrap64; omega]
      refine Ev.ite (fun _ => Ev.now _) (fun hc => ?_)
      have hm : wrap64 (n + mx (l.getD i z100).f1 0) = n + (if (l.getD i z100).f1 < 0 then 0 else (l.getD i z100).f1) := by
        unfold mx wrap64
        split <;> omega
      rw [hm, w1 hlt (by omega)]
      exact ih (i + 1) _ (by omega) (by split <;> omega) (by split <;> omega)
  exact loop l.length 0 0 (by omega) (by omega) (by omega)
theorem same_ev (a b : List S100) (hl : a.length ≤ big) : Ev (fun k => bureauref03_Same.f k a b) (decide (a = b)) := by
  unfold big at hl
  unfold bureauref03_Same.f
  by_cases hab : a.length = b.length
  · refine Ev.pos (by omega) ?_
    have loop : ∀ (d i : Nat), i + d = a.length → Ev (fun k => bureauref03_Same.l0 k a b (i : Int)) (decide (a.drop i = b.drop i)) := by
      intro d
      induction d with
      | zero =>
        intro i hi
        refine Ev.step (fun k => by simp only [bureauref03_Same.l0]; rfl) ?_
        refine Ev.neg (by omega) ?_
        rw [List.drop_eq_nil_of_le (by omega), List.drop_eq_nil_of_le (by omega)]
        exact Ev.now _
      | succ d ih =>
        intro i hi
        have hlt : i < a.length := by omega
        refine Ev.step (fun k => by simp only [bureauref03_Same.l0]; rfl) ?_
        refine Ev.pos (by omega) (Ev.pos (by omega) (Ev.pos (by omega) ?_))
        rw [dropT hlt, dropT (show i < b.length by omega), rdT, rdT, w1 hlt (by omega)]
        by_cases he : a.getD i z100 = b.getD i z100
        · rw [he]
          refine Ev.neg (by simp) ?_
          exact ev_val (ih (i + 1) (by omega)) (by simp)
        · refine Ev.pos ?_ ?_
          · have : ¬ ((a.getD i z100).f0 = (b.getD i z100).f0 ∧ (a.getD i z100).f1 = (b.getD i z100).f1) := fun h => he (by
              cases hx : a.getD i z100; cases hy : b.getD i z100; rw [hx, hy] at h; simp at h; rw [h.1, h.2])
            simp only [Bool.or_eq_true, Bool.not_eq_true', beq_eq_false_iff_ne]
            by_cases h1 : (a.getD i z100).f0 = (b.getD i z100).f0
            · exact .inr (fun h2 => this ⟨h1, h2⟩)
            · exact .inl h1
          · exact ev_val (Ev.now _) (by simp; intro h; exact absurd h he)
    exact loop a.length 0 (by omega)
  · refine Ev.neg (by omega) ?_
    exact ev_val (Ev.now _) (by simp; intro h; exact hab (by rw [h]))
theorem good_ev (l : List S100) (hl : l.length ≤ big) : Ev (fun k => runs_Good.f k l) (good l) := by
  have ht := total_ev l hl
  unfold big at hl
  have loop : ∀ (d i : Nat), i + d = l.length → ∀ b : Bool, (b = true ↔ ((0 < i → i < l.length → (l.getD (i - 1) z100).f0 ≠ (l.getD i z100).f0) ∧ nrm (l.drop i) ∧ tot l ≤ 4096)) → Ev (fun k => runs_Good.l0 k l l (l.length : Int) (i : Int)) b := by
    intro d
    induction d with
    | zero =>
      intro i hi b hb
      refine Ev.step (fun k => by simp only [runs_Good.l0]; rfl) ?_
      refine Ev.neg (by omega) ?_
      rw [List.drop_eq_nil_of_le (by omega)] at hb
      refine Ev.bind ht (ev_val (Ev.now _) ?_)
      rw [Bool.eq_iff_iff, hb, decide_eq_true_iff]
      exact ⟨fun h => ⟨fun _ h2 => absurd h2 (by omega), trivial, h⟩, fun h => h.2.2⟩
    | succ d ih =>
      intro i hi b hb
      have hlt : i < l.length := by omega
      have hn : nrm (l.drop i) ↔ 1 ≤ (l.getD i z100).f1 ∧ (i + 1 < l.length → (l.getD i z100).f0 ≠ (l.getD (i + 1) z100).f0) ∧ nrm (l.drop (i + 1)) := by
        rw [dropT hlt]
        by_cases h2 : i + 1 < l.length
        · rw [dropT h2]
          exact ⟨fun h => ⟨h.1, fun _ => h.2.1, h.2.2⟩, fun h => ⟨h.1, h.2.1 h2, h.2.2⟩⟩
        · rw [List.drop_eq_nil_of_le (show l.length ≤ i + 1 by omega)]
          exact ⟨fun h => ⟨h, fun h3 => absurd h3 h2, trivial⟩, fun h => h.1⟩
      refine Ev.step (fun k => by simp only [runs_Good.l0]; rfl) ?_
      refine Ev.pos (by omega) (Ev.pos (by omega) (Ev.pos (by omega) ?_))
      rw [rdT, w1 hlt (by omega)]
      by_cases h1 : (l.getD i z100).f1 < 1
      · refine Ev.pos h1 (ev_val (Ev.now _) ?_)
        rw [Bool.eq_iff_iff, hb, hn]
        exact ⟨fun h => (by cases h), fun h => (by have := h.2.1.1; omega)⟩
      · refine Ev.neg h1 ?_
        have hrest : ∀ b' : Bool, (b' = true ↔ (nrm (l.drop i) ∧ tot l ≤ 4096)) → Ev (fun k => runs_Good.l0 k l l (l.length : Int) ((i + 1 : Nat) : Int)) b' := fun b' hb' => ih (i + 1) (by omega) b' (by
          rw [hb', hn, show i + 1 - 1 = i by omega]
          exact ⟨fun h => ⟨fun _ => h.1.2.1, h.1.2.2, h.2⟩, fun h => ⟨⟨by omega, h.1 (by omega), h.2.1⟩, h.2.2⟩⟩)
        by_cases h0 : 0 < i
        · refine Ev.pos (by omega) ?_
          rw [show wrap64 ((i : Int) - 1) = ((i - 1 : Nat) : Int) by unfold wrap64; omega]
          refine Ev.pos (by omega) (Ev.pos (by omega) ?_)
          rw [rdT]
          by_cases he : (l.getD (i - 1) z100).f0 = (l.getD i z100).f0
          · refine Ev.pos he (ev_val (Ev.now _) ?_)
            rw [Bool.eq_iff_iff, hb]
            exact ⟨fun h => (by cases h), fun h => absurd he (h.1 h0 hlt)⟩
          · refine Ev.neg he (hrest b ?_)
            rw [hb]
            exact ⟨fun h => h.2, fun h => ⟨fun _ _ => he, h⟩⟩
        · refine Ev.neg (by omega) (hrest b ?_)
          rw [hb]
          exact ⟨fun h => h.2, fun h => ⟨fun h3 => absurd h3 h0, h⟩⟩
  refine loop l.length 0 (by omega) (good l) ?_
  simp [good]
end Go.Proofs.Ythpjagblnddjaaa.PB
end

section
namespace Go.Proofs.Ythpjagblnddjaaa.Opn
open Go.ChangeShapes Go.WideShapes Go.Deep Go.Proofs.YthpjagblnddjaaaW.PrintWords
set_option linter.unusedVariables false
def Opn {α : Type} (P : Program) (w : World) (t : TypeId) (d : Kd α) (wf : α → Prop) : Prop :=
  ∀ (H : Type) (enc : TypeId × Value → H) (base : Nat) (spare : Nat → Bool) (held : Bool) (fuel : Nat) (cs : List Value) (x : DataW H × List MemPlace),
    DataW.trod enc P w base spare held fuel t cs = some x → (∀ n ∈ x.1.weights P t, n ≤ reachBytes) → ∃ a : α, d.K w a cs ∧ wf a
section
variable {P : Program} {w : World}
theorem int {t : TypeId} {k : IntKind} (hu : P.underlying t = some (.int k)) : Opn P w t (Kd.int k) (fun n => (Lit.int k n).wf = true) := by
  intro H enc base spare held fuel cs x h _
  obtain ⟨n, rfl, _, hw⟩ := DataW.trod_int hu h
  exact ⟨n, rfl, hw⟩
theorem bool {t : TypeId} (hu : P.underlying t = some .bool) : Opn P w t Kd.bool (fun _ => True) := by
  intro H enc base spare held fuel cs x h _
  obtain ⟨b, rfl, _⟩ := DataW.trod_bool hu h
  exact ⟨b, rfl, trivial⟩
theorem weightsAll_mem {H : Type} {e : TypeId} : ∀ {ds : List (DataW H)} {d : DataW H}, d ∈ ds → ∀ n ∈ d.weights P e, n ∈ DataW.weightsAll P e ds
  | d0 :: ds, d, hd, n, hn => by
    simp only [DataW.weightsAll, List.mem_append]
    rcases List.mem_cons.1 hd with rfl | hd
    · exact .inl hn
    · exact .inr (weightsAll_mem hd n hn)
theorem slice {α : Type} {t e : TypeId} {d : Kd α} {wf : α → Prop} (hu : P.underlying t = some (.slice e)) (hc : P.cellsOf e = d.sz) {B : Nat} (hB : P.bytesOf e = B) (ho : Opn P w e d wf) :
    Opn P w t (Kd.slice e d) (fun xs => xs.length * B ≤ 140737488351232 ∧ ∀ x ∈ xs, wf x) := by
  intro H enc base spare held fuel cs x h hz
  rcases open_slice hu h with ⟨rfl, rfl⟩ | ⟨a, len, cap, m, n, D, Pl, rfl, hb, hl, hm, hmm, rfl, hel⟩
  · exact ⟨[], ⟨none, 0, rfl, Nat.le_refl _, Kd.C_nil _ _⟩, by simp, by intro x hx; cases hx⟩
  · simp only [DataW.weights, hu, List.mem_cons, List.mem_append] at hz
    have hlm : len ≤ m := by rw [hmm]; split <;> omega
    have hall : ∀ i, i < len → ∃ a' : α, (∃ cs', w.cells? base (a.add (i * P.cellsOf e)) (P.cellsOf e) = some cs' ∧ d.K w a' cs') ∧ wf a' := fun i hi => by
      obtain ⟨cs', h1, h2⟩ := hel i (by omega)
      obtain ⟨a', h3, h4⟩ := ho H enc base spare held n cs' _ h2 (fun q hq => hz q (.inr (.inl (weightsAll_mem (List.mem_map.2 ⟨i, List.mem_range.2 hi, rfl⟩) q hq))))
      exact ⟨a', ⟨cs', h1, h3⟩, h4⟩
    obtain ⟨xs, hxs, hx⟩ : ∃ xs : List α, xs.length = len ∧ ∀ i, ∀ h : i < xs.length, (∃ cs', w.cells? base (a.add (i * P.cellsOf e)) (P.cellsOf e) = some cs' ∧ d.K w xs[i] cs') ∧ wf xs[i] := by
      clear hz hel hlm hmm hm hl h
      induction len with
      | zero => exact ⟨[], rfl, fun i h => absurd h (by simp)⟩
      | succ q ih =>
        obtain ⟨xs, h1, h2⟩ := ih (fun i hi => hall i (by omega))
        obtain ⟨a', h3⟩ := hall q (by omega)
        refine ⟨xs ++ [a'], by simp [h1], fun i h => ?_⟩
        by_cases hi : i < xs.length
        · rw [List.getElem_append_left hi]; exact h2 i hi
        · have : i = q := by simp at h; omega
          subst this
          rw [List.getElem_append_right (by omega)]
          simpa using h3
    refine ⟨xs, ⟨some a, cap, by rw [hxs], by omega, rfl, by have : cap ≤ 9223372036854775807 := hm; omega, fun hp => ⟨a, rfl, fun i p hp => ?_⟩⟩, ?_, ?_⟩
    · have hi : i < xs.length := (List.getElem?_eq_some_iff.1 hp).1
      have hpe : p = xs[i] := by rw [List.getElem?_eq_getElem hi] at hp; exact (Option.some.inj hp).symm
      obtain ⟨⟨cs', h1, h2⟩, _⟩ := hx i hi
      rw [hc] at h1
      obtain ⟨_, hcl, hat⟩ := World.cells?_some h1
      refine ⟨cs', by rw [hcl], by rw [hpe]; exact h2, fun j u hu => ?_⟩
      have hj : j < d.sz := by have := (List.getElem?_eq_some_iff.1 hu).1; omega
      have := hat j hj
      rw [← Go.Deep.add_add, this, hu]
    · have := hz _ (.inl rfl)
      rw [hB] at this
      simp only [List.length_map, List.length_range] at this
      rw [hxs]
      exact Nat.le_trans (Nat.mul_le_mul_right _ (by omega)) this
    · intro x hxm
      obtain ⟨i, hi, rfl⟩ := List.mem_iff_getElem.1 hxm
      exact (hx i hi).2
theorem ints_of {k : IntKind} {p : Int → Prop} : ∀ cs : List Value, (∀ i, i < cs.length → ∃ a, cs[i]? = some (.int k a) ∧ p a) → ∃ l : List Int, l.length = cs.length ∧ cs = l.map (fun a => Value.int k a) ∧ ∀ a ∈ l, p a
  | [], _ => ⟨[], rfl, rfl, fun a h => by cases h⟩
  | c :: cs, h => by
    obtain ⟨l, h1, h2, h3⟩ := ints_of cs (fun i hi => by have := h (i + 1) (by simp; omega); simpa using this)
    obtain ⟨a, h4, h5⟩ := h 0 (by simp)
    simp only [List.getElem?_cons_zero, Option.some.injEq] at h4
    refine ⟨a :: l, by simp [h1], by rw [h4, h2, List.map_cons], fun b hb => ?_⟩
    rcases List.mem_cons.1 hb with rfl | hb
    · exact h5
    · exact h3 b hb
theorem arrayI {t e : TypeId} {n : Nat} {k : IntKind} (hu : P.underlying t = some (.array n e)) (he : P.underlying e = some (.int k)) (hc : P.cellsOf t = n) (hce : P.cellsOf e = 1)
    {H : Type} {enc : TypeId × Value → H} {base : Nat} {spare : Nat → Bool} {held : Bool} {fuel : Nat} {cs : List Value} {x : DataW H × List MemPlace} (h : DataW.trod enc P w base spare held fuel t cs = some x) :
    ∃ l : List Int, l.length = n ∧ cs = l.map (fun a => Value.int k a) ∧ ∀ a ∈ l, (Lit.int k a).wf = true := by
  obtain ⟨xs, m, _, _, hlen, hxs, hf⟩ := DataW.trod_array hu h
  rw [hc] at hlen
  obtain ⟨l, h1, h2, h3⟩ := ints_of (k := k) (p := fun a => (Lit.int k a).wf = true) cs (fun i hi => by
    have := hf i (by omega)
    rw [hce, Nat.mul_one] at this
    obtain ⟨y, hy⟩ : ∃ y, xs[i]? = some y := ⟨xs[i]'(by omega), List.getElem?_eq_getElem (by omega)⟩
    rw [hy] at this
    obtain ⟨a, h4, _, h5⟩ := DataW.trod_int he this
    refine ⟨a, ?_, h5⟩
    have h6 := congrArg (fun l => l[0]?) h4
    simpa using h6)
  exact ⟨l, by omega, h2, h3⟩
theorem okWide_array {t : TypeId} {n : Nat} {e : TypeId} {r : Reach} {base : Nat} {v : Value} (ht : P.underlying t = some (.array n e)) (h : Value.okWide P w r base t v) : ∃ cs, v = .agg cs ∧ cs.size = P.cellsOf t := by
  simp only [Value.okWide, ht] at h
  obtain ⟨cs, h1, h2, _⟩ := h
  exact ⟨cs, h1, h2⟩
end
end Go.Proofs.Ythpjagblnddjaaa.Opn
end

section
namespace Go.Proofs.Ythpjagblnddjaaa.PB
open Go.ChangeShapes Go.WideShapes Go.Proofs.Ythpjagblnddjaaa Go.Proofs.YthpjagblnddjaaaW.PrintWords
set_option linter.unusedVariables false
def wf100 (x : S100) : Prop := ((Lit.int .u64 x.f0).wf = true) ∧ ((Lit.int .i64 x.f1).wf = true)
theorem opn100 {w : World} : Opn.Opn Try.prog w 100 k100 wf100 := by
  intro H enc base spare held fuel cs x h hz
  obtain ⟨xs, n, _, rfl, hlen, hyl, hf⟩ := DataW.trod_struct Try.underlying100 h
  have hcl : cs.length = 2 := hlen.trans (by kernel_rfl)
  obtain ⟨y0, y1, rfl⟩ : ∃ y0 y1, xs = [y0, y1] := by
    clear h hz hf hlen hcl; have hyl' : xs.length = 2 := hyl; clear hyl
    match xs, hyl' with | [y0, y1], _ => exact ⟨y0, y1, rfl⟩
  obtain ⟨c0, c1, rfl⟩ : ∃ c0 c1, cs = [c0, c1] := by
    clear h hz hf hlen hyl
    match cs, hcl with | [c0, c1], _ => exact ⟨c0, c1, rfl⟩
  simp only [DataW.weights, Try.underlying100] at hz
  have h0 : DataW.trod enc Try.prog w base spare held n 36 [c0] = some y0 := by have z := hf 0 _ rfl; rwa [show Try.prog.cellsOf _ = 1 from by kernel_rfl] at z
  obtain ⟨a0, k0_, w0⟩ := (Opn.int Try.underlying36) H enc base spare held n _ _ h0 (fun q hq => hz q (by simp [DataW.weightsEach, hq]))
  have h1 : DataW.trod enc Try.prog w base spare held n 3 [c1] = some y1 := by have z := hf 1 _ rfl; rwa [show Try.prog.cellsOf _ = 1 from by kernel_rfl] at z
  obtain ⟨a1, k1_, w1⟩ := (Opn.int Try.underlying3) H enc base spare held n _ _ h1 (fun q hq => hz q (by simp [DataW.weightsEach, hq]))
  exact ⟨⟨a0, a1⟩, ⟨_, _, rfl, k0_, k1_⟩, w0, w1⟩
structure S64 where
  f0 : Int
  f1 : S51
  f2 : S51
end Go.Proofs.Ythpjagblnddjaaa.PB
end

section
namespace Go.Proofs.Ythpjagblnddjaaa.PB
open Go.RowKit Go.Proofs.YthpjagblnddjaaaW.PrintWords
set_option linter.unusedVariables false
theorem capped_nil : capped 0 [] := fun r hr => by cases hr
theorem gather0 (a b : Nat) (l : List S100) (h0 : ∀ r ∈ l, 0 ≤ r.f1) (hl : (bytes l).length ≤ 500000) (ha : a ≤ 500000) (hb : b ≤ 500000) :
    someTo addRun (a : Int) (b : Int) l 0 [] = pack (((bytes l).take b).drop a) := by
  have := someTo_pack a b l 0 [] 0 h0 capped_nil (by omega) (by omega) (by omega) (by omega) (by omega)
  simpa [pack] using this
theorem good_nrm {l : List S100} (h : good l = true) : nrm l ∧ tot l ≤ 4096 := by
  unfold good at h
  simpa using h
theorem nrm_nonneg {l : List S100} (h : nrm l) : ∀ r ∈ l, 0 ≤ r.f1 := fun r hr => by have := nrm_pos h r hr; omega
theorem step1_len (acc : List S100) (x : Int) : (step1 acc x).length ≤ acc.length + 1 := by
  unfold step1
  split
  · simp
  · simp
theorem packTo_len (b : List Int) : ∀ acc : List S100, (packTo acc b).length ≤ acc.length + b.length := by
  induction b with
  | nil => intro acc; simp [packTo]
  | cons x b ih => intro acc; have h1 := ih (step1 acc x); have h2 := step1_len acc x; show (packTo (step1 acc x) b).length ≤ _; rw [List.length_cons]; omega
theorem pack_len (b : List Int) : (pack b).length ≤ b.length := by have := packTo_len b []; simpa [pack] using this
theorem alive3 : bureaulaw03_alive.f 60 = some true := by decide +kernel
theorem alive3_ev : Ev (fun k => bureaulaw03_alive.f k) true := Ev.of (bureaulaw03_alive.mono) alive3
end Go.Proofs.Ythpjagblnddjaaa.PB
end

section
namespace Go.Proofs.Ythpjagblnddjaaa.PB
open Go.RowKit Go.Proofs.YthpjagblnddjaaaW.PrintWords
set_option linter.unusedVariables false
def withinB (l : List S100) (a b : Int) : Bool := good l && (decide (0 ≤ a) && (decide (a ≤ b) && decide (b ≤ tot l)))
theorem withinB_iff {l : List S100} {a b : Int} : withinB l a b = true ↔ good l = true ∧ 0 ≤ a ∧ a ≤ b ∧ b ≤ tot l := by simp [withinB]
theorem within_ev (l : List S100) (hl : l.length ≤ big) (a b : Int) : Ev (fun k => runs_within.f k l a b) (withinB l a b) := by
  unfold runs_within.f
  refine Ev.bind (good_ev l hl) ?_
  by_cases hg : good l = true
  · refine Ev.pos hg ?_
    by_cases h0 : a ≥ 0
    · refine Ev.pos h0 ?_
      by_cases h1 : a ≤ b
      · refine Ev.pos h1 (Ev.bind (total_ev l hl) (ev_val (Ev.now _) ?_))
        simp [withinB, hg, h1, show 0 ≤ a from h0]
      · exact Ev.neg h1 (ev_val (Ev.now _) (by simp [withinB, h1]))
    · exact Ev.neg h0 (ev_val (Ev.now _) (by simp [withinB]; intro _ h; omega))
  · exact Ev.neg hg (ev_val (Ev.now _) (by simp [withinB, hg]))
theorem within_facts {l : List S100} {a b : Int} (h : withinB l a b = true) : ∃ i j : Nat, a = i ∧ b = j ∧ i ≤ j ∧ j ≤ (bytes l).length ∧ (bytes l).length ≤ 4096 ∧ nrm l ∧ tot l = (bytes l).length := by
  obtain ⟨hg, h0, h1, h2⟩ := withinB_iff.1 h
  obtain ⟨hn, ht⟩ := good_nrm hg
  have hb := tot_bytes ht
  obtain ⟨i, rfl⟩ := Int.eq_ofNat_of_zero_le h0
  obtain ⟨j, rfl⟩ := Int.eq_ofNat_of_zero_le (show 0 ≤ b by omega)
  exact ⟨i, j, rfl, rfl, by omega, by omega, by omega, hn, hb⟩
def sliceS (l : List S100) (a b : Int) : List S100 × Int := if withinB l a b = true then (pack (((bytes l).take b.toNat).drop a.toNat), 0) else ([], 2)
theorem slice_ev (l : List S100) (hl : l.length ≤ big) (a b : Int) : Ev (fun k => runs_Slice.f k l a b) (sliceS l a b) := by
  unfold runs_Slice.f sliceS
  refine Ev.bind (within_ev l hl a b) ?_
  refine Ev.ite (fun hw => ?_) (fun _ => Ev.now _)
  obtain ⟨i, j, rfl, rfl, hij, hj, h4, hn, _⟩ := within_facts hw
  unfold big at hl
  refine Ev.pos (by omega) (ev_val (Ev.now _) ?_)
  rw [gather0 i j l (nrm_nonneg hn) (by omega) (by omega) (by omega)]
  rfl
def spliceS (l : List S100) (a b : Int) (m : List S100) : List S100 × Int :=
  if withinB l a b = true then (if good m = true then (if tot l - (b - a) + tot m > 4096 then ([], 3) else (pack ((bytes l).take a.toNat ++ bytes m ++ (bytes l).drop b.toNat), 0)) else ([], 2)) else ([], 2)
theorem good_facts {m : List S100} (h : good m = true) : nrm m ∧ (bytes m).length ≤ 4096 ∧ tot m = (bytes m).length := by
  obtain ⟨hn, ht⟩ := good_nrm h
  have hb := tot_bytes ht
  exact ⟨hn, by omega, hb⟩
theorem spliceRuns_pack (l m : List S100) (i j : Nat) (hi : i ≤ 4096) (hj : j ≤ 4096) (hl : (bytes l).length ≤ 4096) (hm : (bytes m).length ≤ 4096) (hn : nrm l) (hnm : nrm m) :
    spliceRuns l i j m = pack ((bytes l).take i ++ bytes m ++ (bytes l).drop j) := by
  unfold spliceRuns
  have e1 := someTo_pack 0 i l 0 [] 0 (nrm_nonneg hn) capped_nil (by omega) (by omega) (by omega) (by omega) (by omega)
  rw [show ((0 : Nat) : Int) = 0 from rfl, Nat.sub_zero, Nat.sub_zero, List.drop_zero] at e1
  rw [e1]
  have c1 := packTo_capped ((bytes l).take i) (capped_nil) (show (0 : Int) ≤ 0 by omega)
  have hlen1 : ((bytes l).take i).length ≤ 4096 := by rw [List.length_take]; omega
  have e2 := someTo_pack 0 4096 m 0 _ _ (nrm_nonneg hnm) c1 (by omega) (by omega) (by omega) (by omega) (by omega)
  rw [show ((0 : Nat) : Int) = 0 from rfl, show ((4096 : Nat) : Int) = 4096 from rfl, Nat.sub_zero, Nat.sub_zero, List.drop_zero, List.take_of_length_le hm] at e2
  rw [e2]
  have c2 := packTo_capped (bytes m) c1 (by omega)
  have e3 := someTo_pack j 4096 l 0 _ _ (nrm_nonneg hn) c2 (by omega) (by omega) (by omega) (by omega) (by omega)
  rw [show ((0 : Nat) : Int) = 0 from rfl, show ((4096 : Nat) : Int) = 4096 from rfl, Nat.sub_zero, Nat.sub_zero, List.take_of_length_le hl] at e3
  rw [e3]
  unfold pack
  rw [packTo_append, packTo_append]
theorem splice_ev (l : List S100) (hl : l.length ≤ big) (a b : Int) (m : List S100) (hm : m.length ≤ big) : Ev (fun k => runs_Splice.f k l a b m) (spliceS l a b m) := by
  unfold runs_Splice.f spliceS
  refine Ev.bind (within_ev l hl a b) ?_
  refine Ev.ite (fun hw => ?_) (fun _ => Ev.now _)
  refine Ev.bind (good_ev m hm) ?_
  refine Ev.ite (fun hg => ?_) (fun _ => Ev.now _)
  refine Ev.bind (total_ev l hl) (Ev.bind (total_ev m hm) ?_)
  obtain ⟨i, j, rfl, rfl, hij, hj, h4, hn, ht⟩ := within_facts hw
  obtain ⟨hnm, h4m, htm⟩ := good_facts hg
  rw [show wrap64 (wrap64 (tot l - wrap64 ((j : Int) - (i : Int))) + tot m) = tot l - ((j : Int) - (i : Int)) + tot m by unfold wrap64; omega]
  refine Ev.ite (fun _ => Ev.now _) (fun _ => ?_)
  unfold big at hl hm
  refine Ev.pos (by omega) (ev_val (Ev.now _) ?_)
  rw [spliceRuns_pack l m i j (by omega) (by omega) h4 h4m hn hnm]
  rfl
theorem good_pack {b : List Int} (h : b.length ≤ 4096) : good (pack b) = true ∧ tot (pack b) = b.length := by
  have hn := pack_nrm b
  have ht : tot (pack b) = b.length := by
    rw [tot_of_bytes (nrm_nonneg hn) (by rw [pack_bytes]; exact h), pack_bytes]
  exact ⟨by unfold good; rw [Bool.and_eq_true, decide_eq_true_iff, decide_eq_true_iff]; exact ⟨hn, by omega⟩, ht⟩
end Go.Proofs.Ythpjagblnddjaaa.PB
end

section
namespace Go.Proofs.Ythpjagblnddjaaa.PB
open Go.RowKit Go.Proofs.YthpjagblnddjaaaW.PrintWords
set_option linter.unusedVariables false
theorem splice_ok {l m : List S100} {a b : Int} (h : (spliceS l a b m).2 = 0) : ∃ i j : Nat, a = i ∧ b = j ∧ i ≤ j ∧ j ≤ (bytes l).length ∧ (bytes l).length ≤ 4096 ∧ nrm l ∧ nrm m ∧ tot m = (bytes m).length ∧ i + (bytes m).length + ((bytes l).length - j) ≤ 4096 ∧ spliceS l a b m = (pack ((bytes l).take i ++ bytes m ++ (bytes l).drop j), 0) := by
  unfold spliceS at h ⊢
  by_cases hw : withinB l a b = true
  · rw [if_pos hw] at h ⊢
    by_cases hg : good m = true
    · rw [if_pos hg] at h ⊢
      obtain ⟨i, j, rfl, rfl, hij, hj, h4, hn, ht⟩ := within_facts hw
      obtain ⟨hnm, h4m, htm⟩ := good_facts hg
      by_cases ho : tot l - ((j : Int) - (i : Int)) + tot m > 4096
      · rw [if_pos ho] at h; cases h
      · rw [if_neg ho]
        exact ⟨i, j, rfl, rfl, hij, hj, h4, hn, hnm, htm, by omega, rfl⟩
    · rw [if_neg hg] at h; cases h
  · rw [if_neg hw] at h; cases h
theorem slice_pack (X Y Z : List Int) (h : X.length + Y.length + Z.length ≤ 4096) : sliceS (pack (X ++ Y ++ Z)) (X.length : Int) ((X.length : Int) + (Y.length : Int)) = (pack Y, 0) := by
  obtain ⟨g1, t1⟩ := good_pack (show (X ++ Y ++ Z).length ≤ 4096 by simp only [List.length_append]; omega)
  simp only [List.length_append] at t1
  unfold sliceS
  rw [if_pos (withinB_iff.2 ⟨g1, by omega, by omega, by omega⟩), pack_bytes, show ((X.length : Int) + (Y.length : Int)).toNat = X.length + Y.length by omega, Int.toNat_natCast]
  congr 2
  rw [show X.length + Y.length = (X ++ Y).length by simp, List.take_left, List.drop_left]
theorem splice_pack (X Y Z V : List Int) (h : X.length + Y.length + Z.length ≤ 4096) (hv : X.length + V.length + Z.length ≤ 4096) :
    spliceS (pack (X ++ Y ++ Z)) (X.length : Int) ((X.length : Int) + (Y.length : Int)) (pack V) = (pack (X ++ V ++ Z), 0) := by
  obtain ⟨g1, t1⟩ := good_pack (show (X ++ Y ++ Z).length ≤ 4096 by simp only [List.length_append]; omega)
  obtain ⟨g2, t2⟩ := good_pack (show V.length ≤ 4096 by omega)
  simp only [List.length_append] at t1
  unfold spliceS
  rw [if_pos (withinB_iff.2 ⟨g1, by omega, by omega, by omega⟩), if_pos g2, if_neg (by omega), pack_bytes, pack_bytes, show ((X.length : Int) + (Y.length : Int)).toNat = X.length + Y.length by omega, Int.toNat_natCast]
  congr 3
  · congr 1
    rw [List.append_assoc, List.take_left]
  · rw [show X.length + Y.length = (X ++ Y).length by simp, List.drop_left]
theorem RunsUndone_pure (l : List S100) (a b : Int) (m : List S100) (w : l.length * 16 ≤ 140737488351232 ∧ ∀ x_ ∈ l, wf100 x_) (wa : (Lit.int .i64 a).wf = true) (wb : (Lit.int .i64 b).wf = true) (wm : m.length * 16 ≤ 140737488351232 ∧ ∀ x_ ∈ m, wf100 x_) : ∃ k, bureaulaw03_RunsUndone.f k l a b m = some true := by
  refine Ev.rounds (g := fun k => bureaulaw03_RunsUndone.f k l a b m) ?_
  unfold bureaulaw03_RunsUndone.f
  refine Ev.bind alive3_ev (Ev.pos rfl ?_)
  have out : Ev (fun k => bureaulaw03_RunsUndone.j0 k l m true a b) true := by
    refine Ev.step (fun k => by simp only [bureaulaw03_RunsUndone.j0]; rfl) ?_
    exact Ev.pos (by simp) (Ev.now _)
  by_cases h5 : (l.length : Int) > 5000
  · exact Ev.pos h5 out
  refine Ev.neg h5 ?_
  by_cases h6 : (m.length : Int) > 5000
  · rw [show decide ((m.length : Int) > 5000) = true by simpa using h6]
    exact out
  rw [show decide ((m.length : Int) > 5000) = false by simpa using h6]
  have hl : l.length ≤ big := by unfold big; omega
  have hm : m.length ≤ big := by unfold big; omega
  refine Ev.step (fun k => by simp only [bureaulaw03_RunsUndone.j0]; rfl) ?_
  refine Ev.neg (by simp) ?_
  refine Ev.bind (slice_ev l hl a b) (Ev.bind (splice_ev l hl a b m hm) ?_)
  have out1 : Ev (fun k => bureaulaw03_RunsUndone.j1 k l m (sliceS l a b).1 (spliceS l a b m).1 true a b) true := by
    refine Ev.step (fun k => by simp only [bureaulaw03_RunsUndone.j1]; rfl) ?_
    exact Ev.pos (by simp) (Ev.now _)
  refine Ev.ite' (fun _ => ?_) (fun _ => out1)
  by_cases hs : (spliceS l a b m).2 = 0
  · rw [show ((spliceS l a b m).2 != 0) = false by simpa using hs]
    obtain ⟨i, j, rfl, rfl, hij, hj, h4, hn, hnm, htm, hfit, he⟩ := splice_ok hs
    have hsl : sliceS l (i : Int) (j : Int) = (pack (((bytes l).take j).drop i), 0) := by
      have hw : withinB l (i : Int) (j : Int) = true := by
        unfold spliceS at hs
        by_cases hw : withinB l (i : Int) (j : Int) = true
        · exact hw
        · rw [if_neg hw] at hs; cases hs
      unfold sliceS
      rw [if_pos hw]
      rfl
    rw [he, hsl]
    have hX : ((bytes l).take i).length = i := by rw [List.length_take]; omega
    have hZ : ((bytes l).drop j).length = (bytes l).length - j := List.length_drop
    have hV : (((bytes l).take j).drop i).length = j - i := by rw [List.length_drop, List.length_take]; omega
    have hwr : wrap64 ((i : Int) + tot m) = (i : Int) + ((bytes m).length : Int) := by rw [htm]; unfold wrap64; omega
    have e1 := slice_pack ((bytes l).take i) (bytes m) ((bytes l).drop j) (by omega)
    have e2 := splice_pack ((bytes l).take i) (bytes m) ((bytes l).drop j) (((bytes l).take j).drop i) (by omega) (by omega)
    rw [hX] at e1 e2
    rw [pack_of_nrm hnm] at e1
    have hback : (bytes l).take i ++ ((bytes l).take j).drop i ++ (bytes l).drop j = bytes l := by
      conv => rhs; rw [← List.take_append_drop j (bytes l)]
      congr 1
      conv => rhs; rw [← List.take_append_drop i ((bytes l).take j)]
      rw [List.take_take, show min i j = i by omega]
    rw [hback, pack_of_nrm hn] at e2
    have hp1 := pack_len ((bytes l).take i ++ bytes m ++ (bytes l).drop j)
    simp only [List.length_append] at hp1
    have hp2 := pack_len (((bytes l).take j).drop i)
    refine Ev.step (fun k => by simp only [bureaulaw03_RunsUndone.j1]; rfl) ?_
    refine Ev.neg (by simp) ?_
    refine Ev.bind (total_ev m hm) ?_
    rw [hwr]
    refine Ev.bind (slice_ev _ (by unfold big; omega) _ _) (Ev.bind (total_ev m hm) ?_)
    rw [hwr]
    refine Ev.bind (splice_ev _ (by unfold big; omega) _ _ _ (by unfold big; omega)) ?_
    rw [e1, e2]
    exact Ev.pos rfl (Ev.bind (same_ev _ _ hm) (Ev.pos (by simp) (Ev.pos rfl (Ev.bind (same_ev _ _ hl) (ev_val (Ev.now _) (by simp))))))
  · rw [show ((spliceS l a b m).2 != 0) = true by simpa using hs]
    exact out1
end Go.Proofs.Ythpjagblnddjaaa.PB
end

section
namespace Go.Proofs.Ythpjagblnddjaaa.PB
open Go.ChangeShapes Go.WideShapes Go.ChangeAt Go.RowKit Go.Proofs.YthpjagblnddjaaaW.PrintWords
open Go.ChangeMaps (open_string shut_string)
set_option linter.unusedVariables false
namespace runsUndone
open Go.Proofs.Ythpjagblnddjaaa
theorem own : ownKnob Try.prog.godebug = none := by kernel_rfl
theorem laidOut : laidOutB Try.prog = true := by kernel_rfl
set_option maxRecDepth 100000 in
theorem lifted (os : Os) (started : os.Started) (H : Type) (enc : TypeId × Value → H) :
    ReturnsInHanded {} Try.checked os 9 .any (Rows.runsUndoneSpec.pre6 enc Try.prog Try.f9 Rows.runsUndoneRow.domain false) (Rows.runsUndoneSpec.post enc Try.prog Try.f9 false true false false) := by
  refine returnsInHanded_of_change_sized (C := Try.checked) own started (by kernel_rfl) Try.func9
    (ChangeSpec.witness6 (enc := enc) (C := Try.checked) false ⟨#[], #[.slice none 0 0, .agg #[.int .i64 0, .int .i64 0], .slice none 0 0], []⟩ 8 (by kernel_rfl) (by kernel_rfl) (by kernel_rfl) (by kernel_rfl)) ?_
  intro W base args ds gs before hval0 hW hcnd hsz0 _
  have hsz : (DataW.weightsEach Try.prog (Try.f9.params.toList ++ Rows.runsUndoneSpec.plain.varTypes Try.prog) (ds ++ gs)).all (· ≤ reachBytes) = true := hsz0
  have hval : ∀ (j : Nat) t v, Try.f9.params[j]? = some t → args[j]? = some v → Value.okWide Try.prog W .any base t v := hval0
  have hW' := hW
  obtain ⟨p, q, hA0, hV, rfl, hfz, hnd⟩ := hW
  have hA : DataW.TrodAll enc Try.prog W 0 (fun _ => true) true Try.f9.params.toList args.toList ds p := hA0
  rw [Try.params9] at hA hval hsz
  obtain ⟨v0, vs0, d0, ds0, p0, q0, hargs, rfl, rfl, h0, r0⟩ := trodAll_cons hA
  obtain ⟨v1, vs1, d1, ds1, p1, q1, rfl, rfl, rfl, h1, r1⟩ := trodAll_cons r0
  obtain ⟨v2, vs2, d2, ds2, p2, q2, rfl, rfl, rfl, h2, r2⟩ := trodAll_cons r1
  obtain ⟨rfl, rfl, rfl⟩ := trodAll_nil r2
  obtain rfl : args = #[v0, v1, v2] := by cases args; simp_all
  obtain ⟨rfl, rfl⟩ := trodVars_none hV
  have hz0 : ∀ n ∈ d0.weights Try.prog 22, n ≤ reachBytes := fun n hn => by have z := List.all_eq_true.1 hsz n (DataW.weights_mem_each (j := 0) rfl rfl n hn); simpa using z
  have kk0 := h0
  have lt0 : ∀ x ∈ p0, x.block < W.heap.size := by obtain ⟨m, hm⟩ := kk0; exact DataW.trod_lt m _ _ _ hm
  obtain ⟨A0, len0, c0, rfl⟩ := okWide_slice Try.underlying22 (hval 0 22 v0 rfl rfl)
  obtain ⟨l0, A0', c0', hcs0, hc0, hr0, w0⟩ : ∃ (l : List S100) (A' : Option Addr) (c' : Nat), (Value.slice A0 len0 c0).cells.toList = [.slice A' l.length c'] ∧ l.length ≤ c' ∧ Kd.C k100 W A' l.length l ∧ (l.length * 16 ≤ 140737488351232 ∧ ∀ x_ ∈ l, wf100 x_) := by
    obtain ⟨fuel, hf⟩ := h0
    obtain ⟨l, ⟨A', c', h1, h2, h3⟩, h4⟩ := (Opn.slice Try.underlying22 (by kernel_rfl) (by kernel_rfl : Try.prog.bytesOf 100 = 16) opn100) H enc _ _ _ fuel _ _ hf hz0
    exact ⟨l, A', c', h1, h2, h3, h4⟩
  simp only [Value.cells, List.cons.injEq, Value.slice.injEq, and_true] at hcs0
  obtain ⟨rfl, rfl, rfl⟩ := hcs0
  have hz1 : ∀ n ∈ d1.weights Try.prog 41, n ≤ reachBytes := fun n hn => by have z := List.all_eq_true.1 hsz n (DataW.weights_mem_each (j := 1) rfl rfl n hn); simpa using z
  have kk1 := h1
  have lt1 : ∀ x ∈ p1, x.block < W.heap.size := by obtain ⟨m, hm⟩ := kk1; exact DataW.trod_lt m _ _ _ hm
  obtain ⟨cs1, rfl, cz1⟩ := Opn.okWide_array Try.underlying41 (hval 1 41 v1 rfl rfl)
  obtain ⟨a1_0, a1_1, hcs1, w1_0, w1_1⟩ : ∃ a1_0 a1_1 : Int, cs1 = #[.int .i64 a1_0, .int .i64 a1_1] ∧ (Lit.int .i64 a1_0).wf = true ∧ (Lit.int .i64 a1_1).wf = true := by
    obtain ⟨fuel, hf⟩ := h1
    obtain ⟨l, hl, hc, hw⟩ := Opn.arrayI Try.underlying41 Try.underlying3 (by kernel_rfl) (by kernel_rfl) hf
    match l, hl with
    | [a1_0, a1_1], _ => exact ⟨a1_0, a1_1, Array.toList_inj.1 hc, hw _ (by simp), hw _ (by simp)⟩
  subst hcs1
  have hz2 : ∀ n ∈ d2.weights Try.prog 22, n ≤ reachBytes := fun n hn => by have z := List.all_eq_true.1 hsz n (DataW.weights_mem_each (j := 2) rfl rfl n hn); simpa using z
  have kk2 := h2
  have lt2 : ∀ x ∈ p2, x.block < W.heap.size := by obtain ⟨m, hm⟩ := kk2; exact DataW.trod_lt m _ _ _ hm
  obtain ⟨A2, len2, c2, rfl⟩ := okWide_slice Try.underlying22 (hval 2 22 v2 rfl rfl)
  obtain ⟨l2, A2', c2', hcs2, hc2, hr2, w2⟩ : ∃ (l : List S100) (A' : Option Addr) (c' : Nat), (Value.slice A2 len2 c2).cells.toList = [.slice A' l.length c'] ∧ l.length ≤ c' ∧ Kd.C k100 W A' l.length l ∧ (l.length * 16 ≤ 140737488351232 ∧ ∀ x_ ∈ l, wf100 x_) := by
    obtain ⟨fuel, hf⟩ := h2
    obtain ⟨l, ⟨A', c', h1, h2, h3⟩, h4⟩ := (Opn.slice Try.underlying22 (by kernel_rfl) (by kernel_rfl : Try.prog.bytesOf 100 = 16) opn100) H enc _ _ _ fuel _ _ hf hz2
    exact ⟨l, A', c', h1, h2, h3, h4⟩
  simp only [Value.cells, List.cons.injEq, Value.slice.injEq, and_true] at hcs2
  obtain ⟨rfl, rfl, rfl⟩ := hcs2
  clear hA0 hval0 hsz0 hsz
  obtain ⟨k, hk⟩ := RunsUndone_pure l0 a1_0 a1_1 l2 w0 w1_0 w1_1 w2
  refine (bureaulaw03_RunsUndone.calls k _ _ l0 a1_0 a1_1 _ _ l2 true W hr0 hc0 hr2 hc2 hk).mono fun e W' ⟨he, bel⟩ => ?_
  subst he
  exact ⟨_, rfl, _, _, _, [], _, [], hW', trodAll_mk1 (shut_bool Try.underlying4 _), (trodAll_cons_mk (Below.trod laidOut (by kernel_rfl) (of_decide_eq_true (by kernel_rfl)) kk0 bel lt0) (trodAll_cons_mk (Below.trod laidOut (by kernel_rfl) (of_decide_eq_true (by kernel_rfl)) kk1 bel lt1) (trodAll_cons_mk (Below.trod laidOut (by kernel_rfl) (of_decide_eq_true (by kernel_rfl)) kk2 bel lt2) trodAll_mk0))), rfl, bel.frame _, fun h => by cases h⟩
theorem over : Rows.runsUndoneRow.holds Try.pinned (OpenSpec.ofChange Rows.runsUndoneSpec) :=
  OpenClaim.holds_of_wide 9 Try.f9 rfl rfl rfl rfl rfl rfl rfl ⟨rfl, rfl, rfl, rfl, rfl⟩ rfl rfl rfl rfl rfl (by kernel_rfl) Try.func9 (by kernel_rfl)
    (of_decide_eq_true (by kernel_rfl)) (by unfold Func.isWrapper; first | (rw [if_pos (by decide +kernel)]; kernel_rfl) | (rw [if_neg (by decide +kernel)]; exact ⟨rfl, rfl⟩))
    (fun os started H enc _ => lifted os started H enc)
theorem proved : Rows.RunsUndoneSaid := over
end runsUndone
end Go.Proofs.Ythpjagblnddjaaa.PB
namespace Go.Proofs.Ythpjagblnddjaaa
theorem runsUndone_holds : Rows.RunsUndoneSaid := PB.runsUndone.proved
#print axioms runsUndone_holds
end Go.Proofs.Ythpjagblnddjaaa
end
