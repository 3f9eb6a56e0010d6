/- What the row hangs on, part 6. -/
import Derived.OpenShut
import Derived.ChangeArms
import Derived.Deep.Slices
import Derived.SizedLaws
import Derived.Test.YthpjagblnddjaaaQEditBack5
section
namespace Go.Proofs.Ythpjagblnddjaaa.PB
open Go.RowKit Go.Proofs.YthpjagblnddjaaaW.PrintWords Go.Proofs.YthpjagblnddjaaaW.PrintLast Go.Proofs.YthpjagblnddjaaaW.PrintMore
attribute [local go_sem] max2_int min2_int max_two min_two max_three min_three max_four min_four   
set_option linter.unusedVariables false
set_option linter.unusedSimpArgs false
def bureaulaw07_EditBack.j0 : Nat → Bool → ByteArray → List (S100) → Int → ByteArray → List (S100) → ByteArray → List (S100) → Option (Bool)
  | 0, _, _, _, _, _, _, _, _ => none
  | k + 1, x18, x714000, x714001, x715000, x715001, x715002, x715003, x715004 => if x18 = true then (some true) else ((edit_Apply.f k x714000 x714001 x715000 x715001 x715002 x715003 x715004).bind fun bt718 => (if bt718.2.2 = 0 then ((edit_Invert.f x715000 x715001 x715002 x715003 x715004).bind fun bt724 => ((edit_Apply.f k bt718.1 bt718.2.1 bt724.1 bt724.2.1 bt724.2.2.1 bt724.2.2.2.1 bt724.2.2.2.2).bind fun bt733 => (if bt733.2.2 = 0 then ((bureauref04_Same.f k bt733.1 bt733.2.1 x714000 x714001).bind fun t739 => (some t739)) else (some false)))) else ((bureauref04_Same.f k bt718.1 bt718.2.1 (⟨#[]⟩ : ByteArray) ([] : List (S100))).bind fun t740 => (some t740))))
def bureaulaw07_EditBack.f (k : Nat) (a0_0 : ByteArray) (l0_1 : List (S100)) (a1_0 : Int) (a1_1 : ByteArray) (l1_2 : List (S100)) (a1_3 : ByteArray) (l1_4 : List (S100)) : Option (Bool) := (bureaulaw07_alive.f k).bind fun t715 => (if t715 = true then ((bureaulaw04_Fits.f a0_0 l0_1).bind fun t716 => (if t716 = true then ((bureaulaw07_Fits.f a1_0 a1_1 l1_2 a1_3 l1_4).bind fun t717 => (bureaulaw07_EditBack.j0 k (!t717) a0_0 l0_1 a1_0 a1_1 l1_2 a1_3 l1_4)) else (bureaulaw07_EditBack.j0 k true a0_0 l0_1 a1_0 a1_1 l1_2 a1_3 l1_4))) else (some false))
def bureaulaw07_EditBack.T8 : Bool × List (List Nat × List Nat) := (true, [([], []), ([], []), ([1], [1]), ([0, 2, 2], [0, 2]), ([3], [3]), ([4], [4]), ([4], [4]), ([], []), ([7, 5, 3, 0, 1, 2, 3, 4, 5, 7], [5, 7]), ([6, 8, 0, 1, 2, 3, 4, 5, 6, 7, 8], [6])])
def bureaulaw07_EditBack.B8 : List Nat := [0, 0, 2, 7, 15, 31, 31, 0, 191, 511]
theorem bureaulaw07_EditBack.tab8 : rtab .any (opsOf Try.f15 8) = bureaulaw07_EditBack.T8 := by kernel_rfl
theorem bureaulaw07_EditBack.bits8 : waitsOk bureaulaw07_EditBack.T8.2 bureaulaw07_EditBack.B8 = true := by kernel_rfl
set_option maxHeartbeats 8000000 in
set_option maxRecDepth 100000 in
theorem bureaulaw07_EditBack.calls (k : Nat) (a0_0 : ByteArray) (A0_1 : Option Addr) (c0_1 : Nat) (l0_1 : List (S100)) (a1_0 : Int) (a1_1 : ByteArray) (A1_2 : Option Addr) (c1_2 : Nat) (l1_2 : List (S100)) (a1_3 : ByteArray) (A1_4 : Option Addr) (c1_4 : Nat) (l1_4 : List (S100)) (r : Bool) (w : World) (hr0_1 : Kd.C k100 w A0_1 l0_1.length l0_1) (hc0_1 : l0_1.length ≤ c0_1) (hr1_2 : Kd.C k100 w A1_2 l1_2.length l1_2) (hc1_2 : l1_2.length ≤ c1_2) (hr1_4 : Kd.C k100 w A1_4 l1_4.length l1_4) (hc1_4 : l1_4.length ≤ c1_4) (h : bureaulaw07_EditBack.f k a0_0 l0_1 a1_0 a1_1 l1_2 a1_3 l1_4 = some r) :
    Calls Try.prog 15 #[.agg #[.string a0_0, .slice A0_1 l0_1.length c0_1], .agg #[.int .i64 a1_0, .string a1_1, .slice A1_2 l1_2.length c1_2, .string a1_3, .slice A1_4 l1_4.length c1_4]] w fun e w' => e = .returned (.bool r) ∧ Below w.heap.size w w' := by
  have hu51 := Try.underlying51
  have hu64 := Try.underlying64
  have HR0_1 := Aside0.mk hr0_1
  have HC0_1 := Aside0.mk hc0_1
  clear hr0_1 hc0_1
  have HR1_2 := Aside0.mk hr1_2
  have HC1_2 := Aside0.mk hc1_2
  clear hr1_2 hc1_2
  have HR1_4 := Aside0.mk hr1_4
  have HC1_4 := Aside0.mk hc1_4
  clear hr1_4 hc1_4
  have HB := Aside0.mk (Below.refl w.heap.size w)
  have H : ((bureaulaw07_alive.f k).bind fun t715 => (if t715 = true then ((bureaulaw04_Fits.f a0_0 l0_1).bind fun t716 => (if t716 = true then ((bureaulaw07_Fits.f a1_0 a1_1 l1_2 a1_3 l1_4).bind fun t717 => (bureaulaw07_EditBack.j0 k (!t717) a0_0 l0_1 a1_0 a1_1 l1_2 a1_3 l1_4)) else (bureaulaw07_EditBack.j0 k true a0_0 l0_1 a1_0 a1_1 l1_2 a1_3 l1_4))) else (some false))) = some r := h
  clear h
  replace H := Option.bind_eq_some_iff.mp H
  obtain ⟨t715, A30, H⟩ := H
  replace H : (if t715 = true then ((bureaulaw04_Fits.f a0_0 l0_1).bind fun t716 => (if t716 = true then ((bureaulaw07_Fits.f a1_0 a1_1 l1_2 a1_3 l1_4).bind fun t717 => (bureaulaw07_EditBack.j0 k (!t717) a0_0 l0_1 a1_0 a1_1 l1_2 a1_3 l1_4)) else (bureaulaw07_EditBack.j0 k true a0_0 l0_1 a1_0 a1_1 l1_2 a1_3 l1_4))) else (some false)) = some r := H
  have A3 := Aside0.mk A30
  clear A30
  by_cases c4 : t715 = true
  · subst c4
    have H1 : ((bureaulaw04_Fits.f a0_0 l0_1).bind fun t716 => (if t716 = true then ((bureaulaw07_Fits.f a1_0 a1_1 l1_2 a1_3 l1_4).bind fun t717 => (bureaulaw07_EditBack.j0 k (!t717) a0_0 l0_1 a1_0 a1_1 l1_2 a1_3 l1_4)) else (bureaulaw07_EditBack.j0 k true a0_0 l0_1 a1_0 a1_1 l1_2 a1_3 l1_4))) = some r := by rw [if_pos rfl] at H; exact H
    clear H
    have H := H1
    clear H1
    have HC5 := Aside0.mk H
    clear H
    go_enter Try.func15, Try.ntmps15
    go_upto_region 3 with (first | ((with_reducible refine gate_dst (N := 2) rfl ?_); refine box_event ?hg (N := 2) ?hd (cs := #[.string a0_0, .slice A0_1 l0_1.length c0_1]) (t := 51) ?hr ?_; (case hd => rfl); (case hg => rfl); (case hr => first | (go_simp; done) | (go_simp; rfl)); intro gb713 hg w6 hbox hb; have n0_ := Aside0.mk (below_step (by repeat (first | (with_reducible first | exact HB.out | apply below_alloc | apply pw_below_drewN | apply below_drew1) | exact HB.out)) hb); have n1_ := Aside0.mk (hbox); have n2_ := Aside0.mk ((by rw [hg]; exact (below_size (by repeat (first | (with_reducible first | exact HB.out | apply below_alloc | apply pw_below_drewN | apply below_drew1) | exact HB.out))) : w.heap.size ≤ gb713)); have n3_ := Aside0.mk ((by rw [hg]; exact (below_size (by repeat (first | (with_reducible first | exact HB.out | apply below_alloc | apply pw_below_drewN | apply below_drew1) | exact HB.out))) : w.heap.size ≤ gb713)); clear HB; have HB := n0_; have BK713 := n1_; have GW713 := n2_; have GE713 := n3_; clear n0_ n1_ n2_ n3_; clear hb hbox hg) | ((with_reducible refine gate_dst (N := 3) rfl ?_); refine box_event ?hg (N := 3) ?hd (cs := #[.int .i64 a1_0, .string a1_1, .slice A1_2 l1_2.length c1_2, .string a1_3, .slice A1_4 l1_4.length c1_4]) (t := 64) ?hr ?_; (case hd => rfl); (case hg => rfl); (case hr => first | (go_simp; done) | (go_simp; rfl)); intro gb714 hg w7 hbox hb; have n0_ := Aside0.mk (blk_below (g := gb713) (o := .cells #[.string a0_0, .slice A0_1 l0_1.length c0_1] 51 (0, 0)) (by (with_reducible repeat (first | refine blk_drewN ?_ _ | refine blk_drew ?_ | refine blk_alloc ?_ _)); exact BK713.out) hb); have n1_ := Aside0.mk (below_step (by repeat (first | (with_reducible first | exact HB.out | apply below_alloc | apply pw_below_drewN | apply below_drew1 | refine below_set ?_ GE713.out) | exact HB.out)) hb); have n2_ := Aside0.mk (hbox); have n3_ := Aside0.mk ((by rw [hg]; exact (below_size (by repeat (first | (with_reducible first | exact HB.out | apply below_alloc | apply pw_below_drewN | apply below_drew1 | refine below_set ?_ GE713.out) | exact HB.out))) : w.heap.size ≤ gb714)); have n4_ := Aside0.mk ((by rw [hg]; exact (below_size (by repeat (first | (with_reducible first | exact HB.out | apply below_alloc | apply pw_below_drewN | apply below_drew1 | refine below_set ?_ GE713.out) | exact HB.out))) : w.heap.size ≤ gb714)); have n5_ := Aside0.mk ((by rw [hg]; exact Nat.ne_of_lt (blk_lt (g := gb713) (o := .cells #[.string a0_0, .slice A0_1 l0_1.length c0_1] 51 (0, 0)) (by (with_reducible repeat (first | refine blk_drewN ?_ _ | refine blk_drew ?_ | refine blk_alloc ?_ _)); exact BK713.out)) : gb713 ≠ gb714)); have n6_ := Aside0.mk ((by rw [hg]; exact Nat.ne_of_gt (blk_lt (g := gb713) (o := .cells #[.string a0_0, .slice A0_1 l0_1.length c0_1] 51 (0, 0)) (by (with_reducible repeat (first | refine blk_drewN ?_ _ | refine blk_drew ?_ | refine blk_alloc ?_ _)); exact BK713.out)) : gb714 ≠ gb713)); clear BK713; clear HB; have BK713 := n0_; have HB := n1_; have BK714 := n2_; have GW714 := n3_; have GE714 := n4_; have NB713_714 := n5_; have NB714_713 := n6_; clear n0_ n1_ n2_ n3_ n4_ n5_ n6_; clear hb hbox hg) | ((with_reducible refine gate_callee (f := 55) rfl ?_); refine goesL_ (some 9) rfl rfl Try.func55 (by kernel_rfl) rfl #[] rfl (by (try simp only [List.map_toArray, List.map_cons, List.map_nil]); first | done | rfl | (simp only [List.length_drop, List.length_take]; rfl)) ?_; (with_reducible refine (bureaulaw07_alive.calls k  true _ A3.out).mono ?_); rintro e w8 ⟨rfl, hb⟩; refine ⟨_, rfl, ?_⟩; have n0_ := Aside0.mk (blk_below (g := gb713) (o := .cells #[.string a0_0, .slice A0_1 l0_1.length c0_1] 51 (0, 0)) (by (with_reducible repeat (first | refine blk_drewN ?_ _ | refine blk_drew ?_ | refine blk_alloc ?_ _)); exact BK713.out) hb); have n1_ := Aside0.mk (blk_below (g := gb714) (o := .cells #[.int .i64 a1_0, .string a1_1, .slice A1_2 l1_2.length c1_2, .string a1_3, .slice A1_4 l1_4.length c1_4] 64 (0, 0)) (by (with_reducible repeat (first | refine blk_drewN ?_ _ | refine blk_drew ?_ | refine blk_alloc ?_ _)); exact BK714.out) hb); have n2_ := Aside0.mk (below_step (by repeat (first | (with_reducible first | exact HB.out | apply below_alloc | apply pw_below_drewN | apply below_drew1 | refine below_set ?_ GE713.out | refine below_set ?_ GE714.out) | exact HB.out)) hb); clear BK713; clear BK714; clear HB; have BK713 := n0_; have BK714 := n1_; have HB := n2_; clear n0_ n1_ n2_; (try clear hb); (try clear hb2); (try clear hk); (try clear hi)))
    (try simp only [Act.put, List.setIfInBounds_toArray, List.set_cons_zero, List.set_cons_succ])
    go_cut [18] (fun v18 wc => ∃ (kq : Nat) (x18_4 : Bool), v18 = .bool x18_4 ∧ Aside0 (bureaulaw07_EditBack.j0 kq x18_4 a0_0 l0_1 a1_0 a1_1 l1_2 a1_3 l1_4 = some r) ∧ Aside0 (kq ≤ k) ∧ Aside0 (wc.heap[gb713]? = some (.cells #[.string a0_0, (.slice A0_1 l0_1.length c0_1)] 51 (0, 0))) ∧ Aside0 (wc.heap[gb714]? = some (.cells #[.int .i64 a1_0, .string a1_1, (.slice A1_2 l1_2.length c1_2), .string a1_3, (.slice A1_4 l1_4.length c1_4)] 64 (0, 0))) ∧ Aside0 (Below w.heap.size w wc))
    case first =>
      have H := HC5.out
      clear HC5
      replace H := Option.bind_eq_some_iff.mp H
      obtain ⟨t716, A90, H⟩ := H
      replace H : (if t716 = true then ((bureaulaw07_Fits.f a1_0 a1_1 l1_2 a1_3 l1_4).bind fun t717 => (bureaulaw07_EditBack.j0 k (!t717) a0_0 l0_1 a1_0 a1_1 l1_2 a1_3 l1_4)) else (bureaulaw07_EditBack.j0 k true a0_0 l0_1 a1_0 a1_1 l1_2 a1_3 l1_4)) = some r := H
      have A9 := Aside0.mk A90
      clear A90
      by_cases c10 : t716 = true
      · subst c10
        have H1 : ((bureaulaw07_Fits.f a1_0 a1_1 l1_2 a1_3 l1_4).bind fun t717 => (bureaulaw07_EditBack.j0 k (!t717) a0_0 l0_1 a1_0 a1_1 l1_2 a1_3 l1_4)) = some r := by rw [if_pos rfl] at H; exact H
        clear H
        have H := H1
        clear H1
        replace H := Option.bind_eq_some_iff.mp H
        obtain ⟨t717, A110, H⟩ := H
        replace H : (bureaulaw07_EditBack.j0 k (!t717) a0_0 l0_1 a1_0 a1_1 l1_2 a1_3 l1_4) = some r := H
        have A11 := Aside0.mk A110
        clear A110
        have H' := Aside0.mk H
        clear H
        have hnb12 := NB713_714.out
        have hnc12 := NB714_713.out
        have hcz13_0 : w8.cell? ⟨gb713, 0, none⟩ = some (.string a0_0) := (blk_cell BK713.out 0).trans rfl
        have hcz13_1 : w8.cell? ⟨gb713, 1, none⟩ = some (.slice A0_1 l0_1.length c0_1) := (blk_cell BK713.out 1).trans rfl
        have hfz13_0 := blk_frozen BK713.out 0
        have hfz13_1 := blk_frozen BK713.out 1
        go_wp2_with (first | ((with_reducible refine gate_callee (f := 45) rfl ?_); refine goesL_ (some 12) rfl rfl Try.func45 (by kernel_rfl) rfl #[.agg #[.string a0_0, .slice A0_1 l0_1.length c0_1]] rfl (by (try simp only [List.map_toArray, List.map_cons, List.map_nil]); first | done | rfl | (simp only [List.length_drop, List.length_take]; rfl)) ?_; (with_reducible refine (bureaulaw04_Fits.calls a0_0 _ _ l0_1 true _ ?side1 ?side2 A9.out).mono ?_); (case side1 => repeat (first | exact (Kd.C_below HR0_1.out HB.out) | (with_reducible refine Kd.C_alloc ?_ _) | (with_reducible refine Kd.C_drewN ?_ _) | (with_reducible refine Kd.C_drew ?_))); (case side2 => exact HC0_1.out); rintro e w14 ⟨rfl, hb⟩; refine ⟨_, rfl, ?_⟩; have n0_ := Aside0.mk (blk_below (g := gb713) (o := .cells #[.string a0_0, .slice A0_1 l0_1.length c0_1] 51 (0, 0)) (by (with_reducible repeat (first | refine blk_drewN ?_ _ | refine blk_drew ?_ | refine blk_alloc ?_ _)); exact BK713.out) hb); have n1_ := Aside0.mk (blk_below (g := gb714) (o := .cells #[.int .i64 a1_0, .string a1_1, .slice A1_2 l1_2.length c1_2, .string a1_3, .slice A1_4 l1_4.length c1_4] 64 (0, 0)) (by (with_reducible repeat (first | refine blk_drewN ?_ _ | refine blk_drew ?_ | refine blk_alloc ?_ _)); exact BK714.out) hb); have n2_ := Aside0.mk (below_step (by repeat (first | (with_reducible first | exact HB.out | apply below_alloc | apply pw_below_drewN | apply below_drew1 | refine below_set ?_ GE713.out | refine below_set ?_ GE714.out) | exact HB.out)) hb); clear BK713; clear BK714; clear HB; have BK713 := n0_; have BK714 := n1_; have HB := n2_; clear n0_ n1_ n2_; (try clear hb); (try clear hb2); (try clear hk); (try clear hi); have hcz15_0 : w14.cell? ⟨gb714, 0, none⟩ = some (.int .i64 a1_0) := (blk_cell BK714.out 0).trans rfl; have hcz15_1 : w14.cell? ⟨gb714, 1, none⟩ = some (.string a1_1) := (blk_cell BK714.out 1).trans rfl; have hcz15_2 : w14.cell? ⟨gb714, 2, none⟩ = some (.slice A1_2 l1_2.length c1_2) := (blk_cell BK714.out 2).trans rfl; have hcz15_3 : w14.cell? ⟨gb714, 3, none⟩ = some (.string a1_3) := (blk_cell BK714.out 3).trans rfl; have hcz15_4 : w14.cell? ⟨gb714, 4, none⟩ = some (.slice A1_4 l1_4.length c1_4) := (blk_cell BK714.out 4).trans rfl; have hfz15_0 := blk_frozen BK714.out 0; have hfz15_1 := blk_frozen BK714.out 1; have hfz15_2 := blk_frozen BK714.out 2; have hfz15_3 := blk_frozen BK714.out 3; have hfz15_4 := blk_frozen BK714.out 4) | (go_at_call 61; (with_reducible refine (bureaulaw07_Fits.calls a1_0 a1_1 _ _ l1_2 a1_3 _ _ l1_4 t717 _ ?side1 ?side2 ?side3 ?side4 A11.out).mono ?_); (case side1 => repeat (first | exact (Kd.C_below HR1_2.out HB.out) | (with_reducible refine Kd.C_alloc ?_ _) | (with_reducible refine Kd.C_drewN ?_ _) | (with_reducible refine Kd.C_drew ?_))); (case side2 => exact HC1_2.out); (case side3 => repeat (first | exact (Kd.C_below HR1_4.out HB.out) | (with_reducible refine Kd.C_alloc ?_ _) | (with_reducible refine Kd.C_drewN ?_ _) | (with_reducible refine Kd.C_drew ?_))); (case side4 => exact HC1_4.out); rintro e w16 ⟨rfl, hb⟩; have n0_ := Aside0.mk (blk_below (g := gb713) (o := .cells #[.string a0_0, .slice A0_1 l0_1.length c0_1] 51 (0, 0)) (by (with_reducible repeat (first | refine blk_drewN ?_ _ | refine blk_drew ?_ | refine blk_alloc ?_ _)); exact BK713.out) hb); have n1_ := Aside0.mk (blk_below (g := gb714) (o := .cells #[.int .i64 a1_0, .string a1_1, .slice A1_2 l1_2.length c1_2, .string a1_3, .slice A1_4 l1_4.length c1_4] 64 (0, 0)) (by (with_reducible repeat (first | refine blk_drewN ?_ _ | refine blk_drew ?_ | refine blk_alloc ?_ _)); exact BK714.out) hb); have n2_ := Aside0.mk (below_step (by repeat (first | (with_reducible first | exact HB.out | apply below_alloc | apply pw_below_drewN | apply below_drew1 | refine below_set ?_ GE713.out | refine below_set ?_ GE714.out) | exact HB.out)) hb); clear BK713; clear BK714; clear HB; have BK713 := n0_; have BK714 := n1_; have HB := n2_; clear n0_ n1_ n2_; (try clear hb); (try clear hb2); (try clear hk); (try clear hi)))
        go_meet
        case rel => exact ⟨_, (!t717), (by first | rfl | (simp; done) | (simp [*]; done)), H', ⟨by first | omega | exact Nat.le_refl _⟩, ⟨by (with_reducible repeat (first | refine blk_drewN ?_ _ | refine blk_drew ?_ | refine blk_alloc ?_ _)); exact BK713.out⟩, ⟨by (with_reducible repeat (first | refine blk_drewN ?_ _ | refine blk_drew ?_ | refine blk_alloc ?_ _)); exact BK714.out⟩, ⟨by repeat (first | (with_reducible first | exact HB.out | apply below_alloc | apply pw_below_drewN | apply below_drew1 | refine below_set ?_ GE713.out | refine below_set ?_ GE714.out) | exact HB.out)⟩⟩
      · replace c10 := Bool.eq_false_iff.mpr c10
        subst c10
        have H1 : (bureaulaw07_EditBack.j0 k true a0_0 l0_1 a1_0 a1_1 l1_2 a1_3 l1_4) = some r := by rw [if_neg (show ¬ (false = true) by decide)] at H; exact H
        clear H
        have H := H1
        clear H1
        have H' := Aside0.mk H
        clear H
        have hnb17 := NB713_714.out
        have hnc17 := NB714_713.out
        have hcz18_0 : w8.cell? ⟨gb713, 0, none⟩ = some (.string a0_0) := (blk_cell BK713.out 0).trans rfl
        have hcz18_1 : w8.cell? ⟨gb713, 1, none⟩ = some (.slice A0_1 l0_1.length c0_1) := (blk_cell BK713.out 1).trans rfl
        have hfz18_0 := blk_frozen BK713.out 0
        have hfz18_1 := blk_frozen BK713.out 1
        go_wp2_with (first | ((with_reducible refine gate_callee (f := 45) rfl ?_); refine goesL_ (some 12) rfl rfl Try.func45 (by kernel_rfl) rfl #[.agg #[.string a0_0, .slice A0_1 l0_1.length c0_1]] rfl (by (try simp only [List.map_toArray, List.map_cons, List.map_nil]); first | done | rfl | (simp only [List.length_drop, List.length_take]; rfl)) ?_; (with_reducible refine (bureaulaw04_Fits.calls a0_0 _ _ l0_1 false _ ?side1 ?side2 A9.out).mono ?_); (case side1 => repeat (first | exact (Kd.C_below HR0_1.out HB.out) | (with_reducible refine Kd.C_alloc ?_ _) | (with_reducible refine Kd.C_drewN ?_ _) | (with_reducible refine Kd.C_drew ?_))); (case side2 => exact HC0_1.out); rintro e w19 ⟨rfl, hb⟩; refine ⟨_, rfl, ?_⟩; have n0_ := Aside0.mk (blk_below (g := gb713) (o := .cells #[.string a0_0, .slice A0_1 l0_1.length c0_1] 51 (0, 0)) (by (with_reducible repeat (first | refine blk_drewN ?_ _ | refine blk_drew ?_ | refine blk_alloc ?_ _)); exact BK713.out) hb); have n1_ := Aside0.mk (blk_below (g := gb714) (o := .cells #[.int .i64 a1_0, .string a1_1, .slice A1_2 l1_2.length c1_2, .string a1_3, .slice A1_4 l1_4.length c1_4] 64 (0, 0)) (by (with_reducible repeat (first | refine blk_drewN ?_ _ | refine blk_drew ?_ | refine blk_alloc ?_ _)); exact BK714.out) hb); have n2_ := Aside0.mk (below_step (by repeat (first | (with_reducible first | exact HB.out | apply below_alloc | apply pw_below_drewN | apply below_drew1 | refine below_set ?_ GE713.out | refine below_set ?_ GE714.out) | exact HB.out)) hb); clear BK713; clear BK714; clear HB; have BK713 := n0_; have BK714 := n1_; have HB := n2_; clear n0_ n1_ n2_; (try clear hb); (try clear hb2); (try clear hk); (try clear hi)))
        go_meet
        case rel => exact ⟨_, (true), (by first | rfl | (simp; done) | (simp [*]; done)), H', ⟨by first | omega | exact Nat.le_refl _⟩, ⟨by (with_reducible repeat (first | refine blk_drewN ?_ _ | refine blk_drew ?_ | refine blk_alloc ?_ _)); exact BK713.out⟩, ⟨by (with_reducible repeat (first | refine blk_drewN ?_ _ | refine blk_drew ?_ | refine blk_alloc ?_ _)); exact BK714.out⟩, ⟨by repeat (first | (with_reducible first | exact HB.out | apply below_alloc | apply pw_below_drewN | apply below_drew1 | refine below_set ?_ GE713.out | refine below_set ?_ GE714.out) | exact HB.out)⟩⟩
    case rest =>
      clear HC5
      try clear c1
      try clear p2
      try clear c4
      try clear c5
      try clear c10
      try clear c12
      try clear c15
      try clear c17
      try clear hcz13_0
      try clear hcz13_1
      try clear hcz15_0
      try clear hcz15_1
      try clear hcz15_2
      try clear hcz15_3
      try clear hcz15_4
      try clear hcz18_0
      try clear hcz18_1
      try clear hfz13_0
      try clear hfz13_1
      try clear hfz15_0
      try clear hfz15_1
      try clear hfz15_2
      try clear hfz15_3
      try clear hfz15_4
      try clear hfz18_0
      try clear hfz18_1
      obtain ⟨kq, x18_4, rfl, HA, HJ4, BK713, BK714, HB⟩ := hcut
      cases kq with
      | zero => exact absurd HA.out (by simp [bureaulaw07_EditBack.j0])
      | succ kj4 =>
        have H := HA.out
        clear HA
        simp only [bureaulaw07_EditBack.j0] at H
        by_cases c20 : x18_4 = true
        · subst c20
          have H1 : (some true) = some r := by rw [if_pos rfl] at H; exact H
          clear H
          have H := H1
          clear H1
          obtain rfl := Option.some.inj H
          go_wp2
          go_ret
          exact ⟨by first | rfl | (simp [errW_none, errW_some] <;> rfl) | (simp [*, errW_none, errW_some] <;> rfl), by repeat (first | (with_reducible first | exact HB.out | apply below_alloc | apply pw_below_drewN | apply below_drew1 | refine below_set ?_ GE713.out | refine below_set ?_ GE714.out) | exact HB.out)⟩
        · replace c20 := Bool.eq_false_iff.mpr c20
          subst c20
          have H1 : ((edit_Apply.f kj4 a0_0 l0_1 a1_0 a1_1 l1_2 a1_3 l1_4).bind fun bt718 => (if bt718.2.2 = 0 then ((edit_Invert.f a1_0 a1_1 l1_2 a1_3 l1_4).bind fun bt724 => ((edit_Apply.f kj4 bt718.1 bt718.2.1 bt724.1 bt724.2.1 bt724.2.2.1 bt724.2.2.2.1 bt724.2.2.2.2).bind fun bt733 => (if bt733.2.2 = 0 then ((bureauref04_Same.f kj4 bt733.1 bt733.2.1 a0_0 l0_1).bind fun t739 => (some t739)) else (some false)))) else ((bureauref04_Same.f kj4 bt718.1 bt718.2.1 (⟨#[]⟩ : ByteArray) ([] : List (S100))).bind fun t740 => (some t740)))) = some r := by rw [if_neg (show ¬ (false = true) by decide)] at H; exact H
          clear H
          have H := H1
          clear H1
          replace H := Option.bind_eq_some_iff.mp H
          obtain ⟨⟨t718, t719, t722⟩, A210, H⟩ := H
          replace H : (if t722 = 0 then ((edit_Invert.f a1_0 a1_1 l1_2 a1_3 l1_4).bind fun bt724 => ((edit_Apply.f kj4 t718 t719 bt724.1 bt724.2.1 bt724.2.2.1 bt724.2.2.2.1 bt724.2.2.2.2).bind fun bt733 => (if bt733.2.2 = 0 then ((bureauref04_Same.f kj4 bt733.1 bt733.2.1 a0_0 l0_1).bind fun t739 => (some t739)) else (some false)))) else ((bureauref04_Same.f kj4 t718 t719 (⟨#[]⟩ : ByteArray) ([] : List (S100))).bind fun t740 => (some t740))) = some r := H
          have A21 := Aside0.mk A210
          clear A210
          by_cases c22 : t722 = 0
          · rw [if_pos c22] at H
            have c22b0 : (t722 == 0) = true := beq_iff_eq.mpr c22
            have c22b1 : (t722 != 0) = false := bne_eq_false_iff_eq.mpr c22
            clear c22
            replace H := Option.bind_eq_some_iff.mp H
            obtain ⟨⟨t724, t725, t726, t729, t730⟩, A230, H⟩ := H
            replace H : ((edit_Apply.f kj4 t718 t719 t724 t725 t726 t729 t730).bind fun bt733 => (if bt733.2.2 = 0 then ((bureauref04_Same.f kj4 bt733.1 bt733.2.1 a0_0 l0_1).bind fun t739 => (some t739)) else (some false))) = some r := H
            have A23 := Aside0.mk A230
            clear A230
            replace H := Option.bind_eq_some_iff.mp H
            obtain ⟨⟨t733, t734, t737⟩, A240, H⟩ := H
            replace H : (if t737 = 0 then ((bureauref04_Same.f kj4 t733 t734 a0_0 l0_1).bind fun t739 => (some t739)) else (some false)) = some r := H
            have A24 := Aside0.mk A240
            clear A240
            by_cases c25 : t737 = 0
            · rw [if_pos c25] at H
              have c25b0 : (t737 == 0) = true := beq_iff_eq.mpr c25
              have c25b1 : (t737 != 0) = false := bne_eq_false_iff_eq.mpr c25
              clear c25
              replace H := Option.bind_eq_some_iff.mp H
              obtain ⟨t739, A260, H⟩ := H
              replace H : (some t739) = some r := H
              have A26 := Aside0.mk A260
              clear A260
              obtain rfl := Option.some.inj H
              have hnb27 := NB713_714.out
              have hnc27 := NB714_713.out
              have hcz28_0 : wc.cell? ⟨gb713, 0, none⟩ = some (.string a0_0) := (blk_cell BK713.out 0).trans rfl
              have hcz28_1 : wc.cell? ⟨gb713, 1, none⟩ = some (.slice A0_1 l0_1.length c0_1) := (blk_cell BK713.out 1).trans rfl
              have hfz28_0 := blk_frozen BK713.out 0
              have hfz28_1 := blk_frozen BK713.out 1
              have hcz29_0 : wc.cell? ⟨gb714, 0, none⟩ = some (.int .i64 a1_0) := (blk_cell BK714.out 0).trans rfl
              have hcz29_1 : wc.cell? ⟨gb714, 1, none⟩ = some (.string a1_1) := (blk_cell BK714.out 1).trans rfl
              have hcz29_2 : wc.cell? ⟨gb714, 2, none⟩ = some (.slice A1_2 l1_2.length c1_2) := (blk_cell BK714.out 2).trans rfl
              have hcz29_3 : wc.cell? ⟨gb714, 3, none⟩ = some (.string a1_3) := (blk_cell BK714.out 3).trans rfl
              have hcz29_4 : wc.cell? ⟨gb714, 4, none⟩ = some (.slice A1_4 l1_4.length c1_4) := (blk_cell BK714.out 4).trans rfl
              have hfz29_0 := blk_frozen BK714.out 0
              have hfz29_1 := blk_frozen BK714.out 1
              have hfz29_2 := blk_frozen BK714.out 2
              have hfz29_3 := blk_frozen BK714.out 3
              have hfz29_4 := blk_frozen BK714.out 4
              try go_wp2_with (first | ((with_reducible refine gate_callee (f := 65) rfl ?_); refine goesL_ (some 22) rfl rfl Try.func65 (by kernel_rfl) rfl #[.agg #[.string a0_0, .slice A0_1 l0_1.length c0_1], .agg #[.int .i64 a1_0, .string a1_1, .slice A1_2 l1_2.length c1_2, .string a1_3, .slice A1_4 l1_4.length c1_4]] rfl (by (try simp only [List.map_toArray, List.map_cons, List.map_nil]); first | done | rfl | (simp only [List.length_drop, List.length_take]; rfl)) ?_; (with_reducible refine (edit_Apply.calls kj4 a0_0 _ _ l0_1 a1_0 a1_1 _ _ l1_2 a1_3 _ _ l1_4 t718 t719 t722 _ ?side1 ?side2 ?side3 ?side4 ?side5 ?side6 A21.out).mono ?_); (case side1 => repeat (first | exact (Kd.C_below HR0_1.out HB.out) | (with_reducible refine Kd.C_alloc ?_ _) | (with_reducible refine Kd.C_drewN ?_ _) | (with_reducible refine Kd.C_drew ?_))); (case side2 => exact HC0_1.out); (case side3 => repeat (first | exact (Kd.C_below HR1_2.out HB.out) | (with_reducible refine Kd.C_alloc ?_ _) | (with_reducible refine Kd.C_drewN ?_ _) | (with_reducible refine Kd.C_drew ?_))); (case side4 => exact HC1_2.out); (case side5 => repeat (first | exact (Kd.C_below HR1_4.out HB.out) | (with_reducible refine Kd.C_alloc ?_ _) | (with_reducible refine Kd.C_drewN ?_ _) | (with_reducible refine Kd.C_drew ?_))); (case side6 => exact HC1_4.out); rintro e w30 ⟨v720, rfl, ho0, hb⟩; refine ⟨_, rfl, ?_⟩; have n0_ := Aside0.mk (Kd.R_lower ho0 (below_size (by repeat (first | (with_reducible first | exact HB.out | apply below_alloc | apply pw_below_drewN | apply below_drew1 | refine below_set ?_ GE713.out | refine below_set ?_ GE714.out) | exact HB.out)))); have n1_ := Aside0.mk (blk_below (g := gb713) (o := .cells #[.string a0_0, .slice A0_1 l0_1.length c0_1] 51 (0, 0)) (by (with_reducible repeat (first | refine blk_drewN ?_ _ | refine blk_drew ?_ | refine blk_alloc ?_ _)); exact BK713.out) hb); have n2_ := Aside0.mk (blk_below (g := gb714) (o := .cells #[.int .i64 a1_0, .string a1_1, .slice A1_2 l1_2.length c1_2, .string a1_3, .slice A1_4 l1_4.length c1_4] 64 (0, 0)) (by (with_reducible repeat (first | refine blk_drewN ?_ _ | refine blk_drew ?_ | refine blk_alloc ?_ _)); exact BK714.out) hb); have n3_ := Aside0.mk (below_step (by repeat (first | (with_reducible first | exact HB.out | apply below_alloc | apply pw_below_drewN | apply below_drew1 | refine below_set ?_ GE713.out | refine below_set ?_ GE714.out) | exact HB.out)) hb); clear BK713; clear BK714; clear HB; have HO721 := n0_; have BK713 := n1_; have BK714 := n2_; have HB := n3_; clear n0_ n1_ n2_ n3_; (try clear hb); (try clear hb2); (try clear hk); (try clear hi); (try clear ho0)) | ((with_reducible refine gate_dst (N := 5) rfl ?_); refine box_event ?hg (N := 5) ?hd (cs := #[.string (⟨#[]⟩ : ByteArray), .slice none 0 0]) (t := 51) ?hr ?_; (case hd => rfl); (case hg => rfl); (case hr => first | (go_simp; done) | (go_simp; rfl)); intro gb723 hg w31 hbox hb; have n0_ := Aside0.mk (Kd.R_below (by (with_reducible repeat (first | apply Kd.R_alloc | apply Kd.R_drewN | apply Kd.R_drew)); exact HO721.out) hb); have n1_ := Aside0.mk (blk_below (g := gb713) (o := .cells #[.string a0_0, .slice A0_1 l0_1.length c0_1] 51 (0, 0)) (by (with_reducible repeat (first | refine blk_drewN ?_ _ | refine blk_drew ?_ | refine blk_alloc ?_ _)); exact BK713.out) hb); have n2_ := Aside0.mk (blk_below (g := gb714) (o := .cells #[.int .i64 a1_0, .string a1_1, .slice A1_2 l1_2.length c1_2, .string a1_3, .slice A1_4 l1_4.length c1_4] 64 (0, 0)) (by (with_reducible repeat (first | refine blk_drewN ?_ _ | refine blk_drew ?_ | refine blk_alloc ?_ _)); exact BK714.out) hb); have n3_ := Aside0.mk (below_step (by repeat (first | (with_reducible first | exact HB.out | apply below_alloc | apply pw_below_drewN | apply below_drew1 | refine below_set ?_ GE713.out | refine below_set ?_ GE714.out) | exact HB.out)) hb); have n4_ := Aside0.mk (hbox); have n5_ := Aside0.mk ((by rw [hg]; exact (below_size (by repeat (first | (with_reducible first | exact HB.out | apply below_alloc | apply pw_below_drewN | apply below_drew1 | refine below_set ?_ GE713.out | refine below_set ?_ GE714.out) | exact HB.out))) : w.heap.size ≤ gb723)); have n6_ := Aside0.mk ((by rw [hg]; exact (below_size (by repeat (first | (with_reducible first | exact HB.out | apply below_alloc | apply pw_below_drewN | apply below_drew1 | refine below_set ?_ GE713.out | refine below_set ?_ GE714.out) | exact HB.out))) : w.heap.size ≤ gb723)); have n7_ := Aside0.mk ((by rw [hg]; exact Nat.ne_of_lt (blk_lt (g := gb713) (o := .cells #[.string a0_0, .slice A0_1 l0_1.length c0_1] 51 (0, 0)) (by (with_reducible repeat (first | refine blk_drewN ?_ _ | refine blk_drew ?_ | refine blk_alloc ?_ _)); exact BK713.out)) : gb713 ≠ gb723)); have n8_ := Aside0.mk ((by rw [hg]; exact Nat.ne_of_gt (blk_lt (g := gb713) (o := .cells #[.string a0_0, .slice A0_1 l0_1.length c0_1] 51 (0, 0)) (by (with_reducible repeat (first | refine blk_drewN ?_ _ | refine blk_drew ?_ | refine blk_alloc ?_ _)); exact BK713.out)) : gb723 ≠ gb713)); have n9_ := Aside0.mk ((by rw [hg]; exact Nat.ne_of_lt (blk_lt (g := gb714) (o := .cells #[.int .i64 a1_0, .string a1_1, .slice A1_2 l1_2.length c1_2, .string a1_3, .slice A1_4 l1_4.length c1_4] 64 (0, 0)) (by (with_reducible repeat (first | refine blk_drewN ?_ _ | refine blk_drew ?_ | refine blk_alloc ?_ _)); exact BK714.out)) : gb714 ≠ gb723)); have n10_ := Aside0.mk ((by rw [hg]; exact Nat.ne_of_gt (blk_lt (g := gb714) (o := .cells #[.int .i64 a1_0, .string a1_1, .slice A1_2 l1_2.length c1_2, .string a1_3, .slice A1_4 l1_4.length c1_4] 64 (0, 0)) (by (with_reducible repeat (first | refine blk_drewN ?_ _ | refine blk_drew ?_ | refine blk_alloc ?_ _)); exact BK714.out)) : gb723 ≠ gb714)); clear HO721; clear BK713; clear BK714; clear HB; have HO721 := n0_; have BK713 := n1_; have BK714 := n2_; have HB := n3_; have BK723 := n4_; have GW723 := n5_; have GE723 := n6_; have NB713_723 := n7_; have NB723_713 := n8_; have NB714_723 := n9_; have NB723_714 := n10_; clear n0_ n1_ n2_ n3_ n4_ n5_ n6_ n7_ n8_ n9_ n10_; clear hb hbox hg; have hnb32 := NB723_713.out; have hnc32 := NB713_723.out; have hnb33 := NB723_714.out; have hnc33 := NB714_723.out; have hcz34_0 : w31.cell? ⟨gb723, 0, none⟩ = some (.string (⟨#[]⟩ : ByteArray)) := (blk_cell BK723.out 0).trans rfl; have hcz34_1 : w31.cell? ⟨gb723, 1, none⟩ = some (.slice none 0 0) := (blk_cell BK723.out 1).trans rfl; have hfz34_0 := blk_frozen BK723.out 0; have hfz34_1 := blk_frozen BK723.out 1; obtain ⟨Ao35, co35, eo35⟩ := Kd.R_slice HO721.out; subst eo35))
              have n0_ : Aside0 (Kd.R k100 100 ((w31.setCell ⟨gb723, 0, none⟩ (.string t718)).setCell ⟨gb723, 1, none⟩ (.slice Ao35 t719.length co35)) w.heap.size (fun _ => True) (.slice Ao35 t719.length co35) t719) := ⟨by (with_reducible repeat (first | apply Kd.R_alloc | apply Kd.R_drewN | apply Kd.R_drew)); exact Kd.R_mono (Kd.R_far (p := ⟨gb723, 1, none⟩) (Kd.R_far (p := ⟨gb723, 0, none⟩) (Kd.R_types HO721.out BK723.out (by decide)) (fun _ hk => hk.2) (.string t718)) (fun _ hk => hk.2) (.slice Ao35 t719.length co35)) (fun _ hk => trivial)⟩
              have n1_ : Aside0 (((w31.setCell ⟨gb723, 0, none⟩ (.string t718)).setCell ⟨gb723, 1, none⟩ (.slice Ao35 t719.length co35)).heap[gb713]? = some (.cells #[.string a0_0, .slice A0_1 l0_1.length c0_1] 51 (0, 0))) := ⟨by (with_reducible repeat (first | refine blk_drewN ?_ _ | refine blk_drew ?_ | refine blk_alloc ?_ _)); refine blk_far ?_ NB713_723.out _; (with_reducible repeat (first | refine blk_drewN ?_ _ | refine blk_drew ?_ | refine blk_alloc ?_ _)); refine blk_far ?_ NB713_723.out _; (with_reducible repeat (first | refine blk_drewN ?_ _ | refine blk_drew ?_ | refine blk_alloc ?_ _)); exact BK713.out⟩
              have n2_ : Aside0 (((w31.setCell ⟨gb723, 0, none⟩ (.string t718)).setCell ⟨gb723, 1, none⟩ (.slice Ao35 t719.length co35)).heap[gb714]? = some (.cells #[.int .i64 a1_0, .string a1_1, .slice A1_2 l1_2.length c1_2, .string a1_3, .slice A1_4 l1_4.length c1_4] 64 (0, 0))) := ⟨by (with_reducible repeat (first | refine blk_drewN ?_ _ | refine blk_drew ?_ | refine blk_alloc ?_ _)); refine blk_far ?_ NB714_723.out _; (with_reducible repeat (first | refine blk_drewN ?_ _ | refine blk_drew ?_ | refine blk_alloc ?_ _)); refine blk_far ?_ NB714_723.out _; (with_reducible repeat (first | refine blk_drewN ?_ _ | refine blk_drew ?_ | refine blk_alloc ?_ _)); exact BK714.out⟩
              have n3_ : Aside0 (((w31.setCell ⟨gb723, 0, none⟩ (.string t718)).setCell ⟨gb723, 1, none⟩ (.slice Ao35 t719.length co35)).heap[gb723]? = some (.cells #[.string t718, .slice Ao35 t719.length co35] 51 (0, 0))) := ⟨by (with_reducible repeat (first | refine blk_drewN ?_ _ | refine blk_drew ?_ | refine blk_alloc ?_ _)); refine blk_put (cs := #[.string t718, .slice none 0 0]) ?_ 1 _ rfl; (with_reducible repeat (first | refine blk_drewN ?_ _ | refine blk_drew ?_ | refine blk_alloc ?_ _)); refine blk_put (cs := #[.string (⟨#[]⟩ : ByteArray), .slice none 0 0]) ?_ 0 _ rfl; (with_reducible repeat (first | refine blk_drewN ?_ _ | refine blk_drew ?_ | refine blk_alloc ?_ _)); exact BK723.out⟩
              have n4_ : Aside0 (Below w.heap.size w ((w31.setCell ⟨gb723, 0, none⟩ (.string t718)).setCell ⟨gb723, 1, none⟩ (.slice Ao35 t719.length co35))) := ⟨by repeat (first | (with_reducible first | exact HB.out | apply below_alloc | apply pw_below_drewN | apply below_drew1 | refine below_set ?_ GE713.out | refine below_set ?_ GE714.out | refine below_set ?_ GE723.out) | exact HB.out)⟩
              (try clear HO721)
              (try clear BK713)
              (try clear BK714)
              (try clear BK723)
              (try clear HB)
              generalize ((w31.setCell ⟨gb723, 0, none⟩ (.string t718)).setCell ⟨gb723, 1, none⟩ (.slice Ao35 t719.length co35)) = w36 at n0_ n1_ n2_ n3_ n4_ ⊢
              have HO721 := n0_
              have BK713 := n1_
              have BK714 := n2_
              have BK723 := n3_
              have HB := n4_
              clear n0_ n1_ n2_ n3_ n4_
              have n0_ := Aside0.mk (Kd.R_drew HO721.out)
              have n1_ := Aside0.mk (blk_drew BK713.out)
              have n2_ := Aside0.mk (blk_drew BK714.out)
              have n3_ := Aside0.mk (blk_drew BK723.out)
              have n4_ := Aside0.mk (below_drew1 HB.out)
              clear HO721
              clear BK713
              clear BK714
              clear BK723
              clear HB
              have HO721 := n0_
              have BK713 := n1_
              have BK714 := n2_
              have BK723 := n3_
              have HB := n4_
              clear n0_ n1_ n2_ n3_ n4_
              refine start_ (n := 10) (S := fun w' => w'.cell? ⟨gb723, 0, none⟩ = some (.string t718) ∧ w'.cell? ⟨gb723, 1, none⟩ = some (.slice Ao35 t719.length co35) ∧ w'.cell? ⟨gb714, 0, none⟩ = some (.int .i64 a1_0) ∧ w'.cell? ⟨gb714, 1, none⟩ = some (.string a1_1) ∧ w'.cell? ⟨gb714, 2, none⟩ = some (.slice A1_2 l1_2.length c1_2) ∧ w'.cell? ⟨gb714, 3, none⟩ = some (.string a1_3) ∧ w'.cell? ⟨gb714, 4, none⟩ = some (.slice A1_4 l1_4.length c1_4)) (ds := []) #[false, false, false, false, false, false, false, false, false, false] (by kernel_rfl) rfl rfl ⟨(blk_cell BK723.out 0).trans rfl, (blk_cell BK723.out 1).trans rfl, (blk_cell BK714.out 0).trans rfl, (blk_cell BK714.out 1).trans rfl, (blk_cell BK714.out 2).trans rfl, (blk_cell BK714.out 3).trans rfl, (blk_cell BK714.out 4).trans rfl⟩ (fun hHeld => ?_); refine with_tabW bureaulaw07_EditBack.tab8 bureaulaw07_EditBack.bits8 (fun HT_ HW_ => ?_)
              generalize w36.drew = w37 at HO721 BK713 BK714 BK723 HB hHeld ⊢
              refine take_ (i := 0) (N := some 31) (v := ?_) (a' := ?_) #[true, false, false, false, false, false, false, false, false, false] rfl rfl (take_ofW HT_.out HW_.out (by kernel_rfl)) (fun _ _ _ h => h) (Or.inl ⟨by rfl, ?_⟩) hHeld ?_ ?_
              rotate_left
              · rintro w' ⟨s0, s1, s2, s3, s4, s5, s6⟩
                go_simp
                with_reducible rfl
              rotate_left
              · simp only [Act.put, List.setIfInBounds_toArray, List.set_cons_zero, List.set_cons_succ, i64_w, i32_w]
                rfl
              refine take_ (i := 1) (N := some 32) (v := ?_) (a' := ?_) #[true, true, false, false, false, false, false, false, false, false] rfl rfl (take_ofW HT_.out HW_.out (by kernel_rfl)) (fun _ _ _ h => h) (Or.inl ⟨by rfl, ?_⟩) hHeld ?_ ?_
              rotate_left
              · rintro w' ⟨s0, s1, s2, s3, s4, s5, s6⟩
                go_simp
                with_reducible rfl
              rotate_left
              · simp only [Act.put, List.setIfInBounds_toArray, List.set_cons_zero, List.set_cons_succ, i64_w, i32_w]
                rfl
              refine join_ (σ := Value × Value × Value × Nat) 2 #[true, true, true, true, true, true, true, true, false, false] (fun s_ => [(33, .agg #[.int .i64 t724, .string t725, s_.1, .string t729, s_.2.1]), (34, .tuple #[.agg #[.string t733, s_.2.2.1], .int .i64 t737]), (7, .pointer (some ⟨s_.2.2.2, 0, none⟩)), (30, .tuple #[.agg #[.string t733, s_.2.2.1], .int .i64 t737]), (35, .agg #[.string t733, s_.2.2.1]), (36, .int .i64 t737)]) (fun s_ w' => (w'.cell? ⟨gb723, 0, none⟩ = some (.string t718) ∧ w'.cell? ⟨gb723, 1, none⟩ = some (.slice Ao35 t719.length co35) ∧ w'.cell? ⟨gb714, 0, none⟩ = some (.int .i64 a1_0) ∧ w'.cell? ⟨gb714, 1, none⟩ = some (.string a1_1) ∧ w'.cell? ⟨gb714, 2, none⟩ = some (.slice A1_2 l1_2.length c1_2) ∧ w'.cell? ⟨gb714, 3, none⟩ = some (.string a1_3) ∧ w'.cell? ⟨gb714, 4, none⟩ = some (.slice A1_4 l1_4.length c1_4)) ∧ (Kd.R k100 100 w' w.heap.size (fun k_ => some k_ ≠ (s_.1 : Value).ownBlock ∧ some k_ ≠ (s_.2.1 : Value).ownBlock ∧ some k_ ≠ (s_.2.2.1 : Value).ownBlock) (.slice Ao35 t719.length co35) t719) ∧ (Kd.R k100 100 w' w.heap.size (fun k_ => some k_ ≠ (.slice Ao35 t719.length co35 : Value).ownBlock ∧ some k_ ≠ (s_.2.1 : Value).ownBlock ∧ some k_ ≠ (s_.2.2.1 : Value).ownBlock) s_.1 t726) ∧ (Kd.R k100 100 w' w.heap.size (fun k_ => some k_ ≠ (.slice Ao35 t719.length co35 : Value).ownBlock ∧ some k_ ≠ (s_.1 : Value).ownBlock ∧ some k_ ≠ (s_.2.2.1 : Value).ownBlock) s_.2.1 t730) ∧ (Kd.R k100 100 w' w.heap.size (fun k_ => some k_ ≠ (.slice Ao35 t719.length co35 : Value).ownBlock ∧ some k_ ≠ (s_.1 : Value).ownBlock ∧ some k_ ≠ (s_.2.1 : Value).ownBlock) s_.2.2.1 t734) ∧ (w'.heap[gb713]? = some (.cells #[.string a0_0, .slice A0_1 l0_1.length c0_1] 51 (0, 0))) ∧ (w'.heap[gb714]? = some (.cells #[.int .i64 a1_0, .string a1_1, .slice A1_2 l1_2.length c1_2, .string a1_3, .slice A1_4 l1_4.length c1_4] 64 (0, 0))) ∧ (w'.heap[gb723]? = some (.cells #[.string t718, .slice Ao35 t719.length co35] 51 (0, 0))) ∧ (w'.heap[s_.2.2.2]? = some (.cells #[.string (⟨#[]⟩ : ByteArray), .slice none 0 0] 51 (0, 0))) ∧ (w.heap.size ≤ s_.2.2.2) ∧ (w.heap.size ≤ s_.2.2.2) ∧ (gb713 ≠ s_.2.2.2) ∧ (s_.2.2.2 ≠ gb713) ∧ (gb714 ≠ s_.2.2.2) ∧ (s_.2.2.2 ≠ gb714) ∧ (gb723 ≠ s_.2.2.2) ∧ (s_.2.2.2 ≠ gb723) ∧ (Below w.heap.size w w')) ?_ ?_
              rotate_left
              · intro hCont
                refine two_ (i := 2) (j := 7) (Ni := some 33) (Nj := some 7) #[true, true, true, false, false, false, false, false, false, false] #[true, true, false, false, false, false, false, true, false, false] rfl rfl rfl rfl (two_of HT_.out (by kernel_rfl)) (by decide) (by decide) (fun K hK => ?_) (fun K hK => ?_)
                · skip
                  refine goes_ Try.func59 (by kernel_rfl) rfl #[.agg #[.int .i64 a1_0, .string a1_1, .slice A1_2 l1_2.length c1_2, .string a1_3, .slice A1_4 l1_4.length c1_4]] (by rfl) rfl rfl (by (try simp only [List.map_toArray, List.map_cons, List.map_nil]); first | done | rfl | (simp only [List.length_drop, List.length_take]; rfl)) ?_
                  with_reducible refine (edit_Invert.calls a1_0 a1_1 _ _ l1_2 a1_3 _ _ l1_4 t724 t725 t726 t729 t730 _ ?side1 ?side2 ?side3 ?side4 A23.out).mono ?_
                  (case side1 => repeat (first | exact (Kd.C_below HR1_2.out HB.out) | (with_reducible refine Kd.C_alloc ?_ _) | (with_reducible refine Kd.C_drewN ?_ _) | (with_reducible refine Kd.C_drew ?_)))
                  (case side2 => exact HC1_2.out)
                  (case side3 => repeat (first | exact (Kd.C_below HR1_4.out HB.out) | (with_reducible refine Kd.C_alloc ?_ _) | (with_reducible refine Kd.C_drewN ?_ _) | (with_reducible refine Kd.C_drew ?_)))
                  (case side4 => exact HC1_4.out)
                  rintro e w38 ⟨v727, v731, rfl, ho0, ho1, hb⟩
                  refine ⟨_, rfl, ?_⟩
                  have n0_ := Aside0.mk (Kd.R_mono (Kd.R_told (Kd.R_told (Kd.R_old (by (with_reducible repeat (first | apply Kd.R_alloc | apply Kd.R_drewN | apply Kd.R_drew)); exact HO721.out) hb) (Kd.R_base ho0)) (Kd.R_base ho1)) (fun _ h_ => h_.1))
                  have n1_ := Aside0.mk (Kd.R_lower (Kd.R_new' ho0 (Kd.R_lt (by (with_reducible repeat (first | apply Kd.R_alloc | apply Kd.R_drewN | apply Kd.R_drew)); exact HO721.out))) (below_size (by repeat (first | (with_reducible first | exact HB.out | apply below_alloc | apply pw_below_drewN | apply below_drew1 | refine below_set ?_ GE713.out | refine below_set ?_ GE714.out | refine below_set ?_ GE723.out) | exact HB.out))))
                  have n2_ := Aside0.mk (Kd.R_lower (Kd.R_new' ho1 (Kd.R_lt (by (with_reducible repeat (first | apply Kd.R_alloc | apply Kd.R_drewN | apply Kd.R_drew)); exact HO721.out))) (below_size (by repeat (first | (with_reducible first | exact HB.out | apply below_alloc | apply pw_below_drewN | apply below_drew1 | refine below_set ?_ GE713.out | refine below_set ?_ GE714.out | refine below_set ?_ GE723.out) | exact HB.out))))
                  have n3_ := Aside0.mk (blk_below (g := gb713) (o := .cells #[.string a0_0, .slice A0_1 l0_1.length c0_1] 51 (0, 0)) (by (with_reducible repeat (first | refine blk_drewN ?_ _ | refine blk_drew ?_ | refine blk_alloc ?_ _)); exact BK713.out) hb)
                  have n4_ := Aside0.mk (blk_below (g := gb714) (o := .cells #[.int .i64 a1_0, .string a1_1, .slice A1_2 l1_2.length c1_2, .string a1_3, .slice A1_4 l1_4.length c1_4] 64 (0, 0)) (by (with_reducible repeat (first | refine blk_drewN ?_ _ | refine blk_drew ?_ | refine blk_alloc ?_ _)); exact BK714.out) hb)
                  have n5_ := Aside0.mk (blk_below (g := gb723) (o := .cells #[.string t718, .slice Ao35 t719.length co35] 51 (0, 0)) (by (with_reducible repeat (first | refine blk_drewN ?_ _ | refine blk_drew ?_ | refine blk_alloc ?_ _)); exact BK723.out) hb)
                  have n6_ := Aside0.mk (below_step (by repeat (first | (with_reducible first | exact HB.out | apply below_alloc | apply pw_below_drewN | apply below_drew1 | refine below_set ?_ GE713.out | refine below_set ?_ GE714.out | refine below_set ?_ GE723.out) | exact HB.out)) hb)
                  clear HO721
                  clear BK713
                  clear BK714
                  clear BK723
                  clear HB
                  have HO721 := n0_
                  have HO728 := n1_
                  have HO732 := n2_
                  have BK713 := n3_
                  have BK714 := n4_
                  have BK723 := n5_
                  have HB := n6_
                  clear n0_ n1_ n2_ n3_ n4_ n5_ n6_
                  (try clear hb)
                  (try clear hb2)
                  (try clear hk)
                  (try clear hi)
                  (try clear ho0)
                  (try clear ho1)
                  obtain ⟨Ao39, co39, eo39⟩ := Kd.R_slice HO728.out
                  (first | subst eo39 | (injection eo39 with f1_ f2_ f3_; have f4_ := f1_.symm; have f5_ := f3_.symm; clear f1_ f2_ f3_; subst f4_; subst f5_))
                  obtain ⟨Ao40, co40, eo40⟩ := Kd.R_slice HO732.out
                  (first | subst eo40 | (injection eo40 with f1_ f2_ f3_; have f4_ := f1_.symm; have f5_ := f3_.symm; clear f1_ f2_ f3_; subst f4_; subst f5_))
                  refine hK.out _ _ ⟨(blk_cell BK723.out 0).trans rfl, (blk_cell BK723.out 1).trans rfl, (blk_cell BK714.out 0).trans rfl, (blk_cell BK714.out 1).trans rfl, (blk_cell BK714.out 2).trans rfl, (blk_cell BK714.out 3).trans rfl, (blk_cell BK714.out 4).trans rfl⟩ (fun hHeld => ?_)
                  clear hK K
                  refine norm_ (a' := ?_) ?_ ?_
                  rotate_left
                  · show Act.put _ (some 33) _ = _
                    simp only [Act.put, List.setIfInBounds_toArray, List.set_cons_zero, List.set_cons_succ, i64_w, i32_w]
                    rfl
                  refine two_ (i := 3) (j := 7) (Ni := some 34) (Nj := some 7) #[true, true, true, true, false, false, false, false, false, false] #[true, true, true, false, false, false, false, true, false, false] rfl rfl rfl rfl (two_of HT_.out (by kernel_rfl)) (by decide) (by decide) (fun K hK => ?_) (fun K hK => ?_)
                  · skip
                    refine goes_ Try.func65 (by kernel_rfl) rfl #[.agg #[.string t718, .slice Ao35 t719.length co35], .agg #[.int .i64 t724, .string t725, .slice Ao39 t726.length co39, .string t729, .slice Ao40 t730.length co40]] (by rfl) rfl rfl (by (try simp only [List.map_toArray, List.map_cons, List.map_nil]); first | done | rfl | (simp only [List.length_drop, List.length_take]; rfl)) ?_
                    with_reducible refine (edit_Apply.calls kj4 t718 _ _ t719 t724 t725 _ _ t726 t729 _ _ t730 t733 t734 t737 _ ?side1 ?side2 ?side3 ?side4 ?side5 ?side6 A24.out).mono ?_
                    (case side1 => repeat (first | exact (Kd.R_reads' HO721.out).2.2 | (with_reducible refine Kd.C_alloc ?_ _) | (with_reducible refine Kd.C_drewN ?_ _) | (with_reducible refine Kd.C_drew ?_)))
                    (case side2 => exact (Kd.R_reads' HO721.out).2.1)
                    (case side3 => repeat (first | exact (Kd.R_reads' HO728.out).2.2 | (with_reducible refine Kd.C_alloc ?_ _) | (with_reducible refine Kd.C_drewN ?_ _) | (with_reducible refine Kd.C_drew ?_)))
                    (case side4 => exact (Kd.R_reads' HO728.out).2.1)
                    (case side5 => repeat (first | exact (Kd.R_reads' HO732.out).2.2 | (with_reducible refine Kd.C_alloc ?_ _) | (with_reducible refine Kd.C_drewN ?_ _) | (with_reducible refine Kd.C_drew ?_)))
                    (case side6 => exact (Kd.R_reads' HO732.out).2.1)
                    rintro e w41 ⟨v735, rfl, ho0, hb⟩
                    refine ⟨_, rfl, ?_⟩
                    have n0_ := Aside0.mk (Kd.R_elder' (by (with_reducible repeat (first | apply Kd.R_alloc | apply Kd.R_drewN | apply Kd.R_drew)); exact HO721.out) (Kd.R_base ho0) hb)
                    have n1_ := Aside0.mk (Kd.R_elder' (by (with_reducible repeat (first | apply Kd.R_alloc | apply Kd.R_drewN | apply Kd.R_drew)); exact HO728.out) (Kd.R_base ho0) hb)
                    have n2_ := Aside0.mk (Kd.R_elder' (by (with_reducible repeat (first | apply Kd.R_alloc | apply Kd.R_drewN | apply Kd.R_drew)); exact HO732.out) (Kd.R_base ho0) hb)
                    have n3_ := Aside0.mk (Kd.R_lower (Kd.R_new' (Kd.R_new' (Kd.R_new' ho0 (Kd.R_lt (by (with_reducible repeat (first | apply Kd.R_alloc | apply Kd.R_drewN | apply Kd.R_drew)); exact HO721.out))) (Kd.R_lt (by (with_reducible repeat (first | apply Kd.R_alloc | apply Kd.R_drewN | apply Kd.R_drew)); exact HO728.out))) (Kd.R_lt (by (with_reducible repeat (first | apply Kd.R_alloc | apply Kd.R_drewN | apply Kd.R_drew)); exact HO732.out))) (below_size (by repeat (first | (with_reducible first | exact HB.out | apply below_alloc | apply pw_below_drewN | apply below_drew1 | refine below_set ?_ GE713.out | refine below_set ?_ GE714.out | refine below_set ?_ GE723.out) | exact HB.out))))
                    have n4_ := Aside0.mk (blk_below (g := gb713) (o := .cells #[.string a0_0, .slice A0_1 l0_1.length c0_1] 51 (0, 0)) (by (with_reducible repeat (first | refine blk_drewN ?_ _ | refine blk_drew ?_ | refine blk_alloc ?_ _)); exact BK713.out) hb)
                    have n5_ := Aside0.mk (blk_below (g := gb714) (o := .cells #[.int .i64 a1_0, .string a1_1, .slice A1_2 l1_2.length c1_2, .string a1_3, .slice A1_4 l1_4.length c1_4] 64 (0, 0)) (by (with_reducible repeat (first | refine blk_drewN ?_ _ | refine blk_drew ?_ | refine blk_alloc ?_ _)); exact BK714.out) hb)
                    have n6_ := Aside0.mk (blk_below (g := gb723) (o := .cells #[.string t718, .slice Ao35 t719.length co35] 51 (0, 0)) (by (with_reducible repeat (first | refine blk_drewN ?_ _ | refine blk_drew ?_ | refine blk_alloc ?_ _)); exact BK723.out) hb)
                    have n7_ := Aside0.mk (below_step (by repeat (first | (with_reducible first | exact HB.out | apply below_alloc | apply pw_below_drewN | apply below_drew1 | refine below_set ?_ GE713.out | refine below_set ?_ GE714.out | refine below_set ?_ GE723.out) | exact HB.out)) hb)
                    clear HO721
                    clear HO728
                    clear HO732
                    clear BK713
                    clear BK714
                    clear BK723
                    clear HB
                    have HO721 := n0_
                    have HO728 := n1_
                    have HO732 := n2_
                    have HO736 := n3_
                    have BK713 := n4_
                    have BK714 := n5_
                    have BK723 := n6_
                    have HB := n7_
                    clear n0_ n1_ n2_ n3_ n4_ n5_ n6_ n7_
                    (try clear hb)
                    (try clear hb2)
                    (try clear hk)
                    (try clear hi)
                    (try clear ho0)
                    refine hK.out _ _ ⟨(blk_cell BK723.out 0).trans rfl, (blk_cell BK723.out 1).trans rfl, (blk_cell BK714.out 0).trans rfl, (blk_cell BK714.out 1).trans rfl, (blk_cell BK714.out 2).trans rfl, (blk_cell BK714.out 3).trans rfl, (blk_cell BK714.out 4).trans rfl⟩ (fun hHeld => ?_)
                    clear hK K
                    refine norm_ (a' := ?_) ?_ ?_
                    rotate_left
                    · show Act.put _ (some 34) _ = _
                      simp only [Act.put, List.setIfInBounds_toArray, List.set_cons_zero, List.set_cons_succ, i64_w, i32_w]
                      rfl
                    refine pure_ (i := 4) (N := some 30) (v := ?_) (a' := ?_) #[true, true, true, true, true, false, false, false, false, false] rfl rfl (any_of HT_.out (by kernel_rfl)) (fun _ _ _ h => h) (Or.inl ⟨by rfl, ?_⟩) ?_ ?_
                    rotate_left
                    · intro w'
                      go_simp
                      with_reducible rfl
                    rotate_left
                    · simp only [Act.put, List.setIfInBounds_toArray, List.set_cons_zero, List.set_cons_succ, i64_w, i32_w]
                      rfl
                    refine pure_ (i := 5) (N := some 35) (v := ?_) (a' := ?_) #[true, true, true, true, true, true, false, false, false, false] rfl rfl (any_of HT_.out (by kernel_rfl)) (fun _ _ _ h => h) (Or.inl ⟨by rfl, ?_⟩) ?_ ?_
                    rotate_left
                    · intro w'
                      go_simp
                      with_reducible rfl
                    rotate_left
                    · simp only [Act.put, List.setIfInBounds_toArray, List.set_cons_zero, List.set_cons_succ, i64_w, i32_w]
                      rfl
                    refine pure_ (i := 6) (N := some 36) (v := ?_) (a' := ?_) #[true, true, true, true, true, true, true, false, false, false] rfl rfl (any_of HT_.out (by kernel_rfl)) (fun _ _ _ h => h) (Or.inl ⟨by rfl, ?_⟩) ?_ ?_
                    rotate_left
                    · intro w'
                      go_simp
                      with_reducible rfl
                    rotate_left
                    · simp only [Act.put, List.setIfInBounds_toArray, List.set_cons_zero, List.set_cons_succ, i64_w, i32_w]
                      rfl
                    refine one_ (i := 7) (N := some 7) #[true, true, true, true, true, true, true, true, false, false] rfl rfl (one_of HT_.out (by kernel_rfl)) (by decide) (fun K hK => ?_)
                    refine box_step ?hg (N := 7) ?hd (cs := #[.string (⟨#[]⟩ : ByteArray), .slice none 0 0]) (t := 51) ?hr ?_; (case hd => rfl); (case hg => rfl); (case hr => first | (go_simp; done) | (go_simp; rfl))
                    intro gb738 hg w42 hbox hb
                    have n0_ := Aside0.mk (Kd.R_below (by (with_reducible repeat (first | apply Kd.R_alloc | apply Kd.R_drewN | apply Kd.R_drew)); exact HO721.out) hb)
                    have n1_ := Aside0.mk (Kd.R_below (by (with_reducible repeat (first | apply Kd.R_alloc | apply Kd.R_drewN | apply Kd.R_drew)); exact HO728.out) hb)
                    have n2_ := Aside0.mk (Kd.R_below (by (with_reducible repeat (first | apply Kd.R_alloc | apply Kd.R_drewN | apply Kd.R_drew)); exact HO732.out) hb)
                    have n3_ := Aside0.mk (Kd.R_below (by (with_reducible repeat (first | apply Kd.R_alloc | apply Kd.R_drewN | apply Kd.R_drew)); exact HO736.out) hb)
                    have n4_ := Aside0.mk (blk_below (g := gb713) (o := .cells #[.string a0_0, .slice A0_1 l0_1.length c0_1] 51 (0, 0)) (by (with_reducible repeat (first | refine blk_drewN ?_ _ | refine blk_drew ?_ | refine blk_alloc ?_ _)); exact BK713.out) hb)
                    have n5_ := Aside0.mk (blk_below (g := gb714) (o := .cells #[.int .i64 a1_0, .string a1_1, .slice A1_2 l1_2.length c1_2, .string a1_3, .slice A1_4 l1_4.length c1_4] 64 (0, 0)) (by (with_reducible repeat (first | refine blk_drewN ?_ _ | refine blk_drew ?_ | refine blk_alloc ?_ _)); exact BK714.out) hb)
                    have n6_ := Aside0.mk (blk_below (g := gb723) (o := .cells #[.string t718, .slice Ao35 t719.length co35] 51 (0, 0)) (by (with_reducible repeat (first | refine blk_drewN ?_ _ | refine blk_drew ?_ | refine blk_alloc ?_ _)); exact BK723.out) hb)
                    have n7_ := Aside0.mk (below_step (by repeat (first | (with_reducible first | exact HB.out | apply below_alloc | apply pw_below_drewN | apply below_drew1 | refine below_set ?_ GE713.out | refine below_set ?_ GE714.out | refine below_set ?_ GE723.out) | exact HB.out)) hb)
                    have n8_ := Aside0.mk (hbox)
                    have n9_ := Aside0.mk ((by rw [hg]; exact (below_size (by repeat (first | (with_reducible first | exact HB.out | apply below_alloc | apply pw_below_drewN | apply below_drew1 | refine below_set ?_ GE713.out | refine below_set ?_ GE714.out | refine below_set ?_ GE723.out) | exact HB.out))) : w.heap.size ≤ gb738))
                    have n10_ := Aside0.mk ((by rw [hg]; exact (below_size (by repeat (first | (with_reducible first | exact HB.out | apply below_alloc | apply pw_below_drewN | apply below_drew1 | refine below_set ?_ GE713.out | refine below_set ?_ GE714.out | refine below_set ?_ GE723.out) | exact HB.out))) : w.heap.size ≤ gb738))
                    have n11_ := Aside0.mk ((by rw [hg]; exact Nat.ne_of_lt (blk_lt (g := gb713) (o := .cells #[.string a0_0, .slice A0_1 l0_1.length c0_1] 51 (0, 0)) (by (with_reducible repeat (first | refine blk_drewN ?_ _ | refine blk_drew ?_ | refine blk_alloc ?_ _)); exact BK713.out)) : gb713 ≠ gb738))
                    have n12_ := Aside0.mk ((by rw [hg]; exact Nat.ne_of_gt (blk_lt (g := gb713) (o := .cells #[.string a0_0, .slice A0_1 l0_1.length c0_1] 51 (0, 0)) (by (with_reducible repeat (first | refine blk_drewN ?_ _ | refine blk_drew ?_ | refine blk_alloc ?_ _)); exact BK713.out)) : gb738 ≠ gb713))
                    have n13_ := Aside0.mk ((by rw [hg]; exact Nat.ne_of_lt (blk_lt (g := gb714) (o := .cells #[.int .i64 a1_0, .string a1_1, .slice A1_2 l1_2.length c1_2, .string a1_3, .slice A1_4 l1_4.length c1_4] 64 (0, 0)) (by (with_reducible repeat (first | refine blk_drewN ?_ _ | refine blk_drew ?_ | refine blk_alloc ?_ _)); exact BK714.out)) : gb714 ≠ gb738))
                    have n14_ := Aside0.mk ((by rw [hg]; exact Nat.ne_of_gt (blk_lt (g := gb714) (o := .cells #[.int .i64 a1_0, .string a1_1, .slice A1_2 l1_2.length c1_2, .string a1_3, .slice A1_4 l1_4.length c1_4] 64 (0, 0)) (by (with_reducible repeat (first | refine blk_drewN ?_ _ | refine blk_drew ?_ | refine blk_alloc ?_ _)); exact BK714.out)) : gb738 ≠ gb714))
                    have n15_ := Aside0.mk ((by rw [hg]; exact Nat.ne_of_lt (blk_lt (g := gb723) (o := .cells #[.string t718, .slice Ao35 t719.length co35] 51 (0, 0)) (by (with_reducible repeat (first | refine blk_drewN ?_ _ | refine blk_drew ?_ | refine blk_alloc ?_ _)); exact BK723.out)) : gb723 ≠ gb738))
                    have n16_ := Aside0.mk ((by rw [hg]; exact Nat.ne_of_gt (blk_lt (g := gb723) (o := .cells #[.string t718, .slice Ao35 t719.length co35] 51 (0, 0)) (by (with_reducible repeat (first | refine blk_drewN ?_ _ | refine blk_drew ?_ | refine blk_alloc ?_ _)); exact BK723.out)) : gb738 ≠ gb723))
                    clear HO721
                    clear HO728
                    clear HO732
                    clear HO736
                    clear BK713
                    clear BK714
                    clear BK723
                    clear HB
                    have HO721 := n0_
                    have HO728 := n1_
                    have HO732 := n2_
                    have HO736 := n3_
                    have BK713 := n4_
                    have BK714 := n5_
                    have BK723 := n6_
                    have HB := n7_
                    have BK738 := n8_
                    have GW738 := n9_
                    have GE738 := n10_
                    have NB713_738 := n11_
                    have NB738_713 := n12_
                    have NB714_738 := n13_
                    have NB738_714 := n14_
                    have NB723_738 := n15_
                    have NB738_723 := n16_
                    clear n0_ n1_ n2_ n3_ n4_ n5_ n6_ n7_ n8_ n9_ n10_ n11_ n12_ n13_ n14_ n15_ n16_
                    clear hb hbox hg
                    refine hK.out _ _ ⟨(blk_cell BK723.out 0).trans rfl, (blk_cell BK723.out 1).trans rfl, (blk_cell BK714.out 0).trans rfl, (blk_cell BK714.out 1).trans rfl, (blk_cell BK714.out 2).trans rfl, (blk_cell BK714.out 3).trans rfl, (blk_cell BK714.out 4).trans rfl⟩ (fun hHeld => ?_)
                    clear hK K
                    refine norm_ (a' := ?_) ?_ ?_
                    rotate_left
                    · show Act.put _ (some 7) _ = _
                      simp only [Act.put, List.setIfInBounds_toArray, List.set_cons_zero, List.set_cons_succ, i64_w, i32_w]
                      rfl
                    exact norm_ (by simp only [putAll, Act.put, List.setIfInBounds_toArray, List.set_cons_zero, List.set_cons_succ]) (hCont (.slice Ao39 t726.length co39, .slice Ao40 t730.length co40, v735, gb738) _ ⟨hHeld, (by (with_reducible repeat (first | apply Kd.R_alloc | apply Kd.R_drewN | apply Kd.R_drew)); exact Kd.R_mono HO721.out (fun _ hk => ⟨hk.1.1.2, ⟨hk.1.2, hk.2⟩⟩)), (by (with_reducible repeat (first | apply Kd.R_alloc | apply Kd.R_drewN | apply Kd.R_drew)); exact Kd.R_mono HO728.out (fun _ hk => ⟨hk.1.2, ⟨hk.1.1, hk.2⟩⟩)), (by (with_reducible repeat (first | apply Kd.R_alloc | apply Kd.R_drewN | apply Kd.R_drew)); exact Kd.R_mono HO732.out (fun _ hk => ⟨hk.1.2, ⟨hk.1.1, hk.2⟩⟩)), (by (with_reducible repeat (first | apply Kd.R_alloc | apply Kd.R_drewN | apply Kd.R_drew)); exact Kd.R_mono HO736.out (fun _ hk => ⟨hk.1.1.2, ⟨hk.1.2, hk.2⟩⟩)), (by (with_reducible repeat (first | refine blk_drewN ?_ _ | refine blk_drew ?_ | refine blk_alloc ?_ _)); exact BK713.out), (by (with_reducible repeat (first | refine blk_drewN ?_ _ | refine blk_drew ?_ | refine blk_alloc ?_ _)); exact BK714.out), (by (with_reducible repeat (first | refine blk_drewN ?_ _ | refine blk_drew ?_ | refine blk_alloc ?_ _)); exact BK723.out), (by (with_reducible repeat (first | refine blk_drewN ?_ _ | refine blk_drew ?_ | refine blk_alloc ?_ _)); exact BK738.out), GW738.out, GE738.out, NB713_738.out, NB738_713.out, NB714_738.out, NB738_714.out, NB723_738.out, NB738_723.out, (by repeat (first | (with_reducible first | exact HB.out | apply below_alloc | apply pw_below_drewN | apply below_drew1 | refine below_set ?_ GE713.out | refine below_set ?_ GE714.out | refine below_set ?_ GE723.out | refine below_set ?_ GE738.out) | exact HB.out))⟩)
                  · skip
                    refine box_step ?hg (N := 7) ?hd (cs := #[.string (⟨#[]⟩ : ByteArray), .slice none 0 0]) (t := 51) ?hr ?_; (case hd => rfl); (case hg => rfl); (case hr => first | (go_simp; done) | (go_simp; rfl))
                    intro gb738 hg w39 hbox hb
                    have n0_ := Aside0.mk (Kd.R_below (by (with_reducible repeat (first | apply Kd.R_alloc | apply Kd.R_drewN | apply Kd.R_drew)); exact HO721.out) hb)
                    have n1_ := Aside0.mk (Kd.R_below (by (with_reducible repeat (first | apply Kd.R_alloc | apply Kd.R_drewN | apply Kd.R_drew)); exact HO728.out) hb)
                    have n2_ := Aside0.mk (Kd.R_below (by (with_reducible repeat (first | apply Kd.R_alloc | apply Kd.R_drewN | apply Kd.R_drew)); exact HO732.out) hb)
                    have n3_ := Aside0.mk (blk_below (g := gb713) (o := .cells #[.string a0_0, .slice A0_1 l0_1.length c0_1] 51 (0, 0)) (by (with_reducible repeat (first | refine blk_drewN ?_ _ | refine blk_drew ?_ | refine blk_alloc ?_ _)); exact BK713.out) hb)
                    have n4_ := Aside0.mk (blk_below (g := gb714) (o := .cells #[.int .i64 a1_0, .string a1_1, .slice A1_2 l1_2.length c1_2, .string a1_3, .slice A1_4 l1_4.length c1_4] 64 (0, 0)) (by (with_reducible repeat (first | refine blk_drewN ?_ _ | refine blk_drew ?_ | refine blk_alloc ?_ _)); exact BK714.out) hb)
                    have n5_ := Aside0.mk (blk_below (g := gb723) (o := .cells #[.string t718, .slice Ao35 t719.length co35] 51 (0, 0)) (by (with_reducible repeat (first | refine blk_drewN ?_ _ | refine blk_drew ?_ | refine blk_alloc ?_ _)); exact BK723.out) hb)
                    have n6_ := Aside0.mk (below_step (by repeat (first | (with_reducible first | exact HB.out | apply below_alloc | apply pw_below_drewN | apply below_drew1 | refine below_set ?_ GE713.out | refine below_set ?_ GE714.out | refine below_set ?_ GE723.out) | exact HB.out)) hb)
                    have n7_ := Aside0.mk (hbox)
                    have n8_ := Aside0.mk ((by rw [hg]; exact (below_size (by repeat (first | (with_reducible first | exact HB.out | apply below_alloc | apply pw_below_drewN | apply below_drew1 | refine below_set ?_ GE713.out | refine below_set ?_ GE714.out | refine below_set ?_ GE723.out) | exact HB.out))) : w.heap.size ≤ gb738))
                    have n9_ := Aside0.mk ((by rw [hg]; exact (below_size (by repeat (first | (with_reducible first | exact HB.out | apply below_alloc | apply pw_below_drewN | apply below_drew1 | refine below_set ?_ GE713.out | refine below_set ?_ GE714.out | refine below_set ?_ GE723.out) | exact HB.out))) : w.heap.size ≤ gb738))
                    have n10_ := Aside0.mk ((by rw [hg]; exact Nat.ne_of_lt (blk_lt (g := gb713) (o := .cells #[.string a0_0, .slice A0_1 l0_1.length c0_1] 51 (0, 0)) (by (with_reducible repeat (first | refine blk_drewN ?_ _ | refine blk_drew ?_ | refine blk_alloc ?_ _)); exact BK713.out)) : gb713 ≠ gb738))
                    have n11_ := Aside0.mk ((by rw [hg]; exact Nat.ne_of_gt (blk_lt (g := gb713) (o := .cells #[.string a0_0, .slice A0_1 l0_1.length c0_1] 51 (0, 0)) (by (with_reducible repeat (first | refine blk_drewN ?_ _ | refine blk_drew ?_ | refine blk_alloc ?_ _)); exact BK713.out)) : gb738 ≠ gb713))
                    have n12_ := Aside0.mk ((by rw [hg]; exact Nat.ne_of_lt (blk_lt (g := gb714) (o := .cells #[.int .i64 a1_0, .string a1_1, .slice A1_2 l1_2.length c1_2, .string a1_3, .slice A1_4 l1_4.length c1_4] 64 (0, 0)) (by (with_reducible repeat (first | refine blk_drewN ?_ _ | refine blk_drew ?_ | refine blk_alloc ?_ _)); exact BK714.out)) : gb714 ≠ gb738))
                    have n13_ := Aside0.mk ((by rw [hg]; exact Nat.ne_of_gt (blk_lt (g := gb714) (o := .cells #[.int .i64 a1_0, .string a1_1, .slice A1_2 l1_2.length c1_2, .string a1_3, .slice A1_4 l1_4.length c1_4] 64 (0, 0)) (by (with_reducible repeat (first | refine blk_drewN ?_ _ | refine blk_drew ?_ | refine blk_alloc ?_ _)); exact BK714.out)) : gb738 ≠ gb714))
                    have n14_ := Aside0.mk ((by rw [hg]; exact Nat.ne_of_lt (blk_lt (g := gb723) (o := .cells #[.string t718, .slice Ao35 t719.length co35] 51 (0, 0)) (by (with_reducible repeat (first | refine blk_drewN ?_ _ | refine blk_drew ?_ | refine blk_alloc ?_ _)); exact BK723.out)) : gb723 ≠ gb738))
                    have n15_ := Aside0.mk ((by rw [hg]; exact Nat.ne_of_gt (blk_lt (g := gb723) (o := .cells #[.string t718, .slice Ao35 t719.length co35] 51 (0, 0)) (by (with_reducible repeat (first | refine blk_drewN ?_ _ | refine blk_drew ?_ | refine blk_alloc ?_ _)); exact BK723.out)) : gb738 ≠ gb723))
                    clear HO721
                    clear HO728
                    clear HO732
                    clear BK713
                    clear BK714
                    clear BK723
                    clear HB
                    have HO721 := n0_
                    have HO728 := n1_
                    have HO732 := n2_
                    have BK713 := n3_
                    have BK714 := n4_
                    have BK723 := n5_
                    have HB := n6_
                    have BK738 := n7_
                    have GW738 := n8_
                    have GE738 := n9_
                    have NB713_738 := n10_
                    have NB738_713 := n11_
                    have NB714_738 := n12_
                    have NB738_714 := n13_
                    have NB723_738 := n14_
                    have NB738_723 := n15_
                    clear n0_ n1_ n2_ n3_ n4_ n5_ n6_ n7_ n8_ n9_ n10_ n11_ n12_ n13_ n14_ n15_
                    clear hb hbox hg
                    obtain ⟨Ao40, co40, eo40⟩ := Kd.R_slice HO728.out
                    (first | subst eo40 | (injection eo40 with f1_ f2_ f3_; have f4_ := f1_.symm; have f5_ := f3_.symm; clear f1_ f2_ f3_; subst f4_; subst f5_))
                    obtain ⟨Ao41, co41, eo41⟩ := Kd.R_slice HO732.out
                    (first | subst eo41 | (injection eo41 with f1_ f2_ f3_; have f4_ := f1_.symm; have f5_ := f3_.symm; clear f1_ f2_ f3_; subst f4_; subst f5_))
                    refine hK.out _ _ ⟨(blk_cell BK723.out 0).trans rfl, (blk_cell BK723.out 1).trans rfl, (blk_cell BK714.out 0).trans rfl, (blk_cell BK714.out 1).trans rfl, (blk_cell BK714.out 2).trans rfl, (blk_cell BK714.out 3).trans rfl, (blk_cell BK714.out 4).trans rfl⟩ (fun hHeld => ?_)
                    clear hK K
                    refine norm_ (a' := ?_) ?_ ?_
                    rotate_left
                    · show Act.put _ (some 7) _ = _
                      simp only [Act.put, List.setIfInBounds_toArray, List.set_cons_zero, List.set_cons_succ, i64_w, i32_w]
                      rfl
                    refine one_ (i := 3) (N := some 34) #[true, true, true, true, false, false, false, true, false, false] rfl rfl (one_of HT_.out (by kernel_rfl)) (by decide) (fun K hK => ?_)
                    refine goes_ Try.func65 (by kernel_rfl) rfl #[.agg #[.string t718, .slice Ao35 t719.length co35], .agg #[.int .i64 t724, .string t725, .slice Ao40 t726.length co40, .string t729, .slice Ao41 t730.length co41]] (by rfl) rfl rfl (by (try simp only [List.map_toArray, List.map_cons, List.map_nil]); first | done | rfl | (simp only [List.length_drop, List.length_take]; rfl)) ?_
                    with_reducible refine (edit_Apply.calls kj4 t718 _ _ t719 t724 t725 _ _ t726 t729 _ _ t730 t733 t734 t737 _ ?side1 ?side2 ?side3 ?side4 ?side5 ?side6 A24.out).mono ?_
                    (case side1 => repeat (first | exact (Kd.R_reads' HO721.out).2.2 | (with_reducible refine Kd.C_alloc ?_ _) | (with_reducible refine Kd.C_drewN ?_ _) | (with_reducible refine Kd.C_drew ?_)))
                    (case side2 => exact (Kd.R_reads' HO721.out).2.1)
                    (case side3 => repeat (first | exact (Kd.R_reads' HO728.out).2.2 | (with_reducible refine Kd.C_alloc ?_ _) | (with_reducible refine Kd.C_drewN ?_ _) | (with_reducible refine Kd.C_drew ?_)))
                    (case side4 => exact (Kd.R_reads' HO728.out).2.1)
                    (case side5 => repeat (first | exact (Kd.R_reads' HO732.out).2.2 | (with_reducible refine Kd.C_alloc ?_ _) | (with_reducible refine Kd.C_drewN ?_ _) | (with_reducible refine Kd.C_drew ?_)))
                    (case side6 => exact (Kd.R_reads' HO732.out).2.1)
                    rintro e w42 ⟨v735, rfl, ho0, hb⟩
                    refine ⟨_, rfl, ?_⟩
                    have n0_ := Aside0.mk (Kd.R_elder' (by (with_reducible repeat (first | apply Kd.R_alloc | apply Kd.R_drewN | apply Kd.R_drew)); exact HO721.out) (Kd.R_base ho0) hb)
                    have n1_ := Aside0.mk (Kd.R_elder' (by (with_reducible repeat (first | apply Kd.R_alloc | apply Kd.R_drewN | apply Kd.R_drew)); exact HO728.out) (Kd.R_base ho0) hb)
                    have n2_ := Aside0.mk (Kd.R_elder' (by (with_reducible repeat (first | apply Kd.R_alloc | apply Kd.R_drewN | apply Kd.R_drew)); exact HO732.out) (Kd.R_base ho0) hb)
                    have n3_ := Aside0.mk (Kd.R_lower (Kd.R_new' (Kd.R_new' (Kd.R_new' ho0 (Kd.R_lt (by (with_reducible repeat (first | apply Kd.R_alloc | apply Kd.R_drewN | apply Kd.R_drew)); exact HO721.out))) (Kd.R_lt (by (with_reducible repeat (first | apply Kd.R_alloc | apply Kd.R_drewN | apply Kd.R_drew)); exact HO728.out))) (Kd.R_lt (by (with_reducible repeat (first | apply Kd.R_alloc | apply Kd.R_drewN | apply Kd.R_drew)); exact HO732.out))) (below_size (by repeat (first | (with_reducible first | exact HB.out | apply below_alloc | apply pw_below_drewN | apply below_drew1 | refine below_set ?_ GE713.out | refine below_set ?_ GE714.out | refine below_set ?_ GE723.out | refine below_set ?_ GE738.out) | exact HB.out))))
                    have n4_ := Aside0.mk (blk_below (g := gb713) (o := .cells #[.string a0_0, .slice A0_1 l0_1.length c0_1] 51 (0, 0)) (by (with_reducible repeat (first | refine blk_drewN ?_ _ | refine blk_drew ?_ | refine blk_alloc ?_ _)); exact BK713.out) hb)
                    have n5_ := Aside0.mk (blk_below (g := gb714) (o := .cells #[.int .i64 a1_0, .string a1_1, .slice A1_2 l1_2.length c1_2, .string a1_3, .slice A1_4 l1_4.length c1_4] 64 (0, 0)) (by (with_reducible repeat (first | refine blk_drewN ?_ _ | refine blk_drew ?_ | refine blk_alloc ?_ _)); exact BK714.out) hb)
                    have n6_ := Aside0.mk (blk_below (g := gb723) (o := .cells #[.string t718, .slice Ao35 t719.length co35] 51 (0, 0)) (by (with_reducible repeat (first | refine blk_drewN ?_ _ | refine blk_drew ?_ | refine blk_alloc ?_ _)); exact BK723.out) hb)
                    have n7_ := Aside0.mk (blk_below (g := gb738) (o := .cells #[.string (⟨#[]⟩ : ByteArray), .slice none 0 0] 51 (0, 0)) (by (with_reducible repeat (first | refine blk_drewN ?_ _ | refine blk_drew ?_ | refine blk_alloc ?_ _)); exact BK738.out) hb)
                    have n8_ := Aside0.mk (below_step (by repeat (first | (with_reducible first | exact HB.out | apply below_alloc | apply pw_below_drewN | apply below_drew1 | refine below_set ?_ GE713.out | refine below_set ?_ GE714.out | refine below_set ?_ GE723.out | refine below_set ?_ GE738.out) | exact HB.out)) hb)
                    clear HO721
                    clear HO728
                    clear HO732
                    clear BK713
                    clear BK714
                    clear BK723
                    clear BK738
                    clear HB
                    have HO721 := n0_
                    have HO728 := n1_
                    have HO732 := n2_
                    have HO736 := n3_
                    have BK713 := n4_
                    have BK714 := n5_
                    have BK723 := n6_
                    have BK738 := n7_
                    have HB := n8_
                    clear n0_ n1_ n2_ n3_ n4_ n5_ n6_ n7_ n8_
                    (try clear hb)
                    (try clear hb2)
                    (try clear hk)
                    (try clear hi)
                    (try clear ho0)
                    refine hK.out _ _ ⟨(blk_cell BK723.out 0).trans rfl, (blk_cell BK723.out 1).trans rfl, (blk_cell BK714.out 0).trans rfl, (blk_cell BK714.out 1).trans rfl, (blk_cell BK714.out 2).trans rfl, (blk_cell BK714.out 3).trans rfl, (blk_cell BK714.out 4).trans rfl⟩ (fun hHeld => ?_)
                    clear hK K
                    refine norm_ (a' := ?_) ?_ ?_
                    rotate_left
                    · show Act.put _ (some 34) _ = _
                      simp only [Act.put, List.setIfInBounds_toArray, List.set_cons_zero, List.set_cons_succ, i64_w, i32_w]
                      rfl
                    refine pure_ (i := 4) (N := some 30) (v := ?_) (a' := ?_) #[true, true, true, true, true, false, false, true, false, false] rfl rfl (any_of HT_.out (by kernel_rfl)) (fun _ _ _ h => h) (Or.inl ⟨by rfl, ?_⟩) ?_ ?_
                    rotate_left
                    · intro w'
                      go_simp
                      with_reducible rfl
                    rotate_left
                    · simp only [Act.put, List.setIfInBounds_toArray, List.set_cons_zero, List.set_cons_succ, i64_w, i32_w]
                      rfl
                    refine pure_ (i := 5) (N := some 35) (v := ?_) (a' := ?_) #[true, true, true, true, true, true, false, true, false, false] rfl rfl (any_of HT_.out (by kernel_rfl)) (fun _ _ _ h => h) (Or.inl ⟨by rfl, ?_⟩) ?_ ?_
                    rotate_left
                    · intro w'
                      go_simp
                      with_reducible rfl
                    rotate_left
                    · simp only [Act.put, List.setIfInBounds_toArray, List.set_cons_zero, List.set_cons_succ, i64_w, i32_w]
                      rfl
                    refine pure_ (i := 6) (N := some 36) (v := ?_) (a' := ?_) #[true, true, true, true, true, true, true, true, false, false] rfl rfl (any_of HT_.out (by kernel_rfl)) (fun _ _ _ h => h) (Or.inl ⟨by rfl, ?_⟩) ?_ ?_
                    rotate_left
                    · intro w'
                      go_simp
                      with_reducible rfl
                    rotate_left
                    · simp only [Act.put, List.setIfInBounds_toArray, List.set_cons_zero, List.set_cons_succ, i64_w, i32_w]
                      rfl
                    exact norm_ (by simp only [putAll, Act.put, List.setIfInBounds_toArray, List.set_cons_zero, List.set_cons_succ]) (hCont (.slice Ao40 t726.length co40, .slice Ao41 t730.length co41, v735, gb738) _ ⟨hHeld, (by (with_reducible repeat (first | apply Kd.R_alloc | apply Kd.R_drewN | apply Kd.R_drew)); exact Kd.R_mono HO721.out (fun _ hk => ⟨hk.1.1.2, ⟨hk.1.2, hk.2⟩⟩)), (by (with_reducible repeat (first | apply Kd.R_alloc | apply Kd.R_drewN | apply Kd.R_drew)); exact Kd.R_mono HO728.out (fun _ hk => ⟨hk.1.2, ⟨hk.1.1, hk.2⟩⟩)), (by (with_reducible repeat (first | apply Kd.R_alloc | apply Kd.R_drewN | apply Kd.R_drew)); exact Kd.R_mono HO732.out (fun _ hk => ⟨hk.1.2, ⟨hk.1.1, hk.2⟩⟩)), (by (with_reducible repeat (first | apply Kd.R_alloc | apply Kd.R_drewN | apply Kd.R_drew)); exact Kd.R_mono HO736.out (fun _ hk => ⟨hk.1.1.2, ⟨hk.1.2, hk.2⟩⟩)), (by (with_reducible repeat (first | refine blk_drewN ?_ _ | refine blk_drew ?_ | refine blk_alloc ?_ _)); exact BK713.out), (by (with_reducible repeat (first | refine blk_drewN ?_ _ | refine blk_drew ?_ | refine blk_alloc ?_ _)); exact BK714.out), (by (with_reducible repeat (first | refine blk_drewN ?_ _ | refine blk_drew ?_ | refine blk_alloc ?_ _)); exact BK723.out), (by (with_reducible repeat (first | refine blk_drewN ?_ _ | refine blk_drew ?_ | refine blk_alloc ?_ _)); exact BK738.out), GW738.out, GE738.out, NB713_738.out, NB738_713.out, NB714_738.out, NB738_714.out, NB723_738.out, NB738_723.out, (by repeat (first | (with_reducible first | exact HB.out | apply below_alloc | apply pw_below_drewN | apply below_drew1 | refine below_set ?_ GE713.out | refine below_set ?_ GE714.out | refine below_set ?_ GE723.out | refine below_set ?_ GE738.out) | exact HB.out))⟩)
                · skip
                  refine box_step ?hg (N := 7) ?hd (cs := #[.string (⟨#[]⟩ : ByteArray), .slice none 0 0]) (t := 51) ?hr ?_; (case hd => rfl); (case hg => rfl); (case hr => first | (go_simp; done) | (go_simp; rfl))
                  intro gb738 hg w38 hbox hb
                  have n0_ := Aside0.mk (Kd.R_below (by (with_reducible repeat (first | apply Kd.R_alloc | apply Kd.R_drewN | apply Kd.R_drew)); exact HO721.out) hb)
                  have n1_ := Aside0.mk (blk_below (g := gb713) (o := .cells #[.string a0_0, .slice A0_1 l0_1.length c0_1] 51 (0, 0)) (by (with_reducible repeat (first | refine blk_drewN ?_ _ | refine blk_drew ?_ | refine blk_alloc ?_ _)); exact BK713.out) hb)
                  have n2_ := Aside0.mk (blk_below (g := gb714) (o := .cells #[.int .i64 a1_0, .string a1_1, .slice A1_2 l1_2.length c1_2, .string a1_3, .slice A1_4 l1_4.length c1_4] 64 (0, 0)) (by (with_reducible repeat (first | refine blk_drewN ?_ _ | refine blk_drew ?_ | refine blk_alloc ?_ _)); exact BK714.out) hb)
                  have n3_ := Aside0.mk (blk_below (g := gb723) (o := .cells #[.string t718, .slice Ao35 t719.length co35] 51 (0, 0)) (by (with_reducible repeat (first | refine blk_drewN ?_ _ | refine blk_drew ?_ | refine blk_alloc ?_ _)); exact BK723.out) hb)
                  have n4_ := Aside0.mk (below_step (by repeat (first | (with_reducible first | exact HB.out | apply below_alloc | apply pw_below_drewN | apply below_drew1 | refine below_set ?_ GE713.out | refine below_set ?_ GE714.out | refine below_set ?_ GE723.out) | exact HB.out)) hb)
                  have n5_ := Aside0.mk (hbox)
                  have n6_ := Aside0.mk ((by rw [hg]; exact (below_size (by repeat (first | (with_reducible first | exact HB.out | apply below_alloc | apply pw_below_drewN | apply below_drew1 | refine below_set ?_ GE713.out | refine below_set ?_ GE714.out | refine below_set ?_ GE723.out) | exact HB.out))) : w.heap.size ≤ gb738))
                  have n7_ := Aside0.mk ((by rw [hg]; exact (below_size (by repeat (first | (with_reducible first | exact HB.out | apply below_alloc | apply pw_below_drewN | apply below_drew1 | refine below_set ?_ GE713.out | refine below_set ?_ GE714.out | refine below_set ?_ GE723.out) | exact HB.out))) : w.heap.size ≤ gb738))
                  have n8_ := Aside0.mk ((by rw [hg]; exact Nat.ne_of_lt (blk_lt (g := gb713) (o := .cells #[.string a0_0, .slice A0_1 l0_1.length c0_1] 51 (0, 0)) (by (with_reducible repeat (first | refine blk_drewN ?_ _ | refine blk_drew ?_ | refine blk_alloc ?_ _)); exact BK713.out)) : gb713 ≠ gb738))
                  have n9_ := Aside0.mk ((by rw [hg]; exact Nat.ne_of_gt (blk_lt (g := gb713) (o := .cells #[.string a0_0, .slice A0_1 l0_1.length c0_1] 51 (0, 0)) (by (with_reducible repeat (first | refine blk_drewN ?_ _ | refine blk_drew ?_ | refine blk_alloc ?_ _)); exact BK713.out)) : gb738 ≠ gb713))
                  have n10_ := Aside0.mk ((by rw [hg]; exact Nat.ne_of_lt (blk_lt (g := gb714) (o := .cells #[.int .i64 a1_0, .string a1_1, .slice A1_2 l1_2.length c1_2, .string a1_3, .slice A1_4 l1_4.length c1_4] 64 (0, 0)) (by (with_reducible repeat (first | refine blk_drewN ?_ _ | refine blk_drew ?_ | refine blk_alloc ?_ _)); exact BK714.out)) : gb714 ≠ gb738))
                  have n11_ := Aside0.mk ((by rw [hg]; exact Nat.ne_of_gt (blk_lt (g := gb714) (o := .cells #[.int .i64 a1_0, .string a1_1, .slice A1_2 l1_2.length c1_2, .string a1_3, .slice A1_4 l1_4.length c1_4] 64 (0, 0)) (by (with_reducible repeat (first | refine blk_drewN ?_ _ | refine blk_drew ?_ | refine blk_alloc ?_ _)); exact BK714.out)) : gb738 ≠ gb714))
                  have n12_ := Aside0.mk ((by rw [hg]; exact Nat.ne_of_lt (blk_lt (g := gb723) (o := .cells #[.string t718, .slice Ao35 t719.length co35] 51 (0, 0)) (by (with_reducible repeat (first | refine blk_drewN ?_ _ | refine blk_drew ?_ | refine blk_alloc ?_ _)); exact BK723.out)) : gb723 ≠ gb738))
                  have n13_ := Aside0.mk ((by rw [hg]; exact Nat.ne_of_gt (blk_lt (g := gb723) (o := .cells #[.string t718, .slice Ao35 t719.length co35] 51 (0, 0)) (by (with_reducible repeat (first | refine blk_drewN ?_ _ | refine blk_drew ?_ | refine blk_alloc ?_ _)); exact BK723.out)) : gb738 ≠ gb723))
                  clear HO721
                  clear BK713
                  clear BK714
                  clear BK723
                  clear HB
                  have HO721 := n0_
                  have BK713 := n1_
                  have BK714 := n2_
                  have BK723 := n3_
                  have HB := n4_
                  have BK738 := n5_
                  have GW738 := n6_
                  have GE738 := n7_
                  have NB713_738 := n8_
                  have NB738_713 := n9_
                  have NB714_738 := n10_
                  have NB738_714 := n11_
                  have NB723_738 := n12_
                  have NB738_723 := n13_
                  clear n0_ n1_ n2_ n3_ n4_ n5_ n6_ n7_ n8_ n9_ n10_ n11_ n12_ n13_
                  clear hb hbox hg
                  refine hK.out _ _ ⟨(blk_cell BK723.out 0).trans rfl, (blk_cell BK723.out 1).trans rfl, (blk_cell BK714.out 0).trans rfl, (blk_cell BK714.out 1).trans rfl, (blk_cell BK714.out 2).trans rfl, (blk_cell BK714.out 3).trans rfl, (blk_cell BK714.out 4).trans rfl⟩ (fun hHeld => ?_)
                  clear hK K
                  refine norm_ (a' := ?_) ?_ ?_
                  rotate_left
                  · show Act.put _ (some 7) _ = _
                    simp only [Act.put, List.setIfInBounds_toArray, List.set_cons_zero, List.set_cons_succ, i64_w, i32_w]
                    rfl
                  refine one_ (i := 2) (N := some 33) #[true, true, true, false, false, false, false, true, false, false] rfl rfl (one_of HT_.out (by kernel_rfl)) (by decide) (fun K hK => ?_)
                  refine goes_ Try.func59 (by kernel_rfl) rfl #[.agg #[.int .i64 a1_0, .string a1_1, .slice A1_2 l1_2.length c1_2, .string a1_3, .slice A1_4 l1_4.length c1_4]] (by rfl) rfl rfl (by (try simp only [List.map_toArray, List.map_cons, List.map_nil]); first | done | rfl | (simp only [List.length_drop, List.length_take]; rfl)) ?_
                  with_reducible refine (edit_Invert.calls a1_0 a1_1 _ _ l1_2 a1_3 _ _ l1_4 t724 t725 t726 t729 t730 _ ?side1 ?side2 ?side3 ?side4 A23.out).mono ?_
                  (case side1 => repeat (first | exact (Kd.C_below HR1_2.out HB.out) | (with_reducible refine Kd.C_alloc ?_ _) | (with_reducible refine Kd.C_drewN ?_ _) | (with_reducible refine Kd.C_drew ?_)))
                  (case side2 => exact HC1_2.out)
                  (case side3 => repeat (first | exact (Kd.C_below HR1_4.out HB.out) | (with_reducible refine Kd.C_alloc ?_ _) | (with_reducible refine Kd.C_drewN ?_ _) | (with_reducible refine Kd.C_drew ?_)))
                  (case side4 => exact HC1_4.out)
                  rintro e w39 ⟨v727, v731, rfl, ho0, ho1, hb⟩
                  refine ⟨_, rfl, ?_⟩
                  have n0_ := Aside0.mk (Kd.R_mono (Kd.R_told (Kd.R_told (Kd.R_old (by (with_reducible repeat (first | apply Kd.R_alloc | apply Kd.R_drewN | apply Kd.R_drew)); exact HO721.out) hb) (Kd.R_base ho0)) (Kd.R_base ho1)) (fun _ h_ => h_.1))
                  have n1_ := Aside0.mk (Kd.R_lower (Kd.R_new' ho0 (Kd.R_lt (by (with_reducible repeat (first | apply Kd.R_alloc | apply Kd.R_drewN | apply Kd.R_drew)); exact HO721.out))) (below_size (by repeat (first | (with_reducible first | exact HB.out | apply below_alloc | apply pw_below_drewN | apply below_drew1 | refine below_set ?_ GE713.out | refine below_set ?_ GE714.out | refine below_set ?_ GE723.out | refine below_set ?_ GE738.out) | exact HB.out))))
                  have n2_ := Aside0.mk (Kd.R_lower (Kd.R_new' ho1 (Kd.R_lt (by (with_reducible repeat (first | apply Kd.R_alloc | apply Kd.R_drewN | apply Kd.R_drew)); exact HO721.out))) (below_size (by repeat (first | (with_reducible first | exact HB.out | apply below_alloc | apply pw_below_drewN | apply below_drew1 | refine below_set ?_ GE713.out | refine below_set ?_ GE714.out | refine below_set ?_ GE723.out | refine below_set ?_ GE738.out) | exact HB.out))))
                  have n3_ := Aside0.mk (blk_below (g := gb713) (o := .cells #[.string a0_0, .slice A0_1 l0_1.length c0_1] 51 (0, 0)) (by (with_reducible repeat (first | refine blk_drewN ?_ _ | refine blk_drew ?_ | refine blk_alloc ?_ _)); exact BK713.out) hb)
                  have n4_ := Aside0.mk (blk_below (g := gb714) (o := .cells #[.int .i64 a1_0, .string a1_1, .slice A1_2 l1_2.length c1_2, .string a1_3, .slice A1_4 l1_4.length c1_4] 64 (0, 0)) (by (with_reducible repeat (first | refine blk_drewN ?_ _ | refine blk_drew ?_ | refine blk_alloc ?_ _)); exact BK714.out) hb)
                  have n5_ := Aside0.mk (blk_below (g := gb723) (o := .cells #[.string t718, .slice Ao35 t719.length co35] 51 (0, 0)) (by (with_reducible repeat (first | refine blk_drewN ?_ _ | refine blk_drew ?_ | refine blk_alloc ?_ _)); exact BK723.out) hb)
                  have n6_ := Aside0.mk (blk_below (g := gb738) (o := .cells #[.string (⟨#[]⟩ : ByteArray), .slice none 0 0] 51 (0, 0)) (by (with_reducible repeat (first | refine blk_drewN ?_ _ | refine blk_drew ?_ | refine blk_alloc ?_ _)); exact BK738.out) hb)
                  have n7_ := Aside0.mk (below_step (by repeat (first | (with_reducible first | exact HB.out | apply below_alloc | apply pw_below_drewN | apply below_drew1 | refine below_set ?_ GE713.out | refine below_set ?_ GE714.out | refine below_set ?_ GE723.out | refine below_set ?_ GE738.out) | exact HB.out)) hb)
                  clear HO721
                  clear BK713
                  clear BK714
                  clear BK723
                  clear BK738
                  clear HB
                  have HO721 := n0_
                  have HO728 := n1_
                  have HO732 := n2_
                  have BK713 := n3_
                  have BK714 := n4_
                  have BK723 := n5_
                  have BK738 := n6_
                  have HB := n7_
                  clear n0_ n1_ n2_ n3_ n4_ n5_ n6_ n7_
                  (try clear hb)
                  (try clear hb2)
                  (try clear hk)
                  (try clear hi)
                  (try clear ho0)
                  (try clear ho1)
                  obtain ⟨Ao40, co40, eo40⟩ := Kd.R_slice HO728.out
                  (first | subst eo40 | (injection eo40 with f1_ f2_ f3_; have f4_ := f1_.symm; have f5_ := f3_.symm; clear f1_ f2_ f3_; subst f4_; subst f5_))
                  obtain ⟨Ao41, co41, eo41⟩ := Kd.R_slice HO732.out
                  (first | subst eo41 | (injection eo41 with f1_ f2_ f3_; have f4_ := f1_.symm; have f5_ := f3_.symm; clear f1_ f2_ f3_; subst f4_; subst f5_))
                  refine hK.out _ _ ⟨(blk_cell BK723.out 0).trans rfl, (blk_cell BK723.out 1).trans rfl, (blk_cell BK714.out 0).trans rfl, (blk_cell BK714.out 1).trans rfl, (blk_cell BK714.out 2).trans rfl, (blk_cell BK714.out 3).trans rfl, (blk_cell BK714.out 4).trans rfl⟩ (fun hHeld => ?_)
                  clear hK K
                  refine norm_ (a' := ?_) ?_ ?_
                  rotate_left
                  · show Act.put _ (some 33) _ = _
                    simp only [Act.put, List.setIfInBounds_toArray, List.set_cons_zero, List.set_cons_succ, i64_w, i32_w]
                    rfl
                  refine one_ (i := 3) (N := some 34) #[true, true, true, true, false, false, false, true, false, false] rfl rfl (one_of HT_.out (by kernel_rfl)) (by decide) (fun K hK => ?_)
                  refine goes_ Try.func65 (by kernel_rfl) rfl #[.agg #[.string t718, .slice Ao35 t719.length co35], .agg #[.int .i64 t724, .string t725, .slice Ao40 t726.length co40, .string t729, .slice Ao41 t730.length co41]] (by rfl) rfl rfl (by (try simp only [List.map_toArray, List.map_cons, List.map_nil]); first | done | rfl | (simp only [List.length_drop, List.length_take]; rfl)) ?_
                  with_reducible refine (edit_Apply.calls kj4 t718 _ _ t719 t724 t725 _ _ t726 t729 _ _ t730 t733 t734 t737 _ ?side1 ?side2 ?side3 ?side4 ?side5 ?side6 A24.out).mono ?_
                  (case side1 => repeat (first | exact (Kd.R_reads' HO721.out).2.2 | (with_reducible refine Kd.C_alloc ?_ _) | (with_reducible refine Kd.C_drewN ?_ _) | (with_reducible refine Kd.C_drew ?_)))
                  (case side2 => exact (Kd.R_reads' HO721.out).2.1)
                  (case side3 => repeat (first | exact (Kd.R_reads' HO728.out).2.2 | (with_reducible refine Kd.C_alloc ?_ _) | (with_reducible refine Kd.C_drewN ?_ _) | (with_reducible refine Kd.C_drew ?_)))
                  (case side4 => exact (Kd.R_reads' HO728.out).2.1)
                  (case side5 => repeat (first | exact (Kd.R_reads' HO732.out).2.2 | (with_reducible refine Kd.C_alloc ?_ _) | (with_reducible refine Kd.C_drewN ?_ _) | (with_reducible refine Kd.C_drew ?_)))
                  (case side6 => exact (Kd.R_reads' HO732.out).2.1)
                  rintro e w42 ⟨v735, rfl, ho0, hb⟩
                  refine ⟨_, rfl, ?_⟩
                  have n0_ := Aside0.mk (Kd.R_elder' (by (with_reducible repeat (first | apply Kd.R_alloc | apply Kd.R_drewN | apply Kd.R_drew)); exact HO721.out) (Kd.R_base ho0) hb)
                  have n1_ := Aside0.mk (Kd.R_elder' (by (with_reducible repeat (first | apply Kd.R_alloc | apply Kd.R_drewN | apply Kd.R_drew)); exact HO728.out) (Kd.R_base ho0) hb)
                  have n2_ := Aside0.mk (Kd.R_elder' (by (with_reducible repeat (first | apply Kd.R_alloc | apply Kd.R_drewN | apply Kd.R_drew)); exact HO732.out) (Kd.R_base ho0) hb)
                  have n3_ := Aside0.mk (Kd.R_lower (Kd.R_new' (Kd.R_new' (Kd.R_new' ho0 (Kd.R_lt (by (with_reducible repeat (first | apply Kd.R_alloc | apply Kd.R_drewN | apply Kd.R_drew)); exact HO721.out))) (Kd.R_lt (by (with_reducible repeat (first | apply Kd.R_alloc | apply Kd.R_drewN | apply Kd.R_drew)); exact HO728.out))) (Kd.R_lt (by (with_reducible repeat (first | apply Kd.R_alloc | apply Kd.R_drewN | apply Kd.R_drew)); exact HO732.out))) (below_size (by repeat (first | (with_reducible first | exact HB.out | apply below_alloc | apply pw_below_drewN | apply below_drew1 | refine below_set ?_ GE713.out | refine below_set ?_ GE714.out | refine below_set ?_ GE723.out | refine below_set ?_ GE738.out) | exact HB.out))))
                  have n4_ := Aside0.mk (blk_below (g := gb713) (o := .cells #[.string a0_0, .slice A0_1 l0_1.length c0_1] 51 (0, 0)) (by (with_reducible repeat (first | refine blk_drewN ?_ _ | refine blk_drew ?_ | refine blk_alloc ?_ _)); exact BK713.out) hb)
                  have n5_ := Aside0.mk (blk_below (g := gb714) (o := .cells #[.int .i64 a1_0, .string a1_1, .slice A1_2 l1_2.length c1_2, .string a1_3, .slice A1_4 l1_4.length c1_4] 64 (0, 0)) (by (with_reducible repeat (first | refine blk_drewN ?_ _ | refine blk_drew ?_ | refine blk_alloc ?_ _)); exact BK714.out) hb)
                  have n6_ := Aside0.mk (blk_below (g := gb723) (o := .cells #[.string t718, .slice Ao35 t719.length co35] 51 (0, 0)) (by (with_reducible repeat (first | refine blk_drewN ?_ _ | refine blk_drew ?_ | refine blk_alloc ?_ _)); exact BK723.out) hb)
                  have n7_ := Aside0.mk (blk_below (g := gb738) (o := .cells #[.string (⟨#[]⟩ : ByteArray), .slice none 0 0] 51 (0, 0)) (by (with_reducible repeat (first | refine blk_drewN ?_ _ | refine blk_drew ?_ | refine blk_alloc ?_ _)); exact BK738.out) hb)
                  have n8_ := Aside0.mk (below_step (by repeat (first | (with_reducible first | exact HB.out | apply below_alloc | apply pw_below_drewN | apply below_drew1 | refine below_set ?_ GE713.out | refine below_set ?_ GE714.out | refine below_set ?_ GE723.out | refine below_set ?_ GE738.out) | exact HB.out)) hb)
                  clear HO721
                  clear HO728
                  clear HO732
                  clear BK713
                  clear BK714
                  clear BK723
                  clear BK738
                  clear HB
                  have HO721 := n0_
                  have HO728 := n1_
                  have HO732 := n2_
                  have HO736 := n3_
                  have BK713 := n4_
                  have BK714 := n5_
                  have BK723 := n6_
                  have BK738 := n7_
                  have HB := n8_
                  clear n0_ n1_ n2_ n3_ n4_ n5_ n6_ n7_ n8_
                  (try clear hb)
                  (try clear hb2)
                  (try clear hk)
                  (try clear hi)
                  (try clear ho0)
                  refine hK.out _ _ ⟨(blk_cell BK723.out 0).trans rfl, (blk_cell BK723.out 1).trans rfl, (blk_cell BK714.out 0).trans rfl, (blk_cell BK714.out 1).trans rfl, (blk_cell BK714.out 2).trans rfl, (blk_cell BK714.out 3).trans rfl, (blk_cell BK714.out 4).trans rfl⟩ (fun hHeld => ?_)
                  clear hK K
                  refine norm_ (a' := ?_) ?_ ?_
                  rotate_left
                  · show Act.put _ (some 34) _ = _
                    simp only [Act.put, List.setIfInBounds_toArray, List.set_cons_zero, List.set_cons_succ, i64_w, i32_w]
                    rfl
                  refine pure_ (i := 4) (N := some 30) (v := ?_) (a' := ?_) #[true, true, true, true, true, false, false, true, false, false] rfl rfl (any_of HT_.out (by kernel_rfl)) (fun _ _ _ h => h) (Or.inl ⟨by rfl, ?_⟩) ?_ ?_
                  rotate_left
                  · intro w'
                    go_simp
                    with_reducible rfl
                  rotate_left
                  · simp only [Act.put, List.setIfInBounds_toArray, List.set_cons_zero, List.set_cons_succ, i64_w, i32_w]
                    rfl
                  refine pure_ (i := 5) (N := some 35) (v := ?_) (a' := ?_) #[true, true, true, true, true, true, false, true, false, false] rfl rfl (any_of HT_.out (by kernel_rfl)) (fun _ _ _ h => h) (Or.inl ⟨by rfl, ?_⟩) ?_ ?_
                  rotate_left
                  · intro w'
                    go_simp
                    with_reducible rfl
                  rotate_left
                  · simp only [Act.put, List.setIfInBounds_toArray, List.set_cons_zero, List.set_cons_succ, i64_w, i32_w]
                    rfl
                  refine pure_ (i := 6) (N := some 36) (v := ?_) (a' := ?_) #[true, true, true, true, true, true, true, true, false, false] rfl rfl (any_of HT_.out (by kernel_rfl)) (fun _ _ _ h => h) (Or.inl ⟨by rfl, ?_⟩) ?_ ?_
                  rotate_left
                  · intro w'
                    go_simp
                    with_reducible rfl
                  rotate_left
                  · simp only [Act.put, List.setIfInBounds_toArray, List.set_cons_zero, List.set_cons_succ, i64_w, i32_w]
                    rfl
                  exact norm_ (by simp only [putAll, Act.put, List.setIfInBounds_toArray, List.set_cons_zero, List.set_cons_succ]) (hCont (.slice Ao40 t726.length co40, .slice Ao41 t730.length co41, v735, gb738) _ ⟨hHeld, (by (with_reducible repeat (first | apply Kd.R_alloc | apply Kd.R_drewN | apply Kd.R_drew)); exact Kd.R_mono HO721.out (fun _ hk => ⟨hk.1.1.2, ⟨hk.1.2, hk.2⟩⟩)), (by (with_reducible repeat (first | apply Kd.R_alloc | apply Kd.R_drewN | apply Kd.R_drew)); exact Kd.R_mono HO728.out (fun _ hk => ⟨hk.1.2, ⟨hk.1.1, hk.2⟩⟩)), (by (with_reducible repeat (first | apply Kd.R_alloc | apply Kd.R_drewN | apply Kd.R_drew)); exact Kd.R_mono HO732.out (fun _ hk => ⟨hk.1.2, ⟨hk.1.1, hk.2⟩⟩)), (by (with_reducible repeat (first | apply Kd.R_alloc | apply Kd.R_drewN | apply Kd.R_drew)); exact Kd.R_mono HO736.out (fun _ hk => ⟨hk.1.1.2, ⟨hk.1.2, hk.2⟩⟩)), (by (with_reducible repeat (first | refine blk_drewN ?_ _ | refine blk_drew ?_ | refine blk_alloc ?_ _)); exact BK713.out), (by (with_reducible repeat (first | refine blk_drewN ?_ _ | refine blk_drew ?_ | refine blk_alloc ?_ _)); exact BK714.out), (by (with_reducible repeat (first | refine blk_drewN ?_ _ | refine blk_drew ?_ | refine blk_alloc ?_ _)); exact BK723.out), (by (with_reducible repeat (first | refine blk_drewN ?_ _ | refine blk_drew ?_ | refine blk_alloc ?_ _)); exact BK738.out), GW738.out, GE738.out, NB713_738.out, NB738_713.out, NB714_738.out, NB738_714.out, NB723_738.out, NB738_723.out, (by repeat (first | (with_reducible first | exact HB.out | apply below_alloc | apply pw_below_drewN | apply below_drew1 | refine below_set ?_ GE713.out | refine below_set ?_ GE714.out | refine below_set ?_ GE723.out | refine below_set ?_ GE738.out) | exact HB.out))⟩)
              rintro ⟨v727, v731, v735, gb738⟩ w43 ⟨hS_, h0_, h1_, h2_, h3_, h4_, h5_, h6_, h7_, h8_, h9_, h10_, h11_, h12_, h13_, h14_, h15_, h16_⟩
              have n0_ : Aside0 (Kd.R k100 100 w43 w.heap.size (fun k_ => some k_ ≠ (v727 : Value).ownBlock ∧ some k_ ≠ (v731 : Value).ownBlock ∧ some k_ ≠ (v735 : Value).ownBlock) (.slice Ao35 t719.length co35) t719) := ⟨h0_⟩
              have n1_ : Aside0 (Kd.R k100 100 w43 w.heap.size (fun k_ => some k_ ≠ (.slice Ao35 t719.length co35 : Value).ownBlock ∧ some k_ ≠ (v731 : Value).ownBlock ∧ some k_ ≠ (v735 : Value).ownBlock) v727 t726) := ⟨h1_⟩
              have n2_ : Aside0 (Kd.R k100 100 w43 w.heap.size (fun k_ => some k_ ≠ (.slice Ao35 t719.length co35 : Value).ownBlock ∧ some k_ ≠ (v727 : Value).ownBlock ∧ some k_ ≠ (v735 : Value).ownBlock) v731 t730) := ⟨h2_⟩
              have n3_ : Aside0 (Kd.R k100 100 w43 w.heap.size (fun k_ => some k_ ≠ (.slice Ao35 t719.length co35 : Value).ownBlock ∧ some k_ ≠ (v727 : Value).ownBlock ∧ some k_ ≠ (v731 : Value).ownBlock) v735 t734) := ⟨h3_⟩
              have n4_ : Aside0 (w43.heap[gb713]? = some (.cells #[.string a0_0, .slice A0_1 l0_1.length c0_1] 51 (0, 0))) := ⟨h4_⟩
              have n5_ : Aside0 (w43.heap[gb714]? = some (.cells #[.int .i64 a1_0, .string a1_1, .slice A1_2 l1_2.length c1_2, .string a1_3, .slice A1_4 l1_4.length c1_4] 64 (0, 0))) := ⟨h5_⟩
              have n6_ : Aside0 (w43.heap[gb723]? = some (.cells #[.string t718, .slice Ao35 t719.length co35] 51 (0, 0))) := ⟨h6_⟩
              have n7_ : Aside0 (w43.heap[gb738]? = some (.cells #[.string (⟨#[]⟩ : ByteArray), .slice none 0 0] 51 (0, 0))) := ⟨h7_⟩
              have n8_ : Aside0 (w.heap.size ≤ gb738) := ⟨h8_⟩
              have n9_ : Aside0 (w.heap.size ≤ gb738) := ⟨h9_⟩
              have n10_ : Aside0 (gb713 ≠ gb738) := ⟨h10_⟩
              have n11_ : Aside0 (gb738 ≠ gb713) := ⟨h11_⟩
              have n12_ : Aside0 (gb714 ≠ gb738) := ⟨h12_⟩
              have n13_ : Aside0 (gb738 ≠ gb714) := ⟨h13_⟩
              have n14_ : Aside0 (gb723 ≠ gb738) := ⟨h14_⟩
              have n15_ : Aside0 (gb738 ≠ gb723) := ⟨h15_⟩
              have n16_ : Aside0 (Below w.heap.size w w43) := ⟨h16_⟩
              clear HO721
              clear BK713
              clear BK714
              clear BK723
              clear HB
              clear h0_ h1_ h2_ h3_ h4_ h5_ h6_ h7_ h8_ h9_ h10_ h11_ h12_ h13_ h14_ h15_ h16_
              have HO721 := n0_
              have HO728 := n1_
              have HO732 := n2_
              have HO736 := n3_
              have BK713 := n4_
              have BK714 := n5_
              have BK723 := n6_
              have BK738 := n7_
              have GW738 := n8_
              have GE738 := n9_
              have NB713_738 := n10_
              have NB738_713 := n11_
              have NB714_738 := n12_
              have NB738_714 := n13_
              have NB723_738 := n14_
              have NB738_723 := n15_
              have HB := n16_
              clear n0_ n1_ n2_ n3_ n4_ n5_ n6_ n7_ n8_ n9_ n10_ n11_ n12_ n13_ n14_ n15_ n16_
              have hHeld : w43.cell? ⟨gb723, 0, none⟩ = some (.string t718) ∧ w43.cell? ⟨gb723, 1, none⟩ = some (.slice Ao35 t719.length co35) ∧ w43.cell? ⟨gb714, 0, none⟩ = some (.int .i64 a1_0) ∧ w43.cell? ⟨gb714, 1, none⟩ = some (.string a1_1) ∧ w43.cell? ⟨gb714, 2, none⟩ = some (.slice A1_2 l1_2.length c1_2) ∧ w43.cell? ⟨gb714, 3, none⟩ = some (.string a1_3) ∧ w43.cell? ⟨gb714, 4, none⟩ = some (.slice A1_4 l1_4.length c1_4) := hS_
              obtain ⟨Ao45, co45, eo45⟩ := Kd.R_slice HO736.out
              (first | subst eo45 | (injection eo45 with f1_ f2_ f3_; have f4_ := f1_.symm; have f5_ := f3_.symm; clear f1_ f2_ f3_; subst f4_; subst f5_))
              refine norm_ (a' := ?_) ?_ ?_
              rotate_left
              · simp only [putAll, Act.put, List.setIfInBounds_toArray, List.set_cons_zero, List.set_cons_succ]
                rfl
              refine one_ (i := 8) (N := none) #[true, true, true, true, true, true, true, true, true, false] rfl rfl (one_of HT_.out (by kernel_rfl)) (by decide) (fun K hK => ?_)
              have hs44 : w43.cell? ⟨gb738, 0, none⟩ = some (.string (⟨#[]⟩ : ByteArray)) := (blk_cell BK738.out 0).trans rfl
              have hfs44 := blk_frozen BK738.out 0
              have hns44_0 := NB713_738.out
              have hns44_1 := NB714_738.out
              have hns44_2 := NB723_738.out
              have hms44_0 := NB738_713.out
              have hms44_1 := NB738_714.out
              have hms44_2 := NB738_723.out
              have hs46 : w43.cell? ⟨gb738, 1, none⟩ = some (.slice none 0 0) := (blk_cell BK738.out 1).trans rfl
              have hfs46 := blk_frozen BK738.out 1
              have hns46_0 := NB713_738.out
              have hns46_1 := NB714_738.out
              have hns46_2 := NB723_738.out
              have hms46_0 := NB738_713.out
              have hms46_1 := NB738_714.out
              have hms46_2 := NB738_723.out
              refine skip_ (w1 := ?_) (by rfl) rfl ?_ ?_
              rotate_left
              · go_simp
                rfl
              refine hK.out _ _ ⟨((cell_far (p := ⟨gb738, _, none⟩) NB723_738.out _).trans (((cell_far (p := ⟨gb738, _, none⟩) NB723_738.out _).trans (hHeld.1)))), ((cell_far (p := ⟨gb738, _, none⟩) NB723_738.out _).trans (((cell_far (p := ⟨gb738, _, none⟩) NB723_738.out _).trans (hHeld.2.1)))), ((cell_far (p := ⟨gb738, _, none⟩) NB714_738.out _).trans (((cell_far (p := ⟨gb738, _, none⟩) NB714_738.out _).trans (hHeld.2.2.1)))), ((cell_far (p := ⟨gb738, _, none⟩) NB714_738.out _).trans (((cell_far (p := ⟨gb738, _, none⟩) NB714_738.out _).trans (hHeld.2.2.2.1)))), ((cell_far (p := ⟨gb738, _, none⟩) NB714_738.out _).trans (((cell_far (p := ⟨gb738, _, none⟩) NB714_738.out _).trans (hHeld.2.2.2.2.1)))), ((cell_far (p := ⟨gb738, _, none⟩) NB714_738.out _).trans (((cell_far (p := ⟨gb738, _, none⟩) NB714_738.out _).trans (hHeld.2.2.2.2.2.1)))), ((cell_far (p := ⟨gb738, _, none⟩) NB714_738.out _).trans (((cell_far (p := ⟨gb738, _, none⟩) NB714_738.out _).trans (hHeld.2.2.2.2.2.2))))⟩ (fun hHeld => ?_)
              clear hK K
              refine pure_ (i := 9) (N := some 8) (v := ?_) (a' := ?_) #[true, true, true, true, true, true, true, true, true, true] rfl rfl (any_of HT_.out (by kernel_rfl)) (fun _ _ _ h => h) (Or.inl ⟨by rfl, ?_⟩) ?_ ?_
              rotate_left
              · intro w'
                go_simp
                with_reducible rfl
              rotate_left
              · simp only [Act.put, List.setIfInBounds_toArray, List.set_cons_zero, List.set_cons_succ, i64_w, i32_w]
                rfl
              refine done_ (done_of HT_.out (by kernel_rfl)) ?_
              have hnb47 := NB738_713.out
              have hnc47 := NB713_738.out
              have hnb48 := NB738_714.out
              have hnc48 := NB714_738.out
              have hnb49 := NB738_723.out
              have hnc49 := NB723_738.out
              have hcz50_0 : w43.cell? ⟨gb738, 0, none⟩ = some (.string (⟨#[]⟩ : ByteArray)) := (blk_cell BK738.out 0).trans rfl
              have hcz50_1 : w43.cell? ⟨gb738, 1, none⟩ = some (.slice none 0 0) := (blk_cell BK738.out 1).trans rfl
              have hfz50_0 := blk_frozen BK738.out 0
              have hfz50_1 := blk_frozen BK738.out 1
              have hcz51_0 : w43.cell? ⟨gb713, 0, none⟩ = some (.string a0_0) := (blk_cell BK713.out 0).trans rfl
              have hcz51_1 : w43.cell? ⟨gb713, 1, none⟩ = some (.slice A0_1 l0_1.length c0_1) := (blk_cell BK713.out 1).trans rfl
              have hfz51_0 := blk_frozen BK713.out 0
              have hfz51_1 := blk_frozen BK713.out 1
              try go_wp2_with (first | (go_at_call 48; (with_reducible refine (bureauref04_Same.calls kj4 t733 _ _ t734 a0_0 _ _ l0_1 t739 _ ?side1 ?side2 ?side3 ?side4 A26.out).mono ?_); (case side1 => refine (Kd.R_reads' (e := 100) (base := w.heap.size) (ok := fun k_ => (some k_ ≠ (.slice Ao35 t719.length co35 : Value).ownBlock ∧ (some k_ ≠ (v727 : Value).ownBlock ∧ some k_ ≠ (v731 : Value).ownBlock))) (n := t734.length) (c := co45) ?_).2.2; exact (by (with_reducible repeat (first | apply Kd.R_alloc | apply Kd.R_drewN | apply Kd.R_drew)); exact (Kd.R_mono (Kd.R_far (p := ⟨gb738, 1, none⟩) (Kd.R_far (p := ⟨gb738, 0, none⟩) (Kd.R_types HO736.out BK738.out (by decide)) (fun _ hk => hk.2) (.string t733)) (fun _ hk => hk.2) (.slice Ao45 t734.length co45)) (fun _ h_ => h_.1)))); (case side2 => exact (Kd.R_reads' HO736.out).2.1); (case side3 => exact Kd.C_below HR0_1.out (by repeat (first | (with_reducible first | exact HB.out | apply below_alloc | apply pw_below_drewN | apply below_drew1 | refine below_set ?_ GE713.out | refine below_set ?_ GE714.out | refine below_set ?_ GE723.out | refine below_set ?_ GE738.out) | exact HB.out))); (case side4 => exact HC0_1.out); rintro e w52 ⟨rfl, hb⟩; have n0_ := Aside0.mk (Kd.R_below (by (with_reducible repeat (first | apply Kd.R_alloc | apply Kd.R_drewN | apply Kd.R_drew)); exact (Kd.R_mono (Kd.R_far (p := ⟨gb738, 1, none⟩) (Kd.R_far (p := ⟨gb738, 0, none⟩) (Kd.R_types HO721.out BK738.out (by decide)) (fun _ hk => hk.2) (.string t733)) (fun _ hk => hk.2) (.slice Ao45 t734.length co45)) (fun _ h_ => h_.1))) hb); have n1_ := Aside0.mk (Kd.R_below (by (with_reducible repeat (first | apply Kd.R_alloc | apply Kd.R_drewN | apply Kd.R_drew)); exact (Kd.R_mono (Kd.R_far (p := ⟨gb738, 1, none⟩) (Kd.R_far (p := ⟨gb738, 0, none⟩) (Kd.R_types HO728.out BK738.out (by decide)) (fun _ hk => hk.2) (.string t733)) (fun _ hk => hk.2) (.slice Ao45 t734.length co45)) (fun _ h_ => h_.1))) hb); have n2_ := Aside0.mk (Kd.R_below (by (with_reducible repeat (first | apply Kd.R_alloc | apply Kd.R_drewN | apply Kd.R_drew)); exact (Kd.R_mono (Kd.R_far (p := ⟨gb738, 1, none⟩) (Kd.R_far (p := ⟨gb738, 0, none⟩) (Kd.R_types HO732.out BK738.out (by decide)) (fun _ hk => hk.2) (.string t733)) (fun _ hk => hk.2) (.slice Ao45 t734.length co45)) (fun _ h_ => h_.1))) hb); have n3_ := Aside0.mk (Kd.R_below (by (with_reducible repeat (first | apply Kd.R_alloc | apply Kd.R_drewN | apply Kd.R_drew)); exact (Kd.R_mono (Kd.R_far (p := ⟨gb738, 1, none⟩) (Kd.R_far (p := ⟨gb738, 0, none⟩) (Kd.R_types HO736.out BK738.out (by decide)) (fun _ hk => hk.2) (.string t733)) (fun _ hk => hk.2) (.slice Ao45 t734.length co45)) (fun _ h_ => h_.1))) hb); have n4_ := Aside0.mk (blk_below (g := gb713) (o := .cells #[.string a0_0, .slice A0_1 l0_1.length c0_1] 51 (0, 0)) (by (with_reducible repeat (first | refine blk_drewN ?_ _ | refine blk_drew ?_ | refine blk_alloc ?_ _)); refine blk_far ?_ NB713_738.out _; (with_reducible repeat (first | refine blk_drewN ?_ _ | refine blk_drew ?_ | refine blk_alloc ?_ _)); refine blk_far ?_ NB713_738.out _; (with_reducible repeat (first | refine blk_drewN ?_ _ | refine blk_drew ?_ | refine blk_alloc ?_ _)); exact BK713.out) hb); have n5_ := Aside0.mk (blk_below (g := gb714) (o := .cells #[.int .i64 a1_0, .string a1_1, .slice A1_2 l1_2.length c1_2, .string a1_3, .slice A1_4 l1_4.length c1_4] 64 (0, 0)) (by (with_reducible repeat (first | refine blk_drewN ?_ _ | refine blk_drew ?_ | refine blk_alloc ?_ _)); refine blk_far ?_ NB714_738.out _; (with_reducible repeat (first | refine blk_drewN ?_ _ | refine blk_drew ?_ | refine blk_alloc ?_ _)); refine blk_far ?_ NB714_738.out _; (with_reducible repeat (first | refine blk_drewN ?_ _ | refine blk_drew ?_ | refine blk_alloc ?_ _)); exact BK714.out) hb); have n6_ := Aside0.mk (blk_below (g := gb723) (o := .cells #[.string t718, .slice Ao35 t719.length co35] 51 (0, 0)) (by (with_reducible repeat (first | refine blk_drewN ?_ _ | refine blk_drew ?_ | refine blk_alloc ?_ _)); refine blk_far ?_ NB723_738.out _; (with_reducible repeat (first | refine blk_drewN ?_ _ | refine blk_drew ?_ | refine blk_alloc ?_ _)); refine blk_far ?_ NB723_738.out _; (with_reducible repeat (first | refine blk_drewN ?_ _ | refine blk_drew ?_ | refine blk_alloc ?_ _)); exact BK723.out) hb); have n7_ := Aside0.mk (blk_below (g := gb738) (o := .cells #[.string t733, .slice Ao45 t734.length co45] 51 (0, 0)) (by (with_reducible repeat (first | refine blk_drewN ?_ _ | refine blk_drew ?_ | refine blk_alloc ?_ _)); refine blk_put (cs := #[.string t733, .slice none 0 0]) ?_ 1 _ rfl; (with_reducible repeat (first | refine blk_drewN ?_ _ | refine blk_drew ?_ | refine blk_alloc ?_ _)); refine blk_put (cs := #[.string (⟨#[]⟩ : ByteArray), .slice none 0 0]) ?_ 0 _ rfl; (with_reducible repeat (first | refine blk_drewN ?_ _ | refine blk_drew ?_ | refine blk_alloc ?_ _)); exact BK738.out) hb); have n8_ := Aside0.mk (below_step (by repeat (first | (with_reducible first | exact HB.out | apply below_alloc | apply pw_below_drewN | apply below_drew1 | refine below_set ?_ GE713.out | refine below_set ?_ GE714.out | refine below_set ?_ GE723.out | refine below_set ?_ GE738.out) | exact HB.out)) hb); clear HO721; clear HO728; clear HO732; clear HO736; clear BK713; clear BK714; clear BK723; clear BK738; clear HB; have HO721 := n0_; have HO728 := n1_; have HO732 := n2_; have HO736 := n3_; have BK713 := n4_; have BK714 := n5_; have BK723 := n6_; have BK738 := n7_; have HB := n8_; clear n0_ n1_ n2_ n3_ n4_ n5_ n6_ n7_ n8_; (try clear hb); (try clear hb2); (try clear hk); (try clear hi)))
              go_ret
              exact ⟨by first | rfl | (simp [errW_none, errW_some] <;> rfl) | (simp [*, errW_none, errW_some] <;> rfl), by repeat (first | (with_reducible first | exact HB.out | apply below_alloc | apply pw_below_drewN | apply below_drew1 | refine below_set ?_ GE713.out | refine below_set ?_ GE714.out | refine below_set ?_ GE723.out | refine below_set ?_ GE738.out) | exact HB.out)⟩
            · rw [if_neg c25] at H
              have c25b0 : (t737 == 0) = false := beq_eq_false_iff_ne.mpr c25
              have c25b1 : (t737 != 0) = true := bne_iff_ne.mpr c25
              obtain rfl := Option.some.inj H
              have hnb53 := NB713_714.out
              have hnc53 := NB714_713.out
              have hcz54_0 : wc.cell? ⟨gb713, 0, none⟩ = some (.string a0_0) := (blk_cell BK713.out 0).trans rfl
              have hcz54_1 : wc.cell? ⟨gb713, 1, none⟩ = some (.slice A0_1 l0_1.length c0_1) := (blk_cell BK713.out 1).trans rfl
              have hfz54_0 := blk_frozen BK713.out 0
              have hfz54_1 := blk_frozen BK713.out 1
              have hcz55_0 : wc.cell? ⟨gb714, 0, none⟩ = some (.int .i64 a1_0) := (blk_cell BK714.out 0).trans rfl
              have hcz55_1 : wc.cell? ⟨gb714, 1, none⟩ = some (.string a1_1) := (blk_cell BK714.out 1).trans rfl
              have hcz55_2 : wc.cell? ⟨gb714, 2, none⟩ = some (.slice A1_2 l1_2.length c1_2) := (blk_cell BK714.out 2).trans rfl
              have hcz55_3 : wc.cell? ⟨gb714, 3, none⟩ = some (.string a1_3) := (blk_cell BK714.out 3).trans rfl
              have hcz55_4 : wc.cell? ⟨gb714, 4, none⟩ = some (.slice A1_4 l1_4.length c1_4) := (blk_cell BK714.out 4).trans rfl
              have hfz55_0 := blk_frozen BK714.out 0
              have hfz55_1 := blk_frozen BK714.out 1
              have hfz55_2 := blk_frozen BK714.out 2
              have hfz55_3 := blk_frozen BK714.out 3
              have hfz55_4 := blk_frozen BK714.out 4
              try go_wp2_with (first | ((with_reducible refine gate_callee (f := 65) rfl ?_); refine goesL_ (some 22) rfl rfl Try.func65 (by kernel_rfl) rfl #[.agg #[.string a0_0, .slice A0_1 l0_1.length c0_1], .agg #[.int .i64 a1_0, .string a1_1, .slice A1_2 l1_2.length c1_2, .string a1_3, .slice A1_4 l1_4.length c1_4]] rfl (by (try simp only [List.map_toArray, List.map_cons, List.map_nil]); first | done | rfl | (simp only [List.length_drop, List.length_take]; rfl)) ?_; (with_reducible refine (edit_Apply.calls kj4 a0_0 _ _ l0_1 a1_0 a1_1 _ _ l1_2 a1_3 _ _ l1_4 t718 t719 t722 _ ?side1 ?side2 ?side3 ?side4 ?side5 ?side6 A21.out).mono ?_); (case side1 => repeat (first | exact (Kd.C_below HR0_1.out HB.out) | (with_reducible refine Kd.C_alloc ?_ _) | (with_reducible refine Kd.C_drewN ?_ _) | (with_reducible refine Kd.C_drew ?_))); (case side2 => exact HC0_1.out); (case side3 => repeat (first | exact (Kd.C_below HR1_2.out HB.out) | (with_reducible refine Kd.C_alloc ?_ _) | (with_reducible refine Kd.C_drewN ?_ _) | (with_reducible refine Kd.C_drew ?_))); (case side4 => exact HC1_2.out); (case side5 => repeat (first | exact (Kd.C_below HR1_4.out HB.out) | (with_reducible refine Kd.C_alloc ?_ _) | (with_reducible refine Kd.C_drewN ?_ _) | (with_reducible refine Kd.C_drew ?_))); (case side6 => exact HC1_4.out); rintro e w56 ⟨v720, rfl, ho0, hb⟩; refine ⟨_, rfl, ?_⟩; have n0_ := Aside0.mk (Kd.R_lower ho0 (below_size (by repeat (first | (with_reducible first | exact HB.out | apply below_alloc | apply pw_below_drewN | apply below_drew1 | refine below_set ?_ GE713.out | refine below_set ?_ GE714.out) | exact HB.out)))); have n1_ := Aside0.mk (blk_below (g := gb713) (o := .cells #[.string a0_0, .slice A0_1 l0_1.length c0_1] 51 (0, 0)) (by (with_reducible repeat (first | refine blk_drewN ?_ _ | refine blk_drew ?_ | refine blk_alloc ?_ _)); exact BK713.out) hb); have n2_ := Aside0.mk (blk_below (g := gb714) (o := .cells #[.int .i64 a1_0, .string a1_1, .slice A1_2 l1_2.length c1_2, .string a1_3, .slice A1_4 l1_4.length c1_4] 64 (0, 0)) (by (with_reducible repeat (first | refine blk_drewN ?_ _ | refine blk_drew ?_ | refine blk_alloc ?_ _)); exact BK714.out) hb); have n3_ := Aside0.mk (below_step (by repeat (first | (with_reducible first | exact HB.out | apply below_alloc | apply pw_below_drewN | apply below_drew1 | refine below_set ?_ GE713.out | refine below_set ?_ GE714.out) | exact HB.out)) hb); clear BK713; clear BK714; clear HB; have HO721 := n0_; have BK713 := n1_; have BK714 := n2_; have HB := n3_; clear n0_ n1_ n2_ n3_; (try clear hb); (try clear hb2); (try clear hk); (try clear hi); (try clear ho0)) | ((with_reducible refine gate_dst (N := 5) rfl ?_); refine box_event ?hg (N := 5) ?hd (cs := #[.string (⟨#[]⟩ : ByteArray), .slice none 0 0]) (t := 51) ?hr ?_; (case hd => rfl); (case hg => rfl); (case hr => first | (go_simp; done) | (go_simp; rfl)); intro gb723 hg w57 hbox hb; have n0_ := Aside0.mk (Kd.R_below (by (with_reducible repeat (first | apply Kd.R_alloc | apply Kd.R_drewN | apply Kd.R_drew)); exact HO721.out) hb); have n1_ := Aside0.mk (blk_below (g := gb713) (o := .cells #[.string a0_0, .slice A0_1 l0_1.length c0_1] 51 (0, 0)) (by (with_reducible repeat (first | refine blk_drewN ?_ _ | refine blk_drew ?_ | refine blk_alloc ?_ _)); exact BK713.out) hb); have n2_ := Aside0.mk (blk_below (g := gb714) (o := .cells #[.int .i64 a1_0, .string a1_1, .slice A1_2 l1_2.length c1_2, .string a1_3, .slice A1_4 l1_4.length c1_4] 64 (0, 0)) (by (with_reducible repeat (first | refine blk_drewN ?_ _ | refine blk_drew ?_ | refine blk_alloc ?_ _)); exact BK714.out) hb); have n3_ := Aside0.mk (below_step (by repeat (first | (with_reducible first | exact HB.out | apply below_alloc | apply pw_below_drewN | apply below_drew1 | refine below_set ?_ GE713.out | refine below_set ?_ GE714.out) | exact HB.out)) hb); have n4_ := Aside0.mk (hbox); have n5_ := Aside0.mk ((by rw [hg]; exact (below_size (by repeat (first | (with_reducible first | exact HB.out | apply below_alloc | apply pw_below_drewN | apply below_drew1 | refine below_set ?_ GE713.out | refine below_set ?_ GE714.out) | exact HB.out))) : w.heap.size ≤ gb723)); have n6_ := Aside0.mk ((by rw [hg]; exact (below_size (by repeat (first | (with_reducible first | exact HB.out | apply below_alloc | apply pw_below_drewN | apply below_drew1 | refine below_set ?_ GE713.out | refine below_set ?_ GE714.out) | exact HB.out))) : w.heap.size ≤ gb723)); have n7_ := Aside0.mk ((by rw [hg]; exact Nat.ne_of_lt (blk_lt (g := gb713) (o := .cells #[.string a0_0, .slice A0_1 l0_1.length c0_1] 51 (0, 0)) (by (with_reducible repeat (first | refine blk_drewN ?_ _ | refine blk_drew ?_ | refine blk_alloc ?_ _)); exact BK713.out)) : gb713 ≠ gb723)); have n8_ := Aside0.mk ((by rw [hg]; exact Nat.ne_of_gt (blk_lt (g := gb713) (o := .cells #[.string a0_0, .slice A0_1 l0_1.length c0_1] 51 (0, 0)) (by (with_reducible repeat (first | refine blk_drewN ?_ _ | refine blk_drew ?_ | refine blk_alloc ?_ _)); exact BK713.out)) : gb723 ≠ gb713)); have n9_ := Aside0.mk ((by rw [hg]; exact Nat.ne_of_lt (blk_lt (g := gb714) (o := .cells #[.int .i64 a1_0, .string a1_1, .slice A1_2 l1_2.length c1_2, .string a1_3, .slice A1_4 l1_4.length c1_4] 64 (0, 0)) (by (with_reducible repeat (first | refine blk_drewN ?_ _ | refine blk_drew ?_ | refine blk_alloc ?_ _)); exact BK714.out)) : gb714 ≠ gb723)); have n10_ := Aside0.mk ((by rw [hg]; exact Nat.ne_of_gt (blk_lt (g := gb714) (o := .cells #[.int .i64 a1_0, .string a1_1, .slice A1_2 l1_2.length c1_2, .string a1_3, .slice A1_4 l1_4.length c1_4] 64 (0, 0)) (by (with_reducible repeat (first | refine blk_drewN ?_ _ | refine blk_drew ?_ | refine blk_alloc ?_ _)); exact BK714.out)) : gb723 ≠ gb714)); clear HO721; clear BK713; clear BK714; clear HB; have HO721 := n0_; have BK713 := n1_; have BK714 := n2_; have HB := n3_; have BK723 := n4_; have GW723 := n5_; have GE723 := n6_; have NB713_723 := n7_; have NB723_713 := n8_; have NB714_723 := n9_; have NB723_714 := n10_; clear n0_ n1_ n2_ n3_ n4_ n5_ n6_ n7_ n8_ n9_ n10_; clear hb hbox hg; have hnb58 := NB723_713.out; have hnc58 := NB713_723.out; have hnb59 := NB723_714.out; have hnc59 := NB714_723.out; have hcz60_0 : w57.cell? ⟨gb723, 0, none⟩ = some (.string (⟨#[]⟩ : ByteArray)) := (blk_cell BK723.out 0).trans rfl; have hcz60_1 : w57.cell? ⟨gb723, 1, none⟩ = some (.slice none 0 0) := (blk_cell BK723.out 1).trans rfl; have hfz60_0 := blk_frozen BK723.out 0; have hfz60_1 := blk_frozen BK723.out 1; obtain ⟨Ao61, co61, eo61⟩ := Kd.R_slice HO721.out; subst eo61))
              have n0_ : Aside0 (Kd.R k100 100 ((w57.setCell ⟨gb723, 0, none⟩ (.string t718)).setCell ⟨gb723, 1, none⟩ (.slice Ao61 t719.length co61)) w.heap.size (fun _ => True) (.slice Ao61 t719.length co61) t719) := ⟨by (with_reducible repeat (first | apply Kd.R_alloc | apply Kd.R_drewN | apply Kd.R_drew)); exact Kd.R_mono (Kd.R_far (p := ⟨gb723, 1, none⟩) (Kd.R_far (p := ⟨gb723, 0, none⟩) (Kd.R_types HO721.out BK723.out (by decide)) (fun _ hk => hk.2) (.string t718)) (fun _ hk => hk.2) (.slice Ao61 t719.length co61)) (fun _ hk => trivial)⟩
              have n1_ : Aside0 (((w57.setCell ⟨gb723, 0, none⟩ (.string t718)).setCell ⟨gb723, 1, none⟩ (.slice Ao61 t719.length co61)).heap[gb713]? = some (.cells #[.string a0_0, .slice A0_1 l0_1.length c0_1] 51 (0, 0))) := ⟨by (with_reducible repeat (first | refine blk_drewN ?_ _ | refine blk_drew ?_ | refine blk_alloc ?_ _)); refine blk_far ?_ NB713_723.out _; (with_reducible repeat (first | refine blk_drewN ?_ _ | refine blk_drew ?_ | refine blk_alloc ?_ _)); refine blk_far ?_ NB713_723.out _; (with_reducible repeat (first | refine blk_drewN ?_ _ | refine blk_drew ?_ | refine blk_alloc ?_ _)); exact BK713.out⟩
              have n2_ : Aside0 (((w57.setCell ⟨gb723, 0, none⟩ (.string t718)).setCell ⟨gb723, 1, none⟩ (.slice Ao61 t719.length co61)).heap[gb714]? = some (.cells #[.int .i64 a1_0, .string a1_1, .slice A1_2 l1_2.length c1_2, .string a1_3, .slice A1_4 l1_4.length c1_4] 64 (0, 0))) := ⟨by (with_reducible repeat (first | refine blk_drewN ?_ _ | refine blk_drew ?_ | refine blk_alloc ?_ _)); refine blk_far ?_ NB714_723.out _; (with_reducible repeat (first | refine blk_drewN ?_ _ | refine blk_drew ?_ | refine blk_alloc ?_ _)); refine blk_far ?_ NB714_723.out _; (with_reducible repeat (first | refine blk_drewN ?_ _ | refine blk_drew ?_ | refine blk_alloc ?_ _)); exact BK714.out⟩
              have n3_ : Aside0 (((w57.setCell ⟨gb723, 0, none⟩ (.string t718)).setCell ⟨gb723, 1, none⟩ (.slice Ao61 t719.length co61)).heap[gb723]? = some (.cells #[.string t718, .slice Ao61 t719.length co61] 51 (0, 0))) := ⟨by (with_reducible repeat (first | refine blk_drewN ?_ _ | refine blk_drew ?_ | refine blk_alloc ?_ _)); refine blk_put (cs := #[.string t718, .slice none 0 0]) ?_ 1 _ rfl; (with_reducible repeat (first | refine blk_drewN ?_ _ | refine blk_drew ?_ | refine blk_alloc ?_ _)); refine blk_put (cs := #[.string (⟨#[]⟩ : ByteArray), .slice none 0 0]) ?_ 0 _ rfl; (with_reducible repeat (first | refine blk_drewN ?_ _ | refine blk_drew ?_ | refine blk_alloc ?_ _)); exact BK723.out⟩
              have n4_ : Aside0 (Below w.heap.size w ((w57.setCell ⟨gb723, 0, none⟩ (.string t718)).setCell ⟨gb723, 1, none⟩ (.slice Ao61 t719.length co61))) := ⟨by repeat (first | (with_reducible first | exact HB.out | apply below_alloc | apply pw_below_drewN | apply below_drew1 | refine below_set ?_ GE713.out | refine below_set ?_ GE714.out | refine below_set ?_ GE723.out) | exact HB.out)⟩
              (try clear HO721)
              (try clear BK713)
              (try clear BK714)
              (try clear BK723)
              (try clear HB)
              generalize ((w57.setCell ⟨gb723, 0, none⟩ (.string t718)).setCell ⟨gb723, 1, none⟩ (.slice Ao61 t719.length co61)) = w62 at n0_ n1_ n2_ n3_ n4_ ⊢
              have HO721 := n0_
              have BK713 := n1_
              have BK714 := n2_
              have BK723 := n3_
              have HB := n4_
              clear n0_ n1_ n2_ n3_ n4_
              have n0_ := Aside0.mk (Kd.R_drew HO721.out)
              have n1_ := Aside0.mk (blk_drew BK713.out)
              have n2_ := Aside0.mk (blk_drew BK714.out)
              have n3_ := Aside0.mk (blk_drew BK723.out)
              have n4_ := Aside0.mk (below_drew1 HB.out)
              clear HO721
              clear BK713
              clear BK714
              clear BK723
              clear HB
              have HO721 := n0_
              have BK713 := n1_
              have BK714 := n2_
              have BK723 := n3_
              have HB := n4_
              clear n0_ n1_ n2_ n3_ n4_
              refine start_ (n := 10) (S := fun w' => w'.cell? ⟨gb723, 0, none⟩ = some (.string t718) ∧ w'.cell? ⟨gb723, 1, none⟩ = some (.slice Ao61 t719.length co61) ∧ w'.cell? ⟨gb714, 0, none⟩ = some (.int .i64 a1_0) ∧ w'.cell? ⟨gb714, 1, none⟩ = some (.string a1_1) ∧ w'.cell? ⟨gb714, 2, none⟩ = some (.slice A1_2 l1_2.length c1_2) ∧ w'.cell? ⟨gb714, 3, none⟩ = some (.string a1_3) ∧ w'.cell? ⟨gb714, 4, none⟩ = some (.slice A1_4 l1_4.length c1_4)) (ds := []) #[false, false, false, false, false, false, false, false, false, false] (by kernel_rfl) rfl rfl ⟨(blk_cell BK723.out 0).trans rfl, (blk_cell BK723.out 1).trans rfl, (blk_cell BK714.out 0).trans rfl, (blk_cell BK714.out 1).trans rfl, (blk_cell BK714.out 2).trans rfl, (blk_cell BK714.out 3).trans rfl, (blk_cell BK714.out 4).trans rfl⟩ (fun hHeld => ?_); refine with_tabW bureaulaw07_EditBack.tab8 bureaulaw07_EditBack.bits8 (fun HT_ HW_ => ?_)
              generalize w62.drew = w63 at HO721 BK713 BK714 BK723 HB hHeld ⊢
              refine take_ (i := 0) (N := some 31) (v := ?_) (a' := ?_) #[true, false, false, false, false, false, false, false, false, false] rfl rfl (take_ofW HT_.out HW_.out (by kernel_rfl)) (fun _ _ _ h => h) (Or.inl ⟨by rfl, ?_⟩) hHeld ?_ ?_
              rotate_left
              · rintro w' ⟨s0, s1, s2, s3, s4, s5, s6⟩
                go_simp
                with_reducible rfl
              rotate_left
              · simp only [Act.put, List.setIfInBounds_toArray, List.set_cons_zero, List.set_cons_succ, i64_w, i32_w]
                rfl
              refine take_ (i := 1) (N := some 32) (v := ?_) (a' := ?_) #[true, true, false, false, false, false, false, false, false, false] rfl rfl (take_ofW HT_.out HW_.out (by kernel_rfl)) (fun _ _ _ h => h) (Or.inl ⟨by rfl, ?_⟩) hHeld ?_ ?_
              rotate_left
              · rintro w' ⟨s0, s1, s2, s3, s4, s5, s6⟩
                go_simp
                with_reducible rfl
              rotate_left
              · simp only [Act.put, List.setIfInBounds_toArray, List.set_cons_zero, List.set_cons_succ, i64_w, i32_w]
                rfl
              refine join_ (σ := Value × Value × Value × Nat) 2 #[true, true, true, true, true, true, true, true, false, false] (fun s_ => [(33, .agg #[.int .i64 t724, .string t725, s_.1, .string t729, s_.2.1]), (34, .tuple #[.agg #[.string t733, s_.2.2.1], .int .i64 t737]), (7, .pointer (some ⟨s_.2.2.2, 0, none⟩)), (30, .tuple #[.agg #[.string t733, s_.2.2.1], .int .i64 t737]), (35, .agg #[.string t733, s_.2.2.1]), (36, .int .i64 t737)]) (fun s_ w' => (w'.cell? ⟨gb723, 0, none⟩ = some (.string t718) ∧ w'.cell? ⟨gb723, 1, none⟩ = some (.slice Ao61 t719.length co61) ∧ w'.cell? ⟨gb714, 0, none⟩ = some (.int .i64 a1_0) ∧ w'.cell? ⟨gb714, 1, none⟩ = some (.string a1_1) ∧ w'.cell? ⟨gb714, 2, none⟩ = some (.slice A1_2 l1_2.length c1_2) ∧ w'.cell? ⟨gb714, 3, none⟩ = some (.string a1_3) ∧ w'.cell? ⟨gb714, 4, none⟩ = some (.slice A1_4 l1_4.length c1_4)) ∧ (Kd.R k100 100 w' w.heap.size (fun k_ => some k_ ≠ (s_.1 : Value).ownBlock ∧ some k_ ≠ (s_.2.1 : Value).ownBlock ∧ some k_ ≠ (s_.2.2.1 : Value).ownBlock) (.slice Ao61 t719.length co61) t719) ∧ (Kd.R k100 100 w' w.heap.size (fun k_ => some k_ ≠ (.slice Ao61 t719.length co61 : Value).ownBlock ∧ some k_ ≠ (s_.2.1 : Value).ownBlock ∧ some k_ ≠ (s_.2.2.1 : Value).ownBlock) s_.1 t726) ∧ (Kd.R k100 100 w' w.heap.size (fun k_ => some k_ ≠ (.slice Ao61 t719.length co61 : Value).ownBlock ∧ some k_ ≠ (s_.1 : Value).ownBlock ∧ some k_ ≠ (s_.2.2.1 : Value).ownBlock) s_.2.1 t730) ∧ (Kd.R k100 100 w' w.heap.size (fun k_ => some k_ ≠ (.slice Ao61 t719.length co61 : Value).ownBlock ∧ some k_ ≠ (s_.1 : Value).ownBlock ∧ some k_ ≠ (s_.2.1 : Value).ownBlock) s_.2.2.1 t734) ∧ (w'.heap[gb713]? = some (.cells #[.string a0_0, .slice A0_1 l0_1.length c0_1] 51 (0, 0))) ∧ (w'.heap[gb714]? = some (.cells #[.int .i64 a1_0, .string a1_1, .slice A1_2 l1_2.length c1_2, .string a1_3, .slice A1_4 l1_4.length c1_4] 64 (0, 0))) ∧ (w'.heap[gb723]? = some (.cells #[.string t718, .slice Ao61 t719.length co61] 51 (0, 0))) ∧ (w'.heap[s_.2.2.2]? = some (.cells #[.string (⟨#[]⟩ : ByteArray), .slice none 0 0] 51 (0, 0))) ∧ (w.heap.size ≤ s_.2.2.2) ∧ (w.heap.size ≤ s_.2.2.2) ∧ (gb713 ≠ s_.2.2.2) ∧ (s_.2.2.2 ≠ gb713) ∧ (gb714 ≠ s_.2.2.2) ∧ (s_.2.2.2 ≠ gb714) ∧ (gb723 ≠ s_.2.2.2) ∧ (s_.2.2.2 ≠ gb723) ∧ (Below w.heap.size w w')) ?_ ?_
              rotate_left
              · intro hCont
                refine two_ (i := 2) (j := 7) (Ni := some 33) (Nj := some 7) #[true, true, true, false, false, false, false, false, false, false] #[true, true, false, false, false, false, false, true, false, false] rfl rfl rfl rfl (two_of HT_.out (by kernel_rfl)) (by decide) (by decide) (fun K hK => ?_) (fun K hK => ?_)
                · skip
                  refine goes_ Try.func59 (by kernel_rfl) rfl #[.agg #[.int .i64 a1_0, .string a1_1, .slice A1_2 l1_2.length c1_2, .string a1_3, .slice A1_4 l1_4.length c1_4]] (by rfl) rfl rfl (by (try simp only [List.map_toArray, List.map_cons, List.map_nil]); first | done | rfl | (simp only [List.length_drop, List.length_take]; rfl)) ?_
                  with_reducible refine (edit_Invert.calls a1_0 a1_1 _ _ l1_2 a1_3 _ _ l1_4 t724 t725 t726 t729 t730 _ ?side1 ?side2 ?side3 ?side4 A23.out).mono ?_
                  (case side1 => repeat (first | exact (Kd.C_below HR1_2.out HB.out) | (with_reducible refine Kd.C_alloc ?_ _) | (with_reducible refine Kd.C_drewN ?_ _) | (with_reducible refine Kd.C_drew ?_)))
                  (case side2 => exact HC1_2.out)
                  (case side3 => repeat (first | exact (Kd.C_below HR1_4.out HB.out) | (with_reducible refine Kd.C_alloc ?_ _) | (with_reducible refine Kd.C_drewN ?_ _) | (with_reducible refine Kd.C_drew ?_)))
                  (case side4 => exact HC1_4.out)
                  rintro e w64 ⟨v727, v731, rfl, ho0, ho1, hb⟩
                  refine ⟨_, rfl, ?_⟩
                  have n0_ := Aside0.mk (Kd.R_mono (Kd.R_told (Kd.R_told (Kd.R_old (by (with_reducible repeat (first | apply Kd.R_alloc | apply Kd.R_drewN | apply Kd.R_drew)); exact HO721.out) hb) (Kd.R_base ho0)) (Kd.R_base ho1)) (fun _ h_ => h_.1))
                  have n1_ := Aside0.mk (Kd.R_lower (Kd.R_new' ho0 (Kd.R_lt (by (with_reducible repeat (first | apply Kd.R_alloc | apply Kd.R_drewN | apply Kd.R_drew)); exact HO721.out))) (below_size (by repeat (first | (with_reducible first | exact HB.out | apply below_alloc | apply pw_below_drewN | apply below_drew1 | refine below_set ?_ GE713.out | refine below_set ?_ GE714.out | refine below_set ?_ GE723.out) | exact HB.out))))
                  have n2_ := Aside0.mk (Kd.R_lower (Kd.R_new' ho1 (Kd.R_lt (by (with_reducible repeat (first | apply Kd.R_alloc | apply Kd.R_drewN | apply Kd.R_drew)); exact HO721.out))) (below_size (by repeat (first | (with_reducible first | exact HB.out | apply below_alloc | apply pw_below_drewN | apply below_drew1 | refine below_set ?_ GE713.out | refine below_set ?_ GE714.out | refine below_set ?_ GE723.out) | exact HB.out))))
                  have n3_ := Aside0.mk (blk_below (g := gb713) (o := .cells #[.string a0_0, .slice A0_1 l0_1.length c0_1] 51 (0, 0)) (by (with_reducible repeat (first | refine blk_drewN ?_ _ | refine blk_drew ?_ | refine blk_alloc ?_ _)); exact BK713.out) hb)
                  have n4_ := Aside0.mk (blk_below (g := gb714) (o := .cells #[.int .i64 a1_0, .string a1_1, .slice A1_2 l1_2.length c1_2, .string a1_3, .slice A1_4 l1_4.length c1_4] 64 (0, 0)) (by (with_reducible repeat (first | refine blk_drewN ?_ _ | refine blk_drew ?_ | refine blk_alloc ?_ _)); exact BK714.out) hb)
                  have n5_ := Aside0.mk (blk_below (g := gb723) (o := .cells #[.string t718, .slice Ao61 t719.length co61] 51 (0, 0)) (by (with_reducible repeat (first | refine blk_drewN ?_ _ | refine blk_drew ?_ | refine blk_alloc ?_ _)); exact BK723.out) hb)
                  have n6_ := Aside0.mk (below_step (by repeat (first | (with_reducible first | exact HB.out | apply below_alloc | apply pw_below_drewN | apply below_drew1 | refine below_set ?_ GE713.out | refine below_set ?_ GE714.out | refine below_set ?_ GE723.out) | exact HB.out)) hb)
                  clear HO721
                  clear BK713
                  clear BK714
                  clear BK723
                  clear HB
                  have HO721 := n0_
                  have HO728 := n1_
                  have HO732 := n2_
                  have BK713 := n3_
                  have BK714 := n4_
                  have BK723 := n5_
                  have HB := n6_
                  clear n0_ n1_ n2_ n3_ n4_ n5_ n6_
                  (try clear hb)
                  (try clear hb2)
                  (try clear hk)
                  (try clear hi)
                  (try clear ho0)
                  (try clear ho1)
                  obtain ⟨Ao65, co65, eo65⟩ := Kd.R_slice HO728.out
                  (first | subst eo65 | (injection eo65 with f1_ f2_ f3_; have f4_ := f1_.symm; have f5_ := f3_.symm; clear f1_ f2_ f3_; subst f4_; subst f5_))
                  obtain ⟨Ao66, co66, eo66⟩ := Kd.R_slice HO732.out
                  (first | subst eo66 | (injection eo66 with f1_ f2_ f3_; have f4_ := f1_.symm; have f5_ := f3_.symm; clear f1_ f2_ f3_; subst f4_; subst f5_))
                  refine hK.out _ _ ⟨(blk_cell BK723.out 0).trans rfl, (blk_cell BK723.out 1).trans rfl, (blk_cell BK714.out 0).trans rfl, (blk_cell BK714.out 1).trans rfl, (blk_cell BK714.out 2).trans rfl, (blk_cell BK714.out 3).trans rfl, (blk_cell BK714.out 4).trans rfl⟩ (fun hHeld => ?_)
                  clear hK K
                  refine norm_ (a' := ?_) ?_ ?_
                  rotate_left
                  · show Act.put _ (some 33) _ = _
                    simp only [Act.put, List.setIfInBounds_toArray, List.set_cons_zero, List.set_cons_succ, i64_w, i32_w]
                    rfl
                  refine two_ (i := 3) (j := 7) (Ni := some 34) (Nj := some 7) #[true, true, true, true, false, false, false, false, false, false] #[true, true, true, false, false, false, false, true, false, false] rfl rfl rfl rfl (two_of HT_.out (by kernel_rfl)) (by decide) (by decide) (fun K hK => ?_) (fun K hK => ?_)
                  · skip
                    refine goes_ Try.func65 (by kernel_rfl) rfl #[.agg #[.string t718, .slice Ao61 t719.length co61], .agg #[.int .i64 t724, .string t725, .slice Ao65 t726.length co65, .string t729, .slice Ao66 t730.length co66]] (by rfl) rfl rfl (by (try simp only [List.map_toArray, List.map_cons, List.map_nil]); first | done | rfl | (simp only [List.length_drop, List.length_take]; rfl)) ?_
                    with_reducible refine (edit_Apply.calls kj4 t718 _ _ t719 t724 t725 _ _ t726 t729 _ _ t730 t733 t734 t737 _ ?side1 ?side2 ?side3 ?side4 ?side5 ?side6 A24.out).mono ?_
                    (case side1 => repeat (first | exact (Kd.R_reads' HO721.out).2.2 | (with_reducible refine Kd.C_alloc ?_ _) | (with_reducible refine Kd.C_drewN ?_ _) | (with_reducible refine Kd.C_drew ?_)))
                    (case side2 => exact (Kd.R_reads' HO721.out).2.1)
                    (case side3 => repeat (first | exact (Kd.R_reads' HO728.out).2.2 | (with_reducible refine Kd.C_alloc ?_ _) | (with_reducible refine Kd.C_drewN ?_ _) | (with_reducible refine Kd.C_drew ?_)))
                    (case side4 => exact (Kd.R_reads' HO728.out).2.1)
                    (case side5 => repeat (first | exact (Kd.R_reads' HO732.out).2.2 | (with_reducible refine Kd.C_alloc ?_ _) | (with_reducible refine Kd.C_drewN ?_ _) | (with_reducible refine Kd.C_drew ?_)))
                    (case side6 => exact (Kd.R_reads' HO732.out).2.1)
                    rintro e w67 ⟨v735, rfl, ho0, hb⟩
                    refine ⟨_, rfl, ?_⟩
                    have n0_ := Aside0.mk (Kd.R_elder' (by (with_reducible repeat (first | apply Kd.R_alloc | apply Kd.R_drewN | apply Kd.R_drew)); exact HO721.out) (Kd.R_base ho0) hb)
                    have n1_ := Aside0.mk (Kd.R_elder' (by (with_reducible repeat (first | apply Kd.R_alloc | apply Kd.R_drewN | apply Kd.R_drew)); exact HO728.out) (Kd.R_base ho0) hb)
                    have n2_ := Aside0.mk (Kd.R_elder' (by (with_reducible repeat (first | apply Kd.R_alloc | apply Kd.R_drewN | apply Kd.R_drew)); exact HO732.out) (Kd.R_base ho0) hb)
                    have n3_ := Aside0.mk (Kd.R_lower (Kd.R_new' (Kd.R_new' (Kd.R_new' ho0 (Kd.R_lt (by (with_reducible repeat (first | apply Kd.R_alloc | apply Kd.R_drewN | apply Kd.R_drew)); exact HO721.out))) (Kd.R_lt (by (with_reducible repeat (first | apply Kd.R_alloc | apply Kd.R_drewN | apply Kd.R_drew)); exact HO728.out))) (Kd.R_lt (by (with_reducible repeat (first | apply Kd.R_alloc | apply Kd.R_drewN | apply Kd.R_drew)); exact HO732.out))) (below_size (by repeat (first | (with_reducible first | exact HB.out | apply below_alloc | apply pw_below_drewN | apply below_drew1 | refine below_set ?_ GE713.out | refine below_set ?_ GE714.out | refine below_set ?_ GE723.out) | exact HB.out))))
                    have n4_ := Aside0.mk (blk_below (g := gb713) (o := .cells #[.string a0_0, .slice A0_1 l0_1.length c0_1] 51 (0, 0)) (by (with_reducible repeat (first | refine blk_drewN ?_ _ | refine blk_drew ?_ | refine blk_alloc ?_ _)); exact BK713.out) hb)
                    have n5_ := Aside0.mk (blk_below (g := gb714) (o := .cells #[.int .i64 a1_0, .string a1_1, .slice A1_2 l1_2.length c1_2, .string a1_3, .slice A1_4 l1_4.length c1_4] 64 (0, 0)) (by (with_reducible repeat (first | refine blk_drewN ?_ _ | refine blk_drew ?_ | refine blk_alloc ?_ _)); exact BK714.out) hb)
                    have n6_ := Aside0.mk (blk_below (g := gb723) (o := .cells #[.string t718, .slice Ao61 t719.length co61] 51 (0, 0)) (by (with_reducible repeat (first | refine blk_drewN ?_ _ | refine blk_drew ?_ | refine blk_alloc ?_ _)); exact BK723.out) hb)
                    have n7_ := Aside0.mk (below_step (by repeat (first | (with_reducible first | exact HB.out | apply below_alloc | apply pw_below_drewN | apply below_drew1 | refine below_set ?_ GE713.out | refine below_set ?_ GE714.out | refine below_set ?_ GE723.out) | exact HB.out)) hb)
                    clear HO721
                    clear HO728
                    clear HO732
                    clear BK713
                    clear BK714
                    clear BK723
                    clear HB
                    have HO721 := n0_
                    have HO728 := n1_
                    have HO732 := n2_
                    have HO736 := n3_
                    have BK713 := n4_
                    have BK714 := n5_
                    have BK723 := n6_
                    have HB := n7_
                    clear n0_ n1_ n2_ n3_ n4_ n5_ n6_ n7_
                    (try clear hb)
                    (try clear hb2)
                    (try clear hk)
                    (try clear hi)
                    (try clear ho0)
                    refine hK.out _ _ ⟨(blk_cell BK723.out 0).trans rfl, (blk_cell BK723.out 1).trans rfl, (blk_cell BK714.out 0).trans rfl, (blk_cell BK714.out 1).trans rfl, (blk_cell BK714.out 2).trans rfl, (blk_cell BK714.out 3).trans rfl, (blk_cell BK714.out 4).trans rfl⟩ (fun hHeld => ?_)
                    clear hK K
                    refine norm_ (a' := ?_) ?_ ?_
                    rotate_left
                    · show Act.put _ (some 34) _ = _
                      simp only [Act.put, List.setIfInBounds_toArray, List.set_cons_zero, List.set_cons_succ, i64_w, i32_w]
                      rfl
                    refine pure_ (i := 4) (N := some 30) (v := ?_) (a' := ?_) #[true, true, true, true, true, false, false, false, false, false] rfl rfl (any_of HT_.out (by kernel_rfl)) (fun _ _ _ h => h) (Or.inl ⟨by rfl, ?_⟩) ?_ ?_
                    rotate_left
                    · intro w'
                      go_simp
                      with_reducible rfl
                    rotate_left
                    · simp only [Act.put, List.setIfInBounds_toArray, List.set_cons_zero, List.set_cons_succ, i64_w, i32_w]
                      rfl
                    refine pure_ (i := 5) (N := some 35) (v := ?_) (a' := ?_) #[true, true, true, true, true, true, false, false, false, false] rfl rfl (any_of HT_.out (by kernel_rfl)) (fun _ _ _ h => h) (Or.inl ⟨by rfl, ?_⟩) ?_ ?_
                    rotate_left
                    · intro w'
                      go_simp
                      with_reducible rfl
                    rotate_left
                    · simp only [Act.put, List.setIfInBounds_toArray, List.set_cons_zero, List.set_cons_succ, i64_w, i32_w]
                      rfl
                    refine pure_ (i := 6) (N := some 36) (v := ?_) (a' := ?_) #[true, true, true, true, true, true, true, false, false, false] rfl rfl (any_of HT_.out (by kernel_rfl)) (fun _ _ _ h => h) (Or.inl ⟨by rfl, ?_⟩) ?_ ?_
                    rotate_left
                    · intro w'
                      go_simp
                      with_reducible rfl
                    rotate_left
                    · simp only [Act.put, List.setIfInBounds_toArray, List.set_cons_zero, List.set_cons_succ, i64_w, i32_w]
                      rfl
                    refine one_ (i := 7) (N := some 7) #[true, true, true, true, true, true, true, true, false, false] rfl rfl (one_of HT_.out (by kernel_rfl)) (by decide) (fun K hK => ?_)
                    refine box_step ?hg (N := 7) ?hd (cs := #[.string (⟨#[]⟩ : ByteArray), .slice none 0 0]) (t := 51) ?hr ?_; (case hd => rfl); (case hg => rfl); (case hr => first | (go_simp; done) | (go_simp; rfl))
                    intro gb738 hg w68 hbox hb
                    have n0_ := Aside0.mk (Kd.R_below (by (with_reducible repeat (first | apply Kd.R_alloc | apply Kd.R_drewN | apply Kd.R_drew)); exact HO721.out) hb)
                    have n1_ := Aside0.mk (Kd.R_below (by (with_reducible repeat (first | apply Kd.R_alloc | apply Kd.R_drewN | apply Kd.R_drew)); exact HO728.out) hb)
                    have n2_ := Aside0.mk (Kd.R_below (by (with_reducible repeat (first | apply Kd.R_alloc | apply Kd.R_drewN | apply Kd.R_drew)); exact HO732.out) hb)
                    have n3_ := Aside0.mk (Kd.R_below (by (with_reducible repeat (first | apply Kd.R_alloc | apply Kd.R_drewN | apply Kd.R_drew)); exact HO736.out) hb)
                    have n4_ := Aside0.mk (blk_below (g := gb713) (o := .cells #[.string a0_0, .slice A0_1 l0_1.length c0_1] 51 (0, 0)) (by (with_reducible repeat (first | refine blk_drewN ?_ _ | refine blk_drew ?_ | refine blk_alloc ?_ _)); exact BK713.out) hb)
                    have n5_ := Aside0.mk (blk_below (g := gb714) (o := .cells #[.int .i64 a1_0, .string a1_1, .slice A1_2 l1_2.length c1_2, .string a1_3, .slice A1_4 l1_4.length c1_4] 64 (0, 0)) (by (with_reducible repeat (first | refine blk_drewN ?_ _ | refine blk_drew ?_ | refine blk_alloc ?_ _)); exact BK714.out) hb)
                    have n6_ := Aside0.mk (blk_below (g := gb723) (o := .cells #[.string t718, .slice Ao61 t719.length co61] 51 (0, 0)) (by (with_reducible repeat (first | refine blk_drewN ?_ _ | refine blk_drew ?_ | refine blk_alloc ?_ _)); exact BK723.out) hb)
                    have n7_ := Aside0.mk (below_step (by repeat (first | (with_reducible first | exact HB.out | apply below_alloc | apply pw_below_drewN | apply below_drew1 | refine below_set ?_ GE713.out | refine below_set ?_ GE714.out | refine below_set ?_ GE723.out) | exact HB.out)) hb)
                    have n8_ := Aside0.mk (hbox)
                    have n9_ := Aside0.mk ((by rw [hg]; exact (below_size (by repeat (first | (with_reducible first | exact HB.out | apply below_alloc | apply pw_below_drewN | apply below_drew1 | refine below_set ?_ GE713.out | refine below_set ?_ GE714.out | refine below_set ?_ GE723.out) | exact HB.out))) : w.heap.size ≤ gb738))
                    have n10_ := Aside0.mk ((by rw [hg]; exact (below_size (by repeat (first | (with_reducible first | exact HB.out | apply below_alloc | apply pw_below_drewN | apply below_drew1 | refine below_set ?_ GE713.out | refine below_set ?_ GE714.out | refine below_set ?_ GE723.out) | exact HB.out))) : w.heap.size ≤ gb738))
                    have n11_ := Aside0.mk ((by rw [hg]; exact Nat.ne_of_lt (blk_lt (g := gb713) (o := .cells #[.string a0_0, .slice A0_1 l0_1.length c0_1] 51 (0, 0)) (by (with_reducible repeat (first | refine blk_drewN ?_ _ | refine blk_drew ?_ | refine blk_alloc ?_ _)); exact BK713.out)) : gb713 ≠ gb738))
                    have n12_ := Aside0.mk ((by rw [hg]; exact Nat.ne_of_gt (blk_lt (g := gb713) (o := .cells #[.string a0_0, .slice A0_1 l0_1.length c0_1] 51 (0, 0)) (by (with_reducible repeat (first | refine blk_drewN ?_ _ | refine blk_drew ?_ | refine blk_alloc ?_ _)); exact BK713.out)) : gb738 ≠ gb713))
                    have n13_ := Aside0.mk ((by rw [hg]; exact Nat.ne_of_lt (blk_lt (g := gb714) (o := .cells #[.int .i64 a1_0, .string a1_1, .slice A1_2 l1_2.length c1_2, .string a1_3, .slice A1_4 l1_4.length c1_4] 64 (0, 0)) (by (with_reducible repeat (first | refine blk_drewN ?_ _ | refine blk_drew ?_ | refine blk_alloc ?_ _)); exact BK714.out)) : gb714 ≠ gb738))
                    have n14_ := Aside0.mk ((by rw [hg]; exact Nat.ne_of_gt (blk_lt (g := gb714) (o := .cells #[.int .i64 a1_0, .string a1_1, .slice A1_2 l1_2.length c1_2, .string a1_3, .slice A1_4 l1_4.length c1_4] 64 (0, 0)) (by (with_reducible repeat (first | refine blk_drewN ?_ _ | refine blk_drew ?_ | refine blk_alloc ?_ _)); exact BK714.out)) : gb738 ≠ gb714))
                    have n15_ := Aside0.mk ((by rw [hg]; exact Nat.ne_of_lt (blk_lt (g := gb723) (o := .cells #[.string t718, .slice Ao61 t719.length co61] 51 (0, 0)) (by (with_reducible repeat (first | refine blk_drewN ?_ _ | refine blk_drew ?_ | refine blk_alloc ?_ _)); exact BK723.out)) : gb723 ≠ gb738))
                    have n16_ := Aside0.mk ((by rw [hg]; exact Nat.ne_of_gt (blk_lt (g := gb723) (o := .cells #[.string t718, .slice Ao61 t719.length co61] 51 (0, 0)) (by (with_reducible repeat (first | refine blk_drewN ?_ _ | refine blk_drew ?_ | refine blk_alloc ?_ _)); exact BK723.out)) : gb738 ≠ gb723))
                    clear HO721
                    clear HO728
                    clear HO732
                    clear HO736
                    clear BK713
                    clear BK714
                    clear BK723
                    clear HB
                    have HO721 := n0_
                    have HO728 := n1_
                    have HO732 := n2_
                    have HO736 := n3_
                    have BK713 := n4_
                    have BK714 := n5_
                    have BK723 := n6_
                    have HB := n7_
                    have BK738 := n8_
                    have GW738 := n9_
                    have GE738 := n10_
                    have NB713_738 := n11_
                    have NB738_713 := n12_
                    have NB714_738 := n13_
                    have NB738_714 := n14_
                    have NB723_738 := n15_
                    have NB738_723 := n16_
                    clear n0_ n1_ n2_ n3_ n4_ n5_ n6_ n7_ n8_ n9_ n10_ n11_ n12_ n13_ n14_ n15_ n16_
                    clear hb hbox hg
                    refine hK.out _ _ ⟨(blk_cell BK723.out 0).trans rfl, (blk_cell BK723.out 1).trans rfl, (blk_cell BK714.out 0).trans rfl, (blk_cell BK714.out 1).trans rfl, (blk_cell BK714.out 2).trans rfl, (blk_cell BK714.out 3).trans rfl, (blk_cell BK714.out 4).trans rfl⟩ (fun hHeld => ?_)
                    clear hK K
                    refine norm_ (a' := ?_) ?_ ?_
                    rotate_left
                    · show Act.put _ (some 7) _ = _
                      simp only [Act.put, List.setIfInBounds_toArray, List.set_cons_zero, List.set_cons_succ, i64_w, i32_w]
                      rfl
                    exact norm_ (by simp only [putAll, Act.put, List.setIfInBounds_toArray, List.set_cons_zero, List.set_cons_succ]) (hCont (.slice Ao65 t726.length co65, .slice Ao66 t730.length co66, v735, gb738) _ ⟨hHeld, (by (with_reducible repeat (first | apply Kd.R_alloc | apply Kd.R_drewN | apply Kd.R_drew)); exact Kd.R_mono HO721.out (fun _ hk => ⟨hk.1.1.2, ⟨hk.1.2, hk.2⟩⟩)), (by (with_reducible repeat (first | apply Kd.R_alloc | apply Kd.R_drewN | apply Kd.R_drew)); exact Kd.R_mono HO728.out (fun _ hk => ⟨hk.1.2, ⟨hk.1.1, hk.2⟩⟩)), (by (with_reducible repeat (first | apply Kd.R_alloc | apply Kd.R_drewN | apply Kd.R_drew)); exact Kd.R_mono HO732.out (fun _ hk => ⟨hk.1.2, ⟨hk.1.1, hk.2⟩⟩)), (by (with_reducible repeat (first | apply Kd.R_alloc | apply Kd.R_drewN | apply Kd.R_drew)); exact Kd.R_mono HO736.out (fun _ hk => ⟨hk.1.1.2, ⟨hk.1.2, hk.2⟩⟩)), (by (with_reducible repeat (first | refine blk_drewN ?_ _ | refine blk_drew ?_ | refine blk_alloc ?_ _)); exact BK713.out), (by (with_reducible repeat (first | refine blk_drewN ?_ _ | refine blk_drew ?_ | refine blk_alloc ?_ _)); exact BK714.out), (by (with_reducible repeat (first | refine blk_drewN ?_ _ | refine blk_drew ?_ | refine blk_alloc ?_ _)); exact BK723.out), (by (with_reducible repeat (first | refine blk_drewN ?_ _ | refine blk_drew ?_ | refine blk_alloc ?_ _)); exact BK738.out), GW738.out, GE738.out, NB713_738.out, NB738_713.out, NB714_738.out, NB738_714.out, NB723_738.out, NB738_723.out, (by repeat (first | (with_reducible first | exact HB.out | apply below_alloc | apply pw_below_drewN | apply below_drew1 | refine below_set ?_ GE713.out | refine below_set ?_ GE714.out | refine below_set ?_ GE723.out | refine below_set ?_ GE738.out) | exact HB.out))⟩)
                  · skip
                    refine box_step ?hg (N := 7) ?hd (cs := #[.string (⟨#[]⟩ : ByteArray), .slice none 0 0]) (t := 51) ?hr ?_; (case hd => rfl); (case hg => rfl); (case hr => first | (go_simp; done) | (go_simp; rfl))
                    intro gb738 hg w65 hbox hb
                    have n0_ := Aside0.mk (Kd.R_below (by (with_reducible repeat (first | apply Kd.R_alloc | apply Kd.R_drewN | apply Kd.R_drew)); exact HO721.out) hb)
                    have n1_ := Aside0.mk (Kd.R_below (by (with_reducible repeat (first | apply Kd.R_alloc | apply Kd.R_drewN | apply Kd.R_drew)); exact HO728.out) hb)
                    have n2_ := Aside0.mk (Kd.R_below (by (with_reducible repeat (first | apply Kd.R_alloc | apply Kd.R_drewN | apply Kd.R_drew)); exact HO732.out) hb)
                    have n3_ := Aside0.mk (blk_below (g := gb713) (o := .cells #[.string a0_0, .slice A0_1 l0_1.length c0_1] 51 (0, 0)) (by (with_reducible repeat (first | refine blk_drewN ?_ _ | refine blk_drew ?_ | refine blk_alloc ?_ _)); exact BK713.out) hb)
                    have n4_ := Aside0.mk (blk_below (g := gb714) (o := .cells #[.int .i64 a1_0, .string a1_1, .slice A1_2 l1_2.length c1_2, .string a1_3, .slice A1_4 l1_4.length c1_4] 64 (0, 0)) (by (with_reducible repeat (first | refine blk_drewN ?_ _ | refine blk_drew ?_ | refine blk_alloc ?_ _)); exact BK714.out) hb)
                    have n5_ := Aside0.mk (blk_below (g := gb723) (o := .cells #[.string t718, .slice Ao61 t719.length co61] 51 (0, 0)) (by (with_reducible repeat (first | refine blk_drewN ?_ _ | refine blk_drew ?_ | refine blk_alloc ?_ _)); exact BK723.out) hb)
                    have n6_ := Aside0.mk (below_step (by repeat (first | (with_reducible first | exact HB.out | apply below_alloc | apply pw_below_drewN | apply below_drew1 | refine below_set ?_ GE713.out | refine below_set ?_ GE714.out | refine below_set ?_ GE723.out) | exact HB.out)) hb)
                    have n7_ := Aside0.mk (hbox)
                    have n8_ := Aside0.mk ((by rw [hg]; exact (below_size (by repeat (first | (with_reducible first | exact HB.out | apply below_alloc | apply pw_below_drewN | apply below_drew1 | refine below_set ?_ GE713.out | refine below_set ?_ GE714.out | refine below_set ?_ GE723.out) | exact HB.out))) : w.heap.size ≤ gb738))
                    have n9_ := Aside0.mk ((by rw [hg]; exact (below_size (by repeat (first | (with_reducible first | exact HB.out | apply below_alloc | apply pw_below_drewN | apply below_drew1 | refine below_set ?_ GE713.out | refine below_set ?_ GE714.out | refine below_set ?_ GE723.out) | exact HB.out))) : w.heap.size ≤ gb738))
                    have n10_ := Aside0.mk ((by rw [hg]; exact Nat.ne_of_lt (blk_lt (g := gb713) (o := .cells #[.string a0_0, .slice A0_1 l0_1.length c0_1] 51 (0, 0)) (by (with_reducible repeat (first | refine blk_drewN ?_ _ | refine blk_drew ?_ | refine blk_alloc ?_ _)); exact BK713.out)) : gb713 ≠ gb738))
                    have n11_ := Aside0.mk ((by rw [hg]; exact Nat.ne_of_gt (blk_lt (g := gb713) (o := .cells #[.string a0_0, .slice A0_1 l0_1.length c0_1] 51 (0, 0)) (by (with_reducible repeat (first | refine blk_drewN ?_ _ | refine blk_drew ?_ | refine blk_alloc ?_ _)); exact BK713.out)) : gb738 ≠ gb713))
                    have n12_ := Aside0.mk ((by rw [hg]; exact Nat.ne_of_lt (blk_lt (g := gb714) (o := .cells #[.int .i64 a1_0, .string a1_1, .slice A1_2 l1_2.length c1_2, .string a1_3, .slice A1_4 l1_4.length c1_4] 64 (0, 0)) (by (with_reducible repeat (first | refine blk_drewN ?_ _ | refine blk_drew ?_ | refine blk_alloc ?_ _)); exact BK714.out)) : gb714 ≠ gb738))
                    have n13_ := Aside0.mk ((by rw [hg]; exact Nat.ne_of_gt (blk_lt (g := gb714) (o := .cells #[.int .i64 a1_0, .string a1_1, .slice A1_2 l1_2.length c1_2, .string a1_3, .slice A1_4 l1_4.length c1_4] 64 (0, 0)) (by (with_reducible repeat (first | refine blk_drewN ?_ _ | refine blk_drew ?_ | refine blk_alloc ?_ _)); exact BK714.out)) : gb738 ≠ gb714))
                    have n14_ := Aside0.mk ((by rw [hg]; exact Nat.ne_of_lt (blk_lt (g := gb723) (o := .cells #[.string t718, .slice Ao61 t719.length co61] 51 (0, 0)) (by (with_reducible repeat (first | refine blk_drewN ?_ _ | refine blk_drew ?_ | refine blk_alloc ?_ _)); exact BK723.out)) : gb723 ≠ gb738))
                    have n15_ := Aside0.mk ((by rw [hg]; exact Nat.ne_of_gt (blk_lt (g := gb723) (o := .cells #[.string t718, .slice Ao61 t719.length co61] 51 (0, 0)) (by (with_reducible repeat (first | refine blk_drewN ?_ _ | refine blk_drew ?_ | refine blk_alloc ?_ _)); exact BK723.out)) : gb738 ≠ gb723))
                    clear HO721
                    clear HO728
                    clear HO732
                    clear BK713
                    clear BK714
                    clear BK723
                    clear HB
                    have HO721 := n0_
                    have HO728 := n1_
                    have HO732 := n2_
                    have BK713 := n3_
                    have BK714 := n4_
                    have BK723 := n5_
                    have HB := n6_
                    have BK738 := n7_
                    have GW738 := n8_
                    have GE738 := n9_
                    have NB713_738 := n10_
                    have NB738_713 := n11_
                    have NB714_738 := n12_
                    have NB738_714 := n13_
                    have NB723_738 := n14_
                    have NB738_723 := n15_
                    clear n0_ n1_ n2_ n3_ n4_ n5_ n6_ n7_ n8_ n9_ n10_ n11_ n12_ n13_ n14_ n15_
                    clear hb hbox hg
                    obtain ⟨Ao66, co66, eo66⟩ := Kd.R_slice HO728.out
                    (first | subst eo66 | (injection eo66 with f1_ f2_ f3_; have f4_ := f1_.symm; have f5_ := f3_.symm; clear f1_ f2_ f3_; subst f4_; subst f5_))
                    obtain ⟨Ao67, co67, eo67⟩ := Kd.R_slice HO732.out
                    (first | subst eo67 | (injection eo67 with f1_ f2_ f3_; have f4_ := f1_.symm; have f5_ := f3_.symm; clear f1_ f2_ f3_; subst f4_; subst f5_))
                    refine hK.out _ _ ⟨(blk_cell BK723.out 0).trans rfl, (blk_cell BK723.out 1).trans rfl, (blk_cell BK714.out 0).trans rfl, (blk_cell BK714.out 1).trans rfl, (blk_cell BK714.out 2).trans rfl, (blk_cell BK714.out 3).trans rfl, (blk_cell BK714.out 4).trans rfl⟩ (fun hHeld => ?_)
                    clear hK K
                    refine norm_ (a' := ?_) ?_ ?_
                    rotate_left
                    · show Act.put _ (some 7) _ = _
                      simp only [Act.put, List.setIfInBounds_toArray, List.set_cons_zero, List.set_cons_succ, i64_w, i32_w]
                      rfl
                    refine one_ (i := 3) (N := some 34) #[true, true, true, true, false, false, false, true, false, false] rfl rfl (one_of HT_.out (by kernel_rfl)) (by decide) (fun K hK => ?_)
                    refine goes_ Try.func65 (by kernel_rfl) rfl #[.agg #[.string t718, .slice Ao61 t719.length co61], .agg #[.int .i64 t724, .string t725, .slice Ao66 t726.length co66, .string t729, .slice Ao67 t730.length co67]] (by rfl) rfl rfl (by (try simp only [List.map_toArray, List.map_cons, List.map_nil]); first | done | rfl | (simp only [List.length_drop, List.length_take]; rfl)) ?_
                    with_reducible refine (edit_Apply.calls kj4 t718 _ _ t719 t724 t725 _ _ t726 t729 _ _ t730 t733 t734 t737 _ ?side1 ?side2 ?side3 ?side4 ?side5 ?side6 A24.out).mono ?_
                    (case side1 => repeat (first | exact (Kd.R_reads' HO721.out).2.2 | (with_reducible refine Kd.C_alloc ?_ _) | (with_reducible refine Kd.C_drewN ?_ _) | (with_reducible refine Kd.C_drew ?_)))
                    (case side2 => exact (Kd.R_reads' HO721.out).2.1)
                    (case side3 => repeat (first | exact (Kd.R_reads' HO728.out).2.2 | (with_reducible refine Kd.C_alloc ?_ _) | (with_reducible refine Kd.C_drewN ?_ _) | (with_reducible refine Kd.C_drew ?_)))
                    (case side4 => exact (Kd.R_reads' HO728.out).2.1)
                    (case side5 => repeat (first | exact (Kd.R_reads' HO732.out).2.2 | (with_reducible refine Kd.C_alloc ?_ _) | (with_reducible refine Kd.C_drewN ?_ _) | (with_reducible refine Kd.C_drew ?_)))
                    (case side6 => exact (Kd.R_reads' HO732.out).2.1)
                    rintro e w68 ⟨v735, rfl, ho0, hb⟩
                    refine ⟨_, rfl, ?_⟩
                    have n0_ := Aside0.mk (Kd.R_elder' (by (with_reducible repeat (first | apply Kd.R_alloc | apply Kd.R_drewN | apply Kd.R_drew)); exact HO721.out) (Kd.R_base ho0) hb)
                    have n1_ := Aside0.mk (Kd.R_elder' (by (with_reducible repeat (first | apply Kd.R_alloc | apply Kd.R_drewN | apply Kd.R_drew)); exact HO728.out) (Kd.R_base ho0) hb)
                    have n2_ := Aside0.mk (Kd.R_elder' (by (with_reducible repeat (first | apply Kd.R_alloc | apply Kd.R_drewN | apply Kd.R_drew)); exact HO732.out) (Kd.R_base ho0) hb)
                    have n3_ := Aside0.mk (Kd.R_lower (Kd.R_new' (Kd.R_new' (Kd.R_new' ho0 (Kd.R_lt (by (with_reducible repeat (first | apply Kd.R_alloc | apply Kd.R_drewN | apply Kd.R_drew)); exact HO721.out))) (Kd.R_lt (by (with_reducible repeat (first | apply Kd.R_alloc | apply Kd.R_drewN | apply Kd.R_drew)); exact HO728.out))) (Kd.R_lt (by (with_reducible repeat (first | apply Kd.R_alloc | apply Kd.R_drewN | apply Kd.R_drew)); exact HO732.out))) (below_size (by repeat (first | (with_reducible first | exact HB.out | apply below_alloc | apply pw_below_drewN | apply below_drew1 | refine below_set ?_ GE713.out | refine below_set ?_ GE714.out | refine below_set ?_ GE723.out | refine below_set ?_ GE738.out) | exact HB.out))))
                    have n4_ := Aside0.mk (blk_below (g := gb713) (o := .cells #[.string a0_0, .slice A0_1 l0_1.length c0_1] 51 (0, 0)) (by (with_reducible repeat (first | refine blk_drewN ?_ _ | refine blk_drew ?_ | refine blk_alloc ?_ _)); exact BK713.out) hb)
                    have n5_ := Aside0.mk (blk_below (g := gb714) (o := .cells #[.int .i64 a1_0, .string a1_1, .slice A1_2 l1_2.length c1_2, .string a1_3, .slice A1_4 l1_4.length c1_4] 64 (0, 0)) (by (with_reducible repeat (first | refine blk_drewN ?_ _ | refine blk_drew ?_ | refine blk_alloc ?_ _)); exact BK714.out) hb)
                    have n6_ := Aside0.mk (blk_below (g := gb723) (o := .cells #[.string t718, .slice Ao61 t719.length co61] 51 (0, 0)) (by (with_reducible repeat (first | refine blk_drewN ?_ _ | refine blk_drew ?_ | refine blk_alloc ?_ _)); exact BK723.out) hb)
                    have n7_ := Aside0.mk (blk_below (g := gb738) (o := .cells #[.string (⟨#[]⟩ : ByteArray), .slice none 0 0] 51 (0, 0)) (by (with_reducible repeat (first | refine blk_drewN ?_ _ | refine blk_drew ?_ | refine blk_alloc ?_ _)); exact BK738.out) hb)
                    have n8_ := Aside0.mk (below_step (by repeat (first | (with_reducible first | exact HB.out | apply below_alloc | apply pw_below_drewN | apply below_drew1 | refine below_set ?_ GE713.out | refine below_set ?_ GE714.out | refine below_set ?_ GE723.out | refine below_set ?_ GE738.out) | exact HB.out)) hb)
                    clear HO721
                    clear HO728
                    clear HO732
                    clear BK713
                    clear BK714
                    clear BK723
                    clear BK738
                    clear HB
                    have HO721 := n0_
                    have HO728 := n1_
                    have HO732 := n2_
                    have HO736 := n3_
                    have BK713 := n4_
                    have BK714 := n5_
                    have BK723 := n6_
                    have BK738 := n7_
                    have HB := n8_
                    clear n0_ n1_ n2_ n3_ n4_ n5_ n6_ n7_ n8_
                    (try clear hb)
                    (try clear hb2)
                    (try clear hk)
                    (try clear hi)
                    (try clear ho0)
                    refine hK.out _ _ ⟨(blk_cell BK723.out 0).trans rfl, (blk_cell BK723.out 1).trans rfl, (blk_cell BK714.out 0).trans rfl, (blk_cell BK714.out 1).trans rfl, (blk_cell BK714.out 2).trans rfl, (blk_cell BK714.out 3).trans rfl, (blk_cell BK714.out 4).trans rfl⟩ (fun hHeld => ?_)
                    clear hK K
                    refine norm_ (a' := ?_) ?_ ?_
                    rotate_left
                    · show Act.put _ (some 34) _ = _
                      simp only [Act.put, List.setIfInBounds_toArray, List.set_cons_zero, List.set_cons_succ, i64_w, i32_w]
                      rfl
                    refine pure_ (i := 4) (N := some 30) (v := ?_) (a' := ?_) #[true, true, true, true, true, false, false, true, false, false] rfl rfl (any_of HT_.out (by kernel_rfl)) (fun _ _ _ h => h) (Or.inl ⟨by rfl, ?_⟩) ?_ ?_
                    rotate_left
                    · intro w'
                      go_simp
                      with_reducible rfl
                    rotate_left
                    · simp only [Act.put, List.setIfInBounds_toArray, List.set_cons_zero, List.set_cons_succ, i64_w, i32_w]
                      rfl
                    refine pure_ (i := 5) (N := some 35) (v := ?_) (a' := ?_) #[true, true, true, true, true, true, false, true, false, false] rfl rfl (any_of HT_.out (by kernel_rfl)) (fun _ _ _ h => h) (Or.inl ⟨by rfl, ?_⟩) ?_ ?_
                    rotate_left
                    · intro w'
                      go_simp
                      with_reducible rfl
                    rotate_left
                    · simp only [Act.put, List.setIfInBounds_toArray, List.set_cons_zero, List.set_cons_succ, i64_w, i32_w]
                      rfl
                    refine pure_ (i := 6) (N := some 36) (v := ?_) (a' := ?_) #[true, true, true, true, true, true, true, true, false, false] rfl rfl (any_of HT_.out (by kernel_rfl)) (fun _ _ _ h => h) (Or.inl ⟨by rfl, ?_⟩) ?_ ?_
                    rotate_left
                    · intro w'
                      go_simp
                      with_reducible rfl
                    rotate_left
                    · simp only [Act.put, List.setIfInBounds_toArray, List.set_cons_zero, List.set_cons_succ, i64_w, i32_w]
                      rfl
                    exact norm_ (by simp only [putAll, Act.put, List.setIfInBounds_toArray, List.set_cons_zero, List.set_cons_succ]) (hCont (.slice Ao66 t726.length co66, .slice Ao67 t730.length co67, v735, gb738) _ ⟨hHeld, (by (with_reducible repeat (first | apply Kd.R_alloc | apply Kd.R_drewN | apply Kd.R_drew)); exact Kd.R_mono HO721.out (fun _ hk => ⟨hk.1.1.2, ⟨hk.1.2, hk.2⟩⟩)), (by (with_reducible repeat (first | apply Kd.R_alloc | apply Kd.R_drewN | apply Kd.R_drew)); exact Kd.R_mono HO728.out (fun _ hk => ⟨hk.1.2, ⟨hk.1.1, hk.2⟩⟩)), (by (with_reducible repeat (first | apply Kd.R_alloc | apply Kd.R_drewN | apply Kd.R_drew)); exact Kd.R_mono HO732.out (fun _ hk => ⟨hk.1.2, ⟨hk.1.1, hk.2⟩⟩)), (by (with_reducible repeat (first | apply Kd.R_alloc | apply Kd.R_drewN | apply Kd.R_drew)); exact Kd.R_mono HO736.out (fun _ hk => ⟨hk.1.1.2, ⟨hk.1.2, hk.2⟩⟩)), (by (with_reducible repeat (first | refine blk_drewN ?_ _ | refine blk_drew ?_ | refine blk_alloc ?_ _)); exact BK713.out), (by (with_reducible repeat (first | refine blk_drewN ?_ _ | refine blk_drew ?_ | refine blk_alloc ?_ _)); exact BK714.out), (by (with_reducible repeat (first | refine blk_drewN ?_ _ | refine blk_drew ?_ | refine blk_alloc ?_ _)); exact BK723.out), (by (with_reducible repeat (first | refine blk_drewN ?_ _ | refine blk_drew ?_ | refine blk_alloc ?_ _)); exact BK738.out), GW738.out, GE738.out, NB713_738.out, NB738_713.out, NB714_738.out, NB738_714.out, NB723_738.out, NB738_723.out, (by repeat (first | (with_reducible first | exact HB.out | apply below_alloc | apply pw_below_drewN | apply below_drew1 | refine below_set ?_ GE713.out | refine below_set ?_ GE714.out | refine below_set ?_ GE723.out | refine below_set ?_ GE738.out) | exact HB.out))⟩)
                · skip
                  refine box_step ?hg (N := 7) ?hd (cs := #[.string (⟨#[]⟩ : ByteArray), .slice none 0 0]) (t := 51) ?hr ?_; (case hd => rfl); (case hg => rfl); (case hr => first | (go_simp; done) | (go_simp; rfl))
                  intro gb738 hg w64 hbox hb
                  have n0_ := Aside0.mk (Kd.R_below (by (with_reducible repeat (first | apply Kd.R_alloc | apply Kd.R_drewN | apply Kd.R_drew)); exact HO721.out) hb)
                  have n1_ := Aside0.mk (blk_below (g := gb713) (o := .cells #[.string a0_0, .slice A0_1 l0_1.length c0_1] 51 (0, 0)) (by (with_reducible repeat (first | refine blk_drewN ?_ _ | refine blk_drew ?_ | refine blk_alloc ?_ _)); exact BK713.out) hb)
                  have n2_ := Aside0.mk (blk_below (g := gb714) (o := .cells #[.int .i64 a1_0, .string a1_1, .slice A1_2 l1_2.length c1_2, .string a1_3, .slice A1_4 l1_4.length c1_4] 64 (0, 0)) (by (with_reducible repeat (first | refine blk_drewN ?_ _ | refine blk_drew ?_ | refine blk_alloc ?_ _)); exact BK714.out) hb)
                  have n3_ := Aside0.mk (blk_below (g := gb723) (o := .cells #[.string t718, .slice Ao61 t719.length co61] 51 (0, 0)) (by (with_reducible repeat (first | refine blk_drewN ?_ _ | refine blk_drew ?_ | refine blk_alloc ?_ _)); exact BK723.out) hb)
                  have n4_ := Aside0.mk (below_step (by repeat (first | (with_reducible first | exact HB.out | apply below_alloc | apply pw_below_drewN | apply below_drew1 | refine below_set ?_ GE713.out | refine below_set ?_ GE714.out | refine below_set ?_ GE723.out) | exact HB.out)) hb)
                  have n5_ := Aside0.mk (hbox)
                  have n6_ := Aside0.mk ((by rw [hg]; exact (below_size (by repeat (first | (with_reducible first | exact HB.out | apply below_alloc | apply pw_below_drewN | apply below_drew1 | refine below_set ?_ GE713.out | refine below_set ?_ GE714.out | refine below_set ?_ GE723.out) | exact HB.out))) : w.heap.size ≤ gb738))
                  have n7_ := Aside0.mk ((by rw [hg]; exact (below_size (by repeat (first | (with_reducible first | exact HB.out | apply below_alloc | apply pw_below_drewN | apply below_drew1 | refine below_set ?_ GE713.out | refine below_set ?_ GE714.out | refine below_set ?_ GE723.out) | exact HB.out))) : w.heap.size ≤ gb738))
                  have n8_ := Aside0.mk ((by rw [hg]; exact Nat.ne_of_lt (blk_lt (g := gb713) (o := .cells #[.string a0_0, .slice A0_1 l0_1.length c0_1] 51 (0, 0)) (by (with_reducible repeat (first | refine blk_drewN ?_ _ | refine blk_drew ?_ | refine blk_alloc ?_ _)); exact BK713.out)) : gb713 ≠ gb738))
                  have n9_ := Aside0.mk ((by rw [hg]; exact Nat.ne_of_gt (blk_lt (g := gb713) (o := .cells #[.string a0_0, .slice A0_1 l0_1.length c0_1] 51 (0, 0)) (by (with_reducible repeat (first | refine blk_drewN ?_ _ | refine blk_drew ?_ | refine blk_alloc ?_ _)); exact BK713.out)) : gb738 ≠ gb713))
                  have n10_ := Aside0.mk ((by rw [hg]; exact Nat.ne_of_lt (blk_lt (g := gb714) (o := .cells #[.int .i64 a1_0, .string a1_1, .slice A1_2 l1_2.length c1_2, .string a1_3, .slice A1_4 l1_4.length c1_4] 64 (0, 0)) (by (with_reducible repeat (first | refine blk_drewN ?_ _ | refine blk_drew ?_ | refine blk_alloc ?_ _)); exact BK714.out)) : gb714 ≠ gb738))
                  have n11_ := Aside0.mk ((by rw [hg]; exact Nat.ne_of_gt (blk_lt (g := gb714) (o := .cells #[.int .i64 a1_0, .string a1_1, .slice A1_2 l1_2.length c1_2, .string a1_3, .slice A1_4 l1_4.length c1_4] 64 (0, 0)) (by (with_reducible repeat (first | refine blk_drewN ?_ _ | refine blk_drew ?_ | refine blk_alloc ?_ _)); exact BK714.out)) : gb738 ≠ gb714))
                  have n12_ := Aside0.mk ((by rw [hg]; exact Nat.ne_of_lt (blk_lt (g := gb723) (o := .cells #[.string t718, .slice Ao61 t719.length co61] 51 (0, 0)) (by (with_reducible repeat (first | refine blk_drewN ?_ _ | refine blk_drew ?_ | refine blk_alloc ?_ _)); exact BK723.out)) : gb723 ≠ gb738))
                  have n13_ := Aside0.mk ((by rw [hg]; exact Nat.ne_of_gt (blk_lt (g := gb723) (o := .cells #[.string t718, .slice Ao61 t719.length co61] 51 (0, 0)) (by (with_reducible repeat (first | refine blk_drewN ?_ _ | refine blk_drew ?_ | refine blk_alloc ?_ _)); exact BK723.out)) : gb738 ≠ gb723))
                  clear HO721
                  clear BK713
                  clear BK714
                  clear BK723
                  clear HB
                  have HO721 := n0_
                  have BK713 := n1_
                  have BK714 := n2_
                  have BK723 := n3_
                  have HB := n4_
                  have BK738 := n5_
                  have GW738 := n6_
                  have GE738 := n7_
                  have NB713_738 := n8_
                  have NB738_713 := n9_
                  have NB714_738 := n10_
                  have NB738_714 := n11_
                  have NB723_738 := n12_
                  have NB738_723 := n13_
                  clear n0_ n1_ n2_ n3_ n4_ n5_ n6_ n7_ n8_ n9_ n10_ n11_ n12_ n13_
                  clear hb hbox hg
                  refine hK.out _ _ ⟨(blk_cell BK723.out 0).trans rfl, (blk_cell BK723.out 1).trans rfl, (blk_cell BK714.out 0).trans rfl, (blk_cell BK714.out 1).trans rfl, (blk_cell BK714.out 2).trans rfl, (blk_cell BK714.out 3).trans rfl, (blk_cell BK714.out 4).trans rfl⟩ (fun hHeld => ?_)
                  clear hK K
                  refine norm_ (a' := ?_) ?_ ?_
                  rotate_left
                  · show Act.put _ (some 7) _ = _
                    simp only [Act.put, List.setIfInBounds_toArray, List.set_cons_zero, List.set_cons_succ, i64_w, i32_w]
                    rfl
                  refine one_ (i := 2) (N := some 33) #[true, true, true, false, false, false, false, true, false, false] rfl rfl (one_of HT_.out (by kernel_rfl)) (by decide) (fun K hK => ?_)
                  refine goes_ Try.func59 (by kernel_rfl) rfl #[.agg #[.int .i64 a1_0, .string a1_1, .slice A1_2 l1_2.length c1_2, .string a1_3, .slice A1_4 l1_4.length c1_4]] (by rfl) rfl rfl (by (try simp only [List.map_toArray, List.map_cons, List.map_nil]); first | done | rfl | (simp only [List.length_drop, List.length_take]; rfl)) ?_
                  with_reducible refine (edit_Invert.calls a1_0 a1_1 _ _ l1_2 a1_3 _ _ l1_4 t724 t725 t726 t729 t730 _ ?side1 ?side2 ?side3 ?side4 A23.out).mono ?_
                  (case side1 => repeat (first | exact (Kd.C_below HR1_2.out HB.out) | (with_reducible refine Kd.C_alloc ?_ _) | (with_reducible refine Kd.C_drewN ?_ _) | (with_reducible refine Kd.C_drew ?_)))
                  (case side2 => exact HC1_2.out)
                  (case side3 => repeat (first | exact (Kd.C_below HR1_4.out HB.out) | (with_reducible refine Kd.C_alloc ?_ _) | (with_reducible refine Kd.C_drewN ?_ _) | (with_reducible refine Kd.C_drew ?_)))
                  (case side4 => exact HC1_4.out)
                  rintro e w65 ⟨v727, v731, rfl, ho0, ho1, hb⟩
                  refine ⟨_, rfl, ?_⟩
                  have n0_ := Aside0.mk (Kd.R_mono (Kd.R_told (Kd.R_told (Kd.R_old (by (with_reducible repeat (first | apply Kd.R_alloc | apply Kd.R_drewN | apply Kd.R_drew)); exact HO721.out) hb) (Kd.R_base ho0)) (Kd.R_base ho1)) (fun _ h_ => h_.1))
                  have n1_ := Aside0.mk (Kd.R_lower (Kd.R_new' ho0 (Kd.R_lt (by (with_reducible repeat (first | apply Kd.R_alloc | apply Kd.R_drewN | apply Kd.R_drew)); exact HO721.out))) (below_size (by repeat (first | (with_reducible first | exact HB.out | apply below_alloc | apply pw_below_drewN | apply below_drew1 | refine below_set ?_ GE713.out | refine below_set ?_ GE714.out | refine below_set ?_ GE723.out | refine below_set ?_ GE738.out) | exact HB.out))))
                  have n2_ := Aside0.mk (Kd.R_lower (Kd.R_new' ho1 (Kd.R_lt (by (with_reducible repeat (first | apply Kd.R_alloc | apply Kd.R_drewN | apply Kd.R_drew)); exact HO721.out))) (below_size (by repeat (first | (with_reducible first | exact HB.out | apply below_alloc | apply pw_below_drewN | apply below_drew1 | refine below_set ?_ GE713.out | refine below_set ?_ GE714.out | refine below_set ?_ GE723.out | refine below_set ?_ GE738.out) | exact HB.out))))
                  have n3_ := Aside0.mk (blk_below (g := gb713) (o := .cells #[.string a0_0, .slice A0_1 l0_1.length c0_1] 51 (0, 0)) (by (with_reducible repeat (first | refine blk_drewN ?_ _ | refine blk_drew ?_ | refine blk_alloc ?_ _)); exact BK713.out) hb)
                  have n4_ := Aside0.mk (blk_below (g := gb714) (o := .cells #[.int .i64 a1_0, .string a1_1, .slice A1_2 l1_2.length c1_2, .string a1_3, .slice A1_4 l1_4.length c1_4] 64 (0, 0)) (by (with_reducible repeat (first | refine blk_drewN ?_ _ | refine blk_drew ?_ | refine blk_alloc ?_ _)); exact BK714.out) hb)
                  have n5_ := Aside0.mk (blk_below (g := gb723) (o := .cells #[.string t718, .slice Ao61 t719.length co61] 51 (0, 0)) (by (with_reducible repeat (first | refine blk_drewN ?_ _ | refine blk_drew ?_ | refine blk_alloc ?_ _)); exact BK723.out) hb)
                  have n6_ := Aside0.mk (blk_below (g := gb738) (o := .cells #[.string (⟨#[]⟩ : ByteArray), .slice none 0 0] 51 (0, 0)) (by (with_reducible repeat (first | refine blk_drewN ?_ _ | refine blk_drew ?_ | refine blk_alloc ?_ _)); exact BK738.out) hb)
                  have n7_ := Aside0.mk (below_step (by repeat (first | (with_reducible first | exact HB.out | apply below_alloc | apply pw_below_drewN | apply below_drew1 | refine below_set ?_ GE713.out | refine below_set ?_ GE714.out | refine below_set ?_ GE723.out | refine below_set ?_ GE738.out) | exact HB.out)) hb)
                  clear HO721
                  clear BK713
                  clear BK714
                  clear BK723
                  clear BK738
                  clear HB
                  have HO721 := n0_
                  have HO728 := n1_
                  have HO732 := n2_
                  have BK713 := n3_
                  have BK714 := n4_
                  have BK723 := n5_
                  have BK738 := n6_
                  have HB := n7_
                  clear n0_ n1_ n2_ n3_ n4_ n5_ n6_ n7_
                  (try clear hb)
                  (try clear hb2)
                  (try clear hk)
                  (try clear hi)
                  (try clear ho0)
                  (try clear ho1)
                  obtain ⟨Ao66, co66, eo66⟩ := Kd.R_slice HO728.out
                  (first | subst eo66 | (injection eo66 with f1_ f2_ f3_; have f4_ := f1_.symm; have f5_ := f3_.symm; clear f1_ f2_ f3_; subst f4_; subst f5_))
                  obtain ⟨Ao67, co67, eo67⟩ := Kd.R_slice HO732.out
                  (first | subst eo67 | (injection eo67 with f1_ f2_ f3_; have f4_ := f1_.symm; have f5_ := f3_.symm; clear f1_ f2_ f3_; subst f4_; subst f5_))
                  refine hK.out _ _ ⟨(blk_cell BK723.out 0).trans rfl, (blk_cell BK723.out 1).trans rfl, (blk_cell BK714.out 0).trans rfl, (blk_cell BK714.out 1).trans rfl, (blk_cell BK714.out 2).trans rfl, (blk_cell BK714.out 3).trans rfl, (blk_cell BK714.out 4).trans rfl⟩ (fun hHeld => ?_)
                  clear hK K
                  refine norm_ (a' := ?_) ?_ ?_
                  rotate_left
                  · show Act.put _ (some 33) _ = _
                    simp only [Act.put, List.setIfInBounds_toArray, List.set_cons_zero, List.set_cons_succ, i64_w, i32_w]
                    rfl
                  refine one_ (i := 3) (N := some 34) #[true, true, true, true, false, false, false, true, false, false] rfl rfl (one_of HT_.out (by kernel_rfl)) (by decide) (fun K hK => ?_)
                  refine goes_ Try.func65 (by kernel_rfl) rfl #[.agg #[.string t718, .slice Ao61 t719.length co61], .agg #[.int .i64 t724, .string t725, .slice Ao66 t726.length co66, .string t729, .slice Ao67 t730.length co67]] (by rfl) rfl rfl (by (try simp only [List.map_toArray, List.map_cons, List.map_nil]); first | done | rfl | (simp only [List.length_drop, List.length_take]; rfl)) ?_
                  with_reducible refine (edit_Apply.calls kj4 t718 _ _ t719 t724 t725 _ _ t726 t729 _ _ t730 t733 t734 t737 _ ?side1 ?side2 ?side3 ?side4 ?side5 ?side6 A24.out).mono ?_
                  (case side1 => repeat (first | exact (Kd.R_reads' HO721.out).2.2 | (with_reducible refine Kd.C_alloc ?_ _) | (with_reducible refine Kd.C_drewN ?_ _) | (with_reducible refine Kd.C_drew ?_)))
                  (case side2 => exact (Kd.R_reads' HO721.out).2.1)
                  (case side3 => repeat (first | exact (Kd.R_reads' HO728.out).2.2 | (with_reducible refine Kd.C_alloc ?_ _) | (with_reducible refine Kd.C_drewN ?_ _) | (with_reducible refine Kd.C_drew ?_)))
                  (case side4 => exact (Kd.R_reads' HO728.out).2.1)
                  (case side5 => repeat (first | exact (Kd.R_reads' HO732.out).2.2 | (with_reducible refine Kd.C_alloc ?_ _) | (with_reducible refine Kd.C_drewN ?_ _) | (with_reducible refine Kd.C_drew ?_)))
                  (case side6 => exact (Kd.R_reads' HO732.out).2.1)
                  rintro e w68 ⟨v735, rfl, ho0, hb⟩
                  refine ⟨_, rfl, ?_⟩
                  have n0_ := Aside0.mk (Kd.R_elder' (by (with_reducible repeat (first | apply Kd.R_alloc | apply Kd.R_drewN | apply Kd.R_drew)); exact HO721.out) (Kd.R_base ho0) hb)
                  have n1_ := Aside0.mk (Kd.R_elder' (by (with_reducible repeat (first | apply Kd.R_alloc | apply Kd.R_drewN | apply Kd.R_drew)); exact HO728.out) (Kd.R_base ho0) hb)
                  have n2_ := Aside0.mk (Kd.R_elder' (by (with_reducible repeat (first | apply Kd.R_alloc | apply Kd.R_drewN | apply Kd.R_drew)); exact HO732.out) (Kd.R_base ho0) hb)
                  have n3_ := Aside0.mk (Kd.R_lower (Kd.R_new' (Kd.R_new' (Kd.R_new' ho0 (Kd.R_lt (by (with_reducible repeat (first | apply Kd.R_alloc | apply Kd.R_drewN | apply Kd.R_drew)); exact HO721.out))) (Kd.R_lt (by (with_reducible repeat (first | apply Kd.R_alloc | apply Kd.R_drewN | apply Kd.R_drew)); exact HO728.out))) (Kd.R_lt (by (with_reducible repeat (first | apply Kd.R_alloc | apply Kd.R_drewN | apply Kd.R_drew)); exact HO732.out))) (below_size (by repeat (first | (with_reducible first | exact HB.out | apply below_alloc | apply pw_below_drewN | apply below_drew1 | refine below_set ?_ GE713.out | refine below_set ?_ GE714.out | refine below_set ?_ GE723.out | refine below_set ?_ GE738.out) | exact HB.out))))
                  have n4_ := Aside0.mk (blk_below (g := gb713) (o := .cells #[.string a0_0, .slice A0_1 l0_1.length c0_1] 51 (0, 0)) (by (with_reducible repeat (first | refine blk_drewN ?_ _ | refine blk_drew ?_ | refine blk_alloc ?_ _)); exact BK713.out) hb)
                  have n5_ := Aside0.mk (blk_below (g := gb714) (o := .cells #[.int .i64 a1_0, .string a1_1, .slice A1_2 l1_2.length c1_2, .string a1_3, .slice A1_4 l1_4.length c1_4] 64 (0, 0)) (by (with_reducible repeat (first | refine blk_drewN ?_ _ | refine blk_drew ?_ | refine blk_alloc ?_ _)); exact BK714.out) hb)
                  have n6_ := Aside0.mk (blk_below (g := gb723) (o := .cells #[.string t718, .slice Ao61 t719.length co61] 51 (0, 0)) (by (with_reducible repeat (first | refine blk_drewN ?_ _ | refine blk_drew ?_ | refine blk_alloc ?_ _)); exact BK723.out) hb)
                  have n7_ := Aside0.mk (blk_below (g := gb738) (o := .cells #[.string (⟨#[]⟩ : ByteArray), .slice none 0 0] 51 (0, 0)) (by (with_reducible repeat (first | refine blk_drewN ?_ _ | refine blk_drew ?_ | refine blk_alloc ?_ _)); exact BK738.out) hb)
                  have n8_ := Aside0.mk (below_step (by repeat (first | (with_reducible first | exact HB.out | apply below_alloc | apply pw_below_drewN | apply below_drew1 | refine below_set ?_ GE713.out | refine below_set ?_ GE714.out | refine below_set ?_ GE723.out | refine below_set ?_ GE738.out) | exact HB.out)) hb)
                  clear HO721
                  clear HO728
                  clear HO732
                  clear BK713
                  clear BK714
                  clear BK723
                  clear BK738
                  clear HB
                  have HO721 := n0_
                  have HO728 := n1_
                  have HO732 := n2_
                  have HO736 := n3_
                  have BK713 := n4_
                  have BK714 := n5_
                  have BK723 := n6_
                  have BK738 := n7_
                  have HB := n8_
                  clear n0_ n1_ n2_ n3_ n4_ n5_ n6_ n7_ n8_
                  (try clear hb)
                  (try clear hb2)
                  (try clear hk)
                  (try clear hi)
                  (try clear ho0)
                  refine hK.out _ _ ⟨(blk_cell BK723.out 0).trans rfl, (blk_cell BK723.out 1).trans rfl, (blk_cell BK714.out 0).trans rfl, (blk_cell BK714.out 1).trans rfl, (blk_cell BK714.out 2).trans rfl, (blk_cell BK714.out 3).trans rfl, (blk_cell BK714.out 4).trans rfl⟩ (fun hHeld => ?_)
                  clear hK K
                  refine norm_ (a' := ?_) ?_ ?_
                  rotate_left
                  · show Act.put _ (some 34) _ = _
                    simp only [Act.put, List.setIfInBounds_toArray, List.set_cons_zero, List.set_cons_succ, i64_w, i32_w]
                    rfl
                  refine pure_ (i := 4) (N := some 30) (v := ?_) (a' := ?_) #[true, true, true, true, true, false, false, true, false, false] rfl rfl (any_of HT_.out (by kernel_rfl)) (fun _ _ _ h => h) (Or.inl ⟨by rfl, ?_⟩) ?_ ?_
                  rotate_left
                  · intro w'
                    go_simp
                    with_reducible rfl
                  rotate_left
                  · simp only [Act.put, List.setIfInBounds_toArray, List.set_cons_zero, List.set_cons_succ, i64_w, i32_w]
                    rfl
                  refine pure_ (i := 5) (N := some 35) (v := ?_) (a' := ?_) #[true, true, true, true, true, true, false, true, false, false] rfl rfl (any_of HT_.out (by kernel_rfl)) (fun _ _ _ h => h) (Or.inl ⟨by rfl, ?_⟩) ?_ ?_
                  rotate_left
                  · intro w'
                    go_simp
                    with_reducible rfl
                  rotate_left
                  · simp only [Act.put, List.setIfInBounds_toArray, List.set_cons_zero, List.set_cons_succ, i64_w, i32_w]
                    rfl
                  refine pure_ (i := 6) (N := some 36) (v := ?_) (a' := ?_) #[true, true, true, true, true, true, true, true, false, false] rfl rfl (any_of HT_.out (by kernel_rfl)) (fun _ _ _ h => h) (Or.inl ⟨by rfl, ?_⟩) ?_ ?_
                  rotate_left
                  · intro w'
                    go_simp
                    with_reducible rfl
                  rotate_left
                  · simp only [Act.put, List.setIfInBounds_toArray, List.set_cons_zero, List.set_cons_succ, i64_w, i32_w]
                    rfl
                  exact norm_ (by simp only [putAll, Act.put, List.setIfInBounds_toArray, List.set_cons_zero, List.set_cons_succ]) (hCont (.slice Ao66 t726.length co66, .slice Ao67 t730.length co67, v735, gb738) _ ⟨hHeld, (by (with_reducible repeat (first | apply Kd.R_alloc | apply Kd.R_drewN | apply Kd.R_drew)); exact Kd.R_mono HO721.out (fun _ hk => ⟨hk.1.1.2, ⟨hk.1.2, hk.2⟩⟩)), (by (with_reducible repeat (first | apply Kd.R_alloc | apply Kd.R_drewN | apply Kd.R_drew)); exact Kd.R_mono HO728.out (fun _ hk => ⟨hk.1.2, ⟨hk.1.1, hk.2⟩⟩)), (by (with_reducible repeat (first | apply Kd.R_alloc | apply Kd.R_drewN | apply Kd.R_drew)); exact Kd.R_mono HO732.out (fun _ hk => ⟨hk.1.2, ⟨hk.1.1, hk.2⟩⟩)), (by (with_reducible repeat (first | apply Kd.R_alloc | apply Kd.R_drewN | apply Kd.R_drew)); exact Kd.R_mono HO736.out (fun _ hk => ⟨hk.1.1.2, ⟨hk.1.2, hk.2⟩⟩)), (by (with_reducible repeat (first | refine blk_drewN ?_ _ | refine blk_drew ?_ | refine blk_alloc ?_ _)); exact BK713.out), (by (with_reducible repeat (first | refine blk_drewN ?_ _ | refine blk_drew ?_ | refine blk_alloc ?_ _)); exact BK714.out), (by (with_reducible repeat (first | refine blk_drewN ?_ _ | refine blk_drew ?_ | refine blk_alloc ?_ _)); exact BK723.out), (by (with_reducible repeat (first | refine blk_drewN ?_ _ | refine blk_drew ?_ | refine blk_alloc ?_ _)); exact BK738.out), GW738.out, GE738.out, NB713_738.out, NB738_713.out, NB714_738.out, NB738_714.out, NB723_738.out, NB738_723.out, (by repeat (first | (with_reducible first | exact HB.out | apply below_alloc | apply pw_below_drewN | apply below_drew1 | refine below_set ?_ GE713.out | refine below_set ?_ GE714.out | refine below_set ?_ GE723.out | refine below_set ?_ GE738.out) | exact HB.out))⟩)
              rintro ⟨v727, v731, v735, gb738⟩ w69 ⟨hS_, h0_, h1_, h2_, h3_, h4_, h5_, h6_, h7_, h8_, h9_, h10_, h11_, h12_, h13_, h14_, h15_, h16_⟩
              have n0_ : Aside0 (Kd.R k100 100 w69 w.heap.size (fun k_ => some k_ ≠ (v727 : Value).ownBlock ∧ some k_ ≠ (v731 : Value).ownBlock ∧ some k_ ≠ (v735 : Value).ownBlock) (.slice Ao61 t719.length co61) t719) := ⟨h0_⟩
              have n1_ : Aside0 (Kd.R k100 100 w69 w.heap.size (fun k_ => some k_ ≠ (.slice Ao61 t719.length co61 : Value).ownBlock ∧ some k_ ≠ (v731 : Value).ownBlock ∧ some k_ ≠ (v735 : Value).ownBlock) v727 t726) := ⟨h1_⟩
              have n2_ : Aside0 (Kd.R k100 100 w69 w.heap.size (fun k_ => some k_ ≠ (.slice Ao61 t719.length co61 : Value).ownBlock ∧ some k_ ≠ (v727 : Value).ownBlock ∧ some k_ ≠ (v735 : Value).ownBlock) v731 t730) := ⟨h2_⟩
              have n3_ : Aside0 (Kd.R k100 100 w69 w.heap.size (fun k_ => some k_ ≠ (.slice Ao61 t719.length co61 : Value).ownBlock ∧ some k_ ≠ (v727 : Value).ownBlock ∧ some k_ ≠ (v731 : Value).ownBlock) v735 t734) := ⟨h3_⟩
              have n4_ : Aside0 (w69.heap[gb713]? = some (.cells #[.string a0_0, .slice A0_1 l0_1.length c0_1] 51 (0, 0))) := ⟨h4_⟩
              have n5_ : Aside0 (w69.heap[gb714]? = some (.cells #[.int .i64 a1_0, .string a1_1, .slice A1_2 l1_2.length c1_2, .string a1_3, .slice A1_4 l1_4.length c1_4] 64 (0, 0))) := ⟨h5_⟩
              have n6_ : Aside0 (w69.heap[gb723]? = some (.cells #[.string t718, .slice Ao61 t719.length co61] 51 (0, 0))) := ⟨h6_⟩
              have n7_ : Aside0 (w69.heap[gb738]? = some (.cells #[.string (⟨#[]⟩ : ByteArray), .slice none 0 0] 51 (0, 0))) := ⟨h7_⟩
              have n8_ : Aside0 (w.heap.size ≤ gb738) := ⟨h8_⟩
              have n9_ : Aside0 (w.heap.size ≤ gb738) := ⟨h9_⟩
              have n10_ : Aside0 (gb713 ≠ gb738) := ⟨h10_⟩
              have n11_ : Aside0 (gb738 ≠ gb713) := ⟨h11_⟩
              have n12_ : Aside0 (gb714 ≠ gb738) := ⟨h12_⟩
              have n13_ : Aside0 (gb738 ≠ gb714) := ⟨h13_⟩
              have n14_ : Aside0 (gb723 ≠ gb738) := ⟨h14_⟩
              have n15_ : Aside0 (gb738 ≠ gb723) := ⟨h15_⟩
              have n16_ : Aside0 (Below w.heap.size w w69) := ⟨h16_⟩
              clear HO721
              clear BK713
              clear BK714
              clear BK723
              clear HB
              clear h0_ h1_ h2_ h3_ h4_ h5_ h6_ h7_ h8_ h9_ h10_ h11_ h12_ h13_ h14_ h15_ h16_
              have HO721 := n0_
              have HO728 := n1_
              have HO732 := n2_
              have HO736 := n3_
              have BK713 := n4_
              have BK714 := n5_
              have BK723 := n6_
              have BK738 := n7_
              have GW738 := n8_
              have GE738 := n9_
              have NB713_738 := n10_
              have NB738_713 := n11_
              have NB714_738 := n12_
              have NB738_714 := n13_
              have NB723_738 := n14_
              have NB738_723 := n15_
              have HB := n16_
              clear n0_ n1_ n2_ n3_ n4_ n5_ n6_ n7_ n8_ n9_ n10_ n11_ n12_ n13_ n14_ n15_ n16_
              have hHeld : w69.cell? ⟨gb723, 0, none⟩ = some (.string t718) ∧ w69.cell? ⟨gb723, 1, none⟩ = some (.slice Ao61 t719.length co61) ∧ w69.cell? ⟨gb714, 0, none⟩ = some (.int .i64 a1_0) ∧ w69.cell? ⟨gb714, 1, none⟩ = some (.string a1_1) ∧ w69.cell? ⟨gb714, 2, none⟩ = some (.slice A1_2 l1_2.length c1_2) ∧ w69.cell? ⟨gb714, 3, none⟩ = some (.string a1_3) ∧ w69.cell? ⟨gb714, 4, none⟩ = some (.slice A1_4 l1_4.length c1_4) := hS_
              obtain ⟨Ao71, co71, eo71⟩ := Kd.R_slice HO736.out
              (first | subst eo71 | (injection eo71 with f1_ f2_ f3_; have f4_ := f1_.symm; have f5_ := f3_.symm; clear f1_ f2_ f3_; subst f4_; subst f5_))
              refine norm_ (a' := ?_) ?_ ?_
              rotate_left
              · simp only [putAll, Act.put, List.setIfInBounds_toArray, List.set_cons_zero, List.set_cons_succ]
                rfl
              refine one_ (i := 8) (N := none) #[true, true, true, true, true, true, true, true, true, false] rfl rfl (one_of HT_.out (by kernel_rfl)) (by decide) (fun K hK => ?_)
              have hs70 : w69.cell? ⟨gb738, 0, none⟩ = some (.string (⟨#[]⟩ : ByteArray)) := (blk_cell BK738.out 0).trans rfl
              have hfs70 := blk_frozen BK738.out 0
              have hns70_0 := NB713_738.out
              have hns70_1 := NB714_738.out
              have hns70_2 := NB723_738.out
              have hms70_0 := NB738_713.out
              have hms70_1 := NB738_714.out
              have hms70_2 := NB738_723.out
              have hs72 : w69.cell? ⟨gb738, 1, none⟩ = some (.slice none 0 0) := (blk_cell BK738.out 1).trans rfl
              have hfs72 := blk_frozen BK738.out 1
              have hns72_0 := NB713_738.out
              have hns72_1 := NB714_738.out
              have hns72_2 := NB723_738.out
              have hms72_0 := NB738_713.out
              have hms72_1 := NB738_714.out
              have hms72_2 := NB738_723.out
              refine skip_ (w1 := ?_) (by rfl) rfl ?_ ?_
              rotate_left
              · go_simp
                rfl
              refine hK.out _ _ ⟨((cell_far (p := ⟨gb738, _, none⟩) NB723_738.out _).trans (((cell_far (p := ⟨gb738, _, none⟩) NB723_738.out _).trans (hHeld.1)))), ((cell_far (p := ⟨gb738, _, none⟩) NB723_738.out _).trans (((cell_far (p := ⟨gb738, _, none⟩) NB723_738.out _).trans (hHeld.2.1)))), ((cell_far (p := ⟨gb738, _, none⟩) NB714_738.out _).trans (((cell_far (p := ⟨gb738, _, none⟩) NB714_738.out _).trans (hHeld.2.2.1)))), ((cell_far (p := ⟨gb738, _, none⟩) NB714_738.out _).trans (((cell_far (p := ⟨gb738, _, none⟩) NB714_738.out _).trans (hHeld.2.2.2.1)))), ((cell_far (p := ⟨gb738, _, none⟩) NB714_738.out _).trans (((cell_far (p := ⟨gb738, _, none⟩) NB714_738.out _).trans (hHeld.2.2.2.2.1)))), ((cell_far (p := ⟨gb738, _, none⟩) NB714_738.out _).trans (((cell_far (p := ⟨gb738, _, none⟩) NB714_738.out _).trans (hHeld.2.2.2.2.2.1)))), ((cell_far (p := ⟨gb738, _, none⟩) NB714_738.out _).trans (((cell_far (p := ⟨gb738, _, none⟩) NB714_738.out _).trans (hHeld.2.2.2.2.2.2))))⟩ (fun hHeld => ?_)
              clear hK K
              refine pure_ (i := 9) (N := some 8) (v := ?_) (a' := ?_) #[true, true, true, true, true, true, true, true, true, true] rfl rfl (any_of HT_.out (by kernel_rfl)) (fun _ _ _ h => h) (Or.inl ⟨by rfl, ?_⟩) ?_ ?_
              rotate_left
              · intro w'
                go_simp
                with_reducible rfl
              rotate_left
              · simp only [Act.put, List.setIfInBounds_toArray, List.set_cons_zero, List.set_cons_succ, i64_w, i32_w]
                rfl
              refine done_ (done_of HT_.out (by kernel_rfl)) ?_
              try go_wp2
              go_ret
              exact ⟨by first | rfl | (simp [errW_none, errW_some] <;> rfl) | (simp [*, errW_none, errW_some] <;> rfl), by repeat (first | (with_reducible first | exact HB.out | apply below_alloc | apply pw_below_drewN | apply below_drew1 | refine below_set ?_ GE713.out | refine below_set ?_ GE714.out | refine below_set ?_ GE723.out | refine below_set ?_ GE738.out) | exact HB.out)⟩
          · rw [if_neg c22] at H
            have c22b0 : (t722 == 0) = false := beq_eq_false_iff_ne.mpr c22
            have c22b1 : (t722 != 0) = true := bne_iff_ne.mpr c22
            replace H := Option.bind_eq_some_iff.mp H
            obtain ⟨t740, A730, H⟩ := H
            replace H : (some t740) = some r := H
            have A73 := Aside0.mk A730
            clear A730
            obtain rfl := Option.some.inj H
            have hnb74 := NB713_714.out
            have hnc74 := NB714_713.out
            have hcz75_0 : wc.cell? ⟨gb713, 0, none⟩ = some (.string a0_0) := (blk_cell BK713.out 0).trans rfl
            have hcz75_1 : wc.cell? ⟨gb713, 1, none⟩ = some (.slice A0_1 l0_1.length c0_1) := (blk_cell BK713.out 1).trans rfl
            have hfz75_0 := blk_frozen BK713.out 0
            have hfz75_1 := blk_frozen BK713.out 1
            have hcz76_0 : wc.cell? ⟨gb714, 0, none⟩ = some (.int .i64 a1_0) := (blk_cell BK714.out 0).trans rfl
            have hcz76_1 : wc.cell? ⟨gb714, 1, none⟩ = some (.string a1_1) := (blk_cell BK714.out 1).trans rfl
            have hcz76_2 : wc.cell? ⟨gb714, 2, none⟩ = some (.slice A1_2 l1_2.length c1_2) := (blk_cell BK714.out 2).trans rfl
            have hcz76_3 : wc.cell? ⟨gb714, 3, none⟩ = some (.string a1_3) := (blk_cell BK714.out 3).trans rfl
            have hcz76_4 : wc.cell? ⟨gb714, 4, none⟩ = some (.slice A1_4 l1_4.length c1_4) := (blk_cell BK714.out 4).trans rfl
            have hfz76_0 := blk_frozen BK714.out 0
            have hfz76_1 := blk_frozen BK714.out 1
            have hfz76_2 := blk_frozen BK714.out 2
            have hfz76_3 := blk_frozen BK714.out 3
            have hfz76_4 := blk_frozen BK714.out 4
            go_wp2_with (first | ((with_reducible refine gate_callee (f := 65) rfl ?_); refine goesL_ (some 22) rfl rfl Try.func65 (by kernel_rfl) rfl #[.agg #[.string a0_0, .slice A0_1 l0_1.length c0_1], .agg #[.int .i64 a1_0, .string a1_1, .slice A1_2 l1_2.length c1_2, .string a1_3, .slice A1_4 l1_4.length c1_4]] rfl (by (try simp only [List.map_toArray, List.map_cons, List.map_nil]); first | done | rfl | (simp only [List.length_drop, List.length_take]; rfl)) ?_; (with_reducible refine (edit_Apply.calls kj4 a0_0 _ _ l0_1 a1_0 a1_1 _ _ l1_2 a1_3 _ _ l1_4 t718 t719 t722 _ ?side1 ?side2 ?side3 ?side4 ?side5 ?side6 A21.out).mono ?_); (case side1 => repeat (first | exact (Kd.C_below HR0_1.out HB.out) | (with_reducible refine Kd.C_alloc ?_ _) | (with_reducible refine Kd.C_drewN ?_ _) | (with_reducible refine Kd.C_drew ?_))); (case side2 => exact HC0_1.out); (case side3 => repeat (first | exact (Kd.C_below HR1_2.out HB.out) | (with_reducible refine Kd.C_alloc ?_ _) | (with_reducible refine Kd.C_drewN ?_ _) | (with_reducible refine Kd.C_drew ?_))); (case side4 => exact HC1_2.out); (case side5 => repeat (first | exact (Kd.C_below HR1_4.out HB.out) | (with_reducible refine Kd.C_alloc ?_ _) | (with_reducible refine Kd.C_drewN ?_ _) | (with_reducible refine Kd.C_drew ?_))); (case side6 => exact HC1_4.out); rintro e w77 ⟨v720, rfl, ho0, hb⟩; refine ⟨_, rfl, ?_⟩; have n0_ := Aside0.mk (Kd.R_lower ho0 (below_size (by repeat (first | (with_reducible first | exact HB.out | apply below_alloc | apply pw_below_drewN | apply below_drew1 | refine below_set ?_ GE713.out | refine below_set ?_ GE714.out) | exact HB.out)))); have n1_ := Aside0.mk (blk_below (g := gb713) (o := .cells #[.string a0_0, .slice A0_1 l0_1.length c0_1] 51 (0, 0)) (by (with_reducible repeat (first | refine blk_drewN ?_ _ | refine blk_drew ?_ | refine blk_alloc ?_ _)); exact BK713.out) hb); have n2_ := Aside0.mk (blk_below (g := gb714) (o := .cells #[.int .i64 a1_0, .string a1_1, .slice A1_2 l1_2.length c1_2, .string a1_3, .slice A1_4 l1_4.length c1_4] 64 (0, 0)) (by (with_reducible repeat (first | refine blk_drewN ?_ _ | refine blk_drew ?_ | refine blk_alloc ?_ _)); exact BK714.out) hb); have n3_ := Aside0.mk (below_step (by repeat (first | (with_reducible first | exact HB.out | apply below_alloc | apply pw_below_drewN | apply below_drew1 | refine below_set ?_ GE713.out | refine below_set ?_ GE714.out) | exact HB.out)) hb); clear BK713; clear BK714; clear HB; have HO721 := n0_; have BK713 := n1_; have BK714 := n2_; have HB := n3_; clear n0_ n1_ n2_ n3_; (try clear hb); (try clear hb2); (try clear hk); (try clear hi); (try clear ho0)) | ((with_reducible refine gate_dst (N := 5) rfl ?_); refine box_event ?hg (N := 5) ?hd (cs := #[.string (⟨#[]⟩ : ByteArray), .slice none 0 0]) (t := 51) ?hr ?_; (case hd => rfl); (case hg => rfl); (case hr => first | (go_simp; done) | (go_simp; rfl)); intro gb723 hg w78 hbox hb; have n0_ := Aside0.mk (Kd.R_below (by (with_reducible repeat (first | apply Kd.R_alloc | apply Kd.R_drewN | apply Kd.R_drew)); exact HO721.out) hb); have n1_ := Aside0.mk (blk_below (g := gb713) (o := .cells #[.string a0_0, .slice A0_1 l0_1.length c0_1] 51 (0, 0)) (by (with_reducible repeat (first | refine blk_drewN ?_ _ | refine blk_drew ?_ | refine blk_alloc ?_ _)); exact BK713.out) hb); have n2_ := Aside0.mk (blk_below (g := gb714) (o := .cells #[.int .i64 a1_0, .string a1_1, .slice A1_2 l1_2.length c1_2, .string a1_3, .slice A1_4 l1_4.length c1_4] 64 (0, 0)) (by (with_reducible repeat (first | refine blk_drewN ?_ _ | refine blk_drew ?_ | refine blk_alloc ?_ _)); exact BK714.out) hb); have n3_ := Aside0.mk (below_step (by repeat (first | (with_reducible first | exact HB.out | apply below_alloc | apply pw_below_drewN | apply below_drew1 | refine below_set ?_ GE713.out | refine below_set ?_ GE714.out) | exact HB.out)) hb); have n4_ := Aside0.mk (hbox); have n5_ := Aside0.mk ((by rw [hg]; exact (below_size (by repeat (first | (with_reducible first | exact HB.out | apply below_alloc | apply pw_below_drewN | apply below_drew1 | refine below_set ?_ GE713.out | refine below_set ?_ GE714.out) | exact HB.out))) : w.heap.size ≤ gb723)); have n6_ := Aside0.mk ((by rw [hg]; exact (below_size (by repeat (first | (with_reducible first | exact HB.out | apply below_alloc | apply pw_below_drewN | apply below_drew1 | refine below_set ?_ GE713.out | refine below_set ?_ GE714.out) | exact HB.out))) : w.heap.size ≤ gb723)); have n7_ := Aside0.mk ((by rw [hg]; exact Nat.ne_of_lt (blk_lt (g := gb713) (o := .cells #[.string a0_0, .slice A0_1 l0_1.length c0_1] 51 (0, 0)) (by (with_reducible repeat (first | refine blk_drewN ?_ _ | refine blk_drew ?_ | refine blk_alloc ?_ _)); exact BK713.out)) : gb713 ≠ gb723)); have n8_ := Aside0.mk ((by rw [hg]; exact Nat.ne_of_gt (blk_lt (g := gb713) (o := .cells #[.string a0_0, .slice A0_1 l0_1.length c0_1] 51 (0, 0)) (by (with_reducible repeat (first | refine blk_drewN ?_ _ | refine blk_drew ?_ | refine blk_alloc ?_ _)); exact BK713.out)) : gb723 ≠ gb713)); have n9_ := Aside0.mk ((by rw [hg]; exact Nat.ne_of_lt (blk_lt (g := gb714) (o := .cells #[.int .i64 a1_0, .string a1_1, .slice A1_2 l1_2.length c1_2, .string a1_3, .slice A1_4 l1_4.length c1_4] 64 (0, 0)) (by (with_reducible repeat (first | refine blk_drewN ?_ _ | refine blk_drew ?_ | refine blk_alloc ?_ _)); exact BK714.out)) : gb714 ≠ gb723)); have n10_ := Aside0.mk ((by rw [hg]; exact Nat.ne_of_gt (blk_lt (g := gb714) (o := .cells #[.int .i64 a1_0, .string a1_1, .slice A1_2 l1_2.length c1_2, .string a1_3, .slice A1_4 l1_4.length c1_4] 64 (0, 0)) (by (with_reducible repeat (first | refine blk_drewN ?_ _ | refine blk_drew ?_ | refine blk_alloc ?_ _)); exact BK714.out)) : gb723 ≠ gb714)); clear HO721; clear BK713; clear BK714; clear HB; have HO721 := n0_; have BK713 := n1_; have BK714 := n2_; have HB := n3_; have BK723 := n4_; have GW723 := n5_; have GE723 := n6_; have NB713_723 := n7_; have NB723_713 := n8_; have NB714_723 := n9_; have NB723_714 := n10_; clear n0_ n1_ n2_ n3_ n4_ n5_ n6_ n7_ n8_ n9_ n10_; clear hb hbox hg; have hnb79 := NB723_713.out; have hnc79 := NB713_723.out; have hnb80 := NB723_714.out; have hnc80 := NB714_723.out; have hcz81_0 : w78.cell? ⟨gb723, 0, none⟩ = some (.string (⟨#[]⟩ : ByteArray)) := (blk_cell BK723.out 0).trans rfl; have hcz81_1 : w78.cell? ⟨gb723, 1, none⟩ = some (.slice none 0 0) := (blk_cell BK723.out 1).trans rfl; have hfz81_0 := blk_frozen BK723.out 0; have hfz81_1 := blk_frozen BK723.out 1; obtain ⟨Ao82, co82, eo82⟩ := Kd.R_slice HO721.out; subst eo82) | ((with_reducible refine gate_callee (f := 48) rfl ?_); refine goesL_ (some 29) rfl rfl Try.func48 (by kernel_rfl) rfl #[.agg #[.string t718, .slice Ao82 t719.length co82], .agg #[.string (⟨#[]⟩ : ByteArray), .slice none 0 0]] rfl (by (try simp only [List.map_toArray, List.map_cons, List.map_nil]); first | done | rfl | (simp only [List.length_drop, List.length_take]; rfl)) ?_; (refine (bureauref04_Same.calls kj4 t718 _ _ t719 (⟨#[]⟩ : ByteArray) _ _ ([] : List (S100)) t740 _ ?side1 ?side2 ?side3 ?side4 A73.out).mono ?_); (case side1 => refine (Kd.R_reads' (e := 100) (base := w.heap.size) (ok := fun k_ => True) (n := t719.length) (c := co82) ?_).2.2; exact (by (with_reducible repeat (first | apply Kd.R_alloc | apply Kd.R_drewN | apply Kd.R_drew)); exact (Kd.R_mono (Kd.R_far (p := ⟨gb723, 1, none⟩) (Kd.R_far (p := ⟨gb723, 0, none⟩) (Kd.R_types HO721.out BK723.out (by decide)) (fun _ hk => hk.2) (.string t718)) (fun _ hk => hk.2) (.slice Ao82 t719.length co82)) (fun _ h_ => h_.1)))); (case side2 => exact (Kd.R_reads' HO721.out).2.1); (case side3 => exact Kd.C_nil _ _); (case side4 => exact Nat.le_refl _); rintro e w83 ⟨rfl, hb⟩; refine ⟨_, rfl, ?_⟩; have n0_ := Aside0.mk (Kd.R_below (by (with_reducible repeat (first | apply Kd.R_alloc | apply Kd.R_drewN | apply Kd.R_drew)); exact (Kd.R_mono (Kd.R_far (p := ⟨gb723, 1, none⟩) (Kd.R_far (p := ⟨gb723, 0, none⟩) (Kd.R_types HO721.out BK723.out (by decide)) (fun _ hk => hk.2) (.string t718)) (fun _ hk => hk.2) (.slice Ao82 t719.length co82)) (fun _ h_ => h_.1))) hb); have n1_ := Aside0.mk (blk_below (g := gb713) (o := .cells #[.string a0_0, .slice A0_1 l0_1.length c0_1] 51 (0, 0)) (by (with_reducible repeat (first | refine blk_drewN ?_ _ | refine blk_drew ?_ | refine blk_alloc ?_ _)); refine blk_far ?_ NB713_723.out _; (with_reducible repeat (first | refine blk_drewN ?_ _ | refine blk_drew ?_ | refine blk_alloc ?_ _)); refine blk_far ?_ NB713_723.out _; (with_reducible repeat (first | refine blk_drewN ?_ _ | refine blk_drew ?_ | refine blk_alloc ?_ _)); exact BK713.out) hb); have n2_ := Aside0.mk (blk_below (g := gb714) (o := .cells #[.int .i64 a1_0, .string a1_1, .slice A1_2 l1_2.length c1_2, .string a1_3, .slice A1_4 l1_4.length c1_4] 64 (0, 0)) (by (with_reducible repeat (first | refine blk_drewN ?_ _ | refine blk_drew ?_ | refine blk_alloc ?_ _)); refine blk_far ?_ NB714_723.out _; (with_reducible repeat (first | refine blk_drewN ?_ _ | refine blk_drew ?_ | refine blk_alloc ?_ _)); refine blk_far ?_ NB714_723.out _; (with_reducible repeat (first | refine blk_drewN ?_ _ | refine blk_drew ?_ | refine blk_alloc ?_ _)); exact BK714.out) hb); have n3_ := Aside0.mk (blk_below (g := gb723) (o := .cells #[.string t718, .slice Ao82 t719.length co82] 51 (0, 0)) (by (with_reducible repeat (first | refine blk_drewN ?_ _ | refine blk_drew ?_ | refine blk_alloc ?_ _)); refine blk_put (cs := #[.string t718, .slice none 0 0]) ?_ 1 _ rfl; (with_reducible repeat (first | refine blk_drewN ?_ _ | refine blk_drew ?_ | refine blk_alloc ?_ _)); refine blk_put (cs := #[.string (⟨#[]⟩ : ByteArray), .slice none 0 0]) ?_ 0 _ rfl; (with_reducible repeat (first | refine blk_drewN ?_ _ | refine blk_drew ?_ | refine blk_alloc ?_ _)); exact BK723.out) hb); have n4_ := Aside0.mk (below_step (by repeat (first | (with_reducible first | exact HB.out | apply below_alloc | apply pw_below_drewN | apply below_drew1 | refine below_set ?_ GE713.out | refine below_set ?_ GE714.out | refine below_set ?_ GE723.out) | exact HB.out)) hb); clear HO721; clear BK713; clear BK714; clear BK723; clear HB; have HO721 := n0_; have BK713 := n1_; have BK714 := n2_; have BK723 := n3_; have HB := n4_; clear n0_ n1_ n2_ n3_ n4_; (try clear hb); (try clear hb2); (try clear hk); (try clear hi)))
            go_ret
            exact ⟨by first | rfl | (simp [errW_none, errW_some] <;> rfl) | (simp [*, errW_none, errW_some] <;> rfl), by repeat (first | (with_reducible first | exact HB.out | apply below_alloc | apply pw_below_drewN | apply below_drew1 | refine below_set ?_ GE713.out | refine below_set ?_ GE714.out | refine below_set ?_ GE723.out) | exact HB.out)⟩
  · replace c4 := Bool.eq_false_iff.mpr c4
    subst c4
    have H1 : (some false) = some r := by rw [if_neg (show ¬ (false = true) by decide)] at H; exact H
    clear H
    have H := H1
    clear H1
    obtain rfl := Option.some.inj H
    go_enter Try.func15, Try.ntmps15
    go_wp2_with (first | ((with_reducible refine gate_dst (N := 2) rfl ?_); refine box_event ?hg (N := 2) ?hd (cs := #[.string a0_0, .slice A0_1 l0_1.length c0_1]) (t := 51) ?hr ?_; (case hd => rfl); (case hg => rfl); (case hr => first | (go_simp; done) | (go_simp; rfl)); intro gb713 hg w84 hbox hb; have n0_ := Aside0.mk (below_step (by repeat (first | (with_reducible first | exact HB.out | apply below_alloc | apply pw_below_drewN | apply below_drew1) | exact HB.out)) hb); have n1_ := Aside0.mk (hbox); have n2_ := Aside0.mk ((by rw [hg]; exact (below_size (by repeat (first | (with_reducible first | exact HB.out | apply below_alloc | apply pw_below_drewN | apply below_drew1) | exact HB.out))) : w.heap.size ≤ gb713)); have n3_ := Aside0.mk ((by rw [hg]; exact (below_size (by repeat (first | (with_reducible first | exact HB.out | apply below_alloc | apply pw_below_drewN | apply below_drew1) | exact HB.out))) : w.heap.size ≤ gb713)); clear HB; have HB := n0_; have BK713 := n1_; have GW713 := n2_; have GE713 := n3_; clear n0_ n1_ n2_ n3_; clear hb hbox hg) | ((with_reducible refine gate_dst (N := 3) rfl ?_); refine box_event ?hg (N := 3) ?hd (cs := #[.int .i64 a1_0, .string a1_1, .slice A1_2 l1_2.length c1_2, .string a1_3, .slice A1_4 l1_4.length c1_4]) (t := 64) ?hr ?_; (case hd => rfl); (case hg => rfl); (case hr => first | (go_simp; done) | (go_simp; rfl)); intro gb714 hg w85 hbox hb; have n0_ := Aside0.mk (blk_below (g := gb713) (o := .cells #[.string a0_0, .slice A0_1 l0_1.length c0_1] 51 (0, 0)) (by (with_reducible repeat (first | refine blk_drewN ?_ _ | refine blk_drew ?_ | refine blk_alloc ?_ _)); exact BK713.out) hb); have n1_ := Aside0.mk (below_step (by repeat (first | (with_reducible first | exact HB.out | apply below_alloc | apply pw_below_drewN | apply below_drew1 | refine below_set ?_ GE713.out) | exact HB.out)) hb); have n2_ := Aside0.mk (hbox); have n3_ := Aside0.mk ((by rw [hg]; exact (below_size (by repeat (first | (with_reducible first | exact HB.out | apply below_alloc | apply pw_below_drewN | apply below_drew1 | refine below_set ?_ GE713.out) | exact HB.out))) : w.heap.size ≤ gb714)); have n4_ := Aside0.mk ((by rw [hg]; exact (below_size (by repeat (first | (with_reducible first | exact HB.out | apply below_alloc | apply pw_below_drewN | apply below_drew1 | refine below_set ?_ GE713.out) | exact HB.out))) : w.heap.size ≤ gb714)); have n5_ := Aside0.mk ((by rw [hg]; exact Nat.ne_of_lt (blk_lt (g := gb713) (o := .cells #[.string a0_0, .slice A0_1 l0_1.length c0_1] 51 (0, 0)) (by (with_reducible repeat (first | refine blk_drewN ?_ _ | refine blk_drew ?_ | refine blk_alloc ?_ _)); exact BK713.out)) : gb713 ≠ gb714)); have n6_ := Aside0.mk ((by rw [hg]; exact Nat.ne_of_gt (blk_lt (g := gb713) (o := .cells #[.string a0_0, .slice A0_1 l0_1.length c0_1] 51 (0, 0)) (by (with_reducible repeat (first | refine blk_drewN ?_ _ | refine blk_drew ?_ | refine blk_alloc ?_ _)); exact BK713.out)) : gb714 ≠ gb713)); clear BK713; clear HB; have BK713 := n0_; have HB := n1_; have BK714 := n2_; have GW714 := n3_; have GE714 := n4_; have NB713_714 := n5_; have NB714_713 := n6_; clear n0_ n1_ n2_ n3_ n4_ n5_ n6_; clear hb hbox hg) | ((with_reducible refine gate_callee (f := 55) rfl ?_); refine goesL_ (some 9) rfl rfl Try.func55 (by kernel_rfl) rfl #[] rfl (by (try simp only [List.map_toArray, List.map_cons, List.map_nil]); first | done | rfl | (simp only [List.length_drop, List.length_take]; rfl)) ?_; (with_reducible refine (bureaulaw07_alive.calls k  false _ A3.out).mono ?_); rintro e w86 ⟨rfl, hb⟩; refine ⟨_, rfl, ?_⟩; have n0_ := Aside0.mk (blk_below (g := gb713) (o := .cells #[.string a0_0, .slice A0_1 l0_1.length c0_1] 51 (0, 0)) (by (with_reducible repeat (first | refine blk_drewN ?_ _ | refine blk_drew ?_ | refine blk_alloc ?_ _)); exact BK713.out) hb); have n1_ := Aside0.mk (blk_below (g := gb714) (o := .cells #[.int .i64 a1_0, .string a1_1, .slice A1_2 l1_2.length c1_2, .string a1_3, .slice A1_4 l1_4.length c1_4] 64 (0, 0)) (by (with_reducible repeat (first | refine blk_drewN ?_ _ | refine blk_drew ?_ | refine blk_alloc ?_ _)); exact BK714.out) hb); have n2_ := Aside0.mk (below_step (by repeat (first | (with_reducible first | exact HB.out | apply below_alloc | apply pw_below_drewN | apply below_drew1 | refine below_set ?_ GE713.out | refine below_set ?_ GE714.out) | exact HB.out)) hb); clear BK713; clear BK714; clear HB; have BK713 := n0_; have BK714 := n1_; have HB := n2_; clear n0_ n1_ n2_; (try clear hb); (try clear hb2); (try clear hk); (try clear hi)))
    go_ret
    exact ⟨by first | rfl | (simp [errW_none, errW_some] <;> rfl) | (simp [*, errW_none, errW_some] <;> rfl), by repeat (first | (with_reducible first | exact HB.out | apply below_alloc | apply pw_below_drewN | apply below_drew1 | refine below_set ?_ GE713.out | refine below_set ?_ GE714.out) | exact HB.out)⟩
end Go.Proofs.Ythpjagblnddjaaa.PB
end

section
namespace Go.Proofs.Ythpjagblnddjaaa.PB
open Go.RowKit Go.Proofs.YthpjagblnddjaaaW.PrintWords
set_option linter.unusedVariables false
def totF : List S100 → Int → Int
  | [], n => n
  | r :: l, n => if r.f1 > 4096 - n then 4097 else totF l (n + (if r.f1 < 0 then 0 else r.f1))
def tot (l : List S100) : Int := totF l 0
def bytes (l : List S100) : List Int := l.flatMap fun r => List.replicate r.f1.toNat r.f0
def step1 (acc : List S100) (x : Int) : List S100 :=
  if 0 < acc.length ∧ (acc.getD (acc.length - 1) z100).f0 = x then acc.set (acc.length - 1) ⟨x, (acc.getD (acc.length - 1) z100).f1 + 1⟩ else acc ++ [⟨x, 1⟩]
def packTo (acc : List S100) (b : List Int) : List S100 := b.foldl step1 acc
def pack (b : List Int) : List S100 := packTo [] b
theorem packTo_append (acc : List S100) (a b : List Int) : packTo acc (a ++ b) = packTo (packTo acc a) b := List.foldl_append
theorem snoc_cases (acc : List S100) : acc = [] ∨ ∃ pre q, acc = pre ++ [q] := by
  rcases List.eq_nil_or_concat acc with h | ⟨pre, q, h⟩
  · exact .inl h
  · exact .inr ⟨pre, q, by rw [h, List.concat_eq_append]⟩
theorem getD_snoc (pre : List S100) (q : S100) : (pre ++ [q]).getD ((pre ++ [q]).length - 1) z100 = q := by
  simp [List.getD_eq_getElem?_getD]
theorem set_snoc (pre : List S100) (q r : S100) : (pre ++ [q]).set ((pre ++ [q]).length - 1) r = pre ++ [r] := by
  simp
theorem step1_nil (x : Int) : step1 [] x = [⟨x, 1⟩] := by simp [step1]
theorem step1_same (pre : List S100) (q : S100) : step1 (pre ++ [q]) q.f0 = pre ++ [⟨q.f0, q.f1 + 1⟩] := by
  unfold step1
  rw [getD_snoc, set_snoc, if_pos ⟨by simp, rfl⟩]
theorem step1_other (pre : List S100) (q : S100) (x : Int) (h : q.f0 ≠ x) : step1 (pre ++ [q]) x = pre ++ [q] ++ [⟨x, 1⟩] := by
  unfold step1
  rw [getD_snoc, if_neg (fun hh => h hh.2)]
theorem addRun_small (acc : List S100) (r : S100) (h : r.f1 < 1) : addRun acc r = acc := by simp [addRun, h]
theorem addRun_nil (r : S100) (h : ¬ r.f1 < 1) : addRun [] r = [r] := by simp [addRun, h]
theorem addRun_same (pre : List S100) (q r : S100) (h : ¬ r.f1 < 1) (he : q.f0 = r.f0) : addRun (pre ++ [q]) r = pre ++ [⟨q.f0, wrap64 (q.f1 + r.f1)⟩] := by
  unfold addRun
  rw [if_neg h, getD_snoc, set_snoc, if_pos (by simp), if_pos he]
theorem addRun_other (pre : List S100) (q r : S100) (h : ¬ r.f1 < 1) (he : ¬ q.f0 = r.f0) : addRun (pre ++ [q]) r = pre ++ [q] ++ [r] := by
  unfold addRun
  rw [if_neg h, getD_snoc, if_pos (by simp), if_neg he]
theorem packTo_rep_same (pre : List S100) (x : Int) : ∀ (n : Nat) (m : Int), packTo (pre ++ [⟨x, m⟩]) (List.replicate n x) = pre ++ [⟨x, m + n⟩]
  | 0, m => by simp [packTo]
  | n + 1, m => by
    rw [List.replicate_succ]
    show packTo (step1 (pre ++ [⟨x, m⟩]) x) _ = _
    rw [show step1 (pre ++ [(⟨x, m⟩ : S100)]) x = pre ++ [⟨x, m + 1⟩] from step1_same pre ⟨x, m⟩, packTo_rep_same pre x n (m + 1)]
    congr 3
    push_cast
    omega
def capped (B : Int) (acc : List S100) : Prop := ∀ r ∈ acc, 0 ≤ r.f1 ∧ r.f1 ≤ B
theorem addRun_pack (acc : List S100) (L : Int) (N : Nat) (B : Int) (hc : capped B acc) (hB : B + N ≤ 9223372036854775807) : addRun acc ⟨L, N⟩ = packTo acc (List.replicate N L) := by
  cases N with
  | zero => rw [addRun_small _ _ (by show ((0 : Nat) : Int) < 1; omega)]; rfl
  | succ n =>
    have h1 : ¬ ((⟨L, ((n + 1 : Nat) : Int)⟩ : S100).f1 < 1) := by show ¬ ((n + 1 : Nat) : Int) < 1; omega
    rw [List.replicate_succ]
    rcases snoc_cases acc with rfl | ⟨pre, q, rfl⟩
    · rw [addRun_nil _ h1]
      show _ = packTo (step1 [] L) _
      rw [step1_nil, ← List.nil_append [(⟨L, 1⟩ : S100)], packTo_rep_same]
      simp
      omega
    · show _ = packTo (step1 (pre ++ [q]) L) _
      by_cases he : q.f0 = L
      · subst he
        have hq := hc q (by simp)
        rw [addRun_same pre q ⟨q.f0, ((n + 1 : Nat) : Int)⟩ h1 rfl, step1_same, packTo_rep_same]
        congr 3
        show wrap64 (q.f1 + ((n + 1 : Nat) : Int)) = _
        unfold wrap64
        omega
      · rw [addRun_other _ _ _ h1 he, step1_other _ _ _ he, packTo_rep_same]
        simp
        omega
theorem capped_mono {B B' : Int} {acc : List S100} (h : capped B acc) (hB : B ≤ B') : capped B' acc := fun r hr => ⟨(h r hr).1, by have := (h r hr).2; omega⟩
theorem step1_capped {B : Int} {acc : List S100} (h : capped B acc) (hB : 0 ≤ B) (x : Int) : capped (B + 1) (step1 acc x) := by
  rcases snoc_cases acc with rfl | ⟨pre, q, rfl⟩
  · rw [step1_nil]
    intro r hr
    obtain rfl := List.mem_singleton.1 hr
    exact ⟨by show (0 : Int) ≤ 1; omega, by show (1 : Int) ≤ B + 1; omega⟩
  · by_cases he : q.f0 = x
    · subst he
      rw [step1_same]
      intro r hr
      rcases List.mem_append.1 hr with hr | hr
      · have := h r (List.mem_append_left _ hr); omega
      · obtain rfl := List.mem_singleton.1 hr
        have := h q (by simp)
        exact ⟨by show 0 ≤ q.f1 + 1; omega, by show q.f1 + 1 ≤ B + 1; omega⟩
    · rw [step1_other _ _ _ he]
      intro r hr
      rcases List.mem_append.1 hr with hr | hr
      · have := h r hr; omega
      · obtain rfl := List.mem_singleton.1 hr
        exact ⟨by show (0 : Int) ≤ 1; omega, by show (1 : Int) ≤ B + 1; omega⟩
theorem packTo_capped (b : List Int) : ∀ {B : Int} {acc : List S100}, capped B acc → 0 ≤ B → capped (B + b.length) (packTo acc b) := by
  induction b with
  | nil => intro B acc h hB; simpa [packTo] using h
  | cons x b ih =>
    intro B acc h hB
    have := ih (step1_capped h hB x) (by omega)
    show capped _ (packTo (step1 acc x) b)
    refine capped_mono this ?_
    rw [List.length_cons]
    push_cast
    omega
theorem bytes_cons (r : S100) (l : List S100) : bytes (r :: l) = List.replicate r.f1.toNat r.f0 ++ bytes l := by simp [bytes]
theorem bytes_append (a b : List S100) : bytes (a ++ b) = bytes a ++ bytes b := by simp [bytes]
theorem someTo_pack (a b : Nat) (l : List S100) : ∀ (p : Nat) (acc : List S100) (B : Int), (∀ r ∈ l, 0 ≤ r.f1) → capped B acc → 0 ≤ B → B + (bytes l).length ≤ 1000000 → p + (bytes l).length ≤ 1000000 → a ≤ 1000000 → b ≤ 1000000 →
    someTo addRun (a : Int) (b : Int) l (p : Int) acc = packTo acc (((bytes l).take (b - p)).drop (a - p)) := by
  induction l with
  | nil => intro p acc B _ _ _ _ _ _ _; simp [someTo, bytes, packTo]
  | cons r l ih =>
    intro p acc B h0 hc hB hlen hp ha hb
    obtain ⟨n, hn⟩ := Int.eq_ofNat_of_zero_le (h0 r List.mem_cons_self)
    have hn' : r.f1.toNat = n := by omega
    rw [bytes_cons, hn'] at hlen hp ⊢
    rw [List.length_append, List.length_replicate] at hlen hp
    push_cast at hlen hp
    have hw : wrap64 ((p : Int) + r.f1) = ((p + n : Nat) : Int) := by unfold wrap64; omega
    simp only [someTo]
    rw [hw]
    
    have hN : wrap64 ((if (b : Int) < ((p + n : Nat) : Int) then (b : Int) else ((p + n : Nat) : Int)) - (if (p : Int) < (a : Int) then (a : Int) else (p : Int))) = (min b (p + n) : Nat) - (max p a : Nat) := by
      unfold wrap64
      split <;> split <;> omega
    rw [hN]
    have hsplit : (((List.replicate n r.f0) ++ bytes l).take (b - p)).drop (a - p) = List.replicate (min b (p + n) - max p a) r.f0 ++ ((bytes l).take (b - (p + n))).drop (a - (p + n)) := by
      rw [List.take_append, List.drop_append, List.length_take, List.length_replicate, List.take_replicate, List.drop_replicate]
      congr 1
      · congr 1; omega
      · by_cases hbp : b ≤ p + n
        · rw [show b - p - n = 0 by omega, show b - (p + n) = 0 by omega]; simp
        · rw [show b - p - n = b - (p + n) by omega, show a - p - min (b - p) n = a - (p + n) by omega]
    rw [hsplit, packTo_append]
    by_cases hle : max p a ≤ min b (p + n)
    · rw [show ((min b (p + n) : Nat) : Int) - ((max p a : Nat) : Int) = ((min b (p + n) - max p a : Nat) : Int) by omega]
      rw [addRun_pack acc r.f0 _ B hc (by omega)]
      have hc2 := packTo_capped (List.replicate (min b (p + n) - max p a) r.f0) hc hB
      rw [List.length_replicate] at hc2
      exact ih (p + n) _ _ (fun r hr => h0 r (List.mem_cons_of_mem _ hr)) hc2 (by omega) (by omega) (by push_cast; omega) ha hb
    · rw [addRun_small _ _ (by show ((min b (p + n) : Nat) : Int) - ((max p a : Nat) : Int) < 1; omega), show min b (p + n) - max p a = 0 by omega]
      exact ih (p + n) acc B (fun r hr => h0 r (List.mem_cons_of_mem _ hr)) hc hB (by omega) (by push_cast; omega) ha hb
theorem totF_bytes (l : List S100) : ∀ n : Int, 0 ≤ n → totF l n ≤ 4096 → totF l n = n + (bytes l).length := by
  induction l with
  | nil => intro n _ h; simp [totF, bytes]
  | cons r l ih =>
    intro n h0 h
    simp only [totF] at h ⊢
    split at h
    · omega
    · rename_i hc
      rw [if_neg hc]
      rw [ih _ (by split <;> omega) h, bytes_cons, List.length_append, List.length_replicate]
      push_cast
      split <;> omega
theorem tot_bytes {l : List S100} (h : tot l ≤ 4096) : tot l = (bytes l).length := by
  have := totF_bytes l 0 (by omega) h
  unfold tot
  omega
theorem tot_of_bytes {l : List S100} (h0 : ∀ r ∈ l, 0 ≤ r.f1) (h : (bytes l).length ≤ 4096) : tot l = (bytes l).length := by
  have : ∀ (l : List S100) (n : Int), 0 ≤ n → (∀ r ∈ l, 0 ≤ r.f1) → n + (bytes l).length ≤ 4096 → totF l n = n + (bytes l).length := by
    intro l
    induction l with
    | nil => intro n _ _ _; simp [totF, bytes]
    | cons r l ih =>
      intro n hn h0 h
      have hr := h0 r List.mem_cons_self
      rw [bytes_cons, List.length_append, List.length_replicate] at h ⊢
      push_cast at h ⊢
      simp only [totF]
      rw [if_neg (by omega), if_neg (by omega), ih _ (by omega) (fun r hr => h0 r (List.mem_cons_of_mem _ hr)) (by omega)]
      omega
  have := this l 0 (by omega) h0 (by omega)
  unfold tot
  omega
def nrm : List S100 → Prop
  | [] => True
  | [r] => 1 ≤ r.f1
  | r :: s :: l => 1 ≤ r.f1 ∧ r.f0 ≠ s.f0 ∧ nrm (s :: l)
theorem nrm_tail {r : S100} {l : List S100} (h : nrm (r :: l)) : nrm l := by
  cases l with
  | nil => trivial
  | cons s l => exact h.2.2
theorem nrm_head {r : S100} {l : List S100} (h : nrm (r :: l)) : 1 ≤ r.f1 := by
  cases l with
  | nil => exact h
  | cons s l => exact h.1
theorem nrm_pos {l : List S100} (h : nrm l) : ∀ r ∈ l, 1 ≤ r.f1 := by
  induction l with
  | nil => intro r hr; cases hr
  | cons s l ih =>
    intro r hr
    rcases List.mem_cons.1 hr with rfl | hr
    · exact nrm_head h
    · exact ih (nrm_tail h) r hr
theorem nrm_snoc {pre : List S100} {q r : S100} : nrm (pre ++ [q]) → q.f0 ≠ r.f0 → 1 ≤ r.f1 → nrm (pre ++ [q] ++ [r]) := by
  induction pre with
  | nil => intro h h1 h2; exact ⟨h, h1, h2⟩
  | cons p pre ih =>
    intro h h1 h2
    cases pre with
    | nil => exact ⟨h.1, h.2.1, ih h.2.2 h1 h2⟩
    | cons s pre => exact ⟨h.1, h.2.1, ih h.2.2 h1 h2⟩
theorem nrm_last {pre : List S100} {q q' : S100} : nrm (pre ++ [q]) → q'.f0 = q.f0 → 1 ≤ q'.f1 → nrm (pre ++ [q']) := by
  induction pre with
  | nil => intro h h1 h2; exact h2
  | cons p pre ih =>
    intro h h1 h2
    cases pre with
    | nil => exact ⟨h.1, by rw [h1]; exact h.2.1, h2⟩
    | cons s pre => exact ⟨h.1, h.2.1, ih h.2.2 h1 h2⟩
theorem step1_nrm {acc : List S100} (h : nrm acc) (x : Int) : nrm (step1 acc x) := by
  rcases snoc_cases acc with rfl | ⟨pre, q, rfl⟩
  · rw [step1_nil]; show (1 : Int) ≤ 1; omega
  · by_cases he : q.f0 = x
    · subst he
      rw [step1_same]
      exact nrm_last h rfl (by have := nrm_pos h q (by simp); show 1 ≤ q.f1 + 1; omega)
    · rw [step1_other _ _ _ he]
      exact nrm_snoc h he (by show (1 : Int) ≤ 1; omega)
theorem packTo_nrm (b : List Int) : ∀ {acc : List S100}, nrm acc → nrm (packTo acc b) := by
  induction b with
  | nil => intro acc h; exact h
  | cons x b ih => intro acc h; exact ih (step1_nrm h x)
theorem pack_nrm (b : List Int) : nrm (pack b) := packTo_nrm b trivial
theorem step1_bytes {acc : List S100} (h : nrm acc) (x : Int) : bytes (step1 acc x) = bytes acc ++ [x] := by
  rcases snoc_cases acc with rfl | ⟨pre, q, rfl⟩
  · rw [step1_nil]; simp [bytes]
  · by_cases he : q.f0 = x
    · subst he
      have := nrm_pos h q (by simp)
      rw [step1_same, bytes_append, bytes_append, List.append_assoc]
      congr 1
      simp only [bytes, List.flatMap_cons, List.flatMap_nil, List.append_nil]
      rw [show (q.f1 + 1).toNat = q.f1.toNat + 1 by omega, List.replicate_succ']
    · rw [step1_other _ _ _ he, bytes_append]
      congr 1
theorem packTo_bytes (b : List Int) : ∀ {acc : List S100}, nrm acc → bytes (packTo acc b) = bytes acc ++ b := by
  induction b with
  | nil => intro acc h; simp [packTo]
  | cons x b ih =>
    intro acc h
    show bytes (packTo (step1 acc x) b) = _
    rw [ih (step1_nrm h x), step1_bytes h, List.append_assoc]
    rfl
theorem pack_bytes (b : List Int) : bytes (pack b) = b := by
  unfold pack
  rw [packTo_bytes b (acc := []) trivial]
  simp [bytes]
theorem packTo_normal (l : List S100) : ∀ (pre : List S100) (q : S100), nrm (q :: l) → packTo (pre ++ [q]) (bytes l) = pre ++ q :: l := by
  induction l with
  | nil => intro pre q _; simp [bytes, packTo]
  | cons s l ih =>
    intro pre q h
    have hs := nrm_head (nrm_tail h)
    obtain ⟨n, hn⟩ : ∃ n : Nat, s.f1 = ((n + 1 : Nat) : Int) := ⟨(s.f1 - 1).toNat, by omega⟩
    rw [bytes_cons, packTo_append, hn, Int.toNat_natCast, List.replicate_succ]
    show packTo (packTo (step1 (pre ++ [q]) s.f0) _) _ = _
    rw [step1_other _ _ _ h.2.1, packTo_rep_same]
    have e : (⟨s.f0, 1 + (n : Int)⟩ : S100) = s := by
      cases s
      simp only at hn
      subst hn
      congr 1
      push_cast
      omega
    rw [e, ih (pre ++ [q]) s (nrm_tail h)]
    simp
theorem pack_of_nrm {l : List S100} (h : nrm l) : pack (bytes l) = l := by
  cases l with
  | nil => rfl
  | cons s l =>
    have hs := nrm_head h
    obtain ⟨n, hn⟩ : ∃ n : Nat, s.f1 = ((n + 1 : Nat) : Int) := ⟨(s.f1 - 1).toNat, by omega⟩
    unfold pack
    rw [bytes_cons, packTo_append, hn, Int.toNat_natCast, List.replicate_succ]
    show packTo (packTo (step1 [] s.f0) _) _ = _
    rw [step1_nil, ← List.nil_append [(⟨s.f0, 1⟩ : S100)], packTo_rep_same]
    have e : (⟨s.f0, 1 + (n : Int)⟩ : S100) = s := by
      cases s
      simp only at hn
      subst hn
      congr 1
      push_cast
      omega
    rw [e, packTo_normal l [] s h]
    rfl
instance nrmDec : (l : List S100) → Decidable (nrm l)
  | [] => isTrue trivial
  | [r] => inferInstanceAs (Decidable (1 ≤ r.f1))
  | r :: s :: l => by
    have := nrmDec (s :: l)
    exact inferInstanceAs (Decidable (1 ≤ r.f1 ∧ r.f0 ≠ s.f0 ∧ nrm (s :: l)))
def good (l : List S100) : Bool := decide (nrm l) && decide (tot l ≤ 4096)
end Go.Proofs.Ythpjagblnddjaaa.PB
end

section
namespace Go.Proofs.Ythpjagblnddjaaa.PB
open Go.Proofs.YthpjagblnddjaaaW.PrintWords
theorem Ev.pos {α : Type} {c : Prop} [Decidable c] {A B : Nat → Option α} {r : α} (h : c) (k : Ev A r) : Ev (fun n => if c then A n else B n) r := by
  obtain ⟨K, hK⟩ := k
  exact ⟨K, fun n hn => by show (if c then A n else B n) = _; rw [if_pos h]; exact hK n hn⟩
theorem Ev.neg {α : Type} {c : Prop} [Decidable c] {A B : Nat → Option α} {r : α} (h : ¬ c) (k : Ev B r) : Ev (fun n => if c then A n else B n) r := by
  obtain ⟨K, hK⟩ := k
  exact ⟨K, fun n hn => by show (if c then A n else B n) = _; rw [if_neg h]; exact hK n hn⟩
theorem Ev.ite {α : Type} {c : Prop} [Decidable c] {A B : Nat → Option α} {r s : α} (h1 : c → Ev A r) (h2 : ¬ c → Ev B s) : Ev (fun n => if c then A n else B n) (if c then r else s) := by
  by_cases h : c
  · rw [if_pos h]; exact Ev.pos h (h1 h)
  · rw [if_neg h]; exact Ev.neg h (h2 h)
theorem Ev.ite' {α : Type} {c : Prop} [Decidable c] {A B : Nat → Option α} {r : α} (h1 : c → Ev A r) (h2 : ¬ c → Ev B r) : Ev (fun n => if c then A n else B n) r := by
  by_cases h : c
  · exact Ev.pos h (h1 h)
  · exact Ev.neg h (h2 h)
theorem ev_val {α : Type} {g : Nat → Option α} {a b : α} (h : Ev g a) (e : a = b) : Ev g b := e ▸ h
end Go.Proofs.Ythpjagblnddjaaa.PB
end

section
namespace Go.Proofs.Ythpjagblnddjaaa.PB
open Go.RowKit Go.Proofs.YthpjagblnddjaaaW.PrintWords
set_option linter.unusedVariables false
instance : DecidableEq S100 := fun a b => decidable_of_iff (a.f0 = b.f0 ∧ a.f1 = b.f1) (by cases a; cases b; simp)
theorem rdT (l : List S100) (i : Nat) : rd_T100 l (i : Int) = l.getD i z100 := by unfold rd_T100; rw [Int.toNat_natCast]
theorem dropT {l : List S100} {i : Nat} (h : i < l.length) : l.drop i = l.getD i z100 :: l.drop (i + 1) := by
  rw [List.drop_eq_getElem_cons h, List.getD_eq_getElem?_getD, List.getElem?_eq_getElem h]; rfl
theorem w1 {i n : Nat} (h : i < n) (hn : n ≤ 1000000000000000) : wrap64 ((i : Int) + 1) = ((i + 1 : Nat) : Int) := by unfold wrap64; omega
abbrev big : Nat := 1000000000000
theorem total_ev (l : List S100) (hl : l.length ≤ big) : Ev (fun k => runs_Total.f k l) (tot l) := by
  unfold big at hl
  have loop : ∀ (d i : Nat) (n : Int), i + d = l.length → 0 ≤ n → n ≤ 4096 → Ev (fun k => runs_Total.l0 k n l (l.length : Int) (i : Int)) (totF (l.drop i) n) := by
    intro d
    induction d with
    | zero =>
      intro i n hi h0 h1
      refine Ev.step (fun k => by simp only [runs_Total.l0]; rfl) ?_
      refine Ev.neg (by omega) ?_
      rw [List.drop_eq_nil_of_le (by omega)]
      exact Ev.now _
    | succ d ih =>
      intro i n hi h0 h1
      have hlt : i < l.length := by omega
      refine Ev.step (fun k => by simp only [runs_Total.l0]; rfl) ?_
      refine Ev.pos (by omega) (Ev.pos (by omega) (Ev.pos (by omega) ?_))
      rw [dropT hlt, rdT]
      simp only [totF]
      rw [show wrap64 (4096 - n) = 4096 - n by unfold wrap64; omega]
      refine Ev.ite (fun _ => Ev.now _) (fun hc => ?_)
      have hm : wrap64 (n + mx (l.getD i z100).f1 0) = n + (if (l.getD i z100).f1 < 0 then 0 else (l.getD i z100).f1) := by
        unfold mx wrap64
        split <;> omega
      rw [hm, w1 hlt (by omega)]
      exact ih (i + 1) _ (by omega) (by split <;> omega) (by split <;> omega)
  exact loop l.length 0 0 (by omega) (by omega) (by omega)
theorem same_ev (a b : List S100) (hl : a.length ≤ big) : Ev (fun k => bureauref03_Same.f k a b) (decide (a = b)) := by
  unfold big at hl
  unfold bureauref03_Same.f
  by_cases hab : a.length = b.length
  · refine Ev.pos (by omega) ?_
    have loop : ∀ (d i : Nat), i + d = a.length → Ev (fun k => bureauref03_Same.l0 k a b (i : Int)) (decide (a.drop i = b.drop i)) := by
      intro d
      induction d with
      | zero =>
        intro i hi
        refine Ev.step (fun k => by simp only [bureauref03_Same.l0]; rfl) ?_
        refine Ev.neg (by omega) ?_
        rw [List.drop_eq_nil_of_le (by omega), List.drop_eq_nil_of_le (by omega)]
        exact Ev.now _
      | succ d ih =>
        intro i hi
        have hlt : i < a.length := by omega
        refine Ev.step (fun k => by simp only [bureauref03_Same.l0]; rfl) ?_
        refine Ev.pos (by omega) (Ev.pos (by omega) (Ev.pos (by omega) ?_))
        rw [dropT hlt, dropT (show i < b.length by omega), rdT, rdT, w1 hlt (by omega)]
        by_cases he : a.getD i z100 = b.getD i z100
        · rw [he]
          refine Ev.neg (by simp) ?_
          exact ev_val (ih (i + 1) (by omega)) (by simp)
        · refine Ev.pos ?_ ?_
          · have : ¬ ((a.getD i z100).f0 = (b.getD i z100).f0 ∧ (a.getD i z100).f1 = (b.getD i z100).f1) := fun h => he (by
              cases hx : a.getD i z100; cases hy : b.getD i z100; rw [hx, hy] at h; simp at h; rw [h.1, h.2])
            simp only [Bool.or_eq_true, Bool.not_eq_true', beq_eq_false_iff_ne]
            by_cases h1 : (a.getD i z100).f0 = (b.getD i z100).f0
            · exact .inr (fun h2 => this ⟨h1, h2⟩)
            · exact .inl h1
          · exact ev_val (Ev.now _) (by simp; intro h; exact absurd h he)
    exact loop a.length 0 (by omega)
  · refine Ev.neg (by omega) ?_
    exact ev_val (Ev.now _) (by simp; intro h; exact hab (by rw [h]))
theorem good_ev (l : List S100) (hl : l.length ≤ big) : Ev (fun k => runs_Good.f k l) (good l) := by
  have ht := total_ev l hl
  unfold big at hl
  have loop : ∀ (d i : Nat), i + d = l.length → ∀ b : Bool, (b = true ↔ ((0 < i → i < l.length → (l.getD (i - 1) z100).f0 ≠ (l.getD i z100).f0) ∧ nrm (l.drop i) ∧ tot l ≤ 4096)) → Ev (fun k => runs_Good.l0 k l l (l.length : Int) (i : Int)) b := by
    intro d
    induction d with
    | zero =>
      intro i hi b hb
      refine Ev.step (fun k => by simp only [runs_Good.l0]; rfl) ?_
      refine Ev.neg (by omega) ?_
      rw [List.drop_eq_nil_of_le (by omega)] at hb
      refine Ev.bind ht (ev_val (Ev.now _) ?_)
      rw [Bool.eq_iff_iff, hb, decide_eq_true_iff]
      exact ⟨fun h => ⟨fun _ h2 => absurd h2 (by omega), trivial, h⟩, fun h => h.2.2⟩
    | succ d ih =>
      intro i hi b hb
      have hlt : i < l.length := by omega
      have hn : nrm (l.drop i) ↔ 1 ≤ (l.getD i z100).f1 ∧ (i + 1 < l.length → (l.getD i z100).f0 ≠ (l.getD (i + 1) z100).f0) ∧ nrm (l.drop (i + 1)) := by
        rw [dropT hlt]
        by_cases h2 : i + 1 < l.length
        · rw [dropT h2]
          exact ⟨fun h => ⟨h.1, fun _ => h.2.1, h.2.2⟩, fun h => ⟨h.1, h.2.1 h2, h.2.2⟩⟩
        · rw [List.drop_eq_nil_of_le (show l.length ≤ i + 1 by omega)]
          exact ⟨fun h => ⟨h, fun h3 => absurd h3 h2, trivial⟩, fun h => h.1⟩
      refine Ev.step (fun k => by simp only [runs_Good.l0]; rfl) ?_
      refine Ev.pos (by omega) (Ev.pos (by omega) (Ev.pos (by omega) ?_))
      rw [rdT, w1 hlt (by omega)]
      by_cases h1 : (l.getD i z100).f1 < 1
      · refine Ev.pos h1 (ev_val (Ev.now _) ?_)
        rw [Bool.eq_iff_iff, hb, hn]
        exact ⟨fun h => (by cases h), fun h => (by have := h.2.1.1; omega)⟩
      · refine Ev.neg h1 ?_
        have hrest : ∀ b' : Bool, (b' = true ↔ (nrm (l.drop i) ∧ tot l ≤ 4096)) → Ev (fun k => runs_Good.l0 k l l (l.length : Int) ((i + 1 : Nat) : Int)) b' := fun b' hb' => ih (i + 1) (by omega) b' (by
          rw [hb', hn, show i + 1 - 1 = i by omega]
          exact ⟨fun h => ⟨fun _ => h.1.2.1, h.1.2.2, h.2⟩, fun h => ⟨⟨by omega, h.1 (by omega), h.2.1⟩, h.2.2⟩⟩)
        by_cases h0 : 0 < i
        · refine Ev.pos (by omega) ?_
          rw [show wrap64 ((i : Int) - 1) = ((i - 1 : Nat) : Int) by unfold wrap64; omega]
          refine Ev.pos (by omega) (Ev.pos (by omega) ?_)
          rw [rdT]
          by_cases he : (l.getD (i - 1) z100).f0 = (l.getD i z100).f0
          · refine Ev.pos he (ev_val (Ev.now _) ?_)
            rw [Bool.eq_iff_iff, hb]
            exact ⟨fun h => (by cases h), fun h => absurd he (h.1 h0 hlt)⟩
          · refine Ev.neg he (hrest b ?_)
            rw [hb]
            exact ⟨fun h => h.2, fun h => ⟨fun _ _ => he, h⟩⟩
        · refine Ev.neg (by omega) (hrest b ?_)
          rw [hb]
          exact ⟨fun h => h.2, fun h => ⟨fun h3 => absurd h3 h0, h⟩⟩
  refine loop l.length 0 (by omega) (good l) ?_
  simp [good]
end Go.Proofs.Ythpjagblnddjaaa.PB
end

section
namespace Go.Proofs.Ythpjagblnddjaaa.Opn
open Go.ChangeShapes Go.WideShapes Go.Deep Go.Proofs.YthpjagblnddjaaaW.PrintWords
set_option linter.unusedVariables false
def Opn {α : Type} (P : Program) (w : World) (t : TypeId) (d : Kd α) (wf : α → Prop) : Prop :=
  ∀ (H : Type) (enc : TypeId × Value → H) (base : Nat) (spare : Nat → Bool) (held : Bool) (fuel : Nat) (cs : List Value) (x : DataW H × List MemPlace),
    DataW.trod enc P w base spare held fuel t cs = some x → (∀ n ∈ x.1.weights P t, n ≤ reachBytes) → ∃ a : α, d.K w a cs ∧ wf a
section
variable {P : Program} {w : World}
theorem int {t : TypeId} {k : IntKind} (hu : P.underlying t = some (.int k)) : Opn P w t (Kd.int k) (fun n => (Lit.int k n).wf = true) := by
  intro H enc base spare held fuel cs x h _
  obtain ⟨n, rfl, _, hw⟩ := DataW.trod_int hu h
  exact ⟨n, rfl, hw⟩
theorem bool {t : TypeId} (hu : P.underlying t = some .bool) : Opn P w t Kd.bool (fun _ => True) := by
  intro H enc base spare held fuel cs x h _
  obtain ⟨b, rfl, _⟩ := DataW.trod_bool hu h
  exact ⟨b, rfl, trivial⟩
theorem string {t : TypeId} (hu : P.underlying t = some .string) : Opn P w t Kd.string (fun s => s.size ≤ 140737488351232) := by
  intro H enc base spare held fuel cs x h hz
  obtain ⟨s, rfl, rfl, _⟩ := DataW.trod_string hu h
  refine ⟨s, rfl, ?_⟩
  have := hz s.data.toList.length (by simp [DataW.weights])
  rw [data_length] at this
  exact this
theorem weightsAll_mem {H : Type} {e : TypeId} : ∀ {ds : List (DataW H)} {d : DataW H}, d ∈ ds → ∀ n ∈ d.weights P e, n ∈ DataW.weightsAll P e ds
  | d0 :: ds, d, hd, n, hn => by
    simp only [DataW.weightsAll, List.mem_append]
    rcases List.mem_cons.1 hd with rfl | hd
    · exact .inl hn
    · exact .inr (weightsAll_mem hd n hn)
theorem slice {α : Type} {t e : TypeId} {d : Kd α} {wf : α → Prop} (hu : P.underlying t = some (.slice e)) (hc : P.cellsOf e = d.sz) {B : Nat} (hB : P.bytesOf e = B) (ho : Opn P w e d wf) :
    Opn P w t (Kd.slice e d) (fun xs => xs.length * B ≤ 140737488351232 ∧ ∀ x ∈ xs, wf x) := by
  intro H enc base spare held fuel cs x h hz
  rcases open_slice hu h with ⟨rfl, rfl⟩ | ⟨a, len, cap, m, n, D, Pl, rfl, hb, hl, hm, hmm, rfl, hel⟩
  · exact ⟨[], ⟨none, 0, rfl, Nat.le_refl _, Kd.C_nil _ _⟩, by simp, by intro x hx; cases hx⟩
  · simp only [DataW.weights, hu, List.mem_cons, List.mem_append] at hz
    have hlm : len ≤ m := by rw [hmm]; split <;> omega
    have hall : ∀ i, i < len → ∃ a' : α, (∃ cs', w.cells? base (a.add (i * P.cellsOf e)) (P.cellsOf e) = some cs' ∧ d.K w a' cs') ∧ wf a' := fun i hi => by
      obtain ⟨cs', h1, h2⟩ := hel i (by omega)
      obtain ⟨a', h3, h4⟩ := ho H enc base spare held n cs' _ h2 (fun q hq => hz q (.inr (.inl (weightsAll_mem (List.mem_map.2 ⟨i, List.mem_range.2 hi, rfl⟩) q hq))))
      exact ⟨a', ⟨cs', h1, h3⟩, h4⟩
    obtain ⟨xs, hxs, hx⟩ : ∃ xs : List α, xs.length = len ∧ ∀ i, ∀ h : i < xs.length, (∃ cs', w.cells? base (a.add (i * P.cellsOf e)) (P.cellsOf e) = some cs' ∧ d.K w xs[i] cs') ∧ wf xs[i] := by
      clear hz hel hlm hmm hm hl h
      induction len with
      | zero => exact ⟨[], rfl, fun i h => absurd h (by simp)⟩
      | succ q ih =>
        obtain ⟨xs, h1, h2⟩ := ih (fun i hi => hall i (by omega))
        obtain ⟨a', h3⟩ := hall q (by omega)
        refine ⟨xs ++ [a'], by simp [h1], fun i h => ?_⟩
        by_cases hi : i < xs.length
        · rw [List.getElem_append_left hi]; exact h2 i hi
        · have : i = q := by simp at h; omega
          subst this
          rw [List.getElem_append_right (by omega)]
          simpa using h3
    refine ⟨xs, ⟨some a, cap, by rw [hxs], by omega, rfl, by have : cap ≤ 9223372036854775807 := hm; omega, fun hp => ⟨a, rfl, fun i p hp => ?_⟩⟩, ?_, ?_⟩
    · have hi : i < xs.length := (List.getElem?_eq_some_iff.1 hp).1
      have hpe : p = xs[i] := by rw [List.getElem?_eq_getElem hi] at hp; exact (Option.some.inj hp).symm
      obtain ⟨⟨cs', h1, h2⟩, _⟩ := hx i hi
      rw [hc] at h1
      obtain ⟨_, hcl, hat⟩ := World.cells?_some h1
      refine ⟨cs', by rw [hcl], by rw [hpe]; exact h2, fun j u hu => ?_⟩
      have hj : j < d.sz := by have := (List.getElem?_eq_some_iff.1 hu).1; omega
      have := hat j hj
      rw [← Go.Deep.add_add, this, hu]
    · have := hz _ (.inl rfl)
      rw [hB] at this
      simp only [List.length_map, List.length_range] at this
      rw [hxs]
      exact Nat.le_trans (Nat.mul_le_mul_right _ (by omega)) this
    · intro x hxm
      obtain ⟨i, hi, rfl⟩ := List.mem_iff_getElem.1 hxm
      exact (hx i hi).2
end
end Go.Proofs.Ythpjagblnddjaaa.Opn
end

section
namespace Go.Proofs.Ythpjagblnddjaaa.PB
open Go.ChangeShapes Go.WideShapes Go.Proofs.Ythpjagblnddjaaa Go.Proofs.YthpjagblnddjaaaW.PrintWords
set_option linter.unusedVariables false
def wf100 (x : S100) : Prop := ((Lit.int .u64 x.f0).wf = true) ∧ ((Lit.int .i64 x.f1).wf = true)
theorem opn100 {w : World} : Opn.Opn Try.prog w 100 k100 wf100 := by
  intro H enc base spare held fuel cs x h hz
  obtain ⟨xs, n, _, rfl, hlen, hyl, hf⟩ := DataW.trod_struct Try.underlying100 h
  have hcl : cs.length = 2 := hlen.trans (by kernel_rfl)
  obtain ⟨y0, y1, rfl⟩ : ∃ y0 y1, xs = [y0, y1] := by
    clear h hz hf hlen hcl; have hyl' : xs.length = 2 := hyl; clear hyl
    match xs, hyl' with | [y0, y1], _ => exact ⟨y0, y1, rfl⟩
  obtain ⟨c0, c1, rfl⟩ : ∃ c0 c1, cs = [c0, c1] := by
    clear h hz hf hlen hyl
    match cs, hcl with | [c0, c1], _ => exact ⟨c0, c1, rfl⟩
  simp only [DataW.weights, Try.underlying100] at hz
  have h0 : DataW.trod enc Try.prog w base spare held n 36 [c0] = some y0 := by have z := hf 0 _ rfl; rwa [show Try.prog.cellsOf _ = 1 from by kernel_rfl] at z
  obtain ⟨a0, k0_, w0⟩ := (Opn.int Try.underlying36) H enc base spare held n _ _ h0 (fun q hq => hz q (by simp [DataW.weightsEach, hq]))
  have h1 : DataW.trod enc Try.prog w base spare held n 3 [c1] = some y1 := by have z := hf 1 _ rfl; rwa [show Try.prog.cellsOf _ = 1 from by kernel_rfl] at z
  obtain ⟨a1, k1_, w1⟩ := (Opn.int Try.underlying3) H enc base spare held n _ _ h1 (fun q hq => hz q (by simp [DataW.weightsEach, hq]))
  exact ⟨⟨a0, a1⟩, ⟨_, _, rfl, k0_, k1_⟩, w0, w1⟩
def wf51 (x : S51) : Prop := (x.f0.size ≤ 140737488351232) ∧ (x.f1.length * 16 ≤ 140737488351232 ∧ ∀ x_ ∈ x.f1, wf100 x_)
theorem opn51 {w : World} : Opn.Opn Try.prog w 51 k51 wf51 := by
  intro H enc base spare held fuel cs x h hz
  obtain ⟨xs, n, _, rfl, hlen, hyl, hf⟩ := DataW.trod_struct Try.underlying51 h
  have hcl : cs.length = 2 := hlen.trans (by kernel_rfl)
  obtain ⟨y0, y1, rfl⟩ : ∃ y0 y1, xs = [y0, y1] := by
    clear h hz hf hlen hcl; have hyl' : xs.length = 2 := hyl; clear hyl
    match xs, hyl' with | [y0, y1], _ => exact ⟨y0, y1, rfl⟩
  obtain ⟨c0, c1, rfl⟩ : ∃ c0 c1, cs = [c0, c1] := by
    clear h hz hf hlen hyl
    match cs, hcl with | [c0, c1], _ => exact ⟨c0, c1, rfl⟩
  simp only [DataW.weights, Try.underlying51] at hz
  have h0 : DataW.trod enc Try.prog w base spare held n 9 [c0] = some y0 := by have z := hf 0 _ rfl; rwa [show Try.prog.cellsOf _ = 1 from by kernel_rfl] at z
  obtain ⟨a0, k0_, w0⟩ := (Opn.string Try.underlying9) H enc base spare held n _ _ h0 (fun q hq => hz q (by simp [DataW.weightsEach, hq]))
  have h1 : DataW.trod enc Try.prog w base spare held n 22 [c1] = some y1 := by have z := hf 1 _ rfl; rwa [show Try.prog.cellsOf _ = 1 from by kernel_rfl] at z
  obtain ⟨a1, k1_, w1⟩ := (Opn.slice Try.underlying22 (by kernel_rfl) (by kernel_rfl : Try.prog.bytesOf 100 = 16) opn100) H enc base spare held n _ _ h1 (fun q hq => hz q (by simp [DataW.weightsEach, hq]))
  exact ⟨⟨a0, a1⟩, ⟨_, _, rfl, k0_, k1_⟩, w0, w1⟩
structure S64 where
  f0 : Int
  f1 : S51
  f2 : S51
def k64 : Kd S64 := Kd.iso (Kd.pair (Kd.int .i64) (Kd.pair k51 k51)) (fun x : S64 => (x.f0, x.f1, x.f2))
theorem k64_open {w : World} {x : S64} {cs : List Value} (h : k64.K w x cs) : ∃ A2 c2 A4 c4, cs = [.int .i64 x.f0, .string x.f1.f0, .slice A2 x.f1.f1.length c2, .string x.f2.f0, .slice A4 x.f2.f1.length c4] ∧ x.f1.f1.length ≤ c2 ∧ k100.C w A2 x.f1.f1.length x.f1.f1 ∧ x.f2.f1.length ≤ c4 ∧ k100.C w A4 x.f2.f1.length x.f2.f1 := by
  obtain ⟨_, _, rfl, rfl, ⟨_, _, rfl, s1, s3⟩⟩ := h
  obtain ⟨A2, c2, rfl, l2, g2⟩ := k51_open s1
  obtain ⟨A4, c4, rfl, l4, g4⟩ := k51_open s3
  exact ⟨A2, c2, A4, c4, rfl, l2, g2, l4, g4⟩
def wf64 (x : S64) : Prop := ((Lit.int .i64 x.f0).wf = true) ∧ (wf51 x.f1) ∧ (wf51 x.f2)
theorem opn64 {w : World} : Opn.Opn Try.prog w 64 k64 wf64 := by
  intro H enc base spare held fuel cs x h hz
  obtain ⟨xs, n, _, rfl, hlen, hyl, hf⟩ := DataW.trod_struct Try.underlying64 h
  have hcl : cs.length = 5 := hlen.trans (by kernel_rfl)
  obtain ⟨y0, y1, y2, rfl⟩ : ∃ y0 y1 y2, xs = [y0, y1, y2] := by
    clear h hz hf hlen hcl; have hyl' : xs.length = 3 := hyl; clear hyl
    match xs, hyl' with | [y0, y1, y2], _ => exact ⟨y0, y1, y2, rfl⟩
  obtain ⟨c0, c1, c2, c3, c4, rfl⟩ : ∃ c0 c1 c2 c3 c4, cs = [c0, c1, c2, c3, c4] := by
    clear h hz hf hlen hyl
    match cs, hcl with | [c0, c1, c2, c3, c4], _ => exact ⟨c0, c1, c2, c3, c4, rfl⟩
  simp only [DataW.weights, Try.underlying64] at hz
  have h0 : DataW.trod enc Try.prog w base spare held n 3 [c0] = some y0 := by have z := hf 0 _ rfl; rwa [show Try.prog.cellsOf _ = 1 from by kernel_rfl] at z
  obtain ⟨a0, k0_, w0⟩ := (Opn.int Try.underlying3) H enc base spare held n _ _ h0 (fun q hq => hz q (by simp [DataW.weightsEach, hq]))
  have h1 : DataW.trod enc Try.prog w base spare held n 51 [c1, c2] = some y1 := by have z := hf 1 _ rfl; rwa [show Try.prog.cellsOf _ = 2 from by kernel_rfl] at z
  obtain ⟨a1, k1_, w1⟩ := opn51 H enc base spare held n _ _ h1 (fun q hq => hz q (by simp [DataW.weightsEach, hq]))
  have h2 : DataW.trod enc Try.prog w base spare held n 51 [c3, c4] = some y2 := by have z := hf 2 _ rfl; rwa [show Try.prog.cellsOf _ = 2 from by kernel_rfl] at z
  obtain ⟨a2, k2_, w2⟩ := opn51 H enc base spare held n _ _ h2 (fun q hq => hz q (by simp [DataW.weightsEach, hq]))
  exact ⟨⟨a0, a1, a2⟩, ⟨_, _, rfl, k0_, ⟨_, _, rfl, k1_, k2_⟩⟩, w0, w1, w2⟩
end Go.Proofs.Ythpjagblnddjaaa.PB
end

section
namespace Go.Proofs.Ythpjagblnddjaaa.PB
open Go.RowKit Go.Proofs.YthpjagblnddjaaaW.PrintWords
set_option linter.unusedVariables false
theorem capped_nil : capped 0 [] := fun r hr => by cases hr
theorem gather0 (a b : Nat) (l : List S100) (h0 : ∀ r ∈ l, 0 ≤ r.f1) (hl : (bytes l).length ≤ 500000) (ha : a ≤ 500000) (hb : b ≤ 500000) :
    someTo addRun (a : Int) (b : Int) l 0 [] = pack (((bytes l).take b).drop a) := by
  have := someTo_pack a b l 0 [] 0 h0 capped_nil (by omega) (by omega) (by omega) (by omega) (by omega)
  simpa [pack] using this
theorem good_nrm {l : List S100} (h : good l = true) : nrm l ∧ tot l ≤ 4096 := by
  unfold good at h
  simpa using h
theorem nrm_nonneg {l : List S100} (h : nrm l) : ∀ r ∈ l, 0 ≤ r.f1 := fun r hr => by have := nrm_pos h r hr; omega
theorem step1_len (acc : List S100) (x : Int) : (step1 acc x).length ≤ acc.length + 1 := by
  unfold step1
  split
  · simp
  · simp
theorem packTo_len (b : List Int) : ∀ acc : List S100, (packTo acc b).length ≤ acc.length + b.length := by
  induction b with
  | nil => intro acc; simp [packTo]
  | cons x b ih => intro acc; have h1 := ih (step1 acc x); have h2 := step1_len acc x; show (packTo (step1 acc x) b).length ≤ _; rw [List.length_cons]; omega
theorem pack_len (b : List Int) : (pack b).length ≤ b.length := by have := packTo_len b []; simpa [pack] using this
end Go.Proofs.Ythpjagblnddjaaa.PB
end

section
namespace Go.Proofs.Ythpjagblnddjaaa.PB
open Go.RowKit Go.Proofs.YthpjagblnddjaaaW.PrintWords
set_option linter.unusedVariables false
def withinB (l : List S100) (a b : Int) : Bool := good l && (decide (0 ≤ a) && (decide (a ≤ b) && decide (b ≤ tot l)))
theorem withinB_iff {l : List S100} {a b : Int} : withinB l a b = true ↔ good l = true ∧ 0 ≤ a ∧ a ≤ b ∧ b ≤ tot l := by simp [withinB]
theorem within_ev (l : List S100) (hl : l.length ≤ big) (a b : Int) : Ev (fun k => runs_within.f k l a b) (withinB l a b) := by
  unfold runs_within.f
  refine Ev.bind (good_ev l hl) ?_
  by_cases hg : good l = true
  · refine Ev.pos hg ?_
    by_cases h0 : a ≥ 0
    · refine Ev.pos h0 ?_
      by_cases h1 : a ≤ b
      · refine Ev.pos h1 (Ev.bind (total_ev l hl) (ev_val (Ev.now _) ?_))
        simp [withinB, hg, h1, show 0 ≤ a from h0]
      · exact Ev.neg h1 (ev_val (Ev.now _) (by simp [withinB, h1]))
    · exact Ev.neg h0 (ev_val (Ev.now _) (by simp [withinB]; intro _ h; omega))
  · exact Ev.neg hg (ev_val (Ev.now _) (by simp [withinB, hg]))
theorem within_facts {l : List S100} {a b : Int} (h : withinB l a b = true) : ∃ i j : Nat, a = i ∧ b = j ∧ i ≤ j ∧ j ≤ (bytes l).length ∧ (bytes l).length ≤ 4096 ∧ nrm l ∧ tot l = (bytes l).length := by
  obtain ⟨hg, h0, h1, h2⟩ := withinB_iff.1 h
  obtain ⟨hn, ht⟩ := good_nrm hg
  have hb := tot_bytes ht
  obtain ⟨i, rfl⟩ := Int.eq_ofNat_of_zero_le h0
  obtain ⟨j, rfl⟩ := Int.eq_ofNat_of_zero_le (show 0 ≤ b by omega)
  exact ⟨i, j, rfl, rfl, by omega, by omega, by omega, hn, hb⟩
def sliceS (l : List S100) (a b : Int) : List S100 × Int := if withinB l a b = true then (pack (((bytes l).take b.toNat).drop a.toNat), 0) else ([], 2)
theorem slice_ev (l : List S100) (hl : l.length ≤ big) (a b : Int) : Ev (fun k => runs_Slice.f k l a b) (sliceS l a b) := by
  unfold runs_Slice.f sliceS
  refine Ev.bind (within_ev l hl a b) ?_
  refine Ev.ite (fun hw => ?_) (fun _ => Ev.now _)
  obtain ⟨i, j, rfl, rfl, hij, hj, h4, hn, _⟩ := within_facts hw
  unfold big at hl
  refine Ev.pos (by omega) (ev_val (Ev.now _) ?_)
  rw [gather0 i j l (nrm_nonneg hn) (by omega) (by omega) (by omega)]
  rfl
def spliceS (l : List S100) (a b : Int) (m : List S100) : List S100 × Int :=
  if withinB l a b = true then (if good m = true then (if tot l - (b - a) + tot m > 4096 then ([], 3) else (pack ((bytes l).take a.toNat ++ bytes m ++ (bytes l).drop b.toNat), 0)) else ([], 2)) else ([], 2)
theorem good_facts {m : List S100} (h : good m = true) : nrm m ∧ (bytes m).length ≤ 4096 ∧ tot m = (bytes m).length := by
  obtain ⟨hn, ht⟩ := good_nrm h
  have hb := tot_bytes ht
  exact ⟨hn, by omega, hb⟩
theorem spliceRuns_pack (l m : List S100) (i j : Nat) (hi : i ≤ 4096) (hj : j ≤ 4096) (hl : (bytes l).length ≤ 4096) (hm : (bytes m).length ≤ 4096) (hn : nrm l) (hnm : nrm m) :
    spliceRuns l i j m = pack ((bytes l).take i ++ bytes m ++ (bytes l).drop j) := by
  unfold spliceRuns
  have e1 := someTo_pack 0 i l 0 [] 0 (nrm_nonneg hn) capped_nil (by omega) (by omega) (by omega) (by omega) (by omega)
  rw [show ((0 : Nat) : Int) = 0 from rfl, Nat.sub_zero, Nat.sub_zero, List.drop_zero] at e1
  rw [e1]
  have c1 := packTo_capped ((bytes l).take i) (capped_nil) (show (0 : Int) ≤ 0 by omega)
  have hlen1 : ((bytes l).take i).length ≤ 4096 := by rw [List.length_take]; omega
  have e2 := someTo_pack 0 4096 m 0 _ _ (nrm_nonneg hnm) c1 (by omega) (by omega) (by omega) (by omega) (by omega)
  rw [show ((0 : Nat) : Int) = 0 from rfl, show ((4096 : Nat) : Int) = 4096 from rfl, Nat.sub_zero, Nat.sub_zero, List.drop_zero, List.take_of_length_le hm] at e2
  rw [e2]
  have c2 := packTo_capped (bytes m) c1 (by omega)
  have e3 := someTo_pack j 4096 l 0 _ _ (nrm_nonneg hn) c2 (by omega) (by omega) (by omega) (by omega) (by omega)
  rw [show ((0 : Nat) : Int) = 0 from rfl, show ((4096 : Nat) : Int) = 4096 from rfl, Nat.sub_zero, Nat.sub_zero, List.take_of_length_le hl] at e3
  rw [e3]
  unfold pack
  rw [packTo_append, packTo_append]
theorem splice_ev (l : List S100) (hl : l.length ≤ big) (a b : Int) (m : List S100) (hm : m.length ≤ big) : Ev (fun k => runs_Splice.f k l a b m) (spliceS l a b m) := by
  unfold runs_Splice.f spliceS
  refine Ev.bind (within_ev l hl a b) ?_
  refine Ev.ite (fun hw => ?_) (fun _ => Ev.now _)
  refine Ev.bind (good_ev m hm) ?_
  refine Ev.ite (fun hg => ?_) (fun _ => Ev.now _)
  refine Ev.bind (total_ev l hl) (Ev.bind (total_ev m hm) ?_)
  obtain ⟨i, j, rfl, rfl, hij, hj, h4, hn, ht⟩ := within_facts hw
  obtain ⟨hnm, h4m, htm⟩ := good_facts hg
  rw [show wrap64 (wrap64 (tot l - wrap64 ((j : Int) - (i : Int))) + tot m) = tot l - ((j : Int) - (i : Int)) + tot m by unfold wrap64; omega]
  refine Ev.ite (fun _ => Ev.now _) (fun _ => ?_)
  unfold big at hl hm
  refine Ev.pos (by omega) (ev_val (Ev.now _) ?_)
  rw [spliceRuns_pack l m i j (by omega) (by omega) h4 h4m hn hnm]
  rfl
theorem good_pack {b : List Int} (h : b.length ≤ 4096) : good (pack b) = true ∧ tot (pack b) = b.length := by
  have hn := pack_nrm b
  have ht : tot (pack b) = b.length := by
    rw [tot_of_bytes (nrm_nonneg hn) (by rw [pack_bytes]; exact h), pack_bytes]
  exact ⟨by unfold good; rw [Bool.and_eq_true, decide_eq_true_iff, decide_eq_true_iff]; exact ⟨hn, by omega⟩, ht⟩
end Go.Proofs.Ythpjagblnddjaaa.PB
end

section
namespace Go.Proofs.Ythpjagblnddjaaa.PB
open Go.RowKit Go.Proofs.YthpjagblnddjaaaW.PrintWords
set_option linter.unusedVariables false
theorem run_ev (a b : List S100) (hl : a.length ≤ big) : Ev (fun k => api_Run.f k a b) (decide (a = b)) := by
  unfold big at hl
  unfold api_Run.f
  by_cases hab : a.length = b.length
  · refine Ev.pos (by omega) ?_
    have loop : ∀ (d i : Nat), i + d = a.length → Ev (fun k => api_Run.l0 k a b (a.length : Int) (i : Int)) (decide (a.drop i = b.drop i)) := by
      intro d
      induction d with
      | zero =>
        intro i hi
        refine Ev.step (fun k => by simp only [api_Run.l0]; rfl) ?_
        refine Ev.neg (by omega) ?_
        rw [List.drop_eq_nil_of_le (by omega), List.drop_eq_nil_of_le (by omega)]
        exact Ev.now _
      | succ d ih =>
        intro i hi
        have hlt : i < a.length := by omega
        refine Ev.step (fun k => by simp only [api_Run.l0]; rfl) ?_
        refine Ev.pos (by omega) (Ev.pos (by omega) (Ev.pos (by omega) (Ev.pos (by omega) ?_)))
        rw [dropT hlt, dropT (show i < b.length by omega), rdT, rdT, w1 hlt (by omega)]
        by_cases he : a.getD i z100 = b.getD i z100
        · rw [he]
          refine Ev.neg (by simp) ?_
          exact ev_val (ih (i + 1) (by omega)) (by simp)
        · refine Ev.pos ?_ ?_
          · have : ¬ ((a.getD i z100).f0 = (b.getD i z100).f0 ∧ (a.getD i z100).f1 = (b.getD i z100).f1) := fun h => he (by
              cases hx : a.getD i z100; cases hy : b.getD i z100; rw [hx, hy] at h; simp at h; rw [h.1, h.2])
            simp only [Bool.or_eq_true, Bool.not_eq_true', beq_eq_false_iff_ne]
            by_cases h1 : (a.getD i z100).f0 = (b.getD i z100).f0
            · exact .inr (fun h2 => this ⟨h1, h2⟩)
            · exact .inl h1
          · exact ev_val (Ev.now _) (by simp; intro h; exact absurd h he)
    exact loop a.length 0 (by omega)
  · refine Ev.neg (by omega) ?_
    exact ev_val (Ev.now _) (by simp; intro h; exact hab (by rw [h]))
def goodT (s : ByteArray) (l : List S100) : Bool := good l && decide (tot l = (s.size : Int))
theorem goodT_iff {s : ByteArray} {l : List S100} : goodT s l = true ↔ good l = true ∧ tot l = (s.size : Int) := by simp [goodT]
theorem goodT_facts {s : ByteArray} {l : List S100} (h : goodT s l = true) : good l = true ∧ nrm l ∧ (bytes l).length = s.size ∧ s.size ≤ 4096 ∧ tot l = (s.size : Int) := by
  obtain ⟨h1, h2⟩ := goodT_iff.1 h
  obtain ⟨h3, h4, h5⟩ := good_facts h1
  exact ⟨h1, h3, by omega, by omega, h2⟩
theorem goodT_ev (s : ByteArray) (l : List S100) (hl : l.length ≤ big) : Ev (fun k => strip_Good.f k s l) (goodT s l) := by
  unfold strip_Good.f
  refine Ev.bind (good_ev l hl) ?_
  by_cases hg : good l = true
  · rw [hg]
    exact Ev.pos rfl (Ev.bind (total_ev l hl) (ev_val (Ev.now _) (by rw [Bool.eq_iff_iff]; simp [goodT, hg])))
  · exact Ev.neg hg (ev_val (Ev.now _) (by simp [goodT, hg]))
def withinT (s : ByteArray) (l : List S100) (a b : Int) : Bool := goodT s l && (decide (0 ≤ a) && (decide (a ≤ b) && decide (b ≤ (s.size : Int))))
theorem withinT_iff {s : ByteArray} {l : List S100} {a b : Int} : withinT s l a b = true ↔ goodT s l = true ∧ 0 ≤ a ∧ a ≤ b ∧ b ≤ (s.size : Int) := by simp [withinT]
theorem withinT_ev (s : ByteArray) (l : List S100) (hl : l.length ≤ big) (a b : Int) : Ev (fun k => strip_within.f k s l a b) (withinT s l a b) := by
  unfold strip_within.f
  refine Ev.bind (goodT_ev s l hl) ?_
  by_cases hg : goodT s l = true
  · refine Ev.pos hg ?_
    by_cases h0 : 0 ≤ a
    · refine Ev.pos h0 ?_
      by_cases h1 : a ≤ b
      · exact Ev.pos h1 (ev_val (Ev.now _) (by simp [withinT, hg, h0, h1]))
      · exact Ev.neg h1 (ev_val (Ev.now _) (by simp [withinT, h1]))
    · exact Ev.neg h0 (ev_val (Ev.now _) (by simp [withinT, h0]))
  · exact Ev.neg hg (ev_val (Ev.now _) (by simp [withinT, hg]))
theorem withinT_facts {s : ByteArray} {l : List S100} {a b : Int} (h : withinT s l a b = true) : ∃ i j : Nat, a = i ∧ b = j ∧ i ≤ j ∧ j ≤ s.size ∧ goodT s l = true ∧ withinB l a b = true := by
  obtain ⟨h1, h2, h3, h4⟩ := withinT_iff.1 h
  obtain ⟨g1, g2, g3, g4, g5⟩ := goodT_facts h1
  obtain ⟨i, rfl⟩ := Int.eq_ofNat_of_zero_le h2
  obtain ⟨j, rfl⟩ := Int.eq_ofNat_of_zero_le (show 0 ≤ b by omega)
  exact ⟨i, j, rfl, rfl, by omega, by omega, h1, withinB_iff.2 ⟨g1, by omega, by omega, by omega⟩⟩
abbrev TX := ByteArray × List S100 × Int
def sameT (s : ByteArray) (l : List S100) (t : ByteArray) (m : List S100) : Bool := if s.toList = t.toList then decide (l = m) else false
theorem sameT_self (s : ByteArray) (l : List S100) : sameT s l s l = true := by simp [sameT]
theorem same4_ev (s : ByteArray) (l : List S100) (t : ByteArray) (m : List S100) (hl : l.length ≤ big) : Ev (fun k => strip_Same.f k s l t m) (sameT s l t m) := by
  unfold strip_Same.f sameT
  exact Ev.ite (fun _ => Ev.bind (run_ev l m hl) (Ev.now _)) (fun _ => Ev.now _)
theorem rsame4_ev (s : ByteArray) (l : List S100) (t : ByteArray) (m : List S100) (hl : l.length ≤ big) : Ev (fun k => bureauref04_Same.f k s l t m) (sameT s l t m) := by
  unfold bureauref04_Same.f sameT
  exact Ev.ite (fun _ => Ev.bind (same_ev l m hl) (Ev.now _)) (fun _ => Ev.now _)
def cutS (s : ByteArray) (l : List S100) (a b : Int) : TX := if withinT s l a b = true then (s.extract a.toNat b.toNat, pack (((bytes l).take b.toNat).drop a.toNat), 0) else (⟨#[]⟩, [], 2)
theorem cut_ev (s : ByteArray) (l : List S100) (hl : l.length ≤ big) (a b : Int) : Ev (fun k => strip_Cut.f k s l a b) (cutS s l a b) := by
  unfold strip_Cut.f cutS
  refine Ev.bind (withinT_ev s l hl a b) ?_
  refine Ev.ite (fun hw => ?_) (fun _ => Ev.now _)
  obtain ⟨h1, h2, h3, h4⟩ := withinT_iff.1 hw
  obtain ⟨i, j, rfl, rfl, hij, hj, hg, hwb⟩ := withinT_facts hw
  refine Ev.bind (slice_ev l hl _ _) (Ev.pos h2 (Ev.pos h3 (Ev.pos h4 (ev_val (Ev.now _) ?_))))
  unfold sliceS
  rw [if_pos hwb]
def spliceT (s : ByteArray) (l : List S100) (a b : Int) (x : ByteArray) (m : List S100) : TX :=
  if withinT s l a b = true then (if goodT x m = true then (if (s.size : Int) - (b - a) + (x.size : Int) > 4096 then (⟨#[]⟩, [], 3) else
    (s.extract 0 a.toNat ++ x ++ s.extract b.toNat s.size, pack ((bytes l).take a.toNat ++ bytes m ++ (bytes l).drop b.toNat), 0)) else (⟨#[]⟩, [], 2)) else (⟨#[]⟩, [], 2)
theorem ext_size (s : ByteArray) (i j : Nat) : (s.extract i j).size ≤ s.size := by rw [ByteArray.size_extract]; omega
theorem splice4_ev (s : ByteArray) (l : List S100) (hl : l.length ≤ big) (a b : Int) (x : ByteArray) (m : List S100) (hm : m.length ≤ big) : Ev (fun k => strip_Splice.f k s l a b x m) (spliceT s l a b x m) := by
  unfold strip_Splice.f spliceT
  refine Ev.bind (withinT_ev s l hl a b) ?_
  have bad : Ev (fun k => strip_Splice.j0 k a b true s l x m) (⟨#[]⟩, [], 2) := by
    refine Ev.step (fun k => by simp only [strip_Splice.j0]; rfl) ?_
    exact Ev.pos (by simp) (Ev.now _)
  refine Ev.ite (fun hw => ?_) (fun _ => bad)
  refine Ev.bind (goodT_ev x m hm) ?_
  by_cases hg : goodT x m = true
  · rw [if_pos hg, hg]
    refine Ev.step (fun k => by simp only [strip_Splice.j0]; rfl) ?_
    refine Ev.neg (by simp) (Ev.bind (splice_ev l hl a b m hm) ?_)
    obtain ⟨h1, h2, h3, h4⟩ := withinT_iff.1 hw
    obtain ⟨i, j, rfl, rfl, hij, hj, hgl, hwb⟩ := withinT_facts hw
    obtain ⟨g1, g2, g3, g4, g5⟩ := goodT_facts hgl
    obtain ⟨q1, q2, q3, q4, q5⟩ := goodT_facts hg
    have he : spliceS l (i : Int) (j : Int) m = if (s.size : Int) - ((j : Int) - (i : Int)) + (x.size : Int) > 4096 then ([], 3) else (pack ((bytes l).take (i : Int).toNat ++ bytes m ++ (bytes l).drop (j : Int).toNat), 0) := by
      unfold spliceS
      rw [if_pos hwb, if_pos q1, g5, q5]
    rw [he]
    by_cases hb : (s.size : Int) - ((j : Int) - (i : Int)) + (x.size : Int) > 4096
    · rw [if_pos hb, if_pos hb]
      exact Ev.neg (by decide) (Ev.now _)
    · rw [if_neg hb, if_neg hb]
      have e1 := ext_size s 0 (i : Int).toNat
      have e2 := ext_size s (j : Int).toNat s.size
      refine Ev.pos rfl (Ev.pos h2 (Ev.pos (by omega) (Ev.pos (by omega) (Ev.pos (by omega) (Ev.pos h4 (Ev.pos ?_ (Ev.now _)))))))
      rw [ByteArray.size_append]
      omega
  · rw [if_neg hg, show goodT x m = false by simpa using hg]
    exact bad
theorem cutS_len (s : ByteArray) (l : List S100) (a b : Int) : (cutS s l a b).2.1.length ≤ 20000 := by
  unfold cutS
  split
  · rename_i hw
    obtain ⟨i, j, rfl, rfl, hij, hj, hgl, hwb⟩ := withinT_facts hw
    obtain ⟨g1, g2, g3, g4, g5⟩ := goodT_facts hgl
    have := pack_len (((bytes l).take (j : Int).toNat).drop (i : Int).toNat)
    rw [List.length_drop, List.length_take] at this
    show (pack _).length ≤ 20000
    omega
  · simp
theorem toList_loop (a : ByteArray) : ∀ (n i : Nat) (r : List UInt8), i + n = a.size → ByteArray.toList.loop a i r = r.reverse ++ a.data.toList.drop i
  | 0, i, r, h => by
    unfold ByteArray.toList.loop
    rw [if_neg (by omega), List.drop_eq_nil_of_le (by rw [Array.length_toList]; show a.size ≤ i; omega), List.append_nil]
  | n + 1, i, r, h => by
    unfold ByteArray.toList.loop
    have hi : i < a.data.toList.length := by rw [Array.length_toList]; show i < a.size; omega
    rw [if_pos (by omega), toList_loop a n (i + 1) _ (by omega), List.reverse_cons, List.append_assoc, List.drop_eq_getElem_cons hi]
    congr 1
    show [a.get! i] ++ _ = _
    rw [List.singleton_append]
    congr 1
    show a.data[i]! = _
    rw [getElem!_pos a.data i (by rw [Array.length_toList] at hi; exact hi)]
    simp
theorem toList_data (a : ByteArray) : a.toList = a.data.toList := by
  unfold ByteArray.toList
  rw [toList_loop a a.size 0 [] (by omega)]
  rfl
theorem toList_inj {a b : ByteArray} (h : a.toList = b.toList) : a = b := by
  rw [toList_data, toList_data] at h
  exact ByteArray.ext (Array.toList_inj.1 h)
end Go.Proofs.Ythpjagblnddjaaa.PB
end

section
namespace Go.Proofs.Ythpjagblnddjaaa.PB
open Go.RowKit Go.Proofs.YthpjagblnddjaaaW.PrintWords Go.Proofs.YthpjagblnddjaaaW.PrintLast Go.Proofs.YthpjagblnddjaaaW.PrintMore
set_option linter.unusedVariables false
set_option linter.unusedSimpArgs false
def BRow (w : World) (g : Nat) (b : List Int) : Prop := ∃ cs t fr, w.heap[g]? = some (.cells cs t fr) ∧ b.length ≤ fr.1 ∧ ∀ i, i < b.length → cs[i]? = some (.int .u8 (b.getD i 0))
theorem BRow.lt {w : World} {g : Nat} {b : List Int} (h : BRow w g b) : g < w.heap.size := by obtain ⟨cs, t, fr, hc, _⟩ := h; exact blk_lt hc
theorem BRow.cell {w : World} {g : Nat} {b : List Int} (h : BRow w g b) {i : Nat} (hi : i < b.length) : w.cell? ⟨g, i, none⟩ = some (.int .u8 (b.getD i 0)) := by
  obtain ⟨cs, t, fr, hc, _, hb⟩ := h
  exact (cell_of_row w g i cs t fr hc).trans (hb i hi)
theorem BRow.of {w w' : World} {g : Nat} {b : List Int} (h : BRow w g b) (he : w'.heap[g]? = w.heap[g]?) : BRow w' g b := by
  obtain ⟨cs, t, fr, hc, hr⟩ := h
  exact ⟨cs, t, fr, he.trans hc, hr⟩
theorem BRow.alloc {w : World} {g : Nat} {b : List Int} (h : BRow w g b) (o : Obj) : BRow (w.alloc o) g b := h.of (Below.heap_alloc _ _ _ h.lt)
theorem BRow.drewN {w : World} {g : Nat} {b : List Int} (h : BRow w g b) (n : Nat) : BRow (w.drewN n) g b := h.of rfl
theorem BRow.set {w : World} {g : Nat} {b : List Int} (h : BRow w g b) {i : Nat} (hi : i < b.length) (x : Int) : BRow (w.setCell ⟨g, i, none⟩ (.int .u8 x)) g (b.set i x) := by
  obtain ⟨cs, t, fr, hc, hf, hb⟩ := h
  refine ⟨cs.setIfInBounds i (.int .u8 x), t, fr, by simp [World.setCell, Array.getElem?_modify, hc], by rw [List.length_set]; exact hf, fun j hj => ?_⟩
  rw [List.length_set] at hj
  have h1 := hb j hj
  obtain ⟨hlt, _⟩ := Array.getElem?_eq_some_iff.1 h1
  by_cases he : i = j
  · subst he
    rw [List.getD_eq_getElem?_getD, List.getElem?_set_self hj, Array.getElem?_setIfInBounds]
    simp [hlt]
  · rw [List.getD_eq_getElem?_getD, List.getElem?_set_ne he, ← List.getD_eq_getElem?_getD, Array.getElem?_setIfInBounds, if_neg he]
    exact h1
theorem BRow.reads {w : World} {g : Nat} {b : List Int} (h : BRow w g b) (hn : b.length ≤ 9223372036854775807) : ReadsInt w .u8 (some ⟨g, 0, none⟩) b.length b :=
  ⟨rfl, hn, fun _ => ⟨_, rfl, fun j hj => by
    have := h.cell hj
    by_cases h0 : j = 0
    · subst h0; simpa [Addr.add] using this
    · simpa [Addr.add, h0] using this⟩⟩
end Go.Proofs.Ythpjagblnddjaaa.PB
end

section
namespace Go.Proofs.Ythpjagblnddjaaa.PB
open Go.RowKit Go.Proofs.YthpjagblnddjaaaW.PrintWords
set_option linter.unusedVariables false
theorem fits_eq (s : ByteArray) (l : List S100) : bureaulaw04_Fits.f s l = some (decide (s.size ≤ 5000 ∧ l.length ≤ 5000)) := by
  unfold bureaulaw04_Fits.f
  by_cases h : s.size ≤ 5000
  · rw [if_pos (by omega)]
    congr 1
    rw [Bool.eq_iff_iff, decide_eq_true_iff, decide_eq_true_iff]
    omega
  · rw [if_neg (by omega)]
    simp [h]
theorem fits_big {s : ByteArray} {l : List S100} (h : s.size ≤ 5000 ∧ l.length ≤ 5000) : l.length ≤ big := by unfold big; omega
theorem len_big {n : Nat} (h : n ≤ 20000) : n ≤ big := by unfold big; omega
theorem goodT_pack {s : ByteArray} {B : List Int} (h : B.length = s.size) (h4 : s.size ≤ 4096) : goodT s (pack B) = true := by
  obtain ⟨g1, t1⟩ := good_pack (show B.length ≤ 4096 by omega)
  exact goodT_iff.2 ⟨g1, by omega⟩
end Go.Proofs.Ythpjagblnddjaaa.PB
end

section
namespace Go.Proofs.Ythpjagblnddjaaa.PB
open Go.RowKit Go.Proofs.YthpjagblnddjaaaW.PrintWords
set_option linter.unusedVariables false
def goodE (a : Int) (o : ByteArray) (ol : List S100) (n : ByteArray) (nl : List S100) : Bool := goodT o ol && (goodT n nl && (decide (0 ≤ a) && decide (a ≤ 4096)))
theorem goodE_iff {a : Int} {o n : ByteArray} {ol nl : List S100} : goodE a o ol n nl = true ↔ goodT o ol = true ∧ goodT n nl = true ∧ 0 ≤ a ∧ a ≤ 4096 := by simp [goodE]
theorem goodE_ev (a : Int) (o : ByteArray) (ol : List S100) (n : ByteArray) (nl : List S100) (hl : ol.length ≤ big) (hm : nl.length ≤ big) : Ev (fun k => edit_good.f k a o ol n nl) (goodE a o ol n nl) := by
  unfold edit_good.f
  refine Ev.bind (goodT_ev o ol hl) ?_
  by_cases h1 : goodT o ol = true
  · refine Ev.pos h1 (Ev.bind (goodT_ev n nl hm) ?_)
    by_cases h2 : goodT n nl = true
    · refine Ev.pos h2 ?_
      by_cases h3 : 0 ≤ a
      · exact Ev.pos h3 (ev_val (Ev.now _) (by simp [goodE, h1, h2, h3]))
      · exact Ev.neg h3 (ev_val (Ev.now _) (by simp [goodE, h3]))
    · exact Ev.neg h2 (ev_val (Ev.now _) (by simp [goodE, h2]))
  · exact Ev.neg h1 (ev_val (Ev.now _) (by simp [goodE, h1]))
theorem goodE_facts {a : Int} {o n : ByteArray} {ol nl : List S100} (h : goodE a o ol n nl = true) : 0 ≤ a ∧ a ≤ 4096 ∧ o.size ≤ 4096 ∧ n.size ≤ 4096 := by
  obtain ⟨h1, h2, h3, h4⟩ := goodE_iff.1 h
  obtain ⟨_, _, _, g4, _⟩ := goodT_facts h1
  obtain ⟨_, _, _, q4, _⟩ := goodT_facts h2
  exact ⟨h3, h4, g4, q4⟩
def applyT (s : ByteArray) (l : List S100) (a : Int) (o : ByteArray) (ol : List S100) (n : ByteArray) (nl : List S100) : TX :=
  if goodE a o ol n nl = true then (if (cutS s l a (a + (o.size : Int))).2.2 = 0 then (if sameT (cutS s l a (a + (o.size : Int))).1 (cutS s l a (a + (o.size : Int))).2.1 o ol = true then spliceT s l a (a + (o.size : Int)) n nl else (⟨#[]⟩, [], 7)) else (⟨#[]⟩, [], (cutS s l a (a + (o.size : Int))).2.2)) else (⟨#[]⟩, [], 2)
theorem apply_ev (s : ByteArray) (l : List S100) (hls : l.length ≤ big) (a : Int) (o : ByteArray) (ol : List S100) (n : ByteArray) (nl : List S100) (hl : ol.length ≤ big) (hm : nl.length ≤ big) :
    Ev (fun k => edit_Apply.f k s l a o ol n nl) (applyT s l a o ol n nl) := by
  unfold edit_Apply.f applyT
  refine Ev.bind (goodE_ev a o ol n nl hl hm) ?_
  refine Ev.ite (fun hg => ?_) (fun _ => Ev.now _)
  obtain ⟨f1, f2, f3, f4⟩ := goodE_facts hg
  rw [show wrap64 (a + (o.size : Int)) = a + (o.size : Int) by unfold wrap64; omega]
  refine Ev.bind (cut_ev s l hls _ _) ?_
  refine Ev.ite (fun _ => ?_) (fun _ => Ev.now _)
  refine Ev.bind (same4_ev _ _ _ _ (len_big (cutS_len _ _ _ _))) ?_
  exact Ev.ite (fun _ => Ev.bind (splice4_ev s l hls _ _ n nl hm) (Ev.now _)) (fun _ => Ev.now _)
theorem applyT_bad {s : ByteArray} {l : List S100} {a : Int} {o n : ByteArray} {ol nl : List S100} (h : (applyT s l a o ol n nl).2.2 ≠ 0) : (applyT s l a o ol n nl).1 = ⟨#[]⟩ ∧ (applyT s l a o ol n nl).2.1 = [] := by
  unfold applyT at h ⊢
  split
  · rename_i h1
    rw [if_pos h1] at h
    split
    · rename_i h2
      rw [if_pos h2] at h
      split
      · rename_i h3
        rw [if_pos h3] at h
        unfold spliceT at h ⊢
        split
        · rename_i h4
          rw [if_pos h4] at h
          split
          · rename_i h5
            rw [if_pos h5] at h
            split
            · exact ⟨rfl, rfl⟩
            · rename_i h6
              rw [if_neg h6] at h
              exact absurd rfl h
          · exact ⟨rfl, rfl⟩
        · exact ⟨rfl, rfl⟩
      · exact ⟨rfl, rfl⟩
    · exact ⟨rfl, rfl⟩
  · exact ⟨rfl, rfl⟩
theorem own_eq (s : ByteArray) (l : List S100) (hl : l.length ≤ big) : edit_own.f s l = some (s, l) := by
  unfold edit_own.f
  unfold big at hl
  rw [if_pos (by omega)]
theorem invert_eq (a : Int) (o : ByteArray) (ol : List S100) (n : ByteArray) (nl : List S100) (hl : ol.length ≤ big) (hm : nl.length ≤ big) : edit_Invert.f a o ol n nl = some (a, n, nl, o, ol) := by
  unfold edit_Invert.f
  rw [own_eq n nl hm, own_eq o ol hl]
  rfl
theorem ext_list (s : ByteArray) (i j : Nat) : (s.extract i j).data.toList = (s.data.toList.take j).drop i := by
  rw [ByteArray.data_extract, Array.toList_extract, List.extract_eq_take_drop, List.drop_take]
theorem size_list (s : ByteArray) : s.data.toList.length = s.size := by rw [Array.length_toList]; rfl
theorem app_list (s t : ByteArray) : (s ++ t).data.toList = s.data.toList ++ t.data.toList := by rw [ByteArray.data_append, Array.toList_append]
theorem data_inj {a b : ByteArray} (h : a.data.toList = b.data.toList) : a = b := ByteArray.ext (Array.toList_inj.1 h)
theorem ext_mid (P o Q : ByteArray) : (P ++ o ++ Q).extract P.size (P.size + o.size) = o := by
  apply data_inj
  rw [ext_list, app_list, app_list, show P.size + o.size = (P.data.toList ++ o.data.toList).length by rw [List.length_append, size_list, size_list], List.take_left, ← size_list P, List.drop_left]
theorem ext_left (P o Q : ByteArray) : (P ++ o ++ Q).extract 0 P.size = P := by
  apply data_inj
  rw [ext_list, app_list, app_list, List.drop_zero, List.append_assoc, ← size_list P, List.take_left]
theorem ext_right (P o Q : ByteArray) : (P ++ o ++ Q).extract (P.size + o.size) (P ++ o ++ Q).size = Q := by
  apply data_inj
  rw [ext_list, ← size_list (P ++ o ++ Q), List.take_length, app_list, app_list, show P.size + o.size = (P.data.toList ++ o.data.toList).length by rw [List.length_append, size_list, size_list], List.drop_left]
theorem ext_split (s : ByteArray) (i j : Nat) (hij : i ≤ j) (hj : j ≤ s.size) : s = s.extract 0 i ++ s.extract i j ++ s.extract j s.size := by
  apply data_inj
  rw [app_list, app_list, ext_list, ext_list, ext_list, List.drop_zero, ← size_list s, List.take_length]
  conv => lhs; rw [← List.take_append_drop j s.data.toList]
  congr 1
  conv => lhs; rw [← List.take_append_drop i (s.data.toList.take j)]
  rw [List.take_take, Nat.min_eq_left hij]
theorem cutS_mid (P o Q : ByteArray) (X O Z : List Int) (hX : X.length = P.size) (hO : O.length = o.size) (hZ : Z.length = Q.size) (h : P.size + o.size + Q.size ≤ 4096) :
    cutS (P ++ o ++ Q) (pack (X ++ O ++ Z)) (P.size : Int) ((P.size : Int) + (o.size : Int)) = (o, pack O, 0) := by
  have hs : (P ++ o ++ Q).size = P.size + o.size + Q.size := by rw [ByteArray.size_append, ByteArray.size_append]
  have hg := goodT_pack (s := P ++ o ++ Q) (B := X ++ O ++ Z) (by rw [hs]; simp only [List.length_append]; omega) (by omega)
  unfold cutS
  rw [if_pos (withinT_iff.2 ⟨hg, by omega, by omega, by omega⟩), pack_bytes, show ((P.size : Int) + (o.size : Int)).toNat = P.size + o.size by omega, Int.toNat_natCast, ext_mid]
  congr 3
  rw [show P.size + o.size = (X ++ O).length by rw [List.length_append]; omega, List.take_left, ← hX, List.drop_left]
theorem spliceT_mid (P o Q n : ByteArray) (X O Z N : List Int) (hX : X.length = P.size) (hO : O.length = o.size) (hZ : Z.length = Q.size) (hN : N.length = n.size) (h : P.size + o.size + Q.size ≤ 4096) (hn : P.size + n.size + Q.size ≤ 4096) :
    spliceT (P ++ o ++ Q) (pack (X ++ O ++ Z)) (P.size : Int) ((P.size : Int) + (o.size : Int)) n (pack N) = (P ++ n ++ Q, pack (X ++ N ++ Z), 0) := by
  have hs : (P ++ o ++ Q).size = P.size + o.size + Q.size := by rw [ByteArray.size_append, ByteArray.size_append]
  have hg := goodT_pack (s := P ++ o ++ Q) (B := X ++ O ++ Z) (by rw [hs]; simp only [List.length_append]; omega) (by omega)
  have hgn := goodT_pack hN (by omega)
  unfold spliceT
  rw [if_pos (withinT_iff.2 ⟨hg, by omega, by omega, by omega⟩), if_pos hgn, if_neg (by omega), pack_bytes, pack_bytes, show ((P.size : Int) + (o.size : Int)).toNat = P.size + o.size by omega, Int.toNat_natCast, ext_left, ext_right]
  congr 3
  rw [show P.size + o.size = (X ++ O).length by rw [List.length_append]; omega, List.drop_left, List.append_assoc X O Z, ← hX, List.take_left]
theorem applyT_mid (P o Q n : ByteArray) (X O Z N : List Int) (hX : X.length = P.size) (hO : O.length = o.size) (hZ : Z.length = Q.size) (hN : N.length = n.size) (h : P.size + o.size + Q.size ≤ 4096) (hn : P.size + n.size + Q.size ≤ 4096) :
    applyT (P ++ o ++ Q) (pack (X ++ O ++ Z)) (P.size : Int) o (pack O) n (pack N) = (P ++ n ++ Q, pack (X ++ N ++ Z), 0) := by
  unfold applyT
  rw [if_pos (goodE_iff.2 ⟨goodT_pack hO (by omega), goodT_pack hN (by omega), by omega, by omega⟩), cutS_mid P o Q X O Z hX hO hZ h, if_pos rfl, if_pos (sameT_self _ _), spliceT_mid P o Q n X O Z N hX hO hZ hN h hn]
theorem good_pack_bytes {s : ByteArray} {l : List S100} (h : goodT s l = true) : l = pack (bytes l) := by
  obtain ⟨_, h2, _⟩ := goodT_facts h
  exact (pack_of_nrm h2).symm
theorem applyT_ok {s : ByteArray} {l : List S100} {a : Int} {o n : ByteArray} {ol nl : List S100} (h : (applyT s l a o ol n nl).2.2 = 0) : ∃ (P Q : ByteArray) (X Z : List Int),
    a = (P.size : Int) ∧ s = P ++ o ++ Q ∧ l = pack (X ++ bytes ol ++ Z) ∧ X.length = P.size ∧ Z.length = Q.size ∧ goodE a o ol n nl = true ∧ P.size + o.size + Q.size ≤ 4096 ∧ P.size + n.size + Q.size ≤ 4096 ∧
      applyT s l a o ol n nl = (P ++ n ++ Q, pack (X ++ bytes nl ++ Z), 0) := by
  by_cases hg : goodE a o ol n nl = true
  case neg => unfold applyT at h; rw [if_neg hg] at h; cases h
  by_cases hw : withinT s l a (a + (o.size : Int)) = true
  case neg =>
    exfalso
    unfold applyT at h
    rw [if_pos hg] at h
    have hc : cutS s l a (a + (o.size : Int)) = (⟨#[]⟩, [], 2) := by unfold cutS; rw [if_neg hw]
    rw [hc] at h
    rw [if_neg (by decide)] at h
    cases h
  obtain ⟨i, j, hi, hj, hij, hjs, hgl, hwb⟩ := withinT_facts hw
  obtain ⟨g1, g2, g3, g4, g5⟩ := goodT_facts hgl
  obtain ⟨e1, e2, e3, e4⟩ := goodE_iff.1 hg
  obtain ⟨o1, o2, o3, o4, o5⟩ := goodT_facts e1
  obtain ⟨n1, n2, n3, n4, n5⟩ := goodT_facts e2
  subst hi
  have hj' : j = i + o.size := by omega
  subst hj'
  have hs := ext_split s i (i + o.size) hij hjs
  have hB : bytes l = (bytes l).take i ++ ((bytes l).take (i + o.size)).drop i ++ (bytes l).drop (i + o.size) := by
    conv => lhs; rw [← List.take_append_drop (i + o.size) (bytes l)]
    congr 1
    conv => lhs; rw [← List.take_append_drop i ((bytes l).take (i + o.size))]
    rw [List.take_take, Nat.min_eq_left hij]
  have z1 : (s.extract 0 i).size = i := by rw [ByteArray.size_extract]; omega
  have z2 : (s.extract i (i + o.size)).size = o.size := by rw [ByteArray.size_extract]; omega
  have z3 : (s.extract (i + o.size) s.size).size = s.size - (i + o.size) := by rw [ByteArray.size_extract]; omega
  have y1 : ((bytes l).take i).length = i := by rw [List.length_take]; omega
  have y2 : (((bytes l).take (i + o.size)).drop i).length = o.size := by rw [List.length_drop, List.length_take]; omega
  have y3 : ((bytes l).drop (i + o.size)).length = s.size - (i + o.size) := by rw [List.length_drop]; omega
  have hcut : cutS s l (i : Int) ((i : Int) + (o.size : Int)) = (s.extract i (i + o.size), pack (((bytes l).take (i + o.size)).drop i), 0) := by
    unfold cutS
    rw [if_pos hw, show ((i : Int) + (o.size : Int)).toNat = i + o.size by omega, Int.toNat_natCast]
  have hsame : s.extract i (i + o.size) = o ∧ pack (((bytes l).take (i + o.size)).drop i) = ol := by
    by_cases hsm : sameT (cutS s l (i : Int) ((i : Int) + (o.size : Int))).1 (cutS s l (i : Int) ((i : Int) + (o.size : Int))).2.1 o ol = true
    · rw [hcut] at hsm
      unfold sameT at hsm
      by_cases ht : (s.extract i (i + o.size)).toList = o.toList
      · rw [if_pos ht] at hsm
        exact ⟨toList_inj ht, of_decide_eq_true hsm⟩
      · rw [if_neg ht] at hsm; cases hsm
    · exfalso
      unfold applyT at h
      rw [if_pos hg, if_pos (by rw [hcut]), if_neg hsm] at h
      cases h
  obtain ⟨hso, hlo⟩ := hsame
  have hO : ((bytes l).take (i + o.size)).drop i = bytes ol := by rw [← hlo, pack_bytes]
  rw [hso] at hs
  rw [hO] at hB
  have hl' : l = pack ((bytes l).take i ++ bytes ol ++ (bytes l).drop (i + o.size)) := by rw [← hB]; exact good_pack_bytes hgl
  have hfit : i + n.size + (s.size - (i + o.size)) ≤ 4096 := by
    unfold applyT at h
    rw [if_pos hg, if_pos (by rw [hcut]), hcut] at h
    have hsm : sameT (s.extract i (i + o.size)) (pack (((bytes l).take (i + o.size)).drop i)) o ol = true := by rw [hso, hlo]; exact sameT_self _ _
    rw [if_pos hsm] at h
    unfold spliceT at h
    rw [if_pos hw, if_pos e2] at h
    by_cases hb : (s.size : Int) - ((i : Int) + (o.size : Int) - (i : Int)) + (n.size : Int) > 4096
    · rw [if_pos hb] at h; cases h
    · omega
  have hmid := applyT_mid (s.extract 0 i) o (s.extract (i + o.size) s.size) n ((bytes l).take i) (bytes ol) ((bytes l).drop (i + o.size)) (bytes nl) (by omega) (by omega) (by omega) (by omega) (by omega) (by omega)
  rw [← hs, ← hl', z1, ← good_pack_bytes e1, ← good_pack_bytes e2] at hmid
  exact ⟨s.extract 0 i, s.extract (i + o.size) s.size, (bytes l).take i, (bytes l).drop (i + o.size), by rw [z1], hs, hl', by omega, by omega, hg, by omega, by omega, hmid⟩
end Go.Proofs.Ythpjagblnddjaaa.PB
end
