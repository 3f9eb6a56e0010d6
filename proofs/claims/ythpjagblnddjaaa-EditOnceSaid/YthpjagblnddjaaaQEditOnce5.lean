/- What the row hangs on, part 5. -/
import Derived.Test.YthpjagblnddjaaaQEditOnce4
section
namespace Go.Proofs.Ythpjagblnddjaaa.PB
open Go.RowKit Go.Proofs.YthpjagblnddjaaaW.PrintWords Go.Proofs.YthpjagblnddjaaaW.PrintLast Go.Proofs.YthpjagblnddjaaaW.PrintMore
attribute [local go_sem] max2_int min2_int max_two min_two max_three min_three max_four min_four   
set_option linter.unusedVariables false
set_option linter.unusedSimpArgs false
def edit_Join.j0 : Nat → Bool → Int → ByteArray → List (S100) → ByteArray → List (S100) → Int → ByteArray → List (S100) → ByteArray → List (S100) → Option (Int × ByteArray × (List (S100)) × ByteArray × (List (S100)) × Bool)
  | 0, _, _, _, _, _, _, _, _, _, _, _ => none
  | k + 1, x22, x794000, x794001, x794002, x794003, x794004, x795000, x795001, x795002, x795003, x795004 => if x22 = true then (some (0, (⟨#[]⟩ : ByteArray), ([] : List (S100)), (⟨#[]⟩ : ByteArray), ([] : List (S100)), false)) else ((edit_Apply.f k x794003 x794004 (wrap64 (x795000 - x794000)) x795001 x795002 x795003 x795004).bind fun bt798 => (if bt798.2.2 = 0 then ((edit_own.f x794001 x794002).bind fun bt804 => (some (x794000, bt804.1, bt804.2, bt798.1, bt798.2.1, true))) else (some (0, (⟨#[]⟩ : ByteArray), ([] : List (S100)), (⟨#[]⟩ : ByteArray), ([] : List (S100)), false))))
def edit_Join.f (k : Nat) (a0_0 : Int) (a0_1 : ByteArray) (l0_2 : List (S100)) (a0_3 : ByteArray) (l0_4 : List (S100)) (a1_0 : Int) (a1_1 : ByteArray) (l1_2 : List (S100)) (a1_3 : ByteArray) (l1_4 : List (S100)) : Option (Int × ByteArray × (List (S100)) × ByteArray × (List (S100)) × Bool) := (edit_good.f k a0_0 a0_1 l0_2 a0_3 l0_4).bind fun t796 => (if t796 = true then ((edit_good.f k a1_0 a1_1 l1_2 a1_3 l1_4).bind fun t797 => (if t797 = true then (edit_Join.j0 k (decide (a1_0 < a0_0)) a0_0 a0_1 l0_2 a0_3 l0_4 a1_0 a1_1 l1_2 a1_3 l1_4) else (edit_Join.j0 k true a0_0 a0_1 l0_2 a0_3 l0_4 a1_0 a1_1 l1_2 a1_3 l1_4))) else (edit_Join.j0 k true a0_0 a0_1 l0_2 a0_3 l0_4 a1_0 a1_1 l1_2 a1_3 l1_4))
def edit_Join.T7 : Bool × List (List Nat × List Nat) := (true, [([], []), ([0], [0]), ([], []), ([2], [2]), ([3], [3]), ([], []), ([1, 4, 5], [1, 4, 5]), ([6, 4, 0, 1, 2, 3, 4, 5, 6], [6]), ([7, 0, 1, 2, 3, 4, 5, 6, 7], [])])
def edit_Join.B7 : List Nat := [0, 1, 0, 4, 12, 0, 63, 127, 255]
theorem edit_Join.tab7 : rtab .any (opsOf Try.f72 7) = edit_Join.T7 := by kernel_rfl
theorem edit_Join.bits7 : waitsOk edit_Join.T7.2 edit_Join.B7 = true := by kernel_rfl
set_option maxHeartbeats 8000000 in
set_option maxRecDepth 100000 in
theorem edit_Join.calls (k : Nat) (a0_0 : Int) (a0_1 : ByteArray) (A0_2 : Option Addr) (c0_2 : Nat) (l0_2 : List (S100)) (a0_3 : ByteArray) (A0_4 : Option Addr) (c0_4 : Nat) (l0_4 : List (S100)) (a1_0 : Int) (a1_1 : ByteArray) (A1_2 : Option Addr) (c1_2 : Nat) (l1_2 : List (S100)) (a1_3 : ByteArray) (A1_4 : Option Addr) (c1_4 : Nat) (l1_4 : List (S100)) (r1 : Int) (r2 : ByteArray) (r3 : List (S100)) (r4 : ByteArray) (r5 : List (S100)) (r6 : Bool) (w : World) (hr0_2 : Kd.C k100 w A0_2 l0_2.length l0_2) (hc0_2 : l0_2.length ≤ c0_2) (hr0_4 : Kd.C k100 w A0_4 l0_4.length l0_4) (hc0_4 : l0_4.length ≤ c0_4) (hr1_2 : Kd.C k100 w A1_2 l1_2.length l1_2) (hc1_2 : l1_2.length ≤ c1_2) (hr1_4 : Kd.C k100 w A1_4 l1_4.length l1_4) (hc1_4 : l1_4.length ≤ c1_4) (h : edit_Join.f k a0_0 a0_1 l0_2 a0_3 l0_4 a1_0 a1_1 l1_2 a1_3 l1_4 = some (r1, r2, r3, r4, r5, r6)) :
    Calls Try.prog 72 #[.agg #[.int .i64 a0_0, .string a0_1, .slice A0_2 l0_2.length c0_2, .string a0_3, .slice A0_4 l0_4.length c0_4], .agg #[.int .i64 a1_0, .string a1_1, .slice A1_2 l1_2.length c1_2, .string a1_3, .slice A1_4 l1_4.length c1_4]] w fun e w' => ∃ v2_ v4_ : Value, e = .returned (.tuple #[.agg #[.int .i64 r1, .string r2, v2_, .string r4, v4_], .bool r6]) ∧ Kd.R k100 100 w' w.heap.size (fun k_ => some k_ ≠ (v4_ : Value).ownBlock) v2_ r3 ∧ Kd.R k100 100 w' w.heap.size (fun k_ => some k_ ≠ (v2_ : Value).ownBlock) v4_ r5 ∧ Below w.heap.size w w' := by
  have hu64 := Try.underlying64
  have hu51 := Try.underlying51
  have HR0_2 := Aside0.mk hr0_2
  have HC0_2 := Aside0.mk hc0_2
  clear hr0_2 hc0_2
  have HR0_4 := Aside0.mk hr0_4
  have HC0_4 := Aside0.mk hc0_4
  clear hr0_4 hc0_4
  have HR1_2 := Aside0.mk hr1_2
  have HC1_2 := Aside0.mk hc1_2
  clear hr1_2 hc1_2
  have HR1_4 := Aside0.mk hr1_4
  have HC1_4 := Aside0.mk hc1_4
  clear hr1_4 hc1_4
  have HB := Aside0.mk (Below.refl w.heap.size w)
  have H : ((edit_good.f k a0_0 a0_1 l0_2 a0_3 l0_4).bind fun t796 => (if t796 = true then ((edit_good.f k a1_0 a1_1 l1_2 a1_3 l1_4).bind fun t797 => (if t797 = true then (edit_Join.j0 k (decide (a1_0 < a0_0)) a0_0 a0_1 l0_2 a0_3 l0_4 a1_0 a1_1 l1_2 a1_3 l1_4) else (edit_Join.j0 k true a0_0 a0_1 l0_2 a0_3 l0_4 a1_0 a1_1 l1_2 a1_3 l1_4))) else (edit_Join.j0 k true a0_0 a0_1 l0_2 a0_3 l0_4 a1_0 a1_1 l1_2 a1_3 l1_4))) = some (r1, r2, r3, r4, r5, r6) := h
  clear h
  have HC3 := Aside0.mk H
  clear H
  go_enter Try.func72, Try.ntmps72
  go_upto_region 1 with (first | ((with_reducible refine gate_dst (N := 2) rfl ?_); refine box_event ?hg (N := 2) ?hd (cs := #[.int .i64 a0_0, .string a0_1, .slice A0_2 l0_2.length c0_2, .string a0_3, .slice A0_4 l0_4.length c0_4]) (t := 64) ?hr ?_; (case hd => rfl); (case hg => rfl); (case hr => first | (go_simp; done) | (go_simp; rfl)); intro gb793 hg w4 hbox hb; have n0_ := Aside0.mk (below_step (by repeat (first | (with_reducible first | exact HB.out | apply below_alloc | apply pw_below_drewN | apply below_drew1) | exact HB.out)) hb); have n1_ := Aside0.mk (hbox); have n2_ := Aside0.mk ((by rw [hg]; exact (below_size (by repeat (first | (with_reducible first | exact HB.out | apply below_alloc | apply pw_below_drewN | apply below_drew1) | exact HB.out))) : w.heap.size ≤ gb793)); have n3_ := Aside0.mk ((by rw [hg]; exact (below_size (by repeat (first | (with_reducible first | exact HB.out | apply below_alloc | apply pw_below_drewN | apply below_drew1) | exact HB.out))) : w.heap.size ≤ gb793)); clear HB; have HB := n0_; have BK793 := n1_; have GW793 := n2_; have GE793 := n3_; clear n0_ n1_ n2_ n3_; clear hb hbox hg) | ((with_reducible refine gate_dst (N := 3) rfl ?_); refine box_event ?hg (N := 3) ?hd (cs := #[.int .i64 a1_0, .string a1_1, .slice A1_2 l1_2.length c1_2, .string a1_3, .slice A1_4 l1_4.length c1_4]) (t := 64) ?hr ?_; (case hd => rfl); (case hg => rfl); (case hr => first | (go_simp; done) | (go_simp; rfl)); intro gb794 hg w5 hbox hb; have n0_ := Aside0.mk (blk_below (g := gb793) (o := .cells #[.int .i64 a0_0, .string a0_1, .slice A0_2 l0_2.length c0_2, .string a0_3, .slice A0_4 l0_4.length c0_4] 64 (0, 0)) (by (with_reducible repeat (first | refine blk_drewN ?_ _ | refine blk_drew ?_ | refine blk_alloc ?_ _)); exact BK793.out) hb); have n1_ := Aside0.mk (below_step (by repeat (first | (with_reducible first | exact HB.out | apply below_alloc | apply pw_below_drewN | apply below_drew1 | refine below_set ?_ GE793.out) | exact HB.out)) hb); have n2_ := Aside0.mk (hbox); have n3_ := Aside0.mk ((by rw [hg]; exact (below_size (by repeat (first | (with_reducible first | exact HB.out | apply below_alloc | apply pw_below_drewN | apply below_drew1 | refine below_set ?_ GE793.out) | exact HB.out))) : w.heap.size ≤ gb794)); have n4_ := Aside0.mk ((by rw [hg]; exact (below_size (by repeat (first | (with_reducible first | exact HB.out | apply below_alloc | apply pw_below_drewN | apply below_drew1 | refine below_set ?_ GE793.out) | exact HB.out))) : w.heap.size ≤ gb794)); have n5_ := Aside0.mk ((by rw [hg]; exact Nat.ne_of_lt (blk_lt (g := gb793) (o := .cells #[.int .i64 a0_0, .string a0_1, .slice A0_2 l0_2.length c0_2, .string a0_3, .slice A0_4 l0_4.length c0_4] 64 (0, 0)) (by (with_reducible repeat (first | refine blk_drewN ?_ _ | refine blk_drew ?_ | refine blk_alloc ?_ _)); exact BK793.out)) : gb793 ≠ gb794)); have n6_ := Aside0.mk ((by rw [hg]; exact Nat.ne_of_gt (blk_lt (g := gb793) (o := .cells #[.int .i64 a0_0, .string a0_1, .slice A0_2 l0_2.length c0_2, .string a0_3, .slice A0_4 l0_4.length c0_4] 64 (0, 0)) (by (with_reducible repeat (first | refine blk_drewN ?_ _ | refine blk_drew ?_ | refine blk_alloc ?_ _)); exact BK793.out)) : gb794 ≠ gb793)); clear BK793; clear HB; have BK793 := n0_; have HB := n1_; have BK794 := n2_; have GW794 := n3_; have GE794 := n4_; have NB793_794 := n5_; have NB794_793 := n6_; clear n0_ n1_ n2_ n3_ n4_ n5_ n6_; clear hb hbox hg) | ((with_reducible refine gate_dst (N := 4) rfl ?_); refine box_event ?hg (N := 4) ?hd (cs := #[.int .i64 0, .string (⟨#[]⟩ : ByteArray), .slice none 0 0, .string (⟨#[]⟩ : ByteArray), .slice none 0 0]) (t := 64) ?hr ?_; (case hd => rfl); (case hg => rfl); (case hr => first | (go_simp; done) | (go_simp; rfl)); intro gb795 hg w6 hbox hb; have n0_ := Aside0.mk (blk_below (g := gb793) (o := .cells #[.int .i64 a0_0, .string a0_1, .slice A0_2 l0_2.length c0_2, .string a0_3, .slice A0_4 l0_4.length c0_4] 64 (0, 0)) (by (with_reducible repeat (first | refine blk_drewN ?_ _ | refine blk_drew ?_ | refine blk_alloc ?_ _)); exact BK793.out) hb); have n1_ := Aside0.mk (blk_below (g := gb794) (o := .cells #[.int .i64 a1_0, .string a1_1, .slice A1_2 l1_2.length c1_2, .string a1_3, .slice A1_4 l1_4.length c1_4] 64 (0, 0)) (by (with_reducible repeat (first | refine blk_drewN ?_ _ | refine blk_drew ?_ | refine blk_alloc ?_ _)); exact BK794.out) hb); have n2_ := Aside0.mk (below_step (by repeat (first | (with_reducible first | exact HB.out | apply below_alloc | apply pw_below_drewN | apply below_drew1 | refine below_set ?_ GE793.out | refine below_set ?_ GE794.out) | exact HB.out)) hb); have n3_ := Aside0.mk (hbox); have n4_ := Aside0.mk ((by rw [hg]; exact (below_size (by repeat (first | (with_reducible first | exact HB.out | apply below_alloc | apply pw_below_drewN | apply below_drew1 | refine below_set ?_ GE793.out | refine below_set ?_ GE794.out) | exact HB.out))) : w.heap.size ≤ gb795)); have n5_ := Aside0.mk ((by rw [hg]; exact (below_size (by repeat (first | (with_reducible first | exact HB.out | apply below_alloc | apply pw_below_drewN | apply below_drew1 | refine below_set ?_ GE793.out | refine below_set ?_ GE794.out) | exact HB.out))) : w.heap.size ≤ gb795)); have n6_ := Aside0.mk ((by rw [hg]; exact Nat.ne_of_lt (blk_lt (g := gb793) (o := .cells #[.int .i64 a0_0, .string a0_1, .slice A0_2 l0_2.length c0_2, .string a0_3, .slice A0_4 l0_4.length c0_4] 64 (0, 0)) (by (with_reducible repeat (first | refine blk_drewN ?_ _ | refine blk_drew ?_ | refine blk_alloc ?_ _)); exact BK793.out)) : gb793 ≠ gb795)); have n7_ := Aside0.mk ((by rw [hg]; exact Nat.ne_of_gt (blk_lt (g := gb793) (o := .cells #[.int .i64 a0_0, .string a0_1, .slice A0_2 l0_2.length c0_2, .string a0_3, .slice A0_4 l0_4.length c0_4] 64 (0, 0)) (by (with_reducible repeat (first | refine blk_drewN ?_ _ | refine blk_drew ?_ | refine blk_alloc ?_ _)); exact BK793.out)) : gb795 ≠ gb793)); have n8_ := Aside0.mk ((by rw [hg]; exact Nat.ne_of_lt (blk_lt (g := gb794) (o := .cells #[.int .i64 a1_0, .string a1_1, .slice A1_2 l1_2.length c1_2, .string a1_3, .slice A1_4 l1_4.length c1_4] 64 (0, 0)) (by (with_reducible repeat (first | refine blk_drewN ?_ _ | refine blk_drew ?_ | refine blk_alloc ?_ _)); exact BK794.out)) : gb794 ≠ gb795)); have n9_ := Aside0.mk ((by rw [hg]; exact Nat.ne_of_gt (blk_lt (g := gb794) (o := .cells #[.int .i64 a1_0, .string a1_1, .slice A1_2 l1_2.length c1_2, .string a1_3, .slice A1_4 l1_4.length c1_4] 64 (0, 0)) (by (with_reducible repeat (first | refine blk_drewN ?_ _ | refine blk_drew ?_ | refine blk_alloc ?_ _)); exact BK794.out)) : gb795 ≠ gb794)); clear BK793; clear BK794; clear HB; have BK793 := n0_; have BK794 := n1_; have HB := n2_; have BK795 := n3_; have GW795 := n4_; have GE795 := n5_; have NB793_795 := n6_; have NB795_793 := n7_; have NB794_795 := n8_; have NB795_794 := n9_; clear n0_ n1_ n2_ n3_ n4_ n5_ n6_ n7_ n8_ n9_; clear hb hbox hg))
  (try simp only [Act.put, List.setIfInBounds_toArray, List.set_cons_zero, List.set_cons_succ])
  go_cut [22] (fun v22 wc => ∃ (kq : Nat) (x22_2 : Bool), v22 = .bool x22_2 ∧ Aside0 (edit_Join.j0 kq x22_2 a0_0 a0_1 l0_2 a0_3 l0_4 a1_0 a1_1 l1_2 a1_3 l1_4 = some (r1, r2, r3, r4, r5, r6)) ∧ Aside0 (kq ≤ k) ∧ Aside0 (wc.heap[gb793]? = some (.cells #[.int .i64 a0_0, .string a0_1, (.slice A0_2 l0_2.length c0_2), .string a0_3, (.slice A0_4 l0_4.length c0_4)] 64 (0, 0))) ∧ Aside0 (wc.heap[gb794]? = some (.cells #[.int .i64 a1_0, .string a1_1, (.slice A1_2 l1_2.length c1_2), .string a1_3, (.slice A1_4 l1_4.length c1_4)] 64 (0, 0))) ∧ Aside0 (wc.heap[gb795]? = some (.cells #[.int .i64 0, .string (⟨#[]⟩ : ByteArray), (.slice none 0 0), .string (⟨#[]⟩ : ByteArray), (.slice none 0 0)] 64 (0, 0))) ∧ Aside0 (Below w.heap.size w wc))
  case first =>
    have H := HC3.out
    clear HC3
    replace H := Option.bind_eq_some_iff.mp H
    obtain ⟨t796, A70, H⟩ := H
    replace H : (if t796 = true then ((edit_good.f k a1_0 a1_1 l1_2 a1_3 l1_4).bind fun t797 => (if t797 = true then (edit_Join.j0 k (decide (a1_0 < a0_0)) a0_0 a0_1 l0_2 a0_3 l0_4 a1_0 a1_1 l1_2 a1_3 l1_4) else (edit_Join.j0 k true a0_0 a0_1 l0_2 a0_3 l0_4 a1_0 a1_1 l1_2 a1_3 l1_4))) else (edit_Join.j0 k true a0_0 a0_1 l0_2 a0_3 l0_4 a1_0 a1_1 l1_2 a1_3 l1_4)) = some (r1, r2, r3, r4, r5, r6) := H
    have A7 := Aside0.mk A70
    clear A70
    by_cases c8 : t796 = true
    · subst c8
      have H1 : ((edit_good.f k a1_0 a1_1 l1_2 a1_3 l1_4).bind fun t797 => (if t797 = true then (edit_Join.j0 k (decide (a1_0 < a0_0)) a0_0 a0_1 l0_2 a0_3 l0_4 a1_0 a1_1 l1_2 a1_3 l1_4) else (edit_Join.j0 k true a0_0 a0_1 l0_2 a0_3 l0_4 a1_0 a1_1 l1_2 a1_3 l1_4))) = some (r1, r2, r3, r4, r5, r6) := by rw [if_pos rfl] at H; exact H
      clear H
      have H := H1
      clear H1
      replace H := Option.bind_eq_some_iff.mp H
      obtain ⟨t797, A90, H⟩ := H
      replace H : (if t797 = true then (edit_Join.j0 k (decide (a1_0 < a0_0)) a0_0 a0_1 l0_2 a0_3 l0_4 a1_0 a1_1 l1_2 a1_3 l1_4) else (edit_Join.j0 k true a0_0 a0_1 l0_2 a0_3 l0_4 a1_0 a1_1 l1_2 a1_3 l1_4)) = some (r1, r2, r3, r4, r5, r6) := H
      have A9 := Aside0.mk A90
      clear A90
      by_cases c10 : t797 = true
      · subst c10
        have H1 : (edit_Join.j0 k (decide (a1_0 < a0_0)) a0_0 a0_1 l0_2 a0_3 l0_4 a1_0 a1_1 l1_2 a1_3 l1_4) = some (r1, r2, r3, r4, r5, r6) := by rw [if_pos rfl] at H; exact H
        clear H
        have H := H1
        clear H1
        have H' := Aside0.mk H
        clear H
        have hnb11 := NB793_794.out
        have hnc11 := NB794_793.out
        have hnb12 := NB793_795.out
        have hnc12 := NB795_793.out
        have hcz13_0 : w6.cell? ⟨gb793, 0, none⟩ = some (.int .i64 a0_0) := (blk_cell BK793.out 0).trans rfl
        have hcz13_1 : w6.cell? ⟨gb793, 1, none⟩ = some (.string a0_1) := (blk_cell BK793.out 1).trans rfl
        have hcz13_2 : w6.cell? ⟨gb793, 2, none⟩ = some (.slice A0_2 l0_2.length c0_2) := (blk_cell BK793.out 2).trans rfl
        have hcz13_3 : w6.cell? ⟨gb793, 3, none⟩ = some (.string a0_3) := (blk_cell BK793.out 3).trans rfl
        have hcz13_4 : w6.cell? ⟨gb793, 4, none⟩ = some (.slice A0_4 l0_4.length c0_4) := (blk_cell BK793.out 4).trans rfl
        have hfz13_0 := blk_frozen BK793.out 0
        have hfz13_1 := blk_frozen BK793.out 1
        have hfz13_2 := blk_frozen BK793.out 2
        have hfz13_3 := blk_frozen BK793.out 3
        have hfz13_4 := blk_frozen BK793.out 4
        go_wp2_with (first | ((with_reducible refine gate_callee (f := 99) rfl ?_); refine goesL_ (some 9) rfl rfl Try.func99 (by kernel_rfl) rfl #[.agg #[.int .i64 a0_0, .string a0_1, .slice A0_2 l0_2.length c0_2, .string a0_3, .slice A0_4 l0_4.length c0_4]] rfl (by (try simp only [List.map_toArray, List.map_cons, List.map_nil]); first | done | rfl | (simp only [List.length_drop, List.length_take]; rfl)) ?_; (with_reducible refine (edit_good.calls k a0_0 a0_1 _ _ l0_2 a0_3 _ _ l0_4 true _ ?side1 ?side2 ?side3 ?side4 A7.out).mono ?_); (case side1 => repeat (first | exact (Kd.C_below HR0_2.out HB.out) | (with_reducible refine Kd.C_alloc ?_ _) | (with_reducible refine Kd.C_drewN ?_ _) | (with_reducible refine Kd.C_drew ?_))); (case side2 => exact HC0_2.out); (case side3 => repeat (first | exact (Kd.C_below HR0_4.out HB.out) | (with_reducible refine Kd.C_alloc ?_ _) | (with_reducible refine Kd.C_drewN ?_ _) | (with_reducible refine Kd.C_drew ?_))); (case side4 => exact HC0_4.out); rintro e w14 ⟨rfl, hb⟩; refine ⟨_, rfl, ?_⟩; have n0_ := Aside0.mk (blk_below (g := gb793) (o := .cells #[.int .i64 a0_0, .string a0_1, .slice A0_2 l0_2.length c0_2, .string a0_3, .slice A0_4 l0_4.length c0_4] 64 (0, 0)) (by (with_reducible repeat (first | refine blk_drewN ?_ _ | refine blk_drew ?_ | refine blk_alloc ?_ _)); exact BK793.out) hb); have n1_ := Aside0.mk (blk_below (g := gb794) (o := .cells #[.int .i64 a1_0, .string a1_1, .slice A1_2 l1_2.length c1_2, .string a1_3, .slice A1_4 l1_4.length c1_4] 64 (0, 0)) (by (with_reducible repeat (first | refine blk_drewN ?_ _ | refine blk_drew ?_ | refine blk_alloc ?_ _)); exact BK794.out) hb); have n2_ := Aside0.mk (blk_below (g := gb795) (o := .cells #[.int .i64 0, .string (⟨#[]⟩ : ByteArray), .slice none 0 0, .string (⟨#[]⟩ : ByteArray), .slice none 0 0] 64 (0, 0)) (by (with_reducible repeat (first | refine blk_drewN ?_ _ | refine blk_drew ?_ | refine blk_alloc ?_ _)); exact BK795.out) hb); have n3_ := Aside0.mk (below_step (by repeat (first | (with_reducible first | exact HB.out | apply below_alloc | apply pw_below_drewN | apply below_drew1 | refine below_set ?_ GE793.out | refine below_set ?_ GE794.out | refine below_set ?_ GE795.out) | exact HB.out)) hb); clear BK793; clear BK794; clear BK795; clear HB; have BK793 := n0_; have BK794 := n1_; have BK795 := n2_; have HB := n3_; clear n0_ n1_ n2_ n3_; (try clear hb); (try clear hb2); (try clear hk); (try clear hi); have hnb15 := NB794_795.out; have hnc15 := NB795_794.out; have hcz16_0 : w14.cell? ⟨gb794, 0, none⟩ = some (.int .i64 a1_0) := (blk_cell BK794.out 0).trans rfl; have hcz16_1 : w14.cell? ⟨gb794, 1, none⟩ = some (.string a1_1) := (blk_cell BK794.out 1).trans rfl; have hcz16_2 : w14.cell? ⟨gb794, 2, none⟩ = some (.slice A1_2 l1_2.length c1_2) := (blk_cell BK794.out 2).trans rfl; have hcz16_3 : w14.cell? ⟨gb794, 3, none⟩ = some (.string a1_3) := (blk_cell BK794.out 3).trans rfl; have hcz16_4 : w14.cell? ⟨gb794, 4, none⟩ = some (.slice A1_4 l1_4.length c1_4) := (blk_cell BK794.out 4).trans rfl; have hfz16_0 := blk_frozen BK794.out 0; have hfz16_1 := blk_frozen BK794.out 1; have hfz16_2 := blk_frozen BK794.out 2; have hfz16_3 := blk_frozen BK794.out 3; have hfz16_4 := blk_frozen BK794.out 4) | (go_at_call 99; (with_reducible refine (edit_good.calls k a1_0 a1_1 _ _ l1_2 a1_3 _ _ l1_4 true _ ?side1 ?side2 ?side3 ?side4 A9.out).mono ?_); (case side1 => repeat (first | exact (Kd.C_below HR1_2.out HB.out) | (with_reducible refine Kd.C_alloc ?_ _) | (with_reducible refine Kd.C_drewN ?_ _) | (with_reducible refine Kd.C_drew ?_))); (case side2 => exact HC1_2.out); (case side3 => repeat (first | exact (Kd.C_below HR1_4.out HB.out) | (with_reducible refine Kd.C_alloc ?_ _) | (with_reducible refine Kd.C_drewN ?_ _) | (with_reducible refine Kd.C_drew ?_))); (case side4 => exact HC1_4.out); rintro e w17 ⟨rfl, hb⟩; have n0_ := Aside0.mk (blk_below (g := gb793) (o := .cells #[.int .i64 a0_0, .string a0_1, .slice A0_2 l0_2.length c0_2, .string a0_3, .slice A0_4 l0_4.length c0_4] 64 (0, 0)) (by (with_reducible repeat (first | refine blk_drewN ?_ _ | refine blk_drew ?_ | refine blk_alloc ?_ _)); exact BK793.out) hb); have n1_ := Aside0.mk (blk_below (g := gb794) (o := .cells #[.int .i64 a1_0, .string a1_1, .slice A1_2 l1_2.length c1_2, .string a1_3, .slice A1_4 l1_4.length c1_4] 64 (0, 0)) (by (with_reducible repeat (first | refine blk_drewN ?_ _ | refine blk_drew ?_ | refine blk_alloc ?_ _)); exact BK794.out) hb); have n2_ := Aside0.mk (blk_below (g := gb795) (o := .cells #[.int .i64 0, .string (⟨#[]⟩ : ByteArray), .slice none 0 0, .string (⟨#[]⟩ : ByteArray), .slice none 0 0] 64 (0, 0)) (by (with_reducible repeat (first | refine blk_drewN ?_ _ | refine blk_drew ?_ | refine blk_alloc ?_ _)); exact BK795.out) hb); have n3_ := Aside0.mk (below_step (by repeat (first | (with_reducible first | exact HB.out | apply below_alloc | apply pw_below_drewN | apply below_drew1 | refine below_set ?_ GE793.out | refine below_set ?_ GE794.out | refine below_set ?_ GE795.out) | exact HB.out)) hb); clear BK793; clear BK794; clear BK795; clear HB; have BK793 := n0_; have BK794 := n1_; have BK795 := n2_; have HB := n3_; clear n0_ n1_ n2_ n3_; (try clear hb); (try clear hb2); (try clear hk); (try clear hi); have hcz18_0 : w17.cell? ⟨gb794, 0, none⟩ = some (.int .i64 a1_0) := (blk_cell BK794.out 0).trans rfl; have hcz18_1 : w17.cell? ⟨gb794, 1, none⟩ = some (.string a1_1) := (blk_cell BK794.out 1).trans rfl; have hcz18_2 : w17.cell? ⟨gb794, 2, none⟩ = some (.slice A1_2 l1_2.length c1_2) := (blk_cell BK794.out 2).trans rfl; have hcz18_3 : w17.cell? ⟨gb794, 3, none⟩ = some (.string a1_3) := (blk_cell BK794.out 3).trans rfl; have hcz18_4 : w17.cell? ⟨gb794, 4, none⟩ = some (.slice A1_4 l1_4.length c1_4) := (blk_cell BK794.out 4).trans rfl; have hfz18_0 := blk_frozen BK794.out 0; have hfz18_1 := blk_frozen BK794.out 1; have hfz18_2 := blk_frozen BK794.out 2; have hfz18_3 := blk_frozen BK794.out 3; have hfz18_4 := blk_frozen BK794.out 4; have hcz19_0 : w17.cell? ⟨gb793, 0, none⟩ = some (.int .i64 a0_0) := (blk_cell BK793.out 0).trans rfl; have hcz19_1 : w17.cell? ⟨gb793, 1, none⟩ = some (.string a0_1) := (blk_cell BK793.out 1).trans rfl; have hcz19_2 : w17.cell? ⟨gb793, 2, none⟩ = some (.slice A0_2 l0_2.length c0_2) := (blk_cell BK793.out 2).trans rfl; have hcz19_3 : w17.cell? ⟨gb793, 3, none⟩ = some (.string a0_3) := (blk_cell BK793.out 3).trans rfl; have hcz19_4 : w17.cell? ⟨gb793, 4, none⟩ = some (.slice A0_4 l0_4.length c0_4) := (blk_cell BK793.out 4).trans rfl; have hfz19_0 := blk_frozen BK793.out 0; have hfz19_1 := blk_frozen BK793.out 1; have hfz19_2 := blk_frozen BK793.out 2; have hfz19_3 := blk_frozen BK793.out 3; have hfz19_4 := blk_frozen BK793.out 4))
        go_meet
        case rel => exact ⟨_, (decide (a1_0 < a0_0)), (by first | rfl | (simp; done) | (simp [*]; done)), H', ⟨by first | omega | exact Nat.le_refl _⟩, ⟨by (with_reducible repeat (first | refine blk_drewN ?_ _ | refine blk_drew ?_ | refine blk_alloc ?_ _)); exact BK793.out⟩, ⟨by (with_reducible repeat (first | refine blk_drewN ?_ _ | refine blk_drew ?_ | refine blk_alloc ?_ _)); exact BK794.out⟩, ⟨by (with_reducible repeat (first | refine blk_drewN ?_ _ | refine blk_drew ?_ | refine blk_alloc ?_ _)); exact BK795.out⟩, ⟨by repeat (first | (with_reducible first | exact HB.out | apply below_alloc | apply pw_below_drewN | apply below_drew1 | refine below_set ?_ GE793.out | refine below_set ?_ GE794.out | refine below_set ?_ GE795.out) | exact HB.out)⟩⟩
      · replace c10 := Bool.eq_false_iff.mpr c10
        subst c10
        have H1 : (edit_Join.j0 k true a0_0 a0_1 l0_2 a0_3 l0_4 a1_0 a1_1 l1_2 a1_3 l1_4) = some (r1, r2, r3, r4, r5, r6) := by rw [if_neg (show ¬ (false = true) by decide)] at H; exact H
        clear H
        have H := H1
        clear H1
        have H' := Aside0.mk H
        clear H
        have hnb20 := NB793_794.out
        have hnc20 := NB794_793.out
        have hnb21 := NB793_795.out
        have hnc21 := NB795_793.out
        have hcz22_0 : w6.cell? ⟨gb793, 0, none⟩ = some (.int .i64 a0_0) := (blk_cell BK793.out 0).trans rfl
        have hcz22_1 : w6.cell? ⟨gb793, 1, none⟩ = some (.string a0_1) := (blk_cell BK793.out 1).trans rfl
        have hcz22_2 : w6.cell? ⟨gb793, 2, none⟩ = some (.slice A0_2 l0_2.length c0_2) := (blk_cell BK793.out 2).trans rfl
        have hcz22_3 : w6.cell? ⟨gb793, 3, none⟩ = some (.string a0_3) := (blk_cell BK793.out 3).trans rfl
        have hcz22_4 : w6.cell? ⟨gb793, 4, none⟩ = some (.slice A0_4 l0_4.length c0_4) := (blk_cell BK793.out 4).trans rfl
        have hfz22_0 := blk_frozen BK793.out 0
        have hfz22_1 := blk_frozen BK793.out 1
        have hfz22_2 := blk_frozen BK793.out 2
        have hfz22_3 := blk_frozen BK793.out 3
        have hfz22_4 := blk_frozen BK793.out 4
        go_wp2_with (first | ((with_reducible refine gate_callee (f := 99) rfl ?_); refine goesL_ (some 9) rfl rfl Try.func99 (by kernel_rfl) rfl #[.agg #[.int .i64 a0_0, .string a0_1, .slice A0_2 l0_2.length c0_2, .string a0_3, .slice A0_4 l0_4.length c0_4]] rfl (by (try simp only [List.map_toArray, List.map_cons, List.map_nil]); first | done | rfl | (simp only [List.length_drop, List.length_take]; rfl)) ?_; (with_reducible refine (edit_good.calls k a0_0 a0_1 _ _ l0_2 a0_3 _ _ l0_4 true _ ?side1 ?side2 ?side3 ?side4 A7.out).mono ?_); (case side1 => repeat (first | exact (Kd.C_below HR0_2.out HB.out) | (with_reducible refine Kd.C_alloc ?_ _) | (with_reducible refine Kd.C_drewN ?_ _) | (with_reducible refine Kd.C_drew ?_))); (case side2 => exact HC0_2.out); (case side3 => repeat (first | exact (Kd.C_below HR0_4.out HB.out) | (with_reducible refine Kd.C_alloc ?_ _) | (with_reducible refine Kd.C_drewN ?_ _) | (with_reducible refine Kd.C_drew ?_))); (case side4 => exact HC0_4.out); rintro e w23 ⟨rfl, hb⟩; refine ⟨_, rfl, ?_⟩; have n0_ := Aside0.mk (blk_below (g := gb793) (o := .cells #[.int .i64 a0_0, .string a0_1, .slice A0_2 l0_2.length c0_2, .string a0_3, .slice A0_4 l0_4.length c0_4] 64 (0, 0)) (by (with_reducible repeat (first | refine blk_drewN ?_ _ | refine blk_drew ?_ | refine blk_alloc ?_ _)); exact BK793.out) hb); have n1_ := Aside0.mk (blk_below (g := gb794) (o := .cells #[.int .i64 a1_0, .string a1_1, .slice A1_2 l1_2.length c1_2, .string a1_3, .slice A1_4 l1_4.length c1_4] 64 (0, 0)) (by (with_reducible repeat (first | refine blk_drewN ?_ _ | refine blk_drew ?_ | refine blk_alloc ?_ _)); exact BK794.out) hb); have n2_ := Aside0.mk (blk_below (g := gb795) (o := .cells #[.int .i64 0, .string (⟨#[]⟩ : ByteArray), .slice none 0 0, .string (⟨#[]⟩ : ByteArray), .slice none 0 0] 64 (0, 0)) (by (with_reducible repeat (first | refine blk_drewN ?_ _ | refine blk_drew ?_ | refine blk_alloc ?_ _)); exact BK795.out) hb); have n3_ := Aside0.mk (below_step (by repeat (first | (with_reducible first | exact HB.out | apply below_alloc | apply pw_below_drewN | apply below_drew1 | refine below_set ?_ GE793.out | refine below_set ?_ GE794.out | refine below_set ?_ GE795.out) | exact HB.out)) hb); clear BK793; clear BK794; clear BK795; clear HB; have BK793 := n0_; have BK794 := n1_; have BK795 := n2_; have HB := n3_; clear n0_ n1_ n2_ n3_; (try clear hb); (try clear hb2); (try clear hk); (try clear hi); have hnb24 := NB794_795.out; have hnc24 := NB795_794.out; have hcz25_0 : w23.cell? ⟨gb794, 0, none⟩ = some (.int .i64 a1_0) := (blk_cell BK794.out 0).trans rfl; have hcz25_1 : w23.cell? ⟨gb794, 1, none⟩ = some (.string a1_1) := (blk_cell BK794.out 1).trans rfl; have hcz25_2 : w23.cell? ⟨gb794, 2, none⟩ = some (.slice A1_2 l1_2.length c1_2) := (blk_cell BK794.out 2).trans rfl; have hcz25_3 : w23.cell? ⟨gb794, 3, none⟩ = some (.string a1_3) := (blk_cell BK794.out 3).trans rfl; have hcz25_4 : w23.cell? ⟨gb794, 4, none⟩ = some (.slice A1_4 l1_4.length c1_4) := (blk_cell BK794.out 4).trans rfl; have hfz25_0 := blk_frozen BK794.out 0; have hfz25_1 := blk_frozen BK794.out 1; have hfz25_2 := blk_frozen BK794.out 2; have hfz25_3 := blk_frozen BK794.out 3; have hfz25_4 := blk_frozen BK794.out 4) | (go_at_call 99; (with_reducible refine (edit_good.calls k a1_0 a1_1 _ _ l1_2 a1_3 _ _ l1_4 false _ ?side1 ?side2 ?side3 ?side4 A9.out).mono ?_); (case side1 => repeat (first | exact (Kd.C_below HR1_2.out HB.out) | (with_reducible refine Kd.C_alloc ?_ _) | (with_reducible refine Kd.C_drewN ?_ _) | (with_reducible refine Kd.C_drew ?_))); (case side2 => exact HC1_2.out); (case side3 => repeat (first | exact (Kd.C_below HR1_4.out HB.out) | (with_reducible refine Kd.C_alloc ?_ _) | (with_reducible refine Kd.C_drewN ?_ _) | (with_reducible refine Kd.C_drew ?_))); (case side4 => exact HC1_4.out); rintro e w26 ⟨rfl, hb⟩; have n0_ := Aside0.mk (blk_below (g := gb793) (o := .cells #[.int .i64 a0_0, .string a0_1, .slice A0_2 l0_2.length c0_2, .string a0_3, .slice A0_4 l0_4.length c0_4] 64 (0, 0)) (by (with_reducible repeat (first | refine blk_drewN ?_ _ | refine blk_drew ?_ | refine blk_alloc ?_ _)); exact BK793.out) hb); have n1_ := Aside0.mk (blk_below (g := gb794) (o := .cells #[.int .i64 a1_0, .string a1_1, .slice A1_2 l1_2.length c1_2, .string a1_3, .slice A1_4 l1_4.length c1_4] 64 (0, 0)) (by (with_reducible repeat (first | refine blk_drewN ?_ _ | refine blk_drew ?_ | refine blk_alloc ?_ _)); exact BK794.out) hb); have n2_ := Aside0.mk (blk_below (g := gb795) (o := .cells #[.int .i64 0, .string (⟨#[]⟩ : ByteArray), .slice none 0 0, .string (⟨#[]⟩ : ByteArray), .slice none 0 0] 64 (0, 0)) (by (with_reducible repeat (first | refine blk_drewN ?_ _ | refine blk_drew ?_ | refine blk_alloc ?_ _)); exact BK795.out) hb); have n3_ := Aside0.mk (below_step (by repeat (first | (with_reducible first | exact HB.out | apply below_alloc | apply pw_below_drewN | apply below_drew1 | refine below_set ?_ GE793.out | refine below_set ?_ GE794.out | refine below_set ?_ GE795.out) | exact HB.out)) hb); clear BK793; clear BK794; clear BK795; clear HB; have BK793 := n0_; have BK794 := n1_; have BK795 := n2_; have HB := n3_; clear n0_ n1_ n2_ n3_; (try clear hb); (try clear hb2); (try clear hk); (try clear hi)))
        go_meet
        case rel => exact ⟨_, (true), (by first | rfl | (simp; done) | (simp [*]; done)), H', ⟨by first | omega | exact Nat.le_refl _⟩, ⟨by (with_reducible repeat (first | refine blk_drewN ?_ _ | refine blk_drew ?_ | refine blk_alloc ?_ _)); exact BK793.out⟩, ⟨by (with_reducible repeat (first | refine blk_drewN ?_ _ | refine blk_drew ?_ | refine blk_alloc ?_ _)); exact BK794.out⟩, ⟨by (with_reducible repeat (first | refine blk_drewN ?_ _ | refine blk_drew ?_ | refine blk_alloc ?_ _)); exact BK795.out⟩, ⟨by repeat (first | (with_reducible first | exact HB.out | apply below_alloc | apply pw_below_drewN | apply below_drew1 | refine below_set ?_ GE793.out | refine below_set ?_ GE794.out | refine below_set ?_ GE795.out) | exact HB.out)⟩⟩
    · replace c8 := Bool.eq_false_iff.mpr c8
      subst c8
      have H1 : (edit_Join.j0 k true a0_0 a0_1 l0_2 a0_3 l0_4 a1_0 a1_1 l1_2 a1_3 l1_4) = some (r1, r2, r3, r4, r5, r6) := by rw [if_neg (show ¬ (false = true) by decide)] at H; exact H
      clear H
      have H := H1
      clear H1
      have H' := Aside0.mk H
      clear H
      have hnb27 := NB793_794.out
      have hnc27 := NB794_793.out
      have hnb28 := NB793_795.out
      have hnc28 := NB795_793.out
      have hcz29_0 : w6.cell? ⟨gb793, 0, none⟩ = some (.int .i64 a0_0) := (blk_cell BK793.out 0).trans rfl
      have hcz29_1 : w6.cell? ⟨gb793, 1, none⟩ = some (.string a0_1) := (blk_cell BK793.out 1).trans rfl
      have hcz29_2 : w6.cell? ⟨gb793, 2, none⟩ = some (.slice A0_2 l0_2.length c0_2) := (blk_cell BK793.out 2).trans rfl
      have hcz29_3 : w6.cell? ⟨gb793, 3, none⟩ = some (.string a0_3) := (blk_cell BK793.out 3).trans rfl
      have hcz29_4 : w6.cell? ⟨gb793, 4, none⟩ = some (.slice A0_4 l0_4.length c0_4) := (blk_cell BK793.out 4).trans rfl
      have hfz29_0 := blk_frozen BK793.out 0
      have hfz29_1 := blk_frozen BK793.out 1
      have hfz29_2 := blk_frozen BK793.out 2
      have hfz29_3 := blk_frozen BK793.out 3
      have hfz29_4 := blk_frozen BK793.out 4
      go_wp2_with (first | ((with_reducible refine gate_callee (f := 99) rfl ?_); refine goesL_ (some 9) rfl rfl Try.func99 (by kernel_rfl) rfl #[.agg #[.int .i64 a0_0, .string a0_1, .slice A0_2 l0_2.length c0_2, .string a0_3, .slice A0_4 l0_4.length c0_4]] rfl (by (try simp only [List.map_toArray, List.map_cons, List.map_nil]); first | done | rfl | (simp only [List.length_drop, List.length_take]; rfl)) ?_; (with_reducible refine (edit_good.calls k a0_0 a0_1 _ _ l0_2 a0_3 _ _ l0_4 false _ ?side1 ?side2 ?side3 ?side4 A7.out).mono ?_); (case side1 => repeat (first | exact (Kd.C_below HR0_2.out HB.out) | (with_reducible refine Kd.C_alloc ?_ _) | (with_reducible refine Kd.C_drewN ?_ _) | (with_reducible refine Kd.C_drew ?_))); (case side2 => exact HC0_2.out); (case side3 => repeat (first | exact (Kd.C_below HR0_4.out HB.out) | (with_reducible refine Kd.C_alloc ?_ _) | (with_reducible refine Kd.C_drewN ?_ _) | (with_reducible refine Kd.C_drew ?_))); (case side4 => exact HC0_4.out); rintro e w30 ⟨rfl, hb⟩; refine ⟨_, rfl, ?_⟩; have n0_ := Aside0.mk (blk_below (g := gb793) (o := .cells #[.int .i64 a0_0, .string a0_1, .slice A0_2 l0_2.length c0_2, .string a0_3, .slice A0_4 l0_4.length c0_4] 64 (0, 0)) (by (with_reducible repeat (first | refine blk_drewN ?_ _ | refine blk_drew ?_ | refine blk_alloc ?_ _)); exact BK793.out) hb); have n1_ := Aside0.mk (blk_below (g := gb794) (o := .cells #[.int .i64 a1_0, .string a1_1, .slice A1_2 l1_2.length c1_2, .string a1_3, .slice A1_4 l1_4.length c1_4] 64 (0, 0)) (by (with_reducible repeat (first | refine blk_drewN ?_ _ | refine blk_drew ?_ | refine blk_alloc ?_ _)); exact BK794.out) hb); have n2_ := Aside0.mk (blk_below (g := gb795) (o := .cells #[.int .i64 0, .string (⟨#[]⟩ : ByteArray), .slice none 0 0, .string (⟨#[]⟩ : ByteArray), .slice none 0 0] 64 (0, 0)) (by (with_reducible repeat (first | refine blk_drewN ?_ _ | refine blk_drew ?_ | refine blk_alloc ?_ _)); exact BK795.out) hb); have n3_ := Aside0.mk (below_step (by repeat (first | (with_reducible first | exact HB.out | apply below_alloc | apply pw_below_drewN | apply below_drew1 | refine below_set ?_ GE793.out | refine below_set ?_ GE794.out | refine below_set ?_ GE795.out) | exact HB.out)) hb); clear BK793; clear BK794; clear BK795; clear HB; have BK793 := n0_; have BK794 := n1_; have BK795 := n2_; have HB := n3_; clear n0_ n1_ n2_ n3_; (try clear hb); (try clear hb2); (try clear hk); (try clear hi)))
      go_meet
      case rel => exact ⟨_, (true), (by first | rfl | (simp; done) | (simp [*]; done)), H', ⟨by first | omega | exact Nat.le_refl _⟩, ⟨by (with_reducible repeat (first | refine blk_drewN ?_ _ | refine blk_drew ?_ | refine blk_alloc ?_ _)); exact BK793.out⟩, ⟨by (with_reducible repeat (first | refine blk_drewN ?_ _ | refine blk_drew ?_ | refine blk_alloc ?_ _)); exact BK794.out⟩, ⟨by (with_reducible repeat (first | refine blk_drewN ?_ _ | refine blk_drew ?_ | refine blk_alloc ?_ _)); exact BK795.out⟩, ⟨by repeat (first | (with_reducible first | exact HB.out | apply below_alloc | apply pw_below_drewN | apply below_drew1 | refine below_set ?_ GE793.out | refine below_set ?_ GE794.out | refine below_set ?_ GE795.out) | exact HB.out)⟩⟩
  case rest =>
    clear HC3
    try clear c1
    try clear c2
    try clear p2
    try clear c7
    try clear c8
    try clear c9
    try clear c10
    try clear c11
    try clear c12
    try clear c15
    try clear c20
    try clear c21
    try clear c24
    try clear c27
    try clear c28
    try clear hcz13_0
    try clear hcz13_1
    try clear hcz13_2
    try clear hcz13_3
    try clear hcz13_4
    try clear hcz16_0
    try clear hcz16_1
    try clear hcz16_2
    try clear hcz16_3
    try clear hcz16_4
    try clear hcz18_0
    try clear hcz18_1
    try clear hcz18_2
    try clear hcz18_3
    try clear hcz18_4
    try clear hcz19_0
    try clear hcz19_1
    try clear hcz19_2
    try clear hcz19_3
    try clear hcz19_4
    try clear hcz22_0
    try clear hcz22_1
    try clear hcz22_2
    try clear hcz22_3
    try clear hcz22_4
    try clear hcz25_0
    try clear hcz25_1
    try clear hcz25_2
    try clear hcz25_3
    try clear hcz25_4
    try clear hcz29_0
    try clear hcz29_1
    try clear hcz29_2
    try clear hcz29_3
    try clear hcz29_4
    try clear hfz13_0
    try clear hfz13_1
    try clear hfz13_2
    try clear hfz13_3
    try clear hfz13_4
    try clear hfz16_0
    try clear hfz16_1
    try clear hfz16_2
    try clear hfz16_3
    try clear hfz16_4
    try clear hfz18_0
    try clear hfz18_1
    try clear hfz18_2
    try clear hfz18_3
    try clear hfz18_4
    try clear hfz19_0
    try clear hfz19_1
    try clear hfz19_2
    try clear hfz19_3
    try clear hfz19_4
    try clear hfz22_0
    try clear hfz22_1
    try clear hfz22_2
    try clear hfz22_3
    try clear hfz22_4
    try clear hfz25_0
    try clear hfz25_1
    try clear hfz25_2
    try clear hfz25_3
    try clear hfz25_4
    try clear hfz29_0
    try clear hfz29_1
    try clear hfz29_2
    try clear hfz29_3
    try clear hfz29_4
    obtain ⟨kq, x22_2, rfl, HA, HJ2, BK793, BK794, BK795, HB⟩ := hcut
    cases kq with
    | zero => exact absurd HA.out (by simp [edit_Join.j0])
    | succ kj2 =>
      have H := HA.out
      clear HA
      simp only [edit_Join.j0] at H
      by_cases c31 : x22_2 = true
      · subst c31
        have H1 : (some (0, (⟨#[]⟩ : ByteArray), ([] : List (S100)), (⟨#[]⟩ : ByteArray), ([] : List (S100)), false)) = some (r1, r2, r3, r4, r5, r6) := by rw [if_pos rfl] at H; exact H
        clear H
        have H := H1
        clear H1
        simp only [Option.some.injEq, Prod.mk.injEq] at H
        obtain ⟨rfl, rfl, rfl, rfl, rfl, rfl⟩ := H
        have hnb32 := NB795_793.out
        have hnc32 := NB793_795.out
        have hnb33 := NB795_794.out
        have hnc33 := NB794_795.out
        have hcz34_0 : wc.cell? ⟨gb795, 0, none⟩ = some (.int .i64 0) := (blk_cell BK795.out 0).trans rfl
        have hcz34_1 : wc.cell? ⟨gb795, 1, none⟩ = some (.string (⟨#[]⟩ : ByteArray)) := (blk_cell BK795.out 1).trans rfl
        have hcz34_2 : wc.cell? ⟨gb795, 2, none⟩ = some (.slice none 0 0) := (blk_cell BK795.out 2).trans rfl
        have hcz34_3 : wc.cell? ⟨gb795, 3, none⟩ = some (.string (⟨#[]⟩ : ByteArray)) := (blk_cell BK795.out 3).trans rfl
        have hcz34_4 : wc.cell? ⟨gb795, 4, none⟩ = some (.slice none 0 0) := (blk_cell BK795.out 4).trans rfl
        have hfz34_0 := blk_frozen BK795.out 0
        have hfz34_1 := blk_frozen BK795.out 1
        have hfz34_2 := blk_frozen BK795.out 2
        have hfz34_3 := blk_frozen BK795.out 3
        have hfz34_4 := blk_frozen BK795.out 4
        go_wp2
        refine bodyPost_ret (results_ct rfl _ _ gb795 64 #[.int .i64 0, .string (⟨#[]⟩ : ByteArray), .slice none 0 0, .string (⟨#[]⟩ : ByteArray), .slice none 0 0] (0, 0) _ rfl (by (with_reducible repeat (first | refine blk_drewN ?_ _ | refine blk_drew ?_ | refine blk_alloc ?_ _)); refine blk_put (cs := #[.int .i64 0, .string (⟨#[]⟩ : ByteArray), .slice none 0 0, .string (⟨#[]⟩ : ByteArray), .slice none 0 0]) ?_ 4 _ rfl; (with_reducible repeat (first | refine blk_drewN ?_ _ | refine blk_drew ?_ | refine blk_alloc ?_ _)); refine blk_put (cs := #[.int .i64 0, .string (⟨#[]⟩ : ByteArray), .slice none 0 0, .string (⟨#[]⟩ : ByteArray), .slice none 0 0]) ?_ 3 _ rfl; (with_reducible repeat (first | refine blk_drewN ?_ _ | refine blk_drew ?_ | refine blk_alloc ?_ _)); refine blk_put (cs := #[.int .i64 0, .string (⟨#[]⟩ : ByteArray), .slice none 0 0, .string (⟨#[]⟩ : ByteArray), .slice none 0 0]) ?_ 2 _ rfl; (with_reducible repeat (first | refine blk_drewN ?_ _ | refine blk_drew ?_ | refine blk_alloc ?_ _)); refine blk_put (cs := #[.int .i64 0, .string (⟨#[]⟩ : ByteArray), .slice none 0 0, .string (⟨#[]⟩ : ByteArray), .slice none 0 0]) ?_ 1 _ rfl; (with_reducible repeat (first | refine blk_drewN ?_ _ | refine blk_drew ?_ | refine blk_alloc ?_ _)); refine blk_put (cs := #[.int .i64 0, .string (⟨#[]⟩ : ByteArray), .slice none 0 0, .string (⟨#[]⟩ : ByteArray), .slice none 0 0]) ?_ 0 _ rfl; (with_reducible repeat (first | refine blk_drewN ?_ _ | refine blk_drew ?_ | refine blk_alloc ?_ _)); exact BK795.out) Try.underlying64 rfl (by kernel_rfl)) rfl ?_
        exact ⟨_, _, by first | rfl | (simp [errW_none, errW_some] <;> rfl) | (simp [*, errW_none, errW_some] <;> rfl), by first | exact Kd.R_nil _ _ _ _ _ | exact Kd.N_nil _ _ _ _ _ | exact Kd.V_nil _ _ _ _ _ | exact Kd.Q_nil _ _ _ _ _ | exact Kd.S_nil _ _ _ _ _, by first | exact Kd.R_nil _ _ _ _ _ | exact Kd.N_nil _ _ _ _ _ | exact Kd.V_nil _ _ _ _ _ | exact Kd.Q_nil _ _ _ _ _ | exact Kd.S_nil _ _ _ _ _, by repeat (first | (with_reducible first | exact HB.out | apply below_alloc | apply pw_below_drewN | apply below_drew1 | refine below_set ?_ GE793.out | refine below_set ?_ GE794.out | refine below_set ?_ GE795.out) | exact HB.out)⟩
      · replace c31 := Bool.eq_false_iff.mpr c31
        subst c31
        have H1 : ((edit_Apply.f kj2 a0_3 l0_4 (wrap64 (a1_0 - a0_0)) a1_1 l1_2 a1_3 l1_4).bind fun bt798 => (if bt798.2.2 = 0 then ((edit_own.f a0_1 l0_2).bind fun bt804 => (some (a0_0, bt804.1, bt804.2, bt798.1, bt798.2.1, true))) else (some (0, (⟨#[]⟩ : ByteArray), ([] : List (S100)), (⟨#[]⟩ : ByteArray), ([] : List (S100)), false)))) = some (r1, r2, r3, r4, r5, r6) := by rw [if_neg (show ¬ (false = true) by decide)] at H; exact H
        clear H
        have H := H1
        clear H1
        replace H := Option.bind_eq_some_iff.mp H
        obtain ⟨⟨t798, t799, t802⟩, A350, H⟩ := H
        replace H : (if t802 = 0 then ((edit_own.f a0_1 l0_2).bind fun bt804 => (some (a0_0, bt804.1, bt804.2, t798, t799, true))) else (some (0, (⟨#[]⟩ : ByteArray), ([] : List (S100)), (⟨#[]⟩ : ByteArray), ([] : List (S100)), false))) = some (r1, r2, r3, r4, r5, r6) := H
        have A35 := Aside0.mk A350
        clear A350
        by_cases c36 : t802 = 0
        · rw [if_pos c36] at H
          have c36b0 : (t802 == 0) = true := beq_iff_eq.mpr c36
          have c36b1 : (t802 != 0) = false := bne_eq_false_iff_eq.mpr c36
          clear c36
          replace H := Option.bind_eq_some_iff.mp H
          obtain ⟨⟨t804, t805⟩, A370, H⟩ := H
          replace H : (some (a0_0, t804, t805, t798, t799, true)) = some (r1, r2, r3, r4, r5, r6) := H
          have A37 := Aside0.mk A370
          clear A370
          simp only [Option.some.injEq, Prod.mk.injEq] at H
          obtain ⟨rfl, rfl, rfl, rfl, rfl, rfl⟩ := H
          have hnb38 := NB794_793.out
          have hnc38 := NB793_794.out
          have hnb39 := NB794_795.out
          have hnc39 := NB795_794.out
          have hcz40_0 : wc.cell? ⟨gb794, 0, none⟩ = some (.int .i64 a1_0) := (blk_cell BK794.out 0).trans rfl
          have hcz40_1 : wc.cell? ⟨gb794, 1, none⟩ = some (.string a1_1) := (blk_cell BK794.out 1).trans rfl
          have hcz40_2 : wc.cell? ⟨gb794, 2, none⟩ = some (.slice A1_2 l1_2.length c1_2) := (blk_cell BK794.out 2).trans rfl
          have hcz40_3 : wc.cell? ⟨gb794, 3, none⟩ = some (.string a1_3) := (blk_cell BK794.out 3).trans rfl
          have hcz40_4 : wc.cell? ⟨gb794, 4, none⟩ = some (.slice A1_4 l1_4.length c1_4) := (blk_cell BK794.out 4).trans rfl
          have hfz40_0 := blk_frozen BK794.out 0
          have hfz40_1 := blk_frozen BK794.out 1
          have hfz40_2 := blk_frozen BK794.out 2
          have hfz40_3 := blk_frozen BK794.out 3
          have hfz40_4 := blk_frozen BK794.out 4
          have hnb41 := NB793_795.out
          have hnc41 := NB795_793.out
          have hcz42_0 : wc.cell? ⟨gb793, 0, none⟩ = some (.int .i64 a0_0) := (blk_cell BK793.out 0).trans rfl
          have hcz42_1 : wc.cell? ⟨gb793, 1, none⟩ = some (.string a0_1) := (blk_cell BK793.out 1).trans rfl
          have hcz42_2 : wc.cell? ⟨gb793, 2, none⟩ = some (.slice A0_2 l0_2.length c0_2) := (blk_cell BK793.out 2).trans rfl
          have hcz42_3 : wc.cell? ⟨gb793, 3, none⟩ = some (.string a0_3) := (blk_cell BK793.out 3).trans rfl
          have hcz42_4 : wc.cell? ⟨gb793, 4, none⟩ = some (.slice A0_4 l0_4.length c0_4) := (blk_cell BK793.out 4).trans rfl
          have hfz42_0 := blk_frozen BK793.out 0
          have hfz42_1 := blk_frozen BK793.out 1
          have hfz42_2 := blk_frozen BK793.out 2
          have hfz42_3 := blk_frozen BK793.out 3
          have hfz42_4 := blk_frozen BK793.out 4
          try go_wp2_with (first | ((with_reducible refine gate_callee (f := 65) rfl ?_); refine goesL_ (some 34) rfl rfl Try.func65 (by kernel_rfl) rfl #[.agg #[.string a0_3, .slice A0_4 l0_4.length c0_4], .agg #[.int .i64 (wrap64 (a1_0 - a0_0)), .string a1_1, .slice A1_2 l1_2.length c1_2, .string a1_3, .slice A1_4 l1_4.length c1_4]] rfl (by (try simp only [List.map_toArray, List.map_cons, List.map_nil]); first | done | rfl | (simp only [List.length_drop, List.length_take]; rfl)) ?_; (with_reducible refine (edit_Apply.calls kj2 a0_3 _ _ l0_4 (wrap64 (a1_0 - a0_0)) a1_1 _ _ l1_2 a1_3 _ _ l1_4 t798 t799 t802 _ ?side1 ?side2 ?side3 ?side4 ?side5 ?side6 A35.out).mono ?_); (case side1 => exact Kd.C_below HR0_4.out (by repeat (first | (with_reducible first | exact HB.out | apply below_alloc | apply pw_below_drewN | apply below_drew1 | refine below_set ?_ GE793.out | refine below_set ?_ GE794.out | refine below_set ?_ GE795.out) | exact HB.out))); (case side2 => exact HC0_4.out); (case side3 => exact Kd.C_below HR1_2.out (by repeat (first | (with_reducible first | exact HB.out | apply below_alloc | apply pw_below_drewN | apply below_drew1 | refine below_set ?_ GE793.out | refine below_set ?_ GE794.out | refine below_set ?_ GE795.out) | exact HB.out))); (case side4 => exact HC1_2.out); (case side5 => exact Kd.C_below HR1_4.out (by repeat (first | (with_reducible first | exact HB.out | apply below_alloc | apply pw_below_drewN | apply below_drew1 | refine below_set ?_ GE793.out | refine below_set ?_ GE794.out | refine below_set ?_ GE795.out) | exact HB.out))); (case side6 => exact HC1_4.out); rintro e w43 ⟨v800, rfl, ho0, hb⟩; refine ⟨_, rfl, ?_⟩; have n0_ := Aside0.mk (Kd.R_lower ho0 (below_size (by repeat (first | (with_reducible first | exact HB.out | apply below_alloc | apply pw_below_drewN | apply below_drew1 | refine below_set ?_ GE793.out | refine below_set ?_ GE794.out | refine below_set ?_ GE795.out) | exact HB.out)))); have n1_ := Aside0.mk (blk_below (g := gb793) (o := .cells #[.int .i64 a0_0, .string a0_1, .slice A0_2 l0_2.length c0_2, .string a0_3, .slice A0_4 l0_4.length c0_4] 64 (0, 0)) (by (with_reducible repeat (first | refine blk_drewN ?_ _ | refine blk_drew ?_ | refine blk_alloc ?_ _)); refine blk_far ?_ NB793_794.out _; (with_reducible repeat (first | refine blk_drewN ?_ _ | refine blk_drew ?_ | refine blk_alloc ?_ _)); exact BK793.out) hb); have n2_ := Aside0.mk (blk_below (g := gb794) (o := .cells #[.int .i64 (wrap64 (a1_0 - a0_0)), .string a1_1, .slice A1_2 l1_2.length c1_2, .string a1_3, .slice A1_4 l1_4.length c1_4] 64 (0, 0)) (by (with_reducible repeat (first | refine blk_drewN ?_ _ | refine blk_drew ?_ | refine blk_alloc ?_ _)); refine blk_put (cs := #[.int .i64 a1_0, .string a1_1, .slice A1_2 l1_2.length c1_2, .string a1_3, .slice A1_4 l1_4.length c1_4]) ?_ 0 _ rfl; (with_reducible repeat (first | refine blk_drewN ?_ _ | refine blk_drew ?_ | refine blk_alloc ?_ _)); exact BK794.out) hb); have n3_ := Aside0.mk (blk_below (g := gb795) (o := .cells #[.int .i64 0, .string (⟨#[]⟩ : ByteArray), .slice none 0 0, .string (⟨#[]⟩ : ByteArray), .slice none 0 0] 64 (0, 0)) (by (with_reducible repeat (first | refine blk_drewN ?_ _ | refine blk_drew ?_ | refine blk_alloc ?_ _)); refine blk_far ?_ NB795_794.out _; (with_reducible repeat (first | refine blk_drewN ?_ _ | refine blk_drew ?_ | refine blk_alloc ?_ _)); exact BK795.out) hb); have n4_ := Aside0.mk (below_step (by repeat (first | (with_reducible first | exact HB.out | apply below_alloc | apply pw_below_drewN | apply below_drew1 | refine below_set ?_ GE793.out | refine below_set ?_ GE794.out | refine below_set ?_ GE795.out) | exact HB.out)) hb); clear BK793; clear BK794; clear BK795; clear HB; have HO801 := n0_; have BK793 := n1_; have BK794 := n2_; have BK795 := n3_; have HB := n4_; clear n0_ n1_ n2_ n3_ n4_; (try clear hb); (try clear hb2); (try clear hk); (try clear hi); (try clear ho0)) | ((with_reducible refine gate_dst (N := 6) rfl ?_); refine box_event ?hg (N := 6) ?hd (cs := #[.string (⟨#[]⟩ : ByteArray), .slice none 0 0]) (t := 51) ?hr ?_; (case hd => rfl); (case hg => rfl); (case hr => first | (go_simp; done) | (go_simp; rfl)); intro gb803 hg w44 hbox hb; have n0_ := Aside0.mk (Kd.R_below (by (with_reducible repeat (first | apply Kd.R_alloc | apply Kd.R_drewN | apply Kd.R_drew)); exact HO801.out) hb); have n1_ := Aside0.mk (blk_below (g := gb793) (o := .cells #[.int .i64 a0_0, .string a0_1, .slice A0_2 l0_2.length c0_2, .string a0_3, .slice A0_4 l0_4.length c0_4] 64 (0, 0)) (by (with_reducible repeat (first | refine blk_drewN ?_ _ | refine blk_drew ?_ | refine blk_alloc ?_ _)); exact BK793.out) hb); have n2_ := Aside0.mk (blk_below (g := gb794) (o := .cells #[.int .i64 (wrap64 (a1_0 - a0_0)), .string a1_1, .slice A1_2 l1_2.length c1_2, .string a1_3, .slice A1_4 l1_4.length c1_4] 64 (0, 0)) (by (with_reducible repeat (first | refine blk_drewN ?_ _ | refine blk_drew ?_ | refine blk_alloc ?_ _)); exact BK794.out) hb); have n3_ := Aside0.mk (blk_below (g := gb795) (o := .cells #[.int .i64 0, .string (⟨#[]⟩ : ByteArray), .slice none 0 0, .string (⟨#[]⟩ : ByteArray), .slice none 0 0] 64 (0, 0)) (by (with_reducible repeat (first | refine blk_drewN ?_ _ | refine blk_drew ?_ | refine blk_alloc ?_ _)); exact BK795.out) hb); have n4_ := Aside0.mk (below_step (by repeat (first | (with_reducible first | exact HB.out | apply below_alloc | apply pw_below_drewN | apply below_drew1 | refine below_set ?_ GE793.out | refine below_set ?_ GE794.out | refine below_set ?_ GE795.out) | exact HB.out)) hb); have n5_ := Aside0.mk (hbox); have n6_ := Aside0.mk ((by rw [hg]; exact (below_size (by repeat (first | (with_reducible first | exact HB.out | apply below_alloc | apply pw_below_drewN | apply below_drew1 | refine below_set ?_ GE793.out | refine below_set ?_ GE794.out | refine below_set ?_ GE795.out) | exact HB.out))) : w.heap.size ≤ gb803)); have n7_ := Aside0.mk ((by rw [hg]; exact (below_size (by repeat (first | (with_reducible first | exact HB.out | apply below_alloc | apply pw_below_drewN | apply below_drew1 | refine below_set ?_ GE793.out | refine below_set ?_ GE794.out | refine below_set ?_ GE795.out) | exact HB.out))) : w.heap.size ≤ gb803)); have n8_ := Aside0.mk ((by rw [hg]; exact Nat.ne_of_lt (blk_lt (g := gb793) (o := .cells #[.int .i64 a0_0, .string a0_1, .slice A0_2 l0_2.length c0_2, .string a0_3, .slice A0_4 l0_4.length c0_4] 64 (0, 0)) (by (with_reducible repeat (first | refine blk_drewN ?_ _ | refine blk_drew ?_ | refine blk_alloc ?_ _)); exact BK793.out)) : gb793 ≠ gb803)); have n9_ := Aside0.mk ((by rw [hg]; exact Nat.ne_of_gt (blk_lt (g := gb793) (o := .cells #[.int .i64 a0_0, .string a0_1, .slice A0_2 l0_2.length c0_2, .string a0_3, .slice A0_4 l0_4.length c0_4] 64 (0, 0)) (by (with_reducible repeat (first | refine blk_drewN ?_ _ | refine blk_drew ?_ | refine blk_alloc ?_ _)); exact BK793.out)) : gb803 ≠ gb793)); have n10_ := Aside0.mk ((by rw [hg]; exact Nat.ne_of_lt (blk_lt (g := gb794) (o := .cells #[.int .i64 (wrap64 (a1_0 - a0_0)), .string a1_1, .slice A1_2 l1_2.length c1_2, .string a1_3, .slice A1_4 l1_4.length c1_4] 64 (0, 0)) (by (with_reducible repeat (first | refine blk_drewN ?_ _ | refine blk_drew ?_ | refine blk_alloc ?_ _)); exact BK794.out)) : gb794 ≠ gb803)); have n11_ := Aside0.mk ((by rw [hg]; exact Nat.ne_of_gt (blk_lt (g := gb794) (o := .cells #[.int .i64 (wrap64 (a1_0 - a0_0)), .string a1_1, .slice A1_2 l1_2.length c1_2, .string a1_3, .slice A1_4 l1_4.length c1_4] 64 (0, 0)) (by (with_reducible repeat (first | refine blk_drewN ?_ _ | refine blk_drew ?_ | refine blk_alloc ?_ _)); exact BK794.out)) : gb803 ≠ gb794)); have n12_ := Aside0.mk ((by rw [hg]; exact Nat.ne_of_lt (blk_lt (g := gb795) (o := .cells #[.int .i64 0, .string (⟨#[]⟩ : ByteArray), .slice none 0 0, .string (⟨#[]⟩ : ByteArray), .slice none 0 0] 64 (0, 0)) (by (with_reducible repeat (first | refine blk_drewN ?_ _ | refine blk_drew ?_ | refine blk_alloc ?_ _)); exact BK795.out)) : gb795 ≠ gb803)); have n13_ := Aside0.mk ((by rw [hg]; exact Nat.ne_of_gt (blk_lt (g := gb795) (o := .cells #[.int .i64 0, .string (⟨#[]⟩ : ByteArray), .slice none 0 0, .string (⟨#[]⟩ : ByteArray), .slice none 0 0] 64 (0, 0)) (by (with_reducible repeat (first | refine blk_drewN ?_ _ | refine blk_drew ?_ | refine blk_alloc ?_ _)); exact BK795.out)) : gb803 ≠ gb795)); clear HO801; clear BK793; clear BK794; clear BK795; clear HB; have HO801 := n0_; have BK793 := n1_; have BK794 := n2_; have BK795 := n3_; have HB := n4_; have BK803 := n5_; have GW803 := n6_; have GE803 := n7_; have NB793_803 := n8_; have NB803_793 := n9_; have NB794_803 := n10_; have NB803_794 := n11_; have NB795_803 := n12_; have NB803_795 := n13_; clear n0_ n1_ n2_ n3_ n4_ n5_ n6_ n7_ n8_ n9_ n10_ n11_ n12_ n13_; clear hb hbox hg; have hnb45 := NB803_793.out; have hnc45 := NB793_803.out; have hnb46 := NB803_794.out; have hnc46 := NB794_803.out; have hnb47 := NB803_795.out; have hnc47 := NB795_803.out; have hcz48_0 : w44.cell? ⟨gb803, 0, none⟩ = some (.string (⟨#[]⟩ : ByteArray)) := (blk_cell BK803.out 0).trans rfl; have hcz48_1 : w44.cell? ⟨gb803, 1, none⟩ = some (.slice none 0 0) := (blk_cell BK803.out 1).trans rfl; have hfz48_0 := blk_frozen BK803.out 0; have hfz48_1 := blk_frozen BK803.out 1; obtain ⟨Ao49, co49, eo49⟩ := Kd.R_slice HO801.out; subst eo49))
          have n0_ : Aside0 (Kd.R k100 100 ((w44.setCell ⟨gb803, 0, none⟩ (.string t798)).setCell ⟨gb803, 1, none⟩ (.slice Ao49 t799.length co49)) w.heap.size (fun _ => True) (.slice Ao49 t799.length co49) t799) := ⟨by (with_reducible repeat (first | apply Kd.R_alloc | apply Kd.R_drewN | apply Kd.R_drew)); exact Kd.R_mono (Kd.R_far (p := ⟨gb803, 1, none⟩) (Kd.R_far (p := ⟨gb803, 0, none⟩) (Kd.R_types HO801.out BK803.out (by decide)) (fun _ hk => hk.2) (.string t798)) (fun _ hk => hk.2) (.slice Ao49 t799.length co49)) (fun _ hk => trivial)⟩
          have n1_ : Aside0 (((w44.setCell ⟨gb803, 0, none⟩ (.string t798)).setCell ⟨gb803, 1, none⟩ (.slice Ao49 t799.length co49)).heap[gb793]? = some (.cells #[.int .i64 a0_0, .string a0_1, .slice A0_2 l0_2.length c0_2, .string a0_3, .slice A0_4 l0_4.length c0_4] 64 (0, 0))) := ⟨by (with_reducible repeat (first | refine blk_drewN ?_ _ | refine blk_drew ?_ | refine blk_alloc ?_ _)); refine blk_far ?_ NB793_803.out _; (with_reducible repeat (first | refine blk_drewN ?_ _ | refine blk_drew ?_ | refine blk_alloc ?_ _)); refine blk_far ?_ NB793_803.out _; (with_reducible repeat (first | refine blk_drewN ?_ _ | refine blk_drew ?_ | refine blk_alloc ?_ _)); exact BK793.out⟩
          have n2_ : Aside0 (((w44.setCell ⟨gb803, 0, none⟩ (.string t798)).setCell ⟨gb803, 1, none⟩ (.slice Ao49 t799.length co49)).heap[gb794]? = some (.cells #[.int .i64 (wrap64 (a1_0 - a0_0)), .string a1_1, .slice A1_2 l1_2.length c1_2, .string a1_3, .slice A1_4 l1_4.length c1_4] 64 (0, 0))) := ⟨by (with_reducible repeat (first | refine blk_drewN ?_ _ | refine blk_drew ?_ | refine blk_alloc ?_ _)); refine blk_far ?_ NB794_803.out _; (with_reducible repeat (first | refine blk_drewN ?_ _ | refine blk_drew ?_ | refine blk_alloc ?_ _)); refine blk_far ?_ NB794_803.out _; (with_reducible repeat (first | refine blk_drewN ?_ _ | refine blk_drew ?_ | refine blk_alloc ?_ _)); exact BK794.out⟩
          have n3_ : Aside0 (((w44.setCell ⟨gb803, 0, none⟩ (.string t798)).setCell ⟨gb803, 1, none⟩ (.slice Ao49 t799.length co49)).heap[gb795]? = some (.cells #[.int .i64 0, .string (⟨#[]⟩ : ByteArray), .slice none 0 0, .string (⟨#[]⟩ : ByteArray), .slice none 0 0] 64 (0, 0))) := ⟨by (with_reducible repeat (first | refine blk_drewN ?_ _ | refine blk_drew ?_ | refine blk_alloc ?_ _)); refine blk_far ?_ NB795_803.out _; (with_reducible repeat (first | refine blk_drewN ?_ _ | refine blk_drew ?_ | refine blk_alloc ?_ _)); refine blk_far ?_ NB795_803.out _; (with_reducible repeat (first | refine blk_drewN ?_ _ | refine blk_drew ?_ | refine blk_alloc ?_ _)); exact BK795.out⟩
          have n4_ : Aside0 (((w44.setCell ⟨gb803, 0, none⟩ (.string t798)).setCell ⟨gb803, 1, none⟩ (.slice Ao49 t799.length co49)).heap[gb803]? = some (.cells #[.string t798, .slice Ao49 t799.length co49] 51 (0, 0))) := ⟨by (with_reducible repeat (first | refine blk_drewN ?_ _ | refine blk_drew ?_ | refine blk_alloc ?_ _)); refine blk_put (cs := #[.string t798, .slice none 0 0]) ?_ 1 _ rfl; (with_reducible repeat (first | refine blk_drewN ?_ _ | refine blk_drew ?_ | refine blk_alloc ?_ _)); refine blk_put (cs := #[.string (⟨#[]⟩ : ByteArray), .slice none 0 0]) ?_ 0 _ rfl; (with_reducible repeat (first | refine blk_drewN ?_ _ | refine blk_drew ?_ | refine blk_alloc ?_ _)); exact BK803.out⟩
          have n5_ : Aside0 (Below w.heap.size w ((w44.setCell ⟨gb803, 0, none⟩ (.string t798)).setCell ⟨gb803, 1, none⟩ (.slice Ao49 t799.length co49))) := ⟨by repeat (first | (with_reducible first | exact HB.out | apply below_alloc | apply pw_below_drewN | apply below_drew1 | refine below_set ?_ GE793.out | refine below_set ?_ GE794.out | refine below_set ?_ GE795.out | refine below_set ?_ GE803.out) | exact HB.out)⟩
          (try clear HO801)
          (try clear BK793)
          (try clear BK794)
          (try clear BK795)
          (try clear BK803)
          (try clear HB)
          generalize ((w44.setCell ⟨gb803, 0, none⟩ (.string t798)).setCell ⟨gb803, 1, none⟩ (.slice Ao49 t799.length co49)) = w50 at n0_ n1_ n2_ n3_ n4_ n5_ ⊢
          have HO801 := n0_
          have BK793 := n1_
          have BK794 := n2_
          have BK795 := n3_
          have BK803 := n4_
          have HB := n5_
          clear n0_ n1_ n2_ n3_ n4_ n5_
          have n0_ := Aside0.mk (Kd.R_drew HO801.out)
          have n1_ := Aside0.mk (blk_drew BK793.out)
          have n2_ := Aside0.mk (blk_drew BK794.out)
          have n3_ := Aside0.mk (blk_drew BK795.out)
          have n4_ := Aside0.mk (blk_drew BK803.out)
          have n5_ := Aside0.mk (below_drew1 HB.out)
          clear HO801
          clear BK793
          clear BK794
          clear BK795
          clear BK803
          clear HB
          have HO801 := n0_
          have BK793 := n1_
          have BK794 := n2_
          have BK795 := n3_
          have BK803 := n4_
          have HB := n5_
          clear n0_ n1_ n2_ n3_ n4_ n5_
          refine start_ (n := 9) (S := fun w' => w'.cell? ⟨gb793, 0, none⟩ = some (.int .i64 a0_0) ∧ w'.cell? ⟨gb793, 1, none⟩ = some (.string a0_1) ∧ w'.cell? ⟨gb793, 2, none⟩ = some (.slice A0_2 l0_2.length c0_2) ∧ w'.cell? ⟨gb793, 3, none⟩ = some (.string a0_3) ∧ w'.cell? ⟨gb793, 4, none⟩ = some (.slice A0_4 l0_4.length c0_4) ∧ w'.cell? ⟨gb803, 0, none⟩ = some (.string t798) ∧ w'.cell? ⟨gb803, 1, none⟩ = some (.slice Ao49 t799.length co49)) (ds := []) #[false, false, false, false, false, false, false, false, false] (by kernel_rfl) rfl rfl ⟨(blk_cell BK793.out 0).trans rfl, (blk_cell BK793.out 1).trans rfl, (blk_cell BK793.out 2).trans rfl, (blk_cell BK793.out 3).trans rfl, (blk_cell BK793.out 4).trans rfl, (blk_cell BK803.out 0).trans rfl, (blk_cell BK803.out 1).trans rfl⟩ (fun hHeld => ?_); refine with_tabW edit_Join.tab7 edit_Join.bits7 (fun HT_ HW_ => ?_)
          generalize w50.drew = w51 at HO801 BK793 BK794 BK795 BK803 HB hHeld ⊢
          refine pure_ (i := 0) (N := some 40) (v := ?_) (a' := ?_) #[true, false, false, false, false, false, false, false, false] rfl rfl (any_of HT_.out (by kernel_rfl)) (fun _ _ _ h => h) (Or.inl ⟨by rfl, ?_⟩) ?_ ?_
          rotate_left
          · intro w'
            go_simp
            with_reducible rfl
          rotate_left
          · simp only [Act.put, List.setIfInBounds_toArray, List.set_cons_zero, List.set_cons_succ, i64_w, i32_w]
            rfl
          refine pure_ (i := 2) (N := some 42) (v := ?_) (a' := ?_) #[true, false, true, false, false, false, false, false, false] rfl rfl (any_of HT_.out (by kernel_rfl)) (fun _ _ _ h => h) (Or.inl ⟨by rfl, ?_⟩) ?_ ?_
          rotate_left
          · intro w'
            go_simp
            with_reducible rfl
          rotate_left
          · simp only [Act.put, List.setIfInBounds_toArray, List.set_cons_zero, List.set_cons_succ, i64_w, i32_w]
            rfl
          refine take_ (i := 1) (N := some 41) (v := ?_) (a' := ?_) #[true, true, true, false, false, false, false, false, false] rfl rfl (take_ofW HT_.out HW_.out (by kernel_rfl)) (fun _ _ _ h => h) (Or.inl ⟨by rfl, ?_⟩) hHeld ?_ ?_
          rotate_left
          · rintro w' ⟨s0, s1, s2, s3, s4, s5, s6⟩
            go_simp
            with_reducible rfl
          rotate_left
          · simp only [Act.put, List.setIfInBounds_toArray, List.set_cons_zero, List.set_cons_succ, i64_w, i32_w]
            rfl
          refine take_ (i := 3) (N := some 43) (v := ?_) (a' := ?_) #[true, true, true, true, false, false, false, false, false] rfl rfl (take_ofW HT_.out HW_.out (by kernel_rfl)) (fun _ _ _ h => h) (Or.inl ⟨by rfl, ?_⟩) hHeld ?_ ?_
          rotate_left
          · rintro w' ⟨s0, s1, s2, s3, s4, s5, s6⟩
            go_simp
            with_reducible rfl
          rotate_left
          · simp only [Act.put, List.setIfInBounds_toArray, List.set_cons_zero, List.set_cons_succ, i64_w, i32_w]
            rfl
          refine take_ (i := 5) (N := some 45) (v := ?_) (a' := ?_) #[true, true, true, true, false, true, false, false, false] rfl rfl (take_ofW HT_.out HW_.out (by kernel_rfl)) (fun _ _ _ h => h) (Or.inl ⟨by rfl, ?_⟩) hHeld ?_ ?_
          rotate_left
          · rintro w' ⟨s0, s1, s2, s3, s4, s5, s6⟩
            go_simp
            with_reducible rfl
          rotate_left
          · simp only [Act.put, List.setIfInBounds_toArray, List.set_cons_zero, List.set_cons_succ, i64_w, i32_w]
            rfl
          refine one_ (i := 4) (N := some 44) #[true, true, true, true, true, true, false, false, false] rfl rfl (one_of HT_.out (by kernel_rfl)) (by decide) (fun K hK => ?_)
          refine goes_ Try.func98 (by kernel_rfl) rfl #[.agg #[.string a0_1, .slice A0_2 l0_2.length c0_2]] (by rfl) rfl rfl (by (try simp only [List.map_toArray, List.map_cons, List.map_nil]); first | done | rfl | (simp only [List.length_drop, List.length_take]; rfl)) ?_
          with_reducible refine (edit_own.calls a0_1 _ _ l0_2 t804 t805 _ ?side1 ?side2 A37.out).mono ?_
          (case side1 => repeat (first | exact (Kd.C_below HR0_2.out HB.out) | (with_reducible refine Kd.C_alloc ?_ _) | (with_reducible refine Kd.C_drewN ?_ _) | (with_reducible refine Kd.C_drew ?_)))
          (case side2 => exact HC0_2.out)
          rintro e w52 ⟨v806, rfl, ho0, hb⟩
          refine ⟨_, rfl, ?_⟩
          have n0_ := Aside0.mk (Kd.R_elder' (by (with_reducible repeat (first | apply Kd.R_alloc | apply Kd.R_drewN | apply Kd.R_drew)); exact HO801.out) (Kd.R_base ho0) hb)
          have n1_ := Aside0.mk (Kd.R_lower (Kd.R_new' ho0 (Kd.R_lt (by (with_reducible repeat (first | apply Kd.R_alloc | apply Kd.R_drewN | apply Kd.R_drew)); exact HO801.out))) (below_size (by repeat (first | (with_reducible first | exact HB.out | apply below_alloc | apply pw_below_drewN | apply below_drew1 | refine below_set ?_ GE793.out | refine below_set ?_ GE794.out | refine below_set ?_ GE795.out | refine below_set ?_ GE803.out) | exact HB.out))))
          have n2_ := Aside0.mk (blk_below (g := gb793) (o := .cells #[.int .i64 a0_0, .string a0_1, .slice A0_2 l0_2.length c0_2, .string a0_3, .slice A0_4 l0_4.length c0_4] 64 (0, 0)) (by (with_reducible repeat (first | refine blk_drewN ?_ _ | refine blk_drew ?_ | refine blk_alloc ?_ _)); exact BK793.out) hb)
          have n3_ := Aside0.mk (blk_below (g := gb794) (o := .cells #[.int .i64 (wrap64 (a1_0 - a0_0)), .string a1_1, .slice A1_2 l1_2.length c1_2, .string a1_3, .slice A1_4 l1_4.length c1_4] 64 (0, 0)) (by (with_reducible repeat (first | refine blk_drewN ?_ _ | refine blk_drew ?_ | refine blk_alloc ?_ _)); exact BK794.out) hb)
          have n4_ := Aside0.mk (blk_below (g := gb795) (o := .cells #[.int .i64 0, .string (⟨#[]⟩ : ByteArray), .slice none 0 0, .string (⟨#[]⟩ : ByteArray), .slice none 0 0] 64 (0, 0)) (by (with_reducible repeat (first | refine blk_drewN ?_ _ | refine blk_drew ?_ | refine blk_alloc ?_ _)); exact BK795.out) hb)
          have n5_ := Aside0.mk (blk_below (g := gb803) (o := .cells #[.string t798, .slice Ao49 t799.length co49] 51 (0, 0)) (by (with_reducible repeat (first | refine blk_drewN ?_ _ | refine blk_drew ?_ | refine blk_alloc ?_ _)); exact BK803.out) hb)
          have n6_ := Aside0.mk (below_step (by repeat (first | (with_reducible first | exact HB.out | apply below_alloc | apply pw_below_drewN | apply below_drew1 | refine below_set ?_ GE793.out | refine below_set ?_ GE794.out | refine below_set ?_ GE795.out | refine below_set ?_ GE803.out) | exact HB.out)) hb)
          clear HO801
          clear BK793
          clear BK794
          clear BK795
          clear BK803
          clear HB
          have HO801 := n0_
          have HO807 := n1_
          have BK793 := n2_
          have BK794 := n3_
          have BK795 := n4_
          have BK803 := n5_
          have HB := n6_
          clear n0_ n1_ n2_ n3_ n4_ n5_ n6_
          (try clear hb)
          (try clear hb2)
          (try clear hk)
          (try clear hi)
          (try clear ho0)
          obtain ⟨Ao53, co53, eo53⟩ := Kd.R_slice HO807.out
          (first | subst eo53 | (injection eo53 with f1_ f2_ f3_; have f4_ := f1_.symm; have f5_ := f3_.symm; clear f1_ f2_ f3_; subst f4_; subst f5_))
          refine hK.out _ _ ⟨(blk_cell BK793.out 0).trans rfl, (blk_cell BK793.out 1).trans rfl, (blk_cell BK793.out 2).trans rfl, (blk_cell BK793.out 3).trans rfl, (blk_cell BK793.out 4).trans rfl, (blk_cell BK803.out 0).trans rfl, (blk_cell BK803.out 1).trans rfl⟩ (fun hHeld => ?_)
          clear hK K
          refine norm_ (a' := ?_) ?_ ?_
          rotate_left
          · show Act.put _ (some 44) _ = _
            simp only [Act.put, List.setIfInBounds_toArray, List.set_cons_zero, List.set_cons_succ, i64_w, i32_w]
            rfl
          refine pure_ (i := 6) (N := some 46) (v := ?_) (a' := ?_) #[true, true, true, true, true, true, true, false, false] rfl rfl (any_of HT_.out (by kernel_rfl)) (fun _ _ _ h => h) (Or.inl ⟨by rfl, ?_⟩) ?_ ?_
          rotate_left
          · intro w'
            go_simp
            with_reducible rfl
          rotate_left
          · simp only [Act.put, List.setIfInBounds_toArray, List.set_cons_zero, List.set_cons_succ, i64_w, i32_w]
            rfl
          refine one_ (i := 7) (N := none) #[true, true, true, true, true, true, true, true, false] rfl rfl (one_of HT_.out (by kernel_rfl)) (by decide) (fun K hK => ?_)
          have hs54 : w52.cell? ⟨gb795, 0, none⟩ = some (.int .i64 0) := (blk_cell BK795.out 0).trans rfl
          have hfs54 := blk_frozen BK795.out 0
          have hns54_0 := NB793_795.out
          have hns54_1 := NB794_795.out
          have hns54_3 := NB803_795.out
          have hms54_0 := NB795_793.out
          have hms54_1 := NB795_794.out
          have hms54_3 := NB795_803.out
          have hs55 : w52.cell? ⟨gb795, 1, none⟩ = some (.string (⟨#[]⟩ : ByteArray)) := (blk_cell BK795.out 1).trans rfl
          have hfs55 := blk_frozen BK795.out 1
          have hns55_0 := NB793_795.out
          have hns55_1 := NB794_795.out
          have hns55_3 := NB803_795.out
          have hms55_0 := NB795_793.out
          have hms55_1 := NB795_794.out
          have hms55_3 := NB795_803.out
          have hs56 : w52.cell? ⟨gb795, 2, none⟩ = some (.slice none 0 0) := (blk_cell BK795.out 2).trans rfl
          have hfs56 := blk_frozen BK795.out 2
          have hns56_0 := NB793_795.out
          have hns56_1 := NB794_795.out
          have hns56_3 := NB803_795.out
          have hms56_0 := NB795_793.out
          have hms56_1 := NB795_794.out
          have hms56_3 := NB795_803.out
          have hs57 : w52.cell? ⟨gb795, 3, none⟩ = some (.string (⟨#[]⟩ : ByteArray)) := (blk_cell BK795.out 3).trans rfl
          have hfs57 := blk_frozen BK795.out 3
          have hns57_0 := NB793_795.out
          have hns57_1 := NB794_795.out
          have hns57_3 := NB803_795.out
          have hms57_0 := NB795_793.out
          have hms57_1 := NB795_794.out
          have hms57_3 := NB795_803.out
          have hs58 : w52.cell? ⟨gb795, 4, none⟩ = some (.slice none 0 0) := (blk_cell BK795.out 4).trans rfl
          have hfs58 := blk_frozen BK795.out 4
          have hns58_0 := NB793_795.out
          have hns58_1 := NB794_795.out
          have hns58_3 := NB803_795.out
          have hms58_0 := NB795_793.out
          have hms58_1 := NB795_794.out
          have hms58_3 := NB795_803.out
          refine skip_ (w1 := ?_) (by rfl) rfl ?_ ?_
          rotate_left
          · go_simp
            rfl
          refine hK.out _ _ ⟨((cell_far (p := ⟨gb795, _, none⟩) NB793_795.out _).trans (((cell_far (p := ⟨gb795, _, none⟩) NB793_795.out _).trans (((cell_far (p := ⟨gb795, _, none⟩) NB793_795.out _).trans (((cell_far (p := ⟨gb795, _, none⟩) NB793_795.out _).trans (((cell_far (p := ⟨gb795, _, none⟩) NB793_795.out _).trans (hHeld.1)))))))))), ((cell_far (p := ⟨gb795, _, none⟩) NB793_795.out _).trans (((cell_far (p := ⟨gb795, _, none⟩) NB793_795.out _).trans (((cell_far (p := ⟨gb795, _, none⟩) NB793_795.out _).trans (((cell_far (p := ⟨gb795, _, none⟩) NB793_795.out _).trans (((cell_far (p := ⟨gb795, _, none⟩) NB793_795.out _).trans (hHeld.2.1)))))))))), ((cell_far (p := ⟨gb795, _, none⟩) NB793_795.out _).trans (((cell_far (p := ⟨gb795, _, none⟩) NB793_795.out _).trans (((cell_far (p := ⟨gb795, _, none⟩) NB793_795.out _).trans (((cell_far (p := ⟨gb795, _, none⟩) NB793_795.out _).trans (((cell_far (p := ⟨gb795, _, none⟩) NB793_795.out _).trans (hHeld.2.2.1)))))))))), ((cell_far (p := ⟨gb795, _, none⟩) NB793_795.out _).trans (((cell_far (p := ⟨gb795, _, none⟩) NB793_795.out _).trans (((cell_far (p := ⟨gb795, _, none⟩) NB793_795.out _).trans (((cell_far (p := ⟨gb795, _, none⟩) NB793_795.out _).trans (((cell_far (p := ⟨gb795, _, none⟩) NB793_795.out _).trans (hHeld.2.2.2.1)))))))))), ((cell_far (p := ⟨gb795, _, none⟩) NB793_795.out _).trans (((cell_far (p := ⟨gb795, _, none⟩) NB793_795.out _).trans (((cell_far (p := ⟨gb795, _, none⟩) NB793_795.out _).trans (((cell_far (p := ⟨gb795, _, none⟩) NB793_795.out _).trans (((cell_far (p := ⟨gb795, _, none⟩) NB793_795.out _).trans (hHeld.2.2.2.2.1)))))))))), ((cell_far (p := ⟨gb795, _, none⟩) NB803_795.out _).trans (((cell_far (p := ⟨gb795, _, none⟩) NB803_795.out _).trans (((cell_far (p := ⟨gb795, _, none⟩) NB803_795.out _).trans (((cell_far (p := ⟨gb795, _, none⟩) NB803_795.out _).trans (((cell_far (p := ⟨gb795, _, none⟩) NB803_795.out _).trans (hHeld.2.2.2.2.2.1)))))))))), ((cell_far (p := ⟨gb795, _, none⟩) NB803_795.out _).trans (((cell_far (p := ⟨gb795, _, none⟩) NB803_795.out _).trans (((cell_far (p := ⟨gb795, _, none⟩) NB803_795.out _).trans (((cell_far (p := ⟨gb795, _, none⟩) NB803_795.out _).trans (((cell_far (p := ⟨gb795, _, none⟩) NB803_795.out _).trans (hHeld.2.2.2.2.2.2))))))))))⟩ (fun hHeld => ?_)
          clear hK K
          refine pure_ (i := 8) (N := some 5) (v := ?_) (a' := ?_) #[true, true, true, true, true, true, true, true, true] rfl rfl (any_of HT_.out (by kernel_rfl)) (fun _ _ _ h => h) (Or.inl ⟨by rfl, ?_⟩) ?_ ?_
          rotate_left
          · intro w'
            go_simp
            with_reducible rfl
          rotate_left
          · simp only [Act.put, List.setIfInBounds_toArray, List.set_cons_zero, List.set_cons_succ, i64_w, i32_w]
            rfl
          refine done_ (done_of HT_.out (by kernel_rfl)) ?_
          try go_wp2
          refine bodyPost_ret (results_ct rfl _ _ gb795 64 #[.int .i64 a0_0, .string t804, .slice Ao53 t805.length co53, .string t798, .slice Ao49 t799.length co49] (0, 0) _ rfl (by (with_reducible repeat (first | refine blk_drewN ?_ _ | refine blk_drew ?_ | refine blk_alloc ?_ _)); refine blk_put (cs := #[.int .i64 a0_0, .string t804, .slice Ao53 t805.length co53, .string t798, .slice none 0 0]) ?_ 4 _ rfl; (with_reducible repeat (first | refine blk_drewN ?_ _ | refine blk_drew ?_ | refine blk_alloc ?_ _)); refine blk_put (cs := #[.int .i64 a0_0, .string t804, .slice Ao53 t805.length co53, .string (⟨#[]⟩ : ByteArray), .slice none 0 0]) ?_ 3 _ rfl; (with_reducible repeat (first | refine blk_drewN ?_ _ | refine blk_drew ?_ | refine blk_alloc ?_ _)); refine blk_put (cs := #[.int .i64 a0_0, .string t804, .slice none 0 0, .string (⟨#[]⟩ : ByteArray), .slice none 0 0]) ?_ 2 _ rfl; (with_reducible repeat (first | refine blk_drewN ?_ _ | refine blk_drew ?_ | refine blk_alloc ?_ _)); refine blk_put (cs := #[.int .i64 a0_0, .string (⟨#[]⟩ : ByteArray), .slice none 0 0, .string (⟨#[]⟩ : ByteArray), .slice none 0 0]) ?_ 1 _ rfl; (with_reducible repeat (first | refine blk_drewN ?_ _ | refine blk_drew ?_ | refine blk_alloc ?_ _)); refine blk_put (cs := #[.int .i64 0, .string (⟨#[]⟩ : ByteArray), .slice none 0 0, .string (⟨#[]⟩ : ByteArray), .slice none 0 0]) ?_ 0 _ rfl; (with_reducible repeat (first | refine blk_drewN ?_ _ | refine blk_drew ?_ | refine blk_alloc ?_ _)); exact BK795.out) Try.underlying64 rfl (by kernel_rfl)) rfl ?_
          exact ⟨_, _, by first | rfl | (simp [errW_none, errW_some] <;> rfl) | (simp [*, errW_none, errW_some] <;> rfl), by (with_reducible repeat (first | apply Kd.R_alloc | apply Kd.R_drewN | apply Kd.R_drew)); exact Kd.R_mono (Kd.R_far (p := ⟨gb795, 4, none⟩) (Kd.R_far (p := ⟨gb795, 3, none⟩) (Kd.R_far (p := ⟨gb795, 2, none⟩) (Kd.R_far (p := ⟨gb795, 1, none⟩) (Kd.R_far (p := ⟨gb795, 0, none⟩) (Kd.R_types HO807.out BK795.out (by decide)) (fun _ hk => hk.2) (.int .i64 a0_0)) (fun _ hk => hk.2) (.string t804)) (fun _ hk => hk.2) (.slice Ao53 t805.length co53)) (fun _ hk => hk.2) (.string t798)) (fun _ hk => hk.2) (.slice Ao49 t799.length co49)) (fun _ hk => hk.1.2), by (with_reducible repeat (first | apply Kd.R_alloc | apply Kd.R_drewN | apply Kd.R_drew)); exact Kd.R_mono (Kd.R_far (p := ⟨gb795, 4, none⟩) (Kd.R_far (p := ⟨gb795, 3, none⟩) (Kd.R_far (p := ⟨gb795, 2, none⟩) (Kd.R_far (p := ⟨gb795, 1, none⟩) (Kd.R_far (p := ⟨gb795, 0, none⟩) (Kd.R_types HO801.out BK795.out (by decide)) (fun _ hk => hk.2) (.int .i64 a0_0)) (fun _ hk => hk.2) (.string t804)) (fun _ hk => hk.2) (.slice Ao53 t805.length co53)) (fun _ hk => hk.2) (.string t798)) (fun _ hk => hk.2) (.slice Ao49 t799.length co49)) (fun _ hk => hk.1.2), by repeat (first | (with_reducible first | exact HB.out | apply below_alloc | apply pw_below_drewN | apply below_drew1 | refine below_set ?_ GE793.out | refine below_set ?_ GE794.out | refine below_set ?_ GE795.out | refine below_set ?_ GE803.out) | exact HB.out)⟩
        · rw [if_neg c36] at H
          have c36b0 : (t802 == 0) = false := beq_eq_false_iff_ne.mpr c36
          have c36b1 : (t802 != 0) = true := bne_iff_ne.mpr c36
          simp only [Option.some.injEq, Prod.mk.injEq] at H
          obtain ⟨rfl, rfl, rfl, rfl, rfl, rfl⟩ := H
          have hnb59 := NB794_793.out
          have hnc59 := NB793_794.out
          have hnb60 := NB794_795.out
          have hnc60 := NB795_794.out
          have hcz61_0 : wc.cell? ⟨gb794, 0, none⟩ = some (.int .i64 a1_0) := (blk_cell BK794.out 0).trans rfl
          have hcz61_1 : wc.cell? ⟨gb794, 1, none⟩ = some (.string a1_1) := (blk_cell BK794.out 1).trans rfl
          have hcz61_2 : wc.cell? ⟨gb794, 2, none⟩ = some (.slice A1_2 l1_2.length c1_2) := (blk_cell BK794.out 2).trans rfl
          have hcz61_3 : wc.cell? ⟨gb794, 3, none⟩ = some (.string a1_3) := (blk_cell BK794.out 3).trans rfl
          have hcz61_4 : wc.cell? ⟨gb794, 4, none⟩ = some (.slice A1_4 l1_4.length c1_4) := (blk_cell BK794.out 4).trans rfl
          have hfz61_0 := blk_frozen BK794.out 0
          have hfz61_1 := blk_frozen BK794.out 1
          have hfz61_2 := blk_frozen BK794.out 2
          have hfz61_3 := blk_frozen BK794.out 3
          have hfz61_4 := blk_frozen BK794.out 4
          have hnb62 := NB793_795.out
          have hnc62 := NB795_793.out
          have hcz63_0 : wc.cell? ⟨gb793, 0, none⟩ = some (.int .i64 a0_0) := (blk_cell BK793.out 0).trans rfl
          have hcz63_1 : wc.cell? ⟨gb793, 1, none⟩ = some (.string a0_1) := (blk_cell BK793.out 1).trans rfl
          have hcz63_2 : wc.cell? ⟨gb793, 2, none⟩ = some (.slice A0_2 l0_2.length c0_2) := (blk_cell BK793.out 2).trans rfl
          have hcz63_3 : wc.cell? ⟨gb793, 3, none⟩ = some (.string a0_3) := (blk_cell BK793.out 3).trans rfl
          have hcz63_4 : wc.cell? ⟨gb793, 4, none⟩ = some (.slice A0_4 l0_4.length c0_4) := (blk_cell BK793.out 4).trans rfl
          have hfz63_0 := blk_frozen BK793.out 0
          have hfz63_1 := blk_frozen BK793.out 1
          have hfz63_2 := blk_frozen BK793.out 2
          have hfz63_3 := blk_frozen BK793.out 3
          have hfz63_4 := blk_frozen BK793.out 4
          go_wp2_with (first | ((with_reducible refine gate_callee (f := 65) rfl ?_); refine goesL_ (some 34) rfl rfl Try.func65 (by kernel_rfl) rfl #[.agg #[.string a0_3, .slice A0_4 l0_4.length c0_4], .agg #[.int .i64 (wrap64 (a1_0 - a0_0)), .string a1_1, .slice A1_2 l1_2.length c1_2, .string a1_3, .slice A1_4 l1_4.length c1_4]] rfl (by (try simp only [List.map_toArray, List.map_cons, List.map_nil]); first | done | rfl | (simp only [List.length_drop, List.length_take]; rfl)) ?_; (with_reducible refine (edit_Apply.calls kj2 a0_3 _ _ l0_4 (wrap64 (a1_0 - a0_0)) a1_1 _ _ l1_2 a1_3 _ _ l1_4 t798 t799 t802 _ ?side1 ?side2 ?side3 ?side4 ?side5 ?side6 A35.out).mono ?_); (case side1 => exact Kd.C_below HR0_4.out (by repeat (first | (with_reducible first | exact HB.out | apply below_alloc | apply pw_below_drewN | apply below_drew1 | refine below_set ?_ GE793.out | refine below_set ?_ GE794.out | refine below_set ?_ GE795.out) | exact HB.out))); (case side2 => exact HC0_4.out); (case side3 => exact Kd.C_below HR1_2.out (by repeat (first | (with_reducible first | exact HB.out | apply below_alloc | apply pw_below_drewN | apply below_drew1 | refine below_set ?_ GE793.out | refine below_set ?_ GE794.out | refine below_set ?_ GE795.out) | exact HB.out))); (case side4 => exact HC1_2.out); (case side5 => exact Kd.C_below HR1_4.out (by repeat (first | (with_reducible first | exact HB.out | apply below_alloc | apply pw_below_drewN | apply below_drew1 | refine below_set ?_ GE793.out | refine below_set ?_ GE794.out | refine below_set ?_ GE795.out) | exact HB.out))); (case side6 => exact HC1_4.out); rintro e w64 ⟨v800, rfl, ho0, hb⟩; refine ⟨_, rfl, ?_⟩; have n0_ := Aside0.mk (Kd.R_lower ho0 (below_size (by repeat (first | (with_reducible first | exact HB.out | apply below_alloc | apply pw_below_drewN | apply below_drew1 | refine below_set ?_ GE793.out | refine below_set ?_ GE794.out | refine below_set ?_ GE795.out) | exact HB.out)))); have n1_ := Aside0.mk (blk_below (g := gb793) (o := .cells #[.int .i64 a0_0, .string a0_1, .slice A0_2 l0_2.length c0_2, .string a0_3, .slice A0_4 l0_4.length c0_4] 64 (0, 0)) (by (with_reducible repeat (first | refine blk_drewN ?_ _ | refine blk_drew ?_ | refine blk_alloc ?_ _)); refine blk_far ?_ NB793_794.out _; (with_reducible repeat (first | refine blk_drewN ?_ _ | refine blk_drew ?_ | refine blk_alloc ?_ _)); exact BK793.out) hb); have n2_ := Aside0.mk (blk_below (g := gb794) (o := .cells #[.int .i64 (wrap64 (a1_0 - a0_0)), .string a1_1, .slice A1_2 l1_2.length c1_2, .string a1_3, .slice A1_4 l1_4.length c1_4] 64 (0, 0)) (by (with_reducible repeat (first | refine blk_drewN ?_ _ | refine blk_drew ?_ | refine blk_alloc ?_ _)); refine blk_put (cs := #[.int .i64 a1_0, .string a1_1, .slice A1_2 l1_2.length c1_2, .string a1_3, .slice A1_4 l1_4.length c1_4]) ?_ 0 _ rfl; (with_reducible repeat (first | refine blk_drewN ?_ _ | refine blk_drew ?_ | refine blk_alloc ?_ _)); exact BK794.out) hb); have n3_ := Aside0.mk (blk_below (g := gb795) (o := .cells #[.int .i64 0, .string (⟨#[]⟩ : ByteArray), .slice none 0 0, .string (⟨#[]⟩ : ByteArray), .slice none 0 0] 64 (0, 0)) (by (with_reducible repeat (first | refine blk_drewN ?_ _ | refine blk_drew ?_ | refine blk_alloc ?_ _)); refine blk_far ?_ NB795_794.out _; (with_reducible repeat (first | refine blk_drewN ?_ _ | refine blk_drew ?_ | refine blk_alloc ?_ _)); exact BK795.out) hb); have n4_ := Aside0.mk (below_step (by repeat (first | (with_reducible first | exact HB.out | apply below_alloc | apply pw_below_drewN | apply below_drew1 | refine below_set ?_ GE793.out | refine below_set ?_ GE794.out | refine below_set ?_ GE795.out) | exact HB.out)) hb); clear BK793; clear BK794; clear BK795; clear HB; have HO801 := n0_; have BK793 := n1_; have BK794 := n2_; have BK795 := n3_; have HB := n4_; clear n0_ n1_ n2_ n3_ n4_; (try clear hb); (try clear hb2); (try clear hk); (try clear hi); (try clear ho0)) | ((with_reducible refine gate_dst (N := 6) rfl ?_); refine box_event ?hg (N := 6) ?hd (cs := #[.string (⟨#[]⟩ : ByteArray), .slice none 0 0]) (t := 51) ?hr ?_; (case hd => rfl); (case hg => rfl); (case hr => first | (go_simp; done) | (go_simp; rfl)); intro gb803 hg w65 hbox hb; have n0_ := Aside0.mk (Kd.R_below (by (with_reducible repeat (first | apply Kd.R_alloc | apply Kd.R_drewN | apply Kd.R_drew)); exact HO801.out) hb); have n1_ := Aside0.mk (blk_below (g := gb793) (o := .cells #[.int .i64 a0_0, .string a0_1, .slice A0_2 l0_2.length c0_2, .string a0_3, .slice A0_4 l0_4.length c0_4] 64 (0, 0)) (by (with_reducible repeat (first | refine blk_drewN ?_ _ | refine blk_drew ?_ | refine blk_alloc ?_ _)); exact BK793.out) hb); have n2_ := Aside0.mk (blk_below (g := gb794) (o := .cells #[.int .i64 (wrap64 (a1_0 - a0_0)), .string a1_1, .slice A1_2 l1_2.length c1_2, .string a1_3, .slice A1_4 l1_4.length c1_4] 64 (0, 0)) (by (with_reducible repeat (first | refine blk_drewN ?_ _ | refine blk_drew ?_ | refine blk_alloc ?_ _)); exact BK794.out) hb); have n3_ := Aside0.mk (blk_below (g := gb795) (o := .cells #[.int .i64 0, .string (⟨#[]⟩ : ByteArray), .slice none 0 0, .string (⟨#[]⟩ : ByteArray), .slice none 0 0] 64 (0, 0)) (by (with_reducible repeat (first | refine blk_drewN ?_ _ | refine blk_drew ?_ | refine blk_alloc ?_ _)); exact BK795.out) hb); have n4_ := Aside0.mk (below_step (by repeat (first | (with_reducible first | exact HB.out | apply below_alloc | apply pw_below_drewN | apply below_drew1 | refine below_set ?_ GE793.out | refine below_set ?_ GE794.out | refine below_set ?_ GE795.out) | exact HB.out)) hb); have n5_ := Aside0.mk (hbox); have n6_ := Aside0.mk ((by rw [hg]; exact (below_size (by repeat (first | (with_reducible first | exact HB.out | apply below_alloc | apply pw_below_drewN | apply below_drew1 | refine below_set ?_ GE793.out | refine below_set ?_ GE794.out | refine below_set ?_ GE795.out) | exact HB.out))) : w.heap.size ≤ gb803)); have n7_ := Aside0.mk ((by rw [hg]; exact (below_size (by repeat (first | (with_reducible first | exact HB.out | apply below_alloc | apply pw_below_drewN | apply below_drew1 | refine below_set ?_ GE793.out | refine below_set ?_ GE794.out | refine below_set ?_ GE795.out) | exact HB.out))) : w.heap.size ≤ gb803)); have n8_ := Aside0.mk ((by rw [hg]; exact Nat.ne_of_lt (blk_lt (g := gb793) (o := .cells #[.int .i64 a0_0, .string a0_1, .slice A0_2 l0_2.length c0_2, .string a0_3, .slice A0_4 l0_4.length c0_4] 64 (0, 0)) (by (with_reducible repeat (first | refine blk_drewN ?_ _ | refine blk_drew ?_ | refine blk_alloc ?_ _)); exact BK793.out)) : gb793 ≠ gb803)); have n9_ := Aside0.mk ((by rw [hg]; exact Nat.ne_of_gt (blk_lt (g := gb793) (o := .cells #[.int .i64 a0_0, .string a0_1, .slice A0_2 l0_2.length c0_2, .string a0_3, .slice A0_4 l0_4.length c0_4] 64 (0, 0)) (by (with_reducible repeat (first | refine blk_drewN ?_ _ | refine blk_drew ?_ | refine blk_alloc ?_ _)); exact BK793.out)) : gb803 ≠ gb793)); have n10_ := Aside0.mk ((by rw [hg]; exact Nat.ne_of_lt (blk_lt (g := gb794) (o := .cells #[.int .i64 (wrap64 (a1_0 - a0_0)), .string a1_1, .slice A1_2 l1_2.length c1_2, .string a1_3, .slice A1_4 l1_4.length c1_4] 64 (0, 0)) (by (with_reducible repeat (first | refine blk_drewN ?_ _ | refine blk_drew ?_ | refine blk_alloc ?_ _)); exact BK794.out)) : gb794 ≠ gb803)); have n11_ := Aside0.mk ((by rw [hg]; exact Nat.ne_of_gt (blk_lt (g := gb794) (o := .cells #[.int .i64 (wrap64 (a1_0 - a0_0)), .string a1_1, .slice A1_2 l1_2.length c1_2, .string a1_3, .slice A1_4 l1_4.length c1_4] 64 (0, 0)) (by (with_reducible repeat (first | refine blk_drewN ?_ _ | refine blk_drew ?_ | refine blk_alloc ?_ _)); exact BK794.out)) : gb803 ≠ gb794)); have n12_ := Aside0.mk ((by rw [hg]; exact Nat.ne_of_lt (blk_lt (g := gb795) (o := .cells #[.int .i64 0, .string (⟨#[]⟩ : ByteArray), .slice none 0 0, .string (⟨#[]⟩ : ByteArray), .slice none 0 0] 64 (0, 0)) (by (with_reducible repeat (first | refine blk_drewN ?_ _ | refine blk_drew ?_ | refine blk_alloc ?_ _)); exact BK795.out)) : gb795 ≠ gb803)); have n13_ := Aside0.mk ((by rw [hg]; exact Nat.ne_of_gt (blk_lt (g := gb795) (o := .cells #[.int .i64 0, .string (⟨#[]⟩ : ByteArray), .slice none 0 0, .string (⟨#[]⟩ : ByteArray), .slice none 0 0] 64 (0, 0)) (by (with_reducible repeat (first | refine blk_drewN ?_ _ | refine blk_drew ?_ | refine blk_alloc ?_ _)); exact BK795.out)) : gb803 ≠ gb795)); clear HO801; clear BK793; clear BK794; clear BK795; clear HB; have HO801 := n0_; have BK793 := n1_; have BK794 := n2_; have BK795 := n3_; have HB := n4_; have BK803 := n5_; have GW803 := n6_; have GE803 := n7_; have NB793_803 := n8_; have NB803_793 := n9_; have NB794_803 := n10_; have NB803_794 := n11_; have NB795_803 := n12_; have NB803_795 := n13_; clear n0_ n1_ n2_ n3_ n4_ n5_ n6_ n7_ n8_ n9_ n10_ n11_ n12_ n13_; clear hb hbox hg; have hnb66 := NB803_793.out; have hnc66 := NB793_803.out; have hnb67 := NB803_794.out; have hnc67 := NB794_803.out; have hnb68 := NB803_795.out; have hnc68 := NB795_803.out; have hcz69_0 : w65.cell? ⟨gb803, 0, none⟩ = some (.string (⟨#[]⟩ : ByteArray)) := (blk_cell BK803.out 0).trans rfl; have hcz69_1 : w65.cell? ⟨gb803, 1, none⟩ = some (.slice none 0 0) := (blk_cell BK803.out 1).trans rfl; have hfz69_0 := blk_frozen BK803.out 0; have hfz69_1 := blk_frozen BK803.out 1; obtain ⟨Ao70, co70, eo70⟩ := Kd.R_slice HO801.out; subst eo70; have hcz71_0 : w65.cell? ⟨gb795, 0, none⟩ = some (.int .i64 0) := (blk_cell BK795.out 0).trans rfl; have hcz71_1 : w65.cell? ⟨gb795, 1, none⟩ = some (.string (⟨#[]⟩ : ByteArray)) := (blk_cell BK795.out 1).trans rfl; have hcz71_2 : w65.cell? ⟨gb795, 2, none⟩ = some (.slice none 0 0) := (blk_cell BK795.out 2).trans rfl; have hcz71_3 : w65.cell? ⟨gb795, 3, none⟩ = some (.string (⟨#[]⟩ : ByteArray)) := (blk_cell BK795.out 3).trans rfl; have hcz71_4 : w65.cell? ⟨gb795, 4, none⟩ = some (.slice none 0 0) := (blk_cell BK795.out 4).trans rfl; have hfz71_0 := blk_frozen BK795.out 0; have hfz71_1 := blk_frozen BK795.out 1; have hfz71_2 := blk_frozen BK795.out 2; have hfz71_3 := blk_frozen BK795.out 3; have hfz71_4 := blk_frozen BK795.out 4))
          refine bodyPost_ret (results_ct rfl _ _ gb795 64 #[.int .i64 0, .string (⟨#[]⟩ : ByteArray), .slice none 0 0, .string (⟨#[]⟩ : ByteArray), .slice none 0 0] (0, 0) _ rfl (by (with_reducible repeat (first | refine blk_drewN ?_ _ | refine blk_drew ?_ | refine blk_alloc ?_ _)); refine blk_put (cs := #[.int .i64 0, .string (⟨#[]⟩ : ByteArray), .slice none 0 0, .string (⟨#[]⟩ : ByteArray), .slice none 0 0]) ?_ 4 _ rfl; (with_reducible repeat (first | refine blk_drewN ?_ _ | refine blk_drew ?_ | refine blk_alloc ?_ _)); refine blk_put (cs := #[.int .i64 0, .string (⟨#[]⟩ : ByteArray), .slice none 0 0, .string (⟨#[]⟩ : ByteArray), .slice none 0 0]) ?_ 3 _ rfl; (with_reducible repeat (first | refine blk_drewN ?_ _ | refine blk_drew ?_ | refine blk_alloc ?_ _)); refine blk_put (cs := #[.int .i64 0, .string (⟨#[]⟩ : ByteArray), .slice none 0 0, .string (⟨#[]⟩ : ByteArray), .slice none 0 0]) ?_ 2 _ rfl; (with_reducible repeat (first | refine blk_drewN ?_ _ | refine blk_drew ?_ | refine blk_alloc ?_ _)); refine blk_put (cs := #[.int .i64 0, .string (⟨#[]⟩ : ByteArray), .slice none 0 0, .string (⟨#[]⟩ : ByteArray), .slice none 0 0]) ?_ 1 _ rfl; (with_reducible repeat (first | refine blk_drewN ?_ _ | refine blk_drew ?_ | refine blk_alloc ?_ _)); refine blk_put (cs := #[.int .i64 0, .string (⟨#[]⟩ : ByteArray), .slice none 0 0, .string (⟨#[]⟩ : ByteArray), .slice none 0 0]) ?_ 0 _ rfl; (with_reducible repeat (first | refine blk_drewN ?_ _ | refine blk_drew ?_ | refine blk_alloc ?_ _)); refine blk_far ?_ NB795_803.out _; (with_reducible repeat (first | refine blk_drewN ?_ _ | refine blk_drew ?_ | refine blk_alloc ?_ _)); refine blk_far ?_ NB795_803.out _; (with_reducible repeat (first | refine blk_drewN ?_ _ | refine blk_drew ?_ | refine blk_alloc ?_ _)); exact BK795.out) Try.underlying64 rfl (by kernel_rfl)) rfl ?_
          exact ⟨_, _, by first | rfl | (simp [errW_none, errW_some] <;> rfl) | (simp [*, errW_none, errW_some] <;> rfl), by first | exact Kd.R_nil _ _ _ _ _ | exact Kd.N_nil _ _ _ _ _ | exact Kd.V_nil _ _ _ _ _ | exact Kd.Q_nil _ _ _ _ _ | exact Kd.S_nil _ _ _ _ _, by first | exact Kd.R_nil _ _ _ _ _ | exact Kd.N_nil _ _ _ _ _ | exact Kd.V_nil _ _ _ _ _ | exact Kd.Q_nil _ _ _ _ _ | exact Kd.S_nil _ _ _ _ _, by repeat (first | (with_reducible first | exact HB.out | apply below_alloc | apply pw_below_drewN | apply below_drew1 | refine below_set ?_ GE793.out | refine below_set ?_ GE794.out | refine below_set ?_ GE795.out | refine below_set ?_ GE803.out) | exact HB.out)⟩
end Go.Proofs.Ythpjagblnddjaaa.PB
end

section
namespace Go.Proofs.Ythpjagblnddjaaa.PB
open Go.RowKit Go.Proofs.YthpjagblnddjaaaW.PrintWords Go.Proofs.YthpjagblnddjaaaW.PrintLast Go.Proofs.YthpjagblnddjaaaW.PrintMore
attribute [local go_sem] max2_int min2_int max_two min_two max_three min_three max_four min_four   
set_option linter.unusedVariables false
set_option linter.unusedSimpArgs false
mutual
def bureaulaw07_EditOnce.j0 : Nat → Bool → ByteArray → List (S100) → Int → ByteArray → List (S100) → ByteArray → List (S100) → Int → ByteArray → List (S100) → ByteArray → List (S100) → Option (Bool)
  | 0, _, _, _, _, _, _, _, _, _, _, _, _, _ => none
  | k + 1, x29, x809000, x809001, x810000, x810001, x810002, x810003, x810004, x811000, x811001, x811002, x811003, x811004 => if x29 = true then (some true) else ((edit_Join.f k x810000 x810001 x810002 x810003 x810004 x811000 x811001 x811002 x811003 x811004).bind fun bt815 => ((edit_Apply.f k x809000 x809001 x810000 x810001 x810002 x810003 x810004).bind fun bt826 => ((edit_Apply.f k bt826.1 bt826.2.1 x811000 x811001 x811002 x811003 x811004).bind fun bt832 => (if bt815.2.2.2.2.2 = true then (if bt826.2.2 = 0 then (bureaulaw07_EditOnce.j1 k (bt832.2.2 != 0) x809000 x809001 bt815.1 bt815.2.1 bt815.2.2.1 bt815.2.2.2.1 bt815.2.2.2.2.1 bt832.1 bt832.2.1) else (bureaulaw07_EditOnce.j1 k true x809000 x809001 bt815.1 bt815.2.1 bt815.2.2.1 bt815.2.2.2.1 bt815.2.2.2.2.1 bt832.1 bt832.2.1)) else (bureaulaw07_EditOnce.j1 k true x809000 x809001 bt815.1 bt815.2.1 bt815.2.2.1 bt815.2.2.2.1 bt815.2.2.2.2.1 bt832.1 bt832.2.1)))))
def bureaulaw07_EditOnce.j1 : Nat → Bool → ByteArray → List (S100) → Int → ByteArray → List (S100) → ByteArray → List (S100) → ByteArray → List (S100) → Option (Bool)
  | 0, _, _, _, _, _, _, _, _, _, _ => none
  | k + 1, x57, x809000, x809001, x826000, x826001, x826002, x826003, x826004, x838000, x838001 => if x57 = true then (some true) else ((edit_Apply.f k x809000 x809001 x826000 x826001 x826002 x826003 x826004).bind fun bt838 => (if bt838.2.2 = 0 then ((bureauref04_Same.f k x838000 x838001 bt838.1 bt838.2.1).bind fun t844 => (some t844)) else (some false)))
end
def bureaulaw07_EditOnce.f (k : Nat) (a0_0 : ByteArray) (l0_1 : List (S100)) (a1_0 : Int) (a1_1 : ByteArray) (l1_2 : List (S100)) (a1_3 : ByteArray) (l1_4 : List (S100)) (a2_0 : Int) (a2_1 : ByteArray) (l2_2 : List (S100)) (a2_3 : ByteArray) (l2_4 : List (S100)) : Option (Bool) := (bureaulaw07_alive.f k).bind fun t811 => (if t811 = true then ((bureaulaw04_Fits.f a0_0 l0_1).bind fun t812 => (if t812 = true then ((bureaulaw07_Fits.f a1_0 a1_1 l1_2 a1_3 l1_4).bind fun t813 => (if t813 = true then ((bureaulaw07_Fits.f a2_0 a2_1 l2_2 a2_3 l2_4).bind fun t814 => (bureaulaw07_EditOnce.j0 k (!t814) a0_0 l0_1 a1_0 a1_1 l1_2 a1_3 l1_4 a2_0 a2_1 l2_2 a2_3 l2_4)) else (bureaulaw07_EditOnce.j0 k true a0_0 l0_1 a1_0 a1_1 l1_2 a1_3 l1_4 a2_0 a2_1 l2_2 a2_3 l2_4))) else (bureaulaw07_EditOnce.j0 k true a0_0 l0_1 a1_0 a1_1 l1_2 a1_3 l1_4 a2_0 a2_1 l2_2 a2_3 l2_4))) else (some false))
set_option maxHeartbeats 8000000 in
set_option maxRecDepth 100000 in
theorem bureaulaw07_EditOnce.calls (k : Nat) (a0_0 : ByteArray) (A0_1 : Option Addr) (c0_1 : Nat) (l0_1 : List (S100)) (a1_0 : Int) (a1_1 : ByteArray) (A1_2 : Option Addr) (c1_2 : Nat) (l1_2 : List (S100)) (a1_3 : ByteArray) (A1_4 : Option Addr) (c1_4 : Nat) (l1_4 : List (S100)) (a2_0 : Int) (a2_1 : ByteArray) (A2_2 : Option Addr) (c2_2 : Nat) (l2_2 : List (S100)) (a2_3 : ByteArray) (A2_4 : Option Addr) (c2_4 : Nat) (l2_4 : List (S100)) (r : Bool) (w : World) (hr0_1 : Kd.C k100 w A0_1 l0_1.length l0_1) (hc0_1 : l0_1.length ≤ c0_1) (hr1_2 : Kd.C k100 w A1_2 l1_2.length l1_2) (hc1_2 : l1_2.length ≤ c1_2) (hr1_4 : Kd.C k100 w A1_4 l1_4.length l1_4) (hc1_4 : l1_4.length ≤ c1_4) (hr2_2 : Kd.C k100 w A2_2 l2_2.length l2_2) (hc2_2 : l2_2.length ≤ c2_2) (hr2_4 : Kd.C k100 w A2_4 l2_4.length l2_4) (hc2_4 : l2_4.length ≤ c2_4) (h : bureaulaw07_EditOnce.f k a0_0 l0_1 a1_0 a1_1 l1_2 a1_3 l1_4 a2_0 a2_1 l2_2 a2_3 l2_4 = some r) :
    Calls Try.prog 19 #[.agg #[.string a0_0, .slice A0_1 l0_1.length c0_1], .agg #[.int .i64 a1_0, .string a1_1, .slice A1_2 l1_2.length c1_2, .string a1_3, .slice A1_4 l1_4.length c1_4], .agg #[.int .i64 a2_0, .string a2_1, .slice A2_2 l2_2.length c2_2, .string a2_3, .slice A2_4 l2_4.length c2_4]] w fun e w' => e = .returned (.bool r) ∧ Below w.heap.size w w' := by
  have hu51 := Try.underlying51
  have hu64 := Try.underlying64
  have HR0_1 := Aside0.mk hr0_1
  have HC0_1 := Aside0.mk hc0_1
  clear hr0_1 hc0_1
  have HR1_2 := Aside0.mk hr1_2
  have HC1_2 := Aside0.mk hc1_2
  clear hr1_2 hc1_2
  have HR1_4 := Aside0.mk hr1_4
  have HC1_4 := Aside0.mk hc1_4
  clear hr1_4 hc1_4
  have HR2_2 := Aside0.mk hr2_2
  have HC2_2 := Aside0.mk hc2_2
  clear hr2_2 hc2_2
  have HR2_4 := Aside0.mk hr2_4
  have HC2_4 := Aside0.mk hc2_4
  clear hr2_4 hc2_4
  have HB := Aside0.mk (Below.refl w.heap.size w)
  have H : ((bureaulaw07_alive.f k).bind fun t811 => (if t811 = true then ((bureaulaw04_Fits.f a0_0 l0_1).bind fun t812 => (if t812 = true then ((bureaulaw07_Fits.f a1_0 a1_1 l1_2 a1_3 l1_4).bind fun t813 => (if t813 = true then ((bureaulaw07_Fits.f a2_0 a2_1 l2_2 a2_3 l2_4).bind fun t814 => (bureaulaw07_EditOnce.j0 k (!t814) a0_0 l0_1 a1_0 a1_1 l1_2 a1_3 l1_4 a2_0 a2_1 l2_2 a2_3 l2_4)) else (bureaulaw07_EditOnce.j0 k true a0_0 l0_1 a1_0 a1_1 l1_2 a1_3 l1_4 a2_0 a2_1 l2_2 a2_3 l2_4))) else (bureaulaw07_EditOnce.j0 k true a0_0 l0_1 a1_0 a1_1 l1_2 a1_3 l1_4 a2_0 a2_1 l2_2 a2_3 l2_4))) else (some false))) = some r := h
  clear h
  replace H := Option.bind_eq_some_iff.mp H
  obtain ⟨t811, A40, H⟩ := H
  replace H : (if t811 = true then ((bureaulaw04_Fits.f a0_0 l0_1).bind fun t812 => (if t812 = true then ((bureaulaw07_Fits.f a1_0 a1_1 l1_2 a1_3 l1_4).bind fun t813 => (if t813 = true then ((bureaulaw07_Fits.f a2_0 a2_1 l2_2 a2_3 l2_4).bind fun t814 => (bureaulaw07_EditOnce.j0 k (!t814) a0_0 l0_1 a1_0 a1_1 l1_2 a1_3 l1_4 a2_0 a2_1 l2_2 a2_3 l2_4)) else (bureaulaw07_EditOnce.j0 k true a0_0 l0_1 a1_0 a1_1 l1_2 a1_3 l1_4 a2_0 a2_1 l2_2 a2_3 l2_4))) else (bureaulaw07_EditOnce.j0 k true a0_0 l0_1 a1_0 a1_1 l1_2 a1_3 l1_4 a2_0 a2_1 l2_2 a2_3 l2_4))) else (some false)) = some r := H
  have A4 := Aside0.mk A40
  clear A40
  by_cases c5 : t811 = true
  · subst c5
    have H1 : ((bureaulaw04_Fits.f a0_0 l0_1).bind fun t812 => (if t812 = true then ((bureaulaw07_Fits.f a1_0 a1_1 l1_2 a1_3 l1_4).bind fun t813 => (if t813 = true then ((bureaulaw07_Fits.f a2_0 a2_1 l2_2 a2_3 l2_4).bind fun t814 => (bureaulaw07_EditOnce.j0 k (!t814) a0_0 l0_1 a1_0 a1_1 l1_2 a1_3 l1_4 a2_0 a2_1 l2_2 a2_3 l2_4)) else (bureaulaw07_EditOnce.j0 k true a0_0 l0_1 a1_0 a1_1 l1_2 a1_3 l1_4 a2_0 a2_1 l2_2 a2_3 l2_4))) else (bureaulaw07_EditOnce.j0 k true a0_0 l0_1 a1_0 a1_1 l1_2 a1_3 l1_4 a2_0 a2_1 l2_2 a2_3 l2_4))) = some r := by rw [if_pos rfl] at H; exact H
    clear H
    have H := H1
    clear H1
    have HC6 := Aside0.mk H
    clear H
    go_enter Try.func19, Try.ntmps19
    go_upto_region 3 with (first | ((with_reducible refine gate_dst (N := 3) rfl ?_); refine box_event ?hg (N := 3) ?hd (cs := #[.string a0_0, .slice A0_1 l0_1.length c0_1]) (t := 51) ?hr ?_; (case hd => rfl); (case hg => rfl); (case hr => first | (go_simp; done) | (go_simp; rfl)); intro gb808 hg w7 hbox hb; have n0_ := Aside0.mk (below_step (by repeat (first | (with_reducible first | exact HB.out | apply below_alloc | apply pw_below_drewN | apply below_drew1) | exact HB.out)) hb); have n1_ := Aside0.mk (hbox); have n2_ := Aside0.mk ((by rw [hg]; exact (below_size (by repeat (first | (with_reducible first | exact HB.out | apply below_alloc | apply pw_below_drewN | apply below_drew1) | exact HB.out))) : w.heap.size ≤ gb808)); have n3_ := Aside0.mk ((by rw [hg]; exact (below_size (by repeat (first | (with_reducible first | exact HB.out | apply below_alloc | apply pw_below_drewN | apply below_drew1) | exact HB.out))) : w.heap.size ≤ gb808)); clear HB; have HB := n0_; have BK808 := n1_; have GW808 := n2_; have GE808 := n3_; clear n0_ n1_ n2_ n3_; clear hb hbox hg) | ((with_reducible refine gate_dst (N := 4) rfl ?_); refine box_event ?hg (N := 4) ?hd (cs := #[.int .i64 a1_0, .string a1_1, .slice A1_2 l1_2.length c1_2, .string a1_3, .slice A1_4 l1_4.length c1_4]) (t := 64) ?hr ?_; (case hd => rfl); (case hg => rfl); (case hr => first | (go_simp; done) | (go_simp; rfl)); intro gb809 hg w8 hbox hb; have n0_ := Aside0.mk (blk_below (g := gb808) (o := .cells #[.string a0_0, .slice A0_1 l0_1.length c0_1] 51 (0, 0)) (by (with_reducible repeat (first | refine blk_drewN ?_ _ | refine blk_drew ?_ | refine blk_alloc ?_ _)); exact BK808.out) hb); have n1_ := Aside0.mk (below_step (by repeat (first | (with_reducible first | exact HB.out | apply below_alloc | apply pw_below_drewN | apply below_drew1 | refine below_set ?_ GE808.out) | exact HB.out)) hb); have n2_ := Aside0.mk (hbox); have n3_ := Aside0.mk ((by rw [hg]; exact (below_size (by repeat (first | (with_reducible first | exact HB.out | apply below_alloc | apply pw_below_drewN | apply below_drew1 | refine below_set ?_ GE808.out) | exact HB.out))) : w.heap.size ≤ gb809)); have n4_ := Aside0.mk ((by rw [hg]; exact (below_size (by repeat (first | (with_reducible first | exact HB.out | apply below_alloc | apply pw_below_drewN | apply below_drew1 | refine below_set ?_ GE808.out) | exact HB.out))) : w.heap.size ≤ gb809)); have n5_ := Aside0.mk ((by rw [hg]; exact Nat.ne_of_lt (blk_lt (g := gb808) (o := .cells #[.string a0_0, .slice A0_1 l0_1.length c0_1] 51 (0, 0)) (by (with_reducible repeat (first | refine blk_drewN ?_ _ | refine blk_drew ?_ | refine blk_alloc ?_ _)); exact BK808.out)) : gb808 ≠ gb809)); have n6_ := Aside0.mk ((by rw [hg]; exact Nat.ne_of_gt (blk_lt (g := gb808) (o := .cells #[.string a0_0, .slice A0_1 l0_1.length c0_1] 51 (0, 0)) (by (with_reducible repeat (first | refine blk_drewN ?_ _ | refine blk_drew ?_ | refine blk_alloc ?_ _)); exact BK808.out)) : gb809 ≠ gb808)); clear BK808; clear HB; have BK808 := n0_; have HB := n1_; have BK809 := n2_; have GW809 := n3_; have GE809 := n4_; have NB808_809 := n5_; have NB809_808 := n6_; clear n0_ n1_ n2_ n3_ n4_ n5_ n6_; clear hb hbox hg) | ((with_reducible refine gate_dst (N := 5) rfl ?_); refine box_event ?hg (N := 5) ?hd (cs := #[.int .i64 a2_0, .string a2_1, .slice A2_2 l2_2.length c2_2, .string a2_3, .slice A2_4 l2_4.length c2_4]) (t := 64) ?hr ?_; (case hd => rfl); (case hg => rfl); (case hr => first | (go_simp; done) | (go_simp; rfl)); intro gb810 hg w9 hbox hb; have n0_ := Aside0.mk (blk_below (g := gb808) (o := .cells #[.string a0_0, .slice A0_1 l0_1.length c0_1] 51 (0, 0)) (by (with_reducible repeat (first | refine blk_drewN ?_ _ | refine blk_drew ?_ | refine blk_alloc ?_ _)); exact BK808.out) hb); have n1_ := Aside0.mk (blk_below (g := gb809) (o := .cells #[.int .i64 a1_0, .string a1_1, .slice A1_2 l1_2.length c1_2, .string a1_3, .slice A1_4 l1_4.length c1_4] 64 (0, 0)) (by (with_reducible repeat (first | refine blk_drewN ?_ _ | refine blk_drew ?_ | refine blk_alloc ?_ _)); exact BK809.out) hb); have n2_ := Aside0.mk (below_step (by repeat (first | (with_reducible first | exact HB.out | apply below_alloc | apply pw_below_drewN | apply below_drew1 | refine below_set ?_ GE808.out | refine below_set ?_ GE809.out) | exact HB.out)) hb); have n3_ := Aside0.mk (hbox); have n4_ := Aside0.mk ((by rw [hg]; exact (below_size (by repeat (first | (with_reducible first | exact HB.out | apply below_alloc | apply pw_below_drewN | apply below_drew1 | refine below_set ?_ GE808.out | refine below_set ?_ GE809.out) | exact HB.out))) : w.heap.size ≤ gb810)); have n5_ := Aside0.mk ((by rw [hg]; exact (below_size (by repeat (first | (with_reducible first | exact HB.out | apply below_alloc | apply pw_below_drewN | apply below_drew1 | refine below_set ?_ GE808.out | refine below_set ?_ GE809.out) | exact HB.out))) : w.heap.size ≤ gb810)); have n6_ := Aside0.mk ((by rw [hg]; exact Nat.ne_of_lt (blk_lt (g := gb808) (o := .cells #[.string a0_0, .slice A0_1 l0_1.length c0_1] 51 (0, 0)) (by (with_reducible repeat (first | refine blk_drewN ?_ _ | refine blk_drew ?_ | refine blk_alloc ?_ _)); exact BK808.out)) : gb808 ≠ gb810)); have n7_ := Aside0.mk ((by rw [hg]; exact Nat.ne_of_gt (blk_lt (g := gb808) (o := .cells #[.string a0_0, .slice A0_1 l0_1.length c0_1] 51 (0, 0)) (by (with_reducible repeat (first | refine blk_drewN ?_ _ | refine blk_drew ?_ | refine blk_alloc ?_ _)); exact BK808.out)) : gb810 ≠ gb808)); have n8_ := Aside0.mk ((by rw [hg]; exact Nat.ne_of_lt (blk_lt (g := gb809) (o := .cells #[.int .i64 a1_0, .string a1_1, .slice A1_2 l1_2.length c1_2, .string a1_3, .slice A1_4 l1_4.length c1_4] 64 (0, 0)) (by (with_reducible repeat (first | refine blk_drewN ?_ _ | refine blk_drew ?_ | refine blk_alloc ?_ _)); exact BK809.out)) : gb809 ≠ gb810)); have n9_ := Aside0.mk ((by rw [hg]; exact Nat.ne_of_gt (blk_lt (g := gb809) (o := .cells #[.int .i64 a1_0, .string a1_1, .slice A1_2 l1_2.length c1_2, .string a1_3, .slice A1_4 l1_4.length c1_4] 64 (0, 0)) (by (with_reducible repeat (first | refine blk_drewN ?_ _ | refine blk_drew ?_ | refine blk_alloc ?_ _)); exact BK809.out)) : gb810 ≠ gb809)); clear BK808; clear BK809; clear HB; have BK808 := n0_; have BK809 := n1_; have HB := n2_; have BK810 := n3_; have GW810 := n4_; have GE810 := n5_; have NB808_810 := n6_; have NB810_808 := n7_; have NB809_810 := n8_; have NB810_809 := n9_; clear n0_ n1_ n2_ n3_ n4_ n5_ n6_ n7_ n8_ n9_; clear hb hbox hg) | ((with_reducible refine gate_callee (f := 55) rfl ?_); refine goesL_ (some 15) rfl rfl Try.func55 (by kernel_rfl) rfl #[] rfl (by (try simp only [List.map_toArray, List.map_cons, List.map_nil]); first | done | rfl | (simp only [List.length_drop, List.length_take]; rfl)) ?_; (with_reducible refine (bureaulaw07_alive.calls k  true _ A4.out).mono ?_); rintro e w10 ⟨rfl, hb⟩; refine ⟨_, rfl, ?_⟩; have n0_ := Aside0.mk (blk_below (g := gb808) (o := .cells #[.string a0_0, .slice A0_1 l0_1.length c0_1] 51 (0, 0)) (by (with_reducible repeat (first | refine blk_drewN ?_ _ | refine blk_drew ?_ | refine blk_alloc ?_ _)); exact BK808.out) hb); have n1_ := Aside0.mk (blk_below (g := gb809) (o := .cells #[.int .i64 a1_0, .string a1_1, .slice A1_2 l1_2.length c1_2, .string a1_3, .slice A1_4 l1_4.length c1_4] 64 (0, 0)) (by (with_reducible repeat (first | refine blk_drewN ?_ _ | refine blk_drew ?_ | refine blk_alloc ?_ _)); exact BK809.out) hb); have n2_ := Aside0.mk (blk_below (g := gb810) (o := .cells #[.int .i64 a2_0, .string a2_1, .slice A2_2 l2_2.length c2_2, .string a2_3, .slice A2_4 l2_4.length c2_4] 64 (0, 0)) (by (with_reducible repeat (first | refine blk_drewN ?_ _ | refine blk_drew ?_ | refine blk_alloc ?_ _)); exact BK810.out) hb); have n3_ := Aside0.mk (below_step (by repeat (first | (with_reducible first | exact HB.out | apply below_alloc | apply pw_below_drewN | apply below_drew1 | refine below_set ?_ GE808.out | refine below_set ?_ GE809.out | refine below_set ?_ GE810.out) | exact HB.out)) hb); clear BK808; clear BK809; clear BK810; clear HB; have BK808 := n0_; have BK809 := n1_; have BK810 := n2_; have HB := n3_; clear n0_ n1_ n2_ n3_; (try clear hb); (try clear hb2); (try clear hk); (try clear hi)))
    (try simp only [Act.put, List.setIfInBounds_toArray, List.set_cons_zero, List.set_cons_succ])
    go_cut [29] (fun v29 wc => ∃ (kq : Nat) (x29_5 : Bool), v29 = .bool x29_5 ∧ Aside0 (bureaulaw07_EditOnce.j0 kq x29_5 a0_0 l0_1 a1_0 a1_1 l1_2 a1_3 l1_4 a2_0 a2_1 l2_2 a2_3 l2_4 = some r) ∧ Aside0 (kq ≤ k) ∧ Aside0 (wc.heap[gb808]? = some (.cells #[.string a0_0, (.slice A0_1 l0_1.length c0_1)] 51 (0, 0))) ∧ Aside0 (wc.heap[gb809]? = some (.cells #[.int .i64 a1_0, .string a1_1, (.slice A1_2 l1_2.length c1_2), .string a1_3, (.slice A1_4 l1_4.length c1_4)] 64 (0, 0))) ∧ Aside0 (wc.heap[gb810]? = some (.cells #[.int .i64 a2_0, .string a2_1, (.slice A2_2 l2_2.length c2_2), .string a2_3, (.slice A2_4 l2_4.length c2_4)] 64 (0, 0))) ∧ Aside0 (Below w.heap.size w wc))
    case first =>
      have H := HC6.out
      clear HC6
      replace H := Option.bind_eq_some_iff.mp H
      obtain ⟨t812, A110, H⟩ := H
      replace H : (if t812 = true then ((bureaulaw07_Fits.f a1_0 a1_1 l1_2 a1_3 l1_4).bind fun t813 => (if t813 = true then ((bureaulaw07_Fits.f a2_0 a2_1 l2_2 a2_3 l2_4).bind fun t814 => (bureaulaw07_EditOnce.j0 k (!t814) a0_0 l0_1 a1_0 a1_1 l1_2 a1_3 l1_4 a2_0 a2_1 l2_2 a2_3 l2_4)) else (bureaulaw07_EditOnce.j0 k true a0_0 l0_1 a1_0 a1_1 l1_2 a1_3 l1_4 a2_0 a2_1 l2_2 a2_3 l2_4))) else (bureaulaw07_EditOnce.j0 k true a0_0 l0_1 a1_0 a1_1 l1_2 a1_3 l1_4 a2_0 a2_1 l2_2 a2_3 l2_4)) = some r := H
      have A11 := Aside0.mk A110
      clear A110
      by_cases c12 : t812 = true
      · subst c12
        have H1 : ((bureaulaw07_Fits.f a1_0 a1_1 l1_2 a1_3 l1_4).bind fun t813 => (if t813 = true then ((bureaulaw07_Fits.f a2_0 a2_1 l2_2 a2_3 l2_4).bind fun t814 => (bureaulaw07_EditOnce.j0 k (!t814) a0_0 l0_1 a1_0 a1_1 l1_2 a1_3 l1_4 a2_0 a2_1 l2_2 a2_3 l2_4)) else (bureaulaw07_EditOnce.j0 k true a0_0 l0_1 a1_0 a1_1 l1_2 a1_3 l1_4 a2_0 a2_1 l2_2 a2_3 l2_4))) = some r := by rw [if_pos rfl] at H; exact H
        clear H
        have H := H1
        clear H1
        replace H := Option.bind_eq_some_iff.mp H
        obtain ⟨t813, A130, H⟩ := H
        replace H : (if t813 = true then ((bureaulaw07_Fits.f a2_0 a2_1 l2_2 a2_3 l2_4).bind fun t814 => (bureaulaw07_EditOnce.j0 k (!t814) a0_0 l0_1 a1_0 a1_1 l1_2 a1_3 l1_4 a2_0 a2_1 l2_2 a2_3 l2_4)) else (bureaulaw07_EditOnce.j0 k true a0_0 l0_1 a1_0 a1_1 l1_2 a1_3 l1_4 a2_0 a2_1 l2_2 a2_3 l2_4)) = some r := H
        have A13 := Aside0.mk A130
        clear A130
        by_cases c14 : t813 = true
        · subst c14
          have H1 : ((bureaulaw07_Fits.f a2_0 a2_1 l2_2 a2_3 l2_4).bind fun t814 => (bureaulaw07_EditOnce.j0 k (!t814) a0_0 l0_1 a1_0 a1_1 l1_2 a1_3 l1_4 a2_0 a2_1 l2_2 a2_3 l2_4)) = some r := by rw [if_pos rfl] at H; exact H
          clear H
          have H := H1
          clear H1
          replace H := Option.bind_eq_some_iff.mp H
          obtain ⟨t814, A150, H⟩ := H
          replace H : (bureaulaw07_EditOnce.j0 k (!t814) a0_0 l0_1 a1_0 a1_1 l1_2 a1_3 l1_4 a2_0 a2_1 l2_2 a2_3 l2_4) = some r := H
          have A15 := Aside0.mk A150
          clear A150
          have H' := Aside0.mk H
          clear H
          have hnb16 := NB808_809.out
          have hnc16 := NB809_808.out
          have hnb17 := NB808_810.out
          have hnc17 := NB810_808.out
          have hcz18_0 : w10.cell? ⟨gb808, 0, none⟩ = some (.string a0_0) := (blk_cell BK808.out 0).trans rfl
          have hcz18_1 : w10.cell? ⟨gb808, 1, none⟩ = some (.slice A0_1 l0_1.length c0_1) := (blk_cell BK808.out 1).trans rfl
          have hfz18_0 := blk_frozen BK808.out 0
          have hfz18_1 := blk_frozen BK808.out 1
          go_wp2_with (first | ((with_reducible refine gate_callee (f := 45) rfl ?_); refine goesL_ (some 18) rfl rfl Try.func45 (by kernel_rfl) rfl #[.agg #[.string a0_0, .slice A0_1 l0_1.length c0_1]] rfl (by (try simp only [List.map_toArray, List.map_cons, List.map_nil]); first | done | rfl | (simp only [List.length_drop, List.length_take]; rfl)) ?_; (with_reducible refine (bureaulaw04_Fits.calls a0_0 _ _ l0_1 true _ ?side1 ?side2 A11.out).mono ?_); (case side1 => repeat (first | exact (Kd.C_below HR0_1.out HB.out) | (with_reducible refine Kd.C_alloc ?_ _) | (with_reducible refine Kd.C_drewN ?_ _) | (with_reducible refine Kd.C_drew ?_))); (case side2 => exact HC0_1.out); rintro e w19 ⟨rfl, hb⟩; refine ⟨_, rfl, ?_⟩; have n0_ := Aside0.mk (blk_below (g := gb808) (o := .cells #[.string a0_0, .slice A0_1 l0_1.length c0_1] 51 (0, 0)) (by (with_reducible repeat (first | refine blk_drewN ?_ _ | refine blk_drew ?_ | refine blk_alloc ?_ _)); exact BK808.out) hb); have n1_ := Aside0.mk (blk_below (g := gb809) (o := .cells #[.int .i64 a1_0, .string a1_1, .slice A1_2 l1_2.length c1_2, .string a1_3, .slice A1_4 l1_4.length c1_4] 64 (0, 0)) (by (with_reducible repeat (first | refine blk_drewN ?_ _ | refine blk_drew ?_ | refine blk_alloc ?_ _)); exact BK809.out) hb); have n2_ := Aside0.mk (blk_below (g := gb810) (o := .cells #[.int .i64 a2_0, .string a2_1, .slice A2_2 l2_2.length c2_2, .string a2_3, .slice A2_4 l2_4.length c2_4] 64 (0, 0)) (by (with_reducible repeat (first | refine blk_drewN ?_ _ | refine blk_drew ?_ | refine blk_alloc ?_ _)); exact BK810.out) hb); have n3_ := Aside0.mk (below_step (by repeat (first | (with_reducible first | exact HB.out | apply below_alloc | apply pw_below_drewN | apply below_drew1 | refine below_set ?_ GE808.out | refine below_set ?_ GE809.out | refine below_set ?_ GE810.out) | exact HB.out)) hb); clear BK808; clear BK809; clear BK810; clear HB; have BK808 := n0_; have BK809 := n1_; have BK810 := n2_; have HB := n3_; clear n0_ n1_ n2_ n3_; (try clear hb); (try clear hb2); (try clear hk); (try clear hi); have hnb20 := NB809_810.out; have hnc20 := NB810_809.out; have hcz21_0 : w19.cell? ⟨gb809, 0, none⟩ = some (.int .i64 a1_0) := (blk_cell BK809.out 0).trans rfl; have hcz21_1 : w19.cell? ⟨gb809, 1, none⟩ = some (.string a1_1) := (blk_cell BK809.out 1).trans rfl; have hcz21_2 : w19.cell? ⟨gb809, 2, none⟩ = some (.slice A1_2 l1_2.length c1_2) := (blk_cell BK809.out 2).trans rfl; have hcz21_3 : w19.cell? ⟨gb809, 3, none⟩ = some (.string a1_3) := (blk_cell BK809.out 3).trans rfl; have hcz21_4 : w19.cell? ⟨gb809, 4, none⟩ = some (.slice A1_4 l1_4.length c1_4) := (blk_cell BK809.out 4).trans rfl; have hfz21_0 := blk_frozen BK809.out 0; have hfz21_1 := blk_frozen BK809.out 1; have hfz21_2 := blk_frozen BK809.out 2; have hfz21_3 := blk_frozen BK809.out 3; have hfz21_4 := blk_frozen BK809.out 4) | (go_at_call 61; (with_reducible refine (bureaulaw07_Fits.calls a1_0 a1_1 _ _ l1_2 a1_3 _ _ l1_4 true _ ?side1 ?side2 ?side3 ?side4 A13.out).mono ?_); (case side1 => repeat (first | exact (Kd.C_below HR1_2.out HB.out) | (with_reducible refine Kd.C_alloc ?_ _) | (with_reducible refine Kd.C_drewN ?_ _) | (with_reducible refine Kd.C_drew ?_))); (case side2 => exact HC1_2.out); (case side3 => repeat (first | exact (Kd.C_below HR1_4.out HB.out) | (with_reducible refine Kd.C_alloc ?_ _) | (with_reducible refine Kd.C_drewN ?_ _) | (with_reducible refine Kd.C_drew ?_))); (case side4 => exact HC1_4.out); rintro e w22 ⟨rfl, hb⟩; have n0_ := Aside0.mk (blk_below (g := gb808) (o := .cells #[.string a0_0, .slice A0_1 l0_1.length c0_1] 51 (0, 0)) (by (with_reducible repeat (first | refine blk_drewN ?_ _ | refine blk_drew ?_ | refine blk_alloc ?_ _)); exact BK808.out) hb); have n1_ := Aside0.mk (blk_below (g := gb809) (o := .cells #[.int .i64 a1_0, .string a1_1, .slice A1_2 l1_2.length c1_2, .string a1_3, .slice A1_4 l1_4.length c1_4] 64 (0, 0)) (by (with_reducible repeat (first | refine blk_drewN ?_ _ | refine blk_drew ?_ | refine blk_alloc ?_ _)); exact BK809.out) hb); have n2_ := Aside0.mk (blk_below (g := gb810) (o := .cells #[.int .i64 a2_0, .string a2_1, .slice A2_2 l2_2.length c2_2, .string a2_3, .slice A2_4 l2_4.length c2_4] 64 (0, 0)) (by (with_reducible repeat (first | refine blk_drewN ?_ _ | refine blk_drew ?_ | refine blk_alloc ?_ _)); exact BK810.out) hb); have n3_ := Aside0.mk (below_step (by repeat (first | (with_reducible first | exact HB.out | apply below_alloc | apply pw_below_drewN | apply below_drew1 | refine below_set ?_ GE808.out | refine below_set ?_ GE809.out | refine below_set ?_ GE810.out) | exact HB.out)) hb); clear BK808; clear BK809; clear BK810; clear HB; have BK808 := n0_; have BK809 := n1_; have BK810 := n2_; have HB := n3_; clear n0_ n1_ n2_ n3_; (try clear hb); (try clear hb2); (try clear hk); (try clear hi); have hcz23_0 : w22.cell? ⟨gb810, 0, none⟩ = some (.int .i64 a2_0) := (blk_cell BK810.out 0).trans rfl; have hcz23_1 : w22.cell? ⟨gb810, 1, none⟩ = some (.string a2_1) := (blk_cell BK810.out 1).trans rfl; have hcz23_2 : w22.cell? ⟨gb810, 2, none⟩ = some (.slice A2_2 l2_2.length c2_2) := (blk_cell BK810.out 2).trans rfl; have hcz23_3 : w22.cell? ⟨gb810, 3, none⟩ = some (.string a2_3) := (blk_cell BK810.out 3).trans rfl; have hcz23_4 : w22.cell? ⟨gb810, 4, none⟩ = some (.slice A2_4 l2_4.length c2_4) := (blk_cell BK810.out 4).trans rfl; have hfz23_0 := blk_frozen BK810.out 0; have hfz23_1 := blk_frozen BK810.out 1; have hfz23_2 := blk_frozen BK810.out 2; have hfz23_3 := blk_frozen BK810.out 3; have hfz23_4 := blk_frozen BK810.out 4) | (go_at_call 61; (with_reducible refine (bureaulaw07_Fits.calls a2_0 a2_1 _ _ l2_2 a2_3 _ _ l2_4 t814 _ ?side1 ?side2 ?side3 ?side4 A15.out).mono ?_); (case side1 => repeat (first | exact (Kd.C_below HR2_2.out HB.out) | (with_reducible refine Kd.C_alloc ?_ _) | (with_reducible refine Kd.C_drewN ?_ _) | (with_reducible refine Kd.C_drew ?_))); (case side2 => exact HC2_2.out); (case side3 => repeat (first | exact (Kd.C_below HR2_4.out HB.out) | (with_reducible refine Kd.C_alloc ?_ _) | (with_reducible refine Kd.C_drewN ?_ _) | (with_reducible refine Kd.C_drew ?_))); (case side4 => exact HC2_4.out); rintro e w24 ⟨rfl, hb⟩; have n0_ := Aside0.mk (blk_below (g := gb808) (o := .cells #[.string a0_0, .slice A0_1 l0_1.length c0_1] 51 (0, 0)) (by (with_reducible repeat (first | refine blk_drewN ?_ _ | refine blk_drew ?_ | refine blk_alloc ?_ _)); exact BK808.out) hb); have n1_ := Aside0.mk (blk_below (g := gb809) (o := .cells #[.int .i64 a1_0, .string a1_1, .slice A1_2 l1_2.length c1_2, .string a1_3, .slice A1_4 l1_4.length c1_4] 64 (0, 0)) (by (with_reducible repeat (first | refine blk_drewN ?_ _ | refine blk_drew ?_ | refine blk_alloc ?_ _)); exact BK809.out) hb); have n2_ := Aside0.mk (blk_below (g := gb810) (o := .cells #[.int .i64 a2_0, .string a2_1, .slice A2_2 l2_2.length c2_2, .string a2_3, .slice A2_4 l2_4.length c2_4] 64 (0, 0)) (by (with_reducible repeat (first | refine blk_drewN ?_ _ | refine blk_drew ?_ | refine blk_alloc ?_ _)); exact BK810.out) hb); have n3_ := Aside0.mk (below_step (by repeat (first | (with_reducible first | exact HB.out | apply below_alloc | apply pw_below_drewN | apply below_drew1 | refine below_set ?_ GE808.out | refine below_set ?_ GE809.out | refine below_set ?_ GE810.out) | exact HB.out)) hb); clear BK808; clear BK809; clear BK810; clear HB; have BK808 := n0_; have BK809 := n1_; have BK810 := n2_; have HB := n3_; clear n0_ n1_ n2_ n3_; (try clear hb); (try clear hb2); (try clear hk); (try clear hi)))
          go_meet
          case rel => exact ⟨_, (!t814), (by first | rfl | (simp; done) | (simp [*]; done)), H', ⟨by first | omega | exact Nat.le_refl _⟩, ⟨by (with_reducible repeat (first | refine blk_drewN ?_ _ | refine blk_drew ?_ | refine blk_alloc ?_ _)); exact BK808.out⟩, ⟨by (with_reducible repeat (first | refine blk_drewN ?_ _ | refine blk_drew ?_ | refine blk_alloc ?_ _)); exact BK809.out⟩, ⟨by (with_reducible repeat (first | refine blk_drewN ?_ _ | refine blk_drew ?_ | refine blk_alloc ?_ _)); exact BK810.out⟩, ⟨by repeat (first | (with_reducible first | exact HB.out | apply below_alloc | apply pw_below_drewN | apply below_drew1 | refine below_set ?_ GE808.out | refine below_set ?_ GE809.out | refine below_set ?_ GE810.out) | exact HB.out)⟩⟩
        · replace c14 := Bool.eq_false_iff.mpr c14
          subst c14
          have H1 : (bureaulaw07_EditOnce.j0 k true a0_0 l0_1 a1_0 a1_1 l1_2 a1_3 l1_4 a2_0 a2_1 l2_2 a2_3 l2_4) = some r := by rw [if_neg (show ¬ (false = true) by decide)] at H; exact H
          clear H
          have H := H1
          clear H1
          have H' := Aside0.mk H
          clear H
          have hnb25 := NB808_809.out
          have hnc25 := NB809_808.out
          have hnb26 := NB808_810.out
          have hnc26 := NB810_808.out
          have hcz27_0 : w10.cell? ⟨gb808, 0, none⟩ = some (.string a0_0) := (blk_cell BK808.out 0).trans rfl
          have hcz27_1 : w10.cell? ⟨gb808, 1, none⟩ = some (.slice A0_1 l0_1.length c0_1) := (blk_cell BK808.out 1).trans rfl
          have hfz27_0 := blk_frozen BK808.out 0
          have hfz27_1 := blk_frozen BK808.out 1
          go_wp2_with (first | ((with_reducible refine gate_callee (f := 45) rfl ?_); refine goesL_ (some 18) rfl rfl Try.func45 (by kernel_rfl) rfl #[.agg #[.string a0_0, .slice A0_1 l0_1.length c0_1]] rfl (by (try simp only [List.map_toArray, List.map_cons, List.map_nil]); first | done | rfl | (simp only [List.length_drop, List.length_take]; rfl)) ?_; (with_reducible refine (bureaulaw04_Fits.calls a0_0 _ _ l0_1 true _ ?side1 ?side2 A11.out).mono ?_); (case side1 => repeat (first | exact (Kd.C_below HR0_1.out HB.out) | (with_reducible refine Kd.C_alloc ?_ _) | (with_reducible refine Kd.C_drewN ?_ _) | (with_reducible refine Kd.C_drew ?_))); (case side2 => exact HC0_1.out); rintro e w28 ⟨rfl, hb⟩; refine ⟨_, rfl, ?_⟩; have n0_ := Aside0.mk (blk_below (g := gb808) (o := .cells #[.string a0_0, .slice A0_1 l0_1.length c0_1] 51 (0, 0)) (by (with_reducible repeat (first | refine blk_drewN ?_ _ | refine blk_drew ?_ | refine blk_alloc ?_ _)); exact BK808.out) hb); have n1_ := Aside0.mk (blk_below (g := gb809) (o := .cells #[.int .i64 a1_0, .string a1_1, .slice A1_2 l1_2.length c1_2, .string a1_3, .slice A1_4 l1_4.length c1_4] 64 (0, 0)) (by (with_reducible repeat (first | refine blk_drewN ?_ _ | refine blk_drew ?_ | refine blk_alloc ?_ _)); exact BK809.out) hb); have n2_ := Aside0.mk (blk_below (g := gb810) (o := .cells #[.int .i64 a2_0, .string a2_1, .slice A2_2 l2_2.length c2_2, .string a2_3, .slice A2_4 l2_4.length c2_4] 64 (0, 0)) (by (with_reducible repeat (first | refine blk_drewN ?_ _ | refine blk_drew ?_ | refine blk_alloc ?_ _)); exact BK810.out) hb); have n3_ := Aside0.mk (below_step (by repeat (first | (with_reducible first | exact HB.out | apply below_alloc | apply pw_below_drewN | apply below_drew1 | refine below_set ?_ GE808.out | refine below_set ?_ GE809.out | refine below_set ?_ GE810.out) | exact HB.out)) hb); clear BK808; clear BK809; clear BK810; clear HB; have BK808 := n0_; have BK809 := n1_; have BK810 := n2_; have HB := n3_; clear n0_ n1_ n2_ n3_; (try clear hb); (try clear hb2); (try clear hk); (try clear hi); have hnb29 := NB809_810.out; have hnc29 := NB810_809.out; have hcz30_0 : w28.cell? ⟨gb809, 0, none⟩ = some (.int .i64 a1_0) := (blk_cell BK809.out 0).trans rfl; have hcz30_1 : w28.cell? ⟨gb809, 1, none⟩ = some (.string a1_1) := (blk_cell BK809.out 1).trans rfl; have hcz30_2 : w28.cell? ⟨gb809, 2, none⟩ = some (.slice A1_2 l1_2.length c1_2) := (blk_cell BK809.out 2).trans rfl; have hcz30_3 : w28.cell? ⟨gb809, 3, none⟩ = some (.string a1_3) := (blk_cell BK809.out 3).trans rfl; have hcz30_4 : w28.cell? ⟨gb809, 4, none⟩ = some (.slice A1_4 l1_4.length c1_4) := (blk_cell BK809.out 4).trans rfl; have hfz30_0 := blk_frozen BK809.out 0; have hfz30_1 := blk_frozen BK809.out 1; have hfz30_2 := blk_frozen BK809.out 2; have hfz30_3 := blk_frozen BK809.out 3; have hfz30_4 := blk_frozen BK809.out 4) | (go_at_call 61; (with_reducible refine (bureaulaw07_Fits.calls a1_0 a1_1 _ _ l1_2 a1_3 _ _ l1_4 false _ ?side1 ?side2 ?side3 ?side4 A13.out).mono ?_); (case side1 => repeat (first | exact (Kd.C_below HR1_2.out HB.out) | (with_reducible refine Kd.C_alloc ?_ _) | (with_reducible refine Kd.C_drewN ?_ _) | (with_reducible refine Kd.C_drew ?_))); (case side2 => exact HC1_2.out); (case side3 => repeat (first | exact (Kd.C_below HR1_4.out HB.out) | (with_reducible refine Kd.C_alloc ?_ _) | (with_reducible refine Kd.C_drewN ?_ _) | (with_reducible refine Kd.C_drew ?_))); (case side4 => exact HC1_4.out); rintro e w31 ⟨rfl, hb⟩; have n0_ := Aside0.mk (blk_below (g := gb808) (o := .cells #[.string a0_0, .slice A0_1 l0_1.length c0_1] 51 (0, 0)) (by (with_reducible repeat (first | refine blk_drewN ?_ _ | refine blk_drew ?_ | refine blk_alloc ?_ _)); exact BK808.out) hb); have n1_ := Aside0.mk (blk_below (g := gb809) (o := .cells #[.int .i64 a1_0, .string a1_1, .slice A1_2 l1_2.length c1_2, .string a1_3, .slice A1_4 l1_4.length c1_4] 64 (0, 0)) (by (with_reducible repeat (first | refine blk_drewN ?_ _ | refine blk_drew ?_ | refine blk_alloc ?_ _)); exact BK809.out) hb); have n2_ := Aside0.mk (blk_below (g := gb810) (o := .cells #[.int .i64 a2_0, .string a2_1, .slice A2_2 l2_2.length c2_2, .string a2_3, .slice A2_4 l2_4.length c2_4] 64 (0, 0)) (by (with_reducible repeat (first | refine blk_drewN ?_ _ | refine blk_drew ?_ | refine blk_alloc ?_ _)); exact BK810.out) hb); have n3_ := Aside0.mk (below_step (by repeat (first | (with_reducible first | exact HB.out | apply below_alloc | apply pw_below_drewN | apply below_drew1 | refine below_set ?_ GE808.out | refine below_set ?_ GE809.out | refine below_set ?_ GE810.out) | exact HB.out)) hb); clear BK808; clear BK809; clear BK810; clear HB; have BK808 := n0_; have BK809 := n1_; have BK810 := n2_; have HB := n3_; clear n0_ n1_ n2_ n3_; (try clear hb); (try clear hb2); (try clear hk); (try clear hi)))
          go_meet
          case rel => exact ⟨_, (true), (by first | rfl | (simp; done) | (simp [*]; done)), H', ⟨by first | omega | exact Nat.le_refl _⟩, ⟨by (with_reducible repeat (first | refine blk_drewN ?_ _ | refine blk_drew ?_ | refine blk_alloc ?_ _)); exact BK808.out⟩, ⟨by (with_reducible repeat (first | refine blk_drewN ?_ _ | refine blk_drew ?_ | refine blk_alloc ?_ _)); exact BK809.out⟩, ⟨by (with_reducible repeat (first | refine blk_drewN ?_ _ | refine blk_drew ?_ | refine blk_alloc ?_ _)); exact BK810.out⟩, ⟨by repeat (first | (with_reducible first | exact HB.out | apply below_alloc | apply pw_below_drewN | apply below_drew1 | refine below_set ?_ GE808.out | refine below_set ?_ GE809.out | refine below_set ?_ GE810.out) | exact HB.out)⟩⟩
      · replace c12 := Bool.eq_false_iff.mpr c12
        subst c12
        have H1 : (bureaulaw07_EditOnce.j0 k true a0_0 l0_1 a1_0 a1_1 l1_2 a1_3 l1_4 a2_0 a2_1 l2_2 a2_3 l2_4) = some r := by rw [if_neg (show ¬ (false = true) by decide)] at H; exact H
        clear H
        have H := H1
        clear H1
        have H' := Aside0.mk H
        clear H
        have hnb32 := NB808_809.out
        have hnc32 := NB809_808.out
        have hnb33 := NB808_810.out
        have hnc33 := NB810_808.out
        have hcz34_0 : w10.cell? ⟨gb808, 0, none⟩ = some (.string a0_0) := (blk_cell BK808.out 0).trans rfl
        have hcz34_1 : w10.cell? ⟨gb808, 1, none⟩ = some (.slice A0_1 l0_1.length c0_1) := (blk_cell BK808.out 1).trans rfl
        have hfz34_0 := blk_frozen BK808.out 0
        have hfz34_1 := blk_frozen BK808.out 1
        go_wp2_with (first | ((with_reducible refine gate_callee (f := 45) rfl ?_); refine goesL_ (some 18) rfl rfl Try.func45 (by kernel_rfl) rfl #[.agg #[.string a0_0, .slice A0_1 l0_1.length c0_1]] rfl (by (try simp only [List.map_toArray, List.map_cons, List.map_nil]); first | done | rfl | (simp only [List.length_drop, List.length_take]; rfl)) ?_; (with_reducible refine (bureaulaw04_Fits.calls a0_0 _ _ l0_1 false _ ?side1 ?side2 A11.out).mono ?_); (case side1 => repeat (first | exact (Kd.C_below HR0_1.out HB.out) | (with_reducible refine Kd.C_alloc ?_ _) | (with_reducible refine Kd.C_drewN ?_ _) | (with_reducible refine Kd.C_drew ?_))); (case side2 => exact HC0_1.out); rintro e w35 ⟨rfl, hb⟩; refine ⟨_, rfl, ?_⟩; have n0_ := Aside0.mk (blk_below (g := gb808) (o := .cells #[.string a0_0, .slice A0_1 l0_1.length c0_1] 51 (0, 0)) (by (with_reducible repeat (first | refine blk_drewN ?_ _ | refine blk_drew ?_ | refine blk_alloc ?_ _)); exact BK808.out) hb); have n1_ := Aside0.mk (blk_below (g := gb809) (o := .cells #[.int .i64 a1_0, .string a1_1, .slice A1_2 l1_2.length c1_2, .string a1_3, .slice A1_4 l1_4.length c1_4] 64 (0, 0)) (by (with_reducible repeat (first | refine blk_drewN ?_ _ | refine blk_drew ?_ | refine blk_alloc ?_ _)); exact BK809.out) hb); have n2_ := Aside0.mk (blk_below (g := gb810) (o := .cells #[.int .i64 a2_0, .string a2_1, .slice A2_2 l2_2.length c2_2, .string a2_3, .slice A2_4 l2_4.length c2_4] 64 (0, 0)) (by (with_reducible repeat (first | refine blk_drewN ?_ _ | refine blk_drew ?_ | refine blk_alloc ?_ _)); exact BK810.out) hb); have n3_ := Aside0.mk (below_step (by repeat (first | (with_reducible first | exact HB.out | apply below_alloc | apply pw_below_drewN | apply below_drew1 | refine below_set ?_ GE808.out | refine below_set ?_ GE809.out | refine below_set ?_ GE810.out) | exact HB.out)) hb); clear BK808; clear BK809; clear BK810; clear HB; have BK808 := n0_; have BK809 := n1_; have BK810 := n2_; have HB := n3_; clear n0_ n1_ n2_ n3_; (try clear hb); (try clear hb2); (try clear hk); (try clear hi)))
        go_meet
        case rel => exact ⟨_, (true), (by first | rfl | (simp; done) | (simp [*]; done)), H', ⟨by first | omega | exact Nat.le_refl _⟩, ⟨by (with_reducible repeat (first | refine blk_drewN ?_ _ | refine blk_drew ?_ | refine blk_alloc ?_ _)); exact BK808.out⟩, ⟨by (with_reducible repeat (first | refine blk_drewN ?_ _ | refine blk_drew ?_ | refine blk_alloc ?_ _)); exact BK809.out⟩, ⟨by (with_reducible repeat (first | refine blk_drewN ?_ _ | refine blk_drew ?_ | refine blk_alloc ?_ _)); exact BK810.out⟩, ⟨by repeat (first | (with_reducible first | exact HB.out | apply below_alloc | apply pw_below_drewN | apply below_drew1 | refine below_set ?_ GE808.out | refine below_set ?_ GE809.out | refine below_set ?_ GE810.out) | exact HB.out)⟩⟩
    case rest =>
      clear HC6
      try clear c1
      try clear c2
      try clear p2
      try clear c3
      try clear c4
      try clear c5
      try clear c12
      try clear c14
      try clear c16
      try clear c17
      try clear c19
      try clear c20
      try clear c25
      try clear c26
      try clear c29
      try clear c32
      try clear c33
      try clear hcz18_0
      try clear hcz18_1
      try clear hcz21_0
      try clear hcz21_1
      try clear hcz21_2
      try clear hcz21_3
      try clear hcz21_4
      try clear hcz23_0
      try clear hcz23_1
      try clear hcz23_2
      try clear hcz23_3
      try clear hcz23_4
      try clear hcz27_0
      try clear hcz27_1
      try clear hcz30_0
      try clear hcz30_1
      try clear hcz30_2
      try clear hcz30_3
      try clear hcz30_4
      try clear hcz34_0
      try clear hcz34_1
      try clear hfz18_0
      try clear hfz18_1
      try clear hfz21_0
      try clear hfz21_1
      try clear hfz21_2
      try clear hfz21_3
      try clear hfz21_4
      try clear hfz23_0
      try clear hfz23_1
      try clear hfz23_2
      try clear hfz23_3
      try clear hfz23_4
      try clear hfz27_0
      try clear hfz27_1
      try clear hfz30_0
      try clear hfz30_1
      try clear hfz30_2
      try clear hfz30_3
      try clear hfz30_4
      try clear hfz34_0
      try clear hfz34_1
      obtain ⟨kq, x29_5, rfl, HA, HJ5, BK808, BK809, BK810, HB⟩ := hcut
      cases kq with
      | zero => exact absurd HA.out (by simp [bureaulaw07_EditOnce.j0])
      | succ kj5 =>
        have H := HA.out
        clear HA
        simp only [bureaulaw07_EditOnce.j0] at H
        by_cases c36 : x29_5 = true
        · subst c36
          have H1 : (some true) = some r := by rw [if_pos rfl] at H; exact H
          clear H
          have H := H1
          clear H1
          obtain rfl := Option.some.inj H
          go_wp2
          go_ret
          exact ⟨by first | rfl | (simp [errW_none, errW_some] <;> rfl) | (simp [*, errW_none, errW_some] <;> rfl), by repeat (first | (with_reducible first | exact HB.out | apply below_alloc | apply pw_below_drewN | apply below_drew1 | refine below_set ?_ GE808.out | refine below_set ?_ GE809.out | refine below_set ?_ GE810.out) | exact HB.out)⟩
        · replace c36 := Bool.eq_false_iff.mpr c36
          subst c36
          have H1 : ((edit_Join.f kj5 a1_0 a1_1 l1_2 a1_3 l1_4 a2_0 a2_1 l2_2 a2_3 l2_4).bind fun bt815 => ((edit_Apply.f kj5 a0_0 l0_1 a1_0 a1_1 l1_2 a1_3 l1_4).bind fun bt826 => ((edit_Apply.f kj5 bt826.1 bt826.2.1 a2_0 a2_1 l2_2 a2_3 l2_4).bind fun bt832 => (if bt815.2.2.2.2.2 = true then (if bt826.2.2 = 0 then (bureaulaw07_EditOnce.j1 kj5 (bt832.2.2 != 0) a0_0 l0_1 bt815.1 bt815.2.1 bt815.2.2.1 bt815.2.2.2.1 bt815.2.2.2.2.1 bt832.1 bt832.2.1) else (bureaulaw07_EditOnce.j1 kj5 true a0_0 l0_1 bt815.1 bt815.2.1 bt815.2.2.1 bt815.2.2.2.1 bt815.2.2.2.2.1 bt832.1 bt832.2.1)) else (bureaulaw07_EditOnce.j1 kj5 true a0_0 l0_1 bt815.1 bt815.2.1 bt815.2.2.1 bt815.2.2.2.1 bt815.2.2.2.2.1 bt832.1 bt832.2.1))))) = some r := by rw [if_neg (show ¬ (false = true) by decide)] at H; exact H
          clear H
          have H := H1
          clear H1
          replace H := Option.bind_eq_some_iff.mp H
          obtain ⟨⟨t815, t816, t817, t820, t821, t824⟩, A370, H⟩ := H
          replace H : ((edit_Apply.f kj5 a0_0 l0_1 a1_0 a1_1 l1_2 a1_3 l1_4).bind fun bt826 => ((edit_Apply.f kj5 bt826.1 bt826.2.1 a2_0 a2_1 l2_2 a2_3 l2_4).bind fun bt832 => (if t824 = true then (if bt826.2.2 = 0 then (bureaulaw07_EditOnce.j1 kj5 (bt832.2.2 != 0) a0_0 l0_1 t815 t816 t817 t820 t821 bt832.1 bt832.2.1) else (bureaulaw07_EditOnce.j1 kj5 true a0_0 l0_1 t815 t816 t817 t820 t821 bt832.1 bt832.2.1)) else (bureaulaw07_EditOnce.j1 kj5 true a0_0 l0_1 t815 t816 t817 t820 t821 bt832.1 bt832.2.1)))) = some r := H
          have A37 := Aside0.mk A370
          clear A370
          replace H := Option.bind_eq_some_iff.mp H
          obtain ⟨⟨t826, t827, t830⟩, A380, H⟩ := H
          replace H : ((edit_Apply.f kj5 t826 t827 a2_0 a2_1 l2_2 a2_3 l2_4).bind fun bt832 => (if t824 = true then (if t830 = 0 then (bureaulaw07_EditOnce.j1 kj5 (bt832.2.2 != 0) a0_0 l0_1 t815 t816 t817 t820 t821 bt832.1 bt832.2.1) else (bureaulaw07_EditOnce.j1 kj5 true a0_0 l0_1 t815 t816 t817 t820 t821 bt832.1 bt832.2.1)) else (bureaulaw07_EditOnce.j1 kj5 true a0_0 l0_1 t815 t816 t817 t820 t821 bt832.1 bt832.2.1))) = some r := H
          have A38 := Aside0.mk A380
          clear A380
          replace H := Option.bind_eq_some_iff.mp H
          obtain ⟨⟨t832, t833, t836⟩, A390, H⟩ := H
          replace H : (if t824 = true then (if t830 = 0 then (bureaulaw07_EditOnce.j1 kj5 (t836 != 0) a0_0 l0_1 t815 t816 t817 t820 t821 t832 t833) else (bureaulaw07_EditOnce.j1 kj5 true a0_0 l0_1 t815 t816 t817 t820 t821 t832 t833)) else (bureaulaw07_EditOnce.j1 kj5 true a0_0 l0_1 t815 t816 t817 t820 t821 t832 t833)) = some r := H
          have A39 := Aside0.mk A390
          clear A390
          have HC40 := Aside0.mk H
          clear H
          have hnb41 := NB809_808.out
          have hnc41 := NB808_809.out
          have hnb42 := NB809_810.out
          have hnc42 := NB810_809.out
          have hcz43_0 : wc.cell? ⟨gb809, 0, none⟩ = some (.int .i64 a1_0) := (blk_cell BK809.out 0).trans rfl
          have hcz43_1 : wc.cell? ⟨gb809, 1, none⟩ = some (.string a1_1) := (blk_cell BK809.out 1).trans rfl
          have hcz43_2 : wc.cell? ⟨gb809, 2, none⟩ = some (.slice A1_2 l1_2.length c1_2) := (blk_cell BK809.out 2).trans rfl
          have hcz43_3 : wc.cell? ⟨gb809, 3, none⟩ = some (.string a1_3) := (blk_cell BK809.out 3).trans rfl
          have hcz43_4 : wc.cell? ⟨gb809, 4, none⟩ = some (.slice A1_4 l1_4.length c1_4) := (blk_cell BK809.out 4).trans rfl
          have hfz43_0 := blk_frozen BK809.out 0
          have hfz43_1 := blk_frozen BK809.out 1
          have hfz43_2 := blk_frozen BK809.out 2
          have hfz43_3 := blk_frozen BK809.out 3
          have hfz43_4 := blk_frozen BK809.out 4
          have hnb44 := NB810_808.out
          have hnc44 := NB808_810.out
          have hcz45_0 : wc.cell? ⟨gb810, 0, none⟩ = some (.int .i64 a2_0) := (blk_cell BK810.out 0).trans rfl
          have hcz45_1 : wc.cell? ⟨gb810, 1, none⟩ = some (.string a2_1) := (blk_cell BK810.out 1).trans rfl
          have hcz45_2 : wc.cell? ⟨gb810, 2, none⟩ = some (.slice A2_2 l2_2.length c2_2) := (blk_cell BK810.out 2).trans rfl
          have hcz45_3 : wc.cell? ⟨gb810, 3, none⟩ = some (.string a2_3) := (blk_cell BK810.out 3).trans rfl
          have hcz45_4 : wc.cell? ⟨gb810, 4, none⟩ = some (.slice A2_4 l2_4.length c2_4) := (blk_cell BK810.out 4).trans rfl
          have hfz45_0 := blk_frozen BK810.out 0
          have hfz45_1 := blk_frozen BK810.out 1
          have hfz45_2 := blk_frozen BK810.out 2
          have hfz45_3 := blk_frozen BK810.out 3
          have hfz45_4 := blk_frozen BK810.out 4
          go_upto_region 8 with (first | ((with_reducible refine gate_callee (f := 72) rfl ?_); refine goesL_ (some 33) rfl rfl Try.func72 (by kernel_rfl) rfl #[.agg #[.int .i64 a1_0, .string a1_1, .slice A1_2 l1_2.length c1_2, .string a1_3, .slice A1_4 l1_4.length c1_4], .agg #[.int .i64 a2_0, .string a2_1, .slice A2_2 l2_2.length c2_2, .string a2_3, .slice A2_4 l2_4.length c2_4]] rfl (by (try simp only [List.map_toArray, List.map_cons, List.map_nil]); first | done | rfl | (simp only [List.length_drop, List.length_take]; rfl)) ?_; (with_reducible refine (edit_Join.calls kj5 a1_0 a1_1 _ _ l1_2 a1_3 _ _ l1_4 a2_0 a2_1 _ _ l2_2 a2_3 _ _ l2_4 t815 t816 t817 t820 t821 t824 _ ?side1 ?side2 ?side3 ?side4 ?side5 ?side6 ?side7 ?side8 A37.out).mono ?_); (case side1 => repeat (first | exact (Kd.C_below HR1_2.out HB.out) | (with_reducible refine Kd.C_alloc ?_ _) | (with_reducible refine Kd.C_drewN ?_ _) | (with_reducible refine Kd.C_drew ?_))); (case side2 => exact HC1_2.out); (case side3 => repeat (first | exact (Kd.C_below HR1_4.out HB.out) | (with_reducible refine Kd.C_alloc ?_ _) | (with_reducible refine Kd.C_drewN ?_ _) | (with_reducible refine Kd.C_drew ?_))); (case side4 => exact HC1_4.out); (case side5 => repeat (first | exact (Kd.C_below HR2_2.out HB.out) | (with_reducible refine Kd.C_alloc ?_ _) | (with_reducible refine Kd.C_drewN ?_ _) | (with_reducible refine Kd.C_drew ?_))); (case side6 => exact HC2_2.out); (case side7 => repeat (first | exact (Kd.C_below HR2_4.out HB.out) | (with_reducible refine Kd.C_alloc ?_ _) | (with_reducible refine Kd.C_drewN ?_ _) | (with_reducible refine Kd.C_drew ?_))); (case side8 => exact HC2_4.out); rintro e w46 ⟨v818, v822, rfl, ho0, ho1, hb⟩; refine ⟨_, rfl, ?_⟩; have n0_ := Aside0.mk (Kd.R_lower ho0 (below_size (by repeat (first | (with_reducible first | exact HB.out | apply below_alloc | apply pw_below_drewN | apply below_drew1 | refine below_set ?_ GE808.out | refine below_set ?_ GE809.out | refine below_set ?_ GE810.out) | exact HB.out)))); have n1_ := Aside0.mk (Kd.R_lower ho1 (below_size (by repeat (first | (with_reducible first | exact HB.out | apply below_alloc | apply pw_below_drewN | apply below_drew1 | refine below_set ?_ GE808.out | refine below_set ?_ GE809.out | refine below_set ?_ GE810.out) | exact HB.out)))); have n2_ := Aside0.mk (blk_below (g := gb808) (o := .cells #[.string a0_0, .slice A0_1 l0_1.length c0_1] 51 (0, 0)) (by (with_reducible repeat (first | refine blk_drewN ?_ _ | refine blk_drew ?_ | refine blk_alloc ?_ _)); exact BK808.out) hb); have n3_ := Aside0.mk (blk_below (g := gb809) (o := .cells #[.int .i64 a1_0, .string a1_1, .slice A1_2 l1_2.length c1_2, .string a1_3, .slice A1_4 l1_4.length c1_4] 64 (0, 0)) (by (with_reducible repeat (first | refine blk_drewN ?_ _ | refine blk_drew ?_ | refine blk_alloc ?_ _)); exact BK809.out) hb); have n4_ := Aside0.mk (blk_below (g := gb810) (o := .cells #[.int .i64 a2_0, .string a2_1, .slice A2_2 l2_2.length c2_2, .string a2_3, .slice A2_4 l2_4.length c2_4] 64 (0, 0)) (by (with_reducible repeat (first | refine blk_drewN ?_ _ | refine blk_drew ?_ | refine blk_alloc ?_ _)); exact BK810.out) hb); have n5_ := Aside0.mk (below_step (by repeat (first | (with_reducible first | exact HB.out | apply below_alloc | apply pw_below_drewN | apply below_drew1 | refine below_set ?_ GE808.out | refine below_set ?_ GE809.out | refine below_set ?_ GE810.out) | exact HB.out)) hb); clear BK808; clear BK809; clear BK810; clear HB; have HO819 := n0_; have HO823 := n1_; have BK808 := n2_; have BK809 := n3_; have BK810 := n4_; have HB := n5_; clear n0_ n1_ n2_ n3_ n4_ n5_; (try clear hb); (try clear hb2); (try clear hk); (try clear hi); (try clear ho0); (try clear ho1)) | ((with_reducible refine gate_dst (N := 7) rfl ?_); refine box_event ?hg (N := 7) ?hd (cs := #[.int .i64 0, .string (⟨#[]⟩ : ByteArray), .slice none 0 0, .string (⟨#[]⟩ : ByteArray), .slice none 0 0]) (t := 64) ?hr ?_; (case hd => rfl); (case hg => rfl); (case hr => first | (go_simp; done) | (go_simp; rfl)); intro gb825 hg w47 hbox hb; have n0_ := Aside0.mk (Kd.R_below (by (with_reducible repeat (first | apply Kd.R_alloc | apply Kd.R_drewN | apply Kd.R_drew)); exact HO819.out) hb); have n1_ := Aside0.mk (Kd.R_below (by (with_reducible repeat (first | apply Kd.R_alloc | apply Kd.R_drewN | apply Kd.R_drew)); exact HO823.out) hb); have n2_ := Aside0.mk (blk_below (g := gb808) (o := .cells #[.string a0_0, .slice A0_1 l0_1.length c0_1] 51 (0, 0)) (by (with_reducible repeat (first | refine blk_drewN ?_ _ | refine blk_drew ?_ | refine blk_alloc ?_ _)); exact BK808.out) hb); have n3_ := Aside0.mk (blk_below (g := gb809) (o := .cells #[.int .i64 a1_0, .string a1_1, .slice A1_2 l1_2.length c1_2, .string a1_3, .slice A1_4 l1_4.length c1_4] 64 (0, 0)) (by (with_reducible repeat (first | refine blk_drewN ?_ _ | refine blk_drew ?_ | refine blk_alloc ?_ _)); exact BK809.out) hb); have n4_ := Aside0.mk (blk_below (g := gb810) (o := .cells #[.int .i64 a2_0, .string a2_1, .slice A2_2 l2_2.length c2_2, .string a2_3, .slice A2_4 l2_4.length c2_4] 64 (0, 0)) (by (with_reducible repeat (first | refine blk_drewN ?_ _ | refine blk_drew ?_ | refine blk_alloc ?_ _)); exact BK810.out) hb); have n5_ := Aside0.mk (below_step (by repeat (first | (with_reducible first | exact HB.out | apply below_alloc | apply pw_below_drewN | apply below_drew1 | refine below_set ?_ GE808.out | refine below_set ?_ GE809.out | refine below_set ?_ GE810.out) | exact HB.out)) hb); have n6_ := Aside0.mk (hbox); have n7_ := Aside0.mk ((by rw [hg]; exact (below_size (by repeat (first | (with_reducible first | exact HB.out | apply below_alloc | apply pw_below_drewN | apply below_drew1 | refine below_set ?_ GE808.out | refine below_set ?_ GE809.out | refine below_set ?_ GE810.out) | exact HB.out))) : w.heap.size ≤ gb825)); have n8_ := Aside0.mk ((by rw [hg]; exact (below_size (by repeat (first | (with_reducible first | exact HB.out | apply below_alloc | apply pw_below_drewN | apply below_drew1 | refine below_set ?_ GE808.out | refine below_set ?_ GE809.out | refine below_set ?_ GE810.out) | exact HB.out))) : w.heap.size ≤ gb825)); have n9_ := Aside0.mk ((by rw [hg]; exact Nat.ne_of_lt (blk_lt (g := gb808) (o := .cells #[.string a0_0, .slice A0_1 l0_1.length c0_1] 51 (0, 0)) (by (with_reducible repeat (first | refine blk_drewN ?_ _ | refine blk_drew ?_ | refine blk_alloc ?_ _)); exact BK808.out)) : gb808 ≠ gb825)); have n10_ := Aside0.mk ((by rw [hg]; exact Nat.ne_of_gt (blk_lt (g := gb808) (o := .cells #[.string a0_0, .slice A0_1 l0_1.length c0_1] 51 (0, 0)) (by (with_reducible repeat (first | refine blk_drewN ?_ _ | refine blk_drew ?_ | refine blk_alloc ?_ _)); exact BK808.out)) : gb825 ≠ gb808)); have n11_ := Aside0.mk ((by rw [hg]; exact Nat.ne_of_lt (blk_lt (g := gb809) (o := .cells #[.int .i64 a1_0, .string a1_1, .slice A1_2 l1_2.length c1_2, .string a1_3, .slice A1_4 l1_4.length c1_4] 64 (0, 0)) (by (with_reducible repeat (first | refine blk_drewN ?_ _ | refine blk_drew ?_ | refine blk_alloc ?_ _)); exact BK809.out)) : gb809 ≠ gb825)); have n12_ := Aside0.mk ((by rw [hg]; exact Nat.ne_of_gt (blk_lt (g := gb809) (o := .cells #[.int .i64 a1_0, .string a1_1, .slice A1_2 l1_2.length c1_2, .string a1_3, .slice A1_4 l1_4.length c1_4] 64 (0, 0)) (by (with_reducible repeat (first | refine blk_drewN ?_ _ | refine blk_drew ?_ | refine blk_alloc ?_ _)); exact BK809.out)) : gb825 ≠ gb809)); have n13_ := Aside0.mk ((by rw [hg]; exact Nat.ne_of_lt (blk_lt (g := gb810) (o := .cells #[.int .i64 a2_0, .string a2_1, .slice A2_2 l2_2.length c2_2, .string a2_3, .slice A2_4 l2_4.length c2_4] 64 (0, 0)) (by (with_reducible repeat (first | refine blk_drewN ?_ _ | refine blk_drew ?_ | refine blk_alloc ?_ _)); exact BK810.out)) : gb810 ≠ gb825)); have n14_ := Aside0.mk ((by rw [hg]; exact Nat.ne_of_gt (blk_lt (g := gb810) (o := .cells #[.int .i64 a2_0, .string a2_1, .slice A2_2 l2_2.length c2_2, .string a2_3, .slice A2_4 l2_4.length c2_4] 64 (0, 0)) (by (with_reducible repeat (first | refine blk_drewN ?_ _ | refine blk_drew ?_ | refine blk_alloc ?_ _)); exact BK810.out)) : gb825 ≠ gb810)); clear HO819; clear HO823; clear BK808; clear BK809; clear BK810; clear HB; have HO819 := n0_; have HO823 := n1_; have BK808 := n2_; have BK809 := n3_; have BK810 := n4_; have HB := n5_; have BK825 := n6_; have GW825 := n7_; have GE825 := n8_; have NB808_825 := n9_; have NB825_808 := n10_; have NB809_825 := n11_; have NB825_809 := n12_; have NB810_825 := n13_; have NB825_810 := n14_; clear n0_ n1_ n2_ n3_ n4_ n5_ n6_ n7_ n8_ n9_ n10_ n11_ n12_ n13_ n14_; clear hb hbox hg; have hnb48 := NB825_808.out; have hnc48 := NB808_825.out; have hnb49 := NB825_809.out; have hnc49 := NB809_825.out; have hnb50 := NB825_810.out; have hnc50 := NB810_825.out; have hcz51_0 : w47.cell? ⟨gb825, 0, none⟩ = some (.int .i64 0) := (blk_cell BK825.out 0).trans rfl; have hcz51_1 : w47.cell? ⟨gb825, 1, none⟩ = some (.string (⟨#[]⟩ : ByteArray)) := (blk_cell BK825.out 1).trans rfl; have hcz51_2 : w47.cell? ⟨gb825, 2, none⟩ = some (.slice none 0 0) := (blk_cell BK825.out 2).trans rfl; have hcz51_3 : w47.cell? ⟨gb825, 3, none⟩ = some (.string (⟨#[]⟩ : ByteArray)) := (blk_cell BK825.out 3).trans rfl; have hcz51_4 : w47.cell? ⟨gb825, 4, none⟩ = some (.slice none 0 0) := (blk_cell BK825.out 4).trans rfl; have hfz51_0 := blk_frozen BK825.out 0; have hfz51_1 := blk_frozen BK825.out 1; have hfz51_2 := blk_frozen BK825.out 2; have hfz51_3 := blk_frozen BK825.out 3; have hfz51_4 := blk_frozen BK825.out 4; obtain ⟨Ao52, co52, eo52⟩ := Kd.R_slice HO819.out; subst eo52; obtain ⟨Ao53, co53, eo53⟩ := Kd.R_slice HO823.out; subst eo53; have hcz54_0 : w47.cell? ⟨gb808, 0, none⟩ = some (.string a0_0) := (blk_cell BK808.out 0).trans rfl; have hcz54_1 : w47.cell? ⟨gb808, 1, none⟩ = some (.slice A0_1 l0_1.length c0_1) := (blk_cell BK808.out 1).trans rfl; have hfz54_0 := blk_frozen BK808.out 0; have hfz54_1 := blk_frozen BK808.out 1; have hcz55_0 : w47.cell? ⟨gb809, 0, none⟩ = some (.int .i64 a1_0) := (blk_cell BK809.out 0).trans rfl; have hcz55_1 : w47.cell? ⟨gb809, 1, none⟩ = some (.string a1_1) := (blk_cell BK809.out 1).trans rfl; have hcz55_2 : w47.cell? ⟨gb809, 2, none⟩ = some (.slice A1_2 l1_2.length c1_2) := (blk_cell BK809.out 2).trans rfl; have hcz55_3 : w47.cell? ⟨gb809, 3, none⟩ = some (.string a1_3) := (blk_cell BK809.out 3).trans rfl; have hcz55_4 : w47.cell? ⟨gb809, 4, none⟩ = some (.slice A1_4 l1_4.length c1_4) := (blk_cell BK809.out 4).trans rfl; have hfz55_0 := blk_frozen BK809.out 0; have hfz55_1 := blk_frozen BK809.out 1; have hfz55_2 := blk_frozen BK809.out 2; have hfz55_3 := blk_frozen BK809.out 3; have hfz55_4 := blk_frozen BK809.out 4) | ((with_reducible refine gate_callee (f := 65) rfl ?_); refine goesL_ (some 39) rfl rfl Try.func65 (by kernel_rfl) rfl #[.agg #[.string a0_0, .slice A0_1 l0_1.length c0_1], .agg #[.int .i64 a1_0, .string a1_1, .slice A1_2 l1_2.length c1_2, .string a1_3, .slice A1_4 l1_4.length c1_4]] rfl (by (try simp only [List.map_toArray, List.map_cons, List.map_nil]); first | done | rfl | (simp only [List.length_drop, List.length_take]; rfl)) ?_; (with_reducible refine (edit_Apply.calls kj5 a0_0 _ _ l0_1 a1_0 a1_1 _ _ l1_2 a1_3 _ _ l1_4 t826 t827 t830 _ ?side1 ?side2 ?side3 ?side4 ?side5 ?side6 A38.out).mono ?_); (case side1 => exact Kd.C_below HR0_1.out (by repeat (first | (with_reducible first | exact HB.out | apply below_alloc | apply pw_below_drewN | apply below_drew1 | refine below_set ?_ GE808.out | refine below_set ?_ GE809.out | refine below_set ?_ GE810.out | refine below_set ?_ GE825.out) | exact HB.out))); (case side2 => exact HC0_1.out); (case side3 => exact Kd.C_below HR1_2.out (by repeat (first | (with_reducible first | exact HB.out | apply below_alloc | apply pw_below_drewN | apply below_drew1 | refine below_set ?_ GE808.out | refine below_set ?_ GE809.out | refine below_set ?_ GE810.out | refine below_set ?_ GE825.out) | exact HB.out))); (case side4 => exact HC1_2.out); (case side5 => exact Kd.C_below HR1_4.out (by repeat (first | (with_reducible first | exact HB.out | apply below_alloc | apply pw_below_drewN | apply below_drew1 | refine below_set ?_ GE808.out | refine below_set ?_ GE809.out | refine below_set ?_ GE810.out | refine below_set ?_ GE825.out) | exact HB.out))); (case side6 => exact HC1_4.out); rintro e w56 ⟨v828, rfl, ho0, hb⟩; refine ⟨_, rfl, ?_⟩; have n0_ := Aside0.mk (Kd.R_elder' (by (with_reducible repeat (first | apply Kd.R_alloc | apply Kd.R_drewN | apply Kd.R_drew)); exact (Kd.R_mono (Kd.R_far (p := ⟨gb825, 4, none⟩) (Kd.R_far (p := ⟨gb825, 3, none⟩) (Kd.R_far (p := ⟨gb825, 2, none⟩) (Kd.R_far (p := ⟨gb825, 1, none⟩) (Kd.R_far (p := ⟨gb825, 0, none⟩) (Kd.R_types HO819.out BK825.out (by decide)) (fun _ hk => hk.2) (.int .i64 t815)) (fun _ hk => hk.2) (.string t816)) (fun _ hk => hk.2) (.slice Ao52 t817.length co52)) (fun _ hk => hk.2) (.string t820)) (fun _ hk => hk.2) (.slice Ao53 t821.length co53)) (fun _ h_ => h_.1))) (Kd.R_base ho0) hb); have n1_ := Aside0.mk (Kd.R_elder' (by (with_reducible repeat (first | apply Kd.R_alloc | apply Kd.R_drewN | apply Kd.R_drew)); exact (Kd.R_mono (Kd.R_far (p := ⟨gb825, 4, none⟩) (Kd.R_far (p := ⟨gb825, 3, none⟩) (Kd.R_far (p := ⟨gb825, 2, none⟩) (Kd.R_far (p := ⟨gb825, 1, none⟩) (Kd.R_far (p := ⟨gb825, 0, none⟩) (Kd.R_types HO823.out BK825.out (by decide)) (fun _ hk => hk.2) (.int .i64 t815)) (fun _ hk => hk.2) (.string t816)) (fun _ hk => hk.2) (.slice Ao52 t817.length co52)) (fun _ hk => hk.2) (.string t820)) (fun _ hk => hk.2) (.slice Ao53 t821.length co53)) (fun _ h_ => h_.1))) (Kd.R_base ho0) hb); have n2_ := Aside0.mk (Kd.R_lower (Kd.R_new' (Kd.R_new' ho0 (Kd.R_lt (by (with_reducible repeat (first | apply Kd.R_alloc | apply Kd.R_drewN | apply Kd.R_drew)); exact (Kd.R_mono (Kd.R_far (p := ⟨gb825, 4, none⟩) (Kd.R_far (p := ⟨gb825, 3, none⟩) (Kd.R_far (p := ⟨gb825, 2, none⟩) (Kd.R_far (p := ⟨gb825, 1, none⟩) (Kd.R_far (p := ⟨gb825, 0, none⟩) (Kd.R_types HO819.out BK825.out (by decide)) (fun _ hk => hk.2) (.int .i64 t815)) (fun _ hk => hk.2) (.string t816)) (fun _ hk => hk.2) (.slice Ao52 t817.length co52)) (fun _ hk => hk.2) (.string t820)) (fun _ hk => hk.2) (.slice Ao53 t821.length co53)) (fun _ h_ => h_.1))))) (Kd.R_lt (by (with_reducible repeat (first | apply Kd.R_alloc | apply Kd.R_drewN | apply Kd.R_drew)); exact (Kd.R_mono (Kd.R_far (p := ⟨gb825, 4, none⟩) (Kd.R_far (p := ⟨gb825, 3, none⟩) (Kd.R_far (p := ⟨gb825, 2, none⟩) (Kd.R_far (p := ⟨gb825, 1, none⟩) (Kd.R_far (p := ⟨gb825, 0, none⟩) (Kd.R_types HO823.out BK825.out (by decide)) (fun _ hk => hk.2) (.int .i64 t815)) (fun _ hk => hk.2) (.string t816)) (fun _ hk => hk.2) (.slice Ao52 t817.length co52)) (fun _ hk => hk.2) (.string t820)) (fun _ hk => hk.2) (.slice Ao53 t821.length co53)) (fun _ h_ => h_.1))))) (below_size (by repeat (first | (with_reducible first | exact HB.out | apply below_alloc | apply pw_below_drewN | apply below_drew1 | refine below_set ?_ GE808.out | refine below_set ?_ GE809.out | refine below_set ?_ GE810.out | refine below_set ?_ GE825.out) | exact HB.out)))); have n3_ := Aside0.mk (blk_below (g := gb808) (o := .cells #[.string a0_0, .slice A0_1 l0_1.length c0_1] 51 (0, 0)) (by (with_reducible repeat (first | refine blk_drewN ?_ _ | refine blk_drew ?_ | refine blk_alloc ?_ _)); refine blk_far ?_ NB808_825.out _; (with_reducible repeat (first | refine blk_drewN ?_ _ | refine blk_drew ?_ | refine blk_alloc ?_ _)); refine blk_far ?_ NB808_825.out _; (with_reducible repeat (first | refine blk_drewN ?_ _ | refine blk_drew ?_ | refine blk_alloc ?_ _)); refine blk_far ?_ NB808_825.out _; (with_reducible repeat (first | refine blk_drewN ?_ _ | refine blk_drew ?_ | refine blk_alloc ?_ _)); refine blk_far ?_ NB808_825.out _; (with_reducible repeat (first | refine blk_drewN ?_ _ | refine blk_drew ?_ | refine blk_alloc ?_ _)); refine blk_far ?_ NB808_825.out _; (with_reducible repeat (first | refine blk_drewN ?_ _ | refine blk_drew ?_ | refine blk_alloc ?_ _)); exact BK808.out) hb); have n4_ := Aside0.mk (blk_below (g := gb809) (o := .cells #[.int .i64 a1_0, .string a1_1, .slice A1_2 l1_2.length c1_2, .string a1_3, .slice A1_4 l1_4.length c1_4] 64 (0, 0)) (by (with_reducible repeat (first | refine blk_drewN ?_ _ | refine blk_drew ?_ | refine blk_alloc ?_ _)); refine blk_far ?_ NB809_825.out _; (with_reducible repeat (first | refine blk_drewN ?_ _ | refine blk_drew ?_ | refine blk_alloc ?_ _)); refine blk_far ?_ NB809_825.out _; (with_reducible repeat (first | refine blk_drewN ?_ _ | refine blk_drew ?_ | refine blk_alloc ?_ _)); refine blk_far ?_ NB809_825.out _; (with_reducible repeat (first | refine blk_drewN ?_ _ | refine blk_drew ?_ | refine blk_alloc ?_ _)); refine blk_far ?_ NB809_825.out _; (with_reducible repeat (first | refine blk_drewN ?_ _ | refine blk_drew ?_ | refine blk_alloc ?_ _)); refine blk_far ?_ NB809_825.out _; (with_reducible repeat (first | refine blk_drewN ?_ _ | refine blk_drew ?_ | refine blk_alloc ?_ _)); exact BK809.out) hb); have n5_ := Aside0.mk (blk_below (g := gb810) (o := .cells #[.int .i64 a2_0, .string a2_1, .slice A2_2 l2_2.length c2_2, .string a2_3, .slice A2_4 l2_4.length c2_4] 64 (0, 0)) (by (with_reducible repeat (first | refine blk_drewN ?_ _ | refine blk_drew ?_ | refine blk_alloc ?_ _)); refine blk_far ?_ NB810_825.out _; (with_reducible repeat (first | refine blk_drewN ?_ _ | refine blk_drew ?_ | refine blk_alloc ?_ _)); refine blk_far ?_ NB810_825.out _; (with_reducible repeat (first | refine blk_drewN ?_ _ | refine blk_drew ?_ | refine blk_alloc ?_ _)); refine blk_far ?_ NB810_825.out _; (with_reducible repeat (first | refine blk_drewN ?_ _ | refine blk_drew ?_ | refine blk_alloc ?_ _)); refine blk_far ?_ NB810_825.out _; (with_reducible repeat (first | refine blk_drewN ?_ _ | refine blk_drew ?_ | refine blk_alloc ?_ _)); refine blk_far ?_ NB810_825.out _; (with_reducible repeat (first | refine blk_drewN ?_ _ | refine blk_drew ?_ | refine blk_alloc ?_ _)); exact BK810.out) hb); have n6_ := Aside0.mk (blk_below (g := gb825) (o := .cells #[.int .i64 t815, .string t816, .slice Ao52 t817.length co52, .string t820, .slice Ao53 t821.length co53] 64 (0, 0)) (by (with_reducible repeat (first | refine blk_drewN ?_ _ | refine blk_drew ?_ | refine blk_alloc ?_ _)); refine blk_put (cs := #[.int .i64 t815, .string t816, .slice Ao52 t817.length co52, .string t820, .slice none 0 0]) ?_ 4 _ rfl; (with_reducible repeat (first | refine blk_drewN ?_ _ | refine blk_drew ?_ | refine blk_alloc ?_ _)); refine blk_put (cs := #[.int .i64 t815, .string t816, .slice Ao52 t817.length co52, .string (⟨#[]⟩ : ByteArray), .slice none 0 0]) ?_ 3 _ rfl; (with_reducible repeat (first | refine blk_drewN ?_ _ | refine blk_drew ?_ | refine blk_alloc ?_ _)); refine blk_put (cs := #[.int .i64 t815, .string t816, .slice none 0 0, .string (⟨#[]⟩ : ByteArray), .slice none 0 0]) ?_ 2 _ rfl; (with_reducible repeat (first | refine blk_drewN ?_ _ | refine blk_drew ?_ | refine blk_alloc ?_ _)); refine blk_put (cs := #[.int .i64 t815, .string (⟨#[]⟩ : ByteArray), .slice none 0 0, .string (⟨#[]⟩ : ByteArray), .slice none 0 0]) ?_ 1 _ rfl; (with_reducible repeat (first | refine blk_drewN ?_ _ | refine blk_drew ?_ | refine blk_alloc ?_ _)); refine blk_put (cs := #[.int .i64 0, .string (⟨#[]⟩ : ByteArray), .slice none 0 0, .string (⟨#[]⟩ : ByteArray), .slice none 0 0]) ?_ 0 _ rfl; (with_reducible repeat (first | refine blk_drewN ?_ _ | refine blk_drew ?_ | refine blk_alloc ?_ _)); exact BK825.out) hb); have n7_ := Aside0.mk (below_step (by repeat (first | (with_reducible first | exact HB.out | apply below_alloc | apply pw_below_drewN | apply below_drew1 | refine below_set ?_ GE808.out | refine below_set ?_ GE809.out | refine below_set ?_ GE810.out | refine below_set ?_ GE825.out) | exact HB.out)) hb); clear HO819; clear HO823; clear BK808; clear BK809; clear BK810; clear BK825; clear HB; have HO819 := n0_; have HO823 := n1_; have HO829 := n2_; have BK808 := n3_; have BK809 := n4_; have BK810 := n5_; have BK825 := n6_; have HB := n7_; clear n0_ n1_ n2_ n3_ n4_ n5_ n6_ n7_; (try clear hb); (try clear hb2); (try clear hk); (try clear hi); (try clear ho0)) | ((with_reducible refine gate_dst (N := 9) rfl ?_); refine box_event ?hg (N := 9) ?hd (cs := #[.string (⟨#[]⟩ : ByteArray), .slice none 0 0]) (t := 51) ?hr ?_; (case hd => rfl); (case hg => rfl); (case hr => first | (go_simp; done) | (go_simp; rfl)); intro gb831 hg w57 hbox hb; have n0_ := Aside0.mk (Kd.R_below (by (with_reducible repeat (first | apply Kd.R_alloc | apply Kd.R_drewN | apply Kd.R_drew)); exact HO819.out) hb); have n1_ := Aside0.mk (Kd.R_below (by (with_reducible repeat (first | apply Kd.R_alloc | apply Kd.R_drewN | apply Kd.R_drew)); exact HO823.out) hb); have n2_ := Aside0.mk (Kd.R_below (by (with_reducible repeat (first | apply Kd.R_alloc | apply Kd.R_drewN | apply Kd.R_drew)); exact HO829.out) hb); have n3_ := Aside0.mk (blk_below (g := gb808) (o := .cells #[.string a0_0, .slice A0_1 l0_1.length c0_1] 51 (0, 0)) (by (with_reducible repeat (first | refine blk_drewN ?_ _ | refine blk_drew ?_ | refine blk_alloc ?_ _)); exact BK808.out) hb); have n4_ := Aside0.mk (blk_below (g := gb809) (o := .cells #[.int .i64 a1_0, .string a1_1, .slice A1_2 l1_2.length c1_2, .string a1_3, .slice A1_4 l1_4.length c1_4] 64 (0, 0)) (by (with_reducible repeat (first | refine blk_drewN ?_ _ | refine blk_drew ?_ | refine blk_alloc ?_ _)); exact BK809.out) hb); have n5_ := Aside0.mk (blk_below (g := gb810) (o := .cells #[.int .i64 a2_0, .string a2_1, .slice A2_2 l2_2.length c2_2, .string a2_3, .slice A2_4 l2_4.length c2_4] 64 (0, 0)) (by (with_reducible repeat (first | refine blk_drewN ?_ _ | refine blk_drew ?_ | refine blk_alloc ?_ _)); exact BK810.out) hb); have n6_ := Aside0.mk (blk_below (g := gb825) (o := .cells #[.int .i64 t815, .string t816, .slice Ao52 t817.length co52, .string t820, .slice Ao53 t821.length co53] 64 (0, 0)) (by (with_reducible repeat (first | refine blk_drewN ?_ _ | refine blk_drew ?_ | refine blk_alloc ?_ _)); exact BK825.out) hb); have n7_ := Aside0.mk (below_step (by repeat (first | (with_reducible first | exact HB.out | apply below_alloc | apply pw_below_drewN | apply below_drew1 | refine below_set ?_ GE808.out | refine below_set ?_ GE809.out | refine below_set ?_ GE810.out | refine below_set ?_ GE825.out) | exact HB.out)) hb); have n8_ := Aside0.mk (hbox); have n9_ := Aside0.mk ((by rw [hg]; exact (below_size (by repeat (first | (with_reducible first | exact HB.out | apply below_alloc | apply pw_below_drewN | apply below_drew1 | refine below_set ?_ GE808.out | refine below_set ?_ GE809.out | refine below_set ?_ GE810.out | refine below_set ?_ GE825.out) | exact HB.out))) : w.heap.size ≤ gb831)); have n10_ := Aside0.mk ((by rw [hg]; exact (below_size (by repeat (first | (with_reducible first | exact HB.out | apply below_alloc | apply pw_below_drewN | apply below_drew1 | refine below_set ?_ GE808.out | refine below_set ?_ GE809.out | refine below_set ?_ GE810.out | refine below_set ?_ GE825.out) | exact HB.out))) : w.heap.size ≤ gb831)); have n11_ := Aside0.mk ((by rw [hg]; exact Nat.ne_of_lt (blk_lt (g := gb808) (o := .cells #[.string a0_0, .slice A0_1 l0_1.length c0_1] 51 (0, 0)) (by (with_reducible repeat (first | refine blk_drewN ?_ _ | refine blk_drew ?_ | refine blk_alloc ?_ _)); exact BK808.out)) : gb808 ≠ gb831)); have n12_ := Aside0.mk ((by rw [hg]; exact Nat.ne_of_gt (blk_lt (g := gb808) (o := .cells #[.string a0_0, .slice A0_1 l0_1.length c0_1] 51 (0, 0)) (by (with_reducible repeat (first | refine blk_drewN ?_ _ | refine blk_drew ?_ | refine blk_alloc ?_ _)); exact BK808.out)) : gb831 ≠ gb808)); have n13_ := Aside0.mk ((by rw [hg]; exact Nat.ne_of_lt (blk_lt (g := gb809) (o := .cells #[.int .i64 a1_0, .string a1_1, .slice A1_2 l1_2.length c1_2, .string a1_3, .slice A1_4 l1_4.length c1_4] 64 (0, 0)) (by (with_reducible repeat (first | refine blk_drewN ?_ _ | refine blk_drew ?_ | refine blk_alloc ?_ _)); exact BK809.out)) : gb809 ≠ gb831)); have n14_ := Aside0.mk ((by rw [hg]; exact Nat.ne_of_gt (blk_lt (g := gb809) (o := .cells #[.int .i64 a1_0, .string a1_1, .slice A1_2 l1_2.length c1_2, .string a1_3, .slice A1_4 l1_4.length c1_4] 64 (0, 0)) (by (with_reducible repeat (first | refine blk_drewN ?_ _ | refine blk_drew ?_ | refine blk_alloc ?_ _)); exact BK809.out)) : gb831 ≠ gb809)); have n15_ := Aside0.mk ((by rw [hg]; exact Nat.ne_of_lt (blk_lt (g := gb810) (o := .cells #[.int .i64 a2_0, .string a2_1, .slice A2_2 l2_2.length c2_2, .string a2_3, .slice A2_4 l2_4.length c2_4] 64 (0, 0)) (by (with_reducible repeat (first | refine blk_drewN ?_ _ | refine blk_drew ?_ | refine blk_alloc ?_ _)); exact BK810.out)) : gb810 ≠ gb831)); have n16_ := Aside0.mk ((by rw [hg]; exact Nat.ne_of_gt (blk_lt (g := gb810) (o := .cells #[.int .i64 a2_0, .string a2_1, .slice A2_2 l2_2.length c2_2, .string a2_3, .slice A2_4 l2_4.length c2_4] 64 (0, 0)) (by (with_reducible repeat (first | refine blk_drewN ?_ _ | refine blk_drew ?_ | refine blk_alloc ?_ _)); exact BK810.out)) : gb831 ≠ gb810)); have n17_ := Aside0.mk ((by rw [hg]; exact Nat.ne_of_lt (blk_lt (g := gb825) (o := .cells #[.int .i64 t815, .string t816, .slice Ao52 t817.length co52, .string t820, .slice Ao53 t821.length co53] 64 (0, 0)) (by (with_reducible repeat (first | refine blk_drewN ?_ _ | refine blk_drew ?_ | refine blk_alloc ?_ _)); exact BK825.out)) : gb825 ≠ gb831)); have n18_ := Aside0.mk ((by rw [hg]; exact Nat.ne_of_gt (blk_lt (g := gb825) (o := .cells #[.int .i64 t815, .string t816, .slice Ao52 t817.length co52, .string t820, .slice Ao53 t821.length co53] 64 (0, 0)) (by (with_reducible repeat (first | refine blk_drewN ?_ _ | refine blk_drew ?_ | refine blk_alloc ?_ _)); exact BK825.out)) : gb831 ≠ gb825)); clear HO819; clear HO823; clear HO829; clear BK808; clear BK809; clear BK810; clear BK825; clear HB; have HO819 := n0_; have HO823 := n1_; have HO829 := n2_; have BK808 := n3_; have BK809 := n4_; have BK810 := n5_; have BK825 := n6_; have HB := n7_; have BK831 := n8_; have GW831 := n9_; have GE831 := n10_; have NB808_831 := n11_; have NB831_808 := n12_; have NB809_831 := n13_; have NB831_809 := n14_; have NB810_831 := n15_; have NB831_810 := n16_; have NB825_831 := n17_; have NB831_825 := n18_; clear n0_ n1_ n2_ n3_ n4_ n5_ n6_ n7_ n8_ n9_ n10_ n11_ n12_ n13_ n14_ n15_ n16_ n17_ n18_; clear hb hbox hg; have hnb58 := NB831_808.out; have hnc58 := NB808_831.out; have hnb59 := NB831_809.out; have hnc59 := NB809_831.out; have hnb60 := NB831_810.out; have hnc60 := NB810_831.out; have hnb61 := NB831_825.out; have hnc61 := NB825_831.out; have hcz62_0 : w57.cell? ⟨gb831, 0, none⟩ = some (.string (⟨#[]⟩ : ByteArray)) := (blk_cell BK831.out 0).trans rfl; have hcz62_1 : w57.cell? ⟨gb831, 1, none⟩ = some (.slice none 0 0) := (blk_cell BK831.out 1).trans rfl; have hfz62_0 := blk_frozen BK831.out 0; have hfz62_1 := blk_frozen BK831.out 1; obtain ⟨Ao63, co63, eo63⟩ := Kd.R_slice HO829.out; subst eo63; have hcz64_0 : w57.cell? ⟨gb810, 0, none⟩ = some (.int .i64 a2_0) := (blk_cell BK810.out 0).trans rfl; have hcz64_1 : w57.cell? ⟨gb810, 1, none⟩ = some (.string a2_1) := (blk_cell BK810.out 1).trans rfl; have hcz64_2 : w57.cell? ⟨gb810, 2, none⟩ = some (.slice A2_2 l2_2.length c2_2) := (blk_cell BK810.out 2).trans rfl; have hcz64_3 : w57.cell? ⟨gb810, 3, none⟩ = some (.string a2_3) := (blk_cell BK810.out 3).trans rfl; have hcz64_4 : w57.cell? ⟨gb810, 4, none⟩ = some (.slice A2_4 l2_4.length c2_4) := (blk_cell BK810.out 4).trans rfl; have hfz64_0 := blk_frozen BK810.out 0; have hfz64_1 := blk_frozen BK810.out 1; have hfz64_2 := blk_frozen BK810.out 2; have hfz64_3 := blk_frozen BK810.out 3; have hfz64_4 := blk_frozen BK810.out 4) | ((with_reducible refine gate_callee (f := 65) rfl ?_); refine goesL_ (some 45) rfl rfl Try.func65 (by kernel_rfl) rfl #[.agg #[.string t826, .slice Ao63 t827.length co63], .agg #[.int .i64 a2_0, .string a2_1, .slice A2_2 l2_2.length c2_2, .string a2_3, .slice A2_4 l2_4.length c2_4]] rfl (by (try simp only [List.map_toArray, List.map_cons, List.map_nil]); first | done | rfl | (simp only [List.length_drop, List.length_take]; rfl)) ?_; (with_reducible refine (edit_Apply.calls kj5 t826 _ _ t827 a2_0 a2_1 _ _ l2_2 a2_3 _ _ l2_4 t832 t833 t836 _ ?side1 ?side2 ?side3 ?side4 ?side5 ?side6 A39.out).mono ?_); (case side1 => refine (Kd.R_reads' (e := 100) (base := w.heap.size) (ok := fun k_ => ((True ∧ some k_ ≠ (.slice Ao52 t817.length co52 : Value).ownBlock) ∧ some k_ ≠ (.slice Ao53 t821.length co53 : Value).ownBlock)) (n := t827.length) (c := co63) ?_).2.2; exact (by (with_reducible repeat (first | apply Kd.R_alloc | apply Kd.R_drewN | apply Kd.R_drew)); exact (Kd.R_mono (Kd.R_far (p := ⟨gb831, 1, none⟩) (Kd.R_far (p := ⟨gb831, 0, none⟩) (Kd.R_types HO829.out BK831.out (by decide)) (fun _ hk => hk.2) (.string t826)) (fun _ hk => hk.2) (.slice Ao63 t827.length co63)) (fun _ h_ => h_.1)))); (case side2 => exact (Kd.R_reads' HO829.out).2.1); (case side3 => exact Kd.C_below HR2_2.out (by repeat (first | (with_reducible first | exact HB.out | apply below_alloc | apply pw_below_drewN | apply below_drew1 | refine below_set ?_ GE808.out | refine below_set ?_ GE809.out | refine below_set ?_ GE810.out | refine below_set ?_ GE825.out | refine below_set ?_ GE831.out) | exact HB.out))); (case side4 => exact HC2_2.out); (case side5 => exact Kd.C_below HR2_4.out (by repeat (first | (with_reducible first | exact HB.out | apply below_alloc | apply pw_below_drewN | apply below_drew1 | refine below_set ?_ GE808.out | refine below_set ?_ GE809.out | refine below_set ?_ GE810.out | refine below_set ?_ GE825.out | refine below_set ?_ GE831.out) | exact HB.out))); (case side6 => exact HC2_4.out); rintro e w65 ⟨v834, rfl, ho0, hb⟩; refine ⟨_, rfl, ?_⟩; have n0_ := Aside0.mk (Kd.R_elder' (by (with_reducible repeat (first | apply Kd.R_alloc | apply Kd.R_drewN | apply Kd.R_drew)); exact (Kd.R_mono (Kd.R_far (p := ⟨gb831, 1, none⟩) (Kd.R_far (p := ⟨gb831, 0, none⟩) (Kd.R_types HO819.out BK831.out (by decide)) (fun _ hk => hk.2) (.string t826)) (fun _ hk => hk.2) (.slice Ao63 t827.length co63)) (fun _ h_ => h_.1))) (Kd.R_base ho0) hb); have n1_ := Aside0.mk (Kd.R_elder' (by (with_reducible repeat (first | apply Kd.R_alloc | apply Kd.R_drewN | apply Kd.R_drew)); exact (Kd.R_mono (Kd.R_far (p := ⟨gb831, 1, none⟩) (Kd.R_far (p := ⟨gb831, 0, none⟩) (Kd.R_types HO823.out BK831.out (by decide)) (fun _ hk => hk.2) (.string t826)) (fun _ hk => hk.2) (.slice Ao63 t827.length co63)) (fun _ h_ => h_.1))) (Kd.R_base ho0) hb); have n2_ := Aside0.mk (Kd.R_elder' (by (with_reducible repeat (first | apply Kd.R_alloc | apply Kd.R_drewN | apply Kd.R_drew)); exact (Kd.R_mono (Kd.R_far (p := ⟨gb831, 1, none⟩) (Kd.R_far (p := ⟨gb831, 0, none⟩) (Kd.R_types HO829.out BK831.out (by decide)) (fun _ hk => hk.2) (.string t826)) (fun _ hk => hk.2) (.slice Ao63 t827.length co63)) (fun _ h_ => h_.1))) (Kd.R_base ho0) hb); have n3_ := Aside0.mk (Kd.R_lower (Kd.R_new' (Kd.R_new' (Kd.R_new' ho0 (Kd.R_lt (by (with_reducible repeat (first | apply Kd.R_alloc | apply Kd.R_drewN | apply Kd.R_drew)); exact (Kd.R_mono (Kd.R_far (p := ⟨gb831, 1, none⟩) (Kd.R_far (p := ⟨gb831, 0, none⟩) (Kd.R_types HO819.out BK831.out (by decide)) (fun _ hk => hk.2) (.string t826)) (fun _ hk => hk.2) (.slice Ao63 t827.length co63)) (fun _ h_ => h_.1))))) (Kd.R_lt (by (with_reducible repeat (first | apply Kd.R_alloc | apply Kd.R_drewN | apply Kd.R_drew)); exact (Kd.R_mono (Kd.R_far (p := ⟨gb831, 1, none⟩) (Kd.R_far (p := ⟨gb831, 0, none⟩) (Kd.R_types HO823.out BK831.out (by decide)) (fun _ hk => hk.2) (.string t826)) (fun _ hk => hk.2) (.slice Ao63 t827.length co63)) (fun _ h_ => h_.1))))) (Kd.R_lt (by (with_reducible repeat (first | apply Kd.R_alloc | apply Kd.R_drewN | apply Kd.R_drew)); exact (Kd.R_mono (Kd.R_far (p := ⟨gb831, 1, none⟩) (Kd.R_far (p := ⟨gb831, 0, none⟩) (Kd.R_types HO829.out BK831.out (by decide)) (fun _ hk => hk.2) (.string t826)) (fun _ hk => hk.2) (.slice Ao63 t827.length co63)) (fun _ h_ => h_.1))))) (below_size (by repeat (first | (with_reducible first | exact HB.out | apply below_alloc | apply pw_below_drewN | apply below_drew1 | refine below_set ?_ GE808.out | refine below_set ?_ GE809.out | refine below_set ?_ GE810.out | refine below_set ?_ GE825.out | refine below_set ?_ GE831.out) | exact HB.out)))); have n4_ := Aside0.mk (blk_below (g := gb808) (o := .cells #[.string a0_0, .slice A0_1 l0_1.length c0_1] 51 (0, 0)) (by (with_reducible repeat (first | refine blk_drewN ?_ _ | refine blk_drew ?_ | refine blk_alloc ?_ _)); refine blk_far ?_ NB808_831.out _; (with_reducible repeat (first | refine blk_drewN ?_ _ | refine blk_drew ?_ | refine blk_alloc ?_ _)); refine blk_far ?_ NB808_831.out _; (with_reducible repeat (first | refine blk_drewN ?_ _ | refine blk_drew ?_ | refine blk_alloc ?_ _)); exact BK808.out) hb); have n5_ := Aside0.mk (blk_below (g := gb809) (o := .cells #[.int .i64 a1_0, .string a1_1, .slice A1_2 l1_2.length c1_2, .string a1_3, .slice A1_4 l1_4.length c1_4] 64 (0, 0)) (by (with_reducible repeat (first | refine blk_drewN ?_ _ | refine blk_drew ?_ | refine blk_alloc ?_ _)); refine blk_far ?_ NB809_831.out _; (with_reducible repeat (first | refine blk_drewN ?_ _ | refine blk_drew ?_ | refine blk_alloc ?_ _)); refine blk_far ?_ NB809_831.out _; (with_reducible repeat (first | refine blk_drewN ?_ _ | refine blk_drew ?_ | refine blk_alloc ?_ _)); exact BK809.out) hb); have n6_ := Aside0.mk (blk_below (g := gb810) (o := .cells #[.int .i64 a2_0, .string a2_1, .slice A2_2 l2_2.length c2_2, .string a2_3, .slice A2_4 l2_4.length c2_4] 64 (0, 0)) (by (with_reducible repeat (first | refine blk_drewN ?_ _ | refine blk_drew ?_ | refine blk_alloc ?_ _)); refine blk_far ?_ NB810_831.out _; (with_reducible repeat (first | refine blk_drewN ?_ _ | refine blk_drew ?_ | refine blk_alloc ?_ _)); refine blk_far ?_ NB810_831.out _; (with_reducible repeat (first | refine blk_drewN ?_ _ | refine blk_drew ?_ | refine blk_alloc ?_ _)); exact BK810.out) hb); have n7_ := Aside0.mk (blk_below (g := gb825) (o := .cells #[.int .i64 t815, .string t816, .slice Ao52 t817.length co52, .string t820, .slice Ao53 t821.length co53] 64 (0, 0)) (by (with_reducible repeat (first | refine blk_drewN ?_ _ | refine blk_drew ?_ | refine blk_alloc ?_ _)); refine blk_far ?_ NB825_831.out _; (with_reducible repeat (first | refine blk_drewN ?_ _ | refine blk_drew ?_ | refine blk_alloc ?_ _)); refine blk_far ?_ NB825_831.out _; (with_reducible repeat (first | refine blk_drewN ?_ _ | refine blk_drew ?_ | refine blk_alloc ?_ _)); exact BK825.out) hb); have n8_ := Aside0.mk (blk_below (g := gb831) (o := .cells #[.string t826, .slice Ao63 t827.length co63] 51 (0, 0)) (by (with_reducible repeat (first | refine blk_drewN ?_ _ | refine blk_drew ?_ | refine blk_alloc ?_ _)); refine blk_put (cs := #[.string t826, .slice none 0 0]) ?_ 1 _ rfl; (with_reducible repeat (first | refine blk_drewN ?_ _ | refine blk_drew ?_ | refine blk_alloc ?_ _)); refine blk_put (cs := #[.string (⟨#[]⟩ : ByteArray), .slice none 0 0]) ?_ 0 _ rfl; (with_reducible repeat (first | refine blk_drewN ?_ _ | refine blk_drew ?_ | refine blk_alloc ?_ _)); exact BK831.out) hb); have n9_ := Aside0.mk (below_step (by repeat (first | (with_reducible first | exact HB.out | apply below_alloc | apply pw_below_drewN | apply below_drew1 | refine below_set ?_ GE808.out | refine below_set ?_ GE809.out | refine below_set ?_ GE810.out | refine below_set ?_ GE825.out | refine below_set ?_ GE831.out) | exact HB.out)) hb); clear HO819; clear HO823; clear HO829; clear BK808; clear BK809; clear BK810; clear BK825; clear BK831; clear HB; have HO819 := n0_; have HO823 := n1_; have HO829 := n2_; have HO835 := n3_; have BK808 := n4_; have BK809 := n5_; have BK810 := n6_; have BK825 := n7_; have BK831 := n8_; have HB := n9_; clear n0_ n1_ n2_ n3_ n4_ n5_ n6_ n7_ n8_ n9_; (try clear hb); (try clear hb2); (try clear hk); (try clear hi); (try clear ho0)) | ((with_reducible refine gate_dst (N := 11) rfl ?_); refine box_event ?hg (N := 11) ?hd (cs := #[.string (⟨#[]⟩ : ByteArray), .slice none 0 0]) (t := 51) ?hr ?_; (case hd => rfl); (case hg => rfl); (case hr => first | (go_simp; done) | (go_simp; rfl)); intro gb837 hg w66 hbox hb; have n0_ := Aside0.mk (Kd.R_below (by (with_reducible repeat (first | apply Kd.R_alloc | apply Kd.R_drewN | apply Kd.R_drew)); exact HO819.out) hb); have n1_ := Aside0.mk (Kd.R_below (by (with_reducible repeat (first | apply Kd.R_alloc | apply Kd.R_drewN | apply Kd.R_drew)); exact HO823.out) hb); have n2_ := Aside0.mk (Kd.R_below (by (with_reducible repeat (first | apply Kd.R_alloc | apply Kd.R_drewN | apply Kd.R_drew)); exact HO829.out) hb); have n3_ := Aside0.mk (Kd.R_below (by (with_reducible repeat (first | apply Kd.R_alloc | apply Kd.R_drewN | apply Kd.R_drew)); exact HO835.out) hb); have n4_ := Aside0.mk (blk_below (g := gb808) (o := .cells #[.string a0_0, .slice A0_1 l0_1.length c0_1] 51 (0, 0)) (by (with_reducible repeat (first | refine blk_drewN ?_ _ | refine blk_drew ?_ | refine blk_alloc ?_ _)); exact BK808.out) hb); have n5_ := Aside0.mk (blk_below (g := gb809) (o := .cells #[.int .i64 a1_0, .string a1_1, .slice A1_2 l1_2.length c1_2, .string a1_3, .slice A1_4 l1_4.length c1_4] 64 (0, 0)) (by (with_reducible repeat (first | refine blk_drewN ?_ _ | refine blk_drew ?_ | refine blk_alloc ?_ _)); exact BK809.out) hb); have n6_ := Aside0.mk (blk_below (g := gb810) (o := .cells #[.int .i64 a2_0, .string a2_1, .slice A2_2 l2_2.length c2_2, .string a2_3, .slice A2_4 l2_4.length c2_4] 64 (0, 0)) (by (with_reducible repeat (first | refine blk_drewN ?_ _ | refine blk_drew ?_ | refine blk_alloc ?_ _)); exact BK810.out) hb); have n7_ := Aside0.mk (blk_below (g := gb825) (o := .cells #[.int .i64 t815, .string t816, .slice Ao52 t817.length co52, .string t820, .slice Ao53 t821.length co53] 64 (0, 0)) (by (with_reducible repeat (first | refine blk_drewN ?_ _ | refine blk_drew ?_ | refine blk_alloc ?_ _)); exact BK825.out) hb); have n8_ := Aside0.mk (blk_below (g := gb831) (o := .cells #[.string t826, .slice Ao63 t827.length co63] 51 (0, 0)) (by (with_reducible repeat (first | refine blk_drewN ?_ _ | refine blk_drew ?_ | refine blk_alloc ?_ _)); exact BK831.out) hb); have n9_ := Aside0.mk (below_step (by repeat (first | (with_reducible first | exact HB.out | apply below_alloc | apply pw_below_drewN | apply below_drew1 | refine below_set ?_ GE808.out | refine below_set ?_ GE809.out | refine below_set ?_ GE810.out | refine below_set ?_ GE825.out | refine below_set ?_ GE831.out) | exact HB.out)) hb); have n10_ := Aside0.mk (hbox); have n11_ := Aside0.mk ((by rw [hg]; exact (below_size (by repeat (first | (with_reducible first | exact HB.out | apply below_alloc | apply pw_below_drewN | apply below_drew1 | refine below_set ?_ GE808.out | refine below_set ?_ GE809.out | refine below_set ?_ GE810.out | refine below_set ?_ GE825.out | refine below_set ?_ GE831.out) | exact HB.out))) : w.heap.size ≤ gb837)); have n12_ := Aside0.mk ((by rw [hg]; exact (below_size (by repeat (first | (with_reducible first | exact HB.out | apply below_alloc | apply pw_below_drewN | apply below_drew1 | refine below_set ?_ GE808.out | refine below_set ?_ GE809.out | refine below_set ?_ GE810.out | refine below_set ?_ GE825.out | refine below_set ?_ GE831.out) | exact HB.out))) : w.heap.size ≤ gb837)); have n13_ := Aside0.mk ((by rw [hg]; exact Nat.ne_of_lt (blk_lt (g := gb808) (o := .cells #[.string a0_0, .slice A0_1 l0_1.length c0_1] 51 (0, 0)) (by (with_reducible repeat (first | refine blk_drewN ?_ _ | refine blk_drew ?_ | refine blk_alloc ?_ _)); exact BK808.out)) : gb808 ≠ gb837)); have n14_ := Aside0.mk ((by rw [hg]; exact Nat.ne_of_gt (blk_lt (g := gb808) (o := .cells #[.string a0_0, .slice A0_1 l0_1.length c0_1] 51 (0, 0)) (by (with_reducible repeat (first | refine blk_drewN ?_ _ | refine blk_drew ?_ | refine blk_alloc ?_ _)); exact BK808.out)) : gb837 ≠ gb808)); have n15_ := Aside0.mk ((by rw [hg]; exact Nat.ne_of_lt (blk_lt (g := gb809) (o := .cells #[.int .i64 a1_0, .string a1_1, .slice A1_2 l1_2.length c1_2, .string a1_3, .slice A1_4 l1_4.length c1_4] 64 (0, 0)) (by (with_reducible repeat (first | refine blk_drewN ?_ _ | refine blk_drew ?_ | refine blk_alloc ?_ _)); exact BK809.out)) : gb809 ≠ gb837)); have n16_ := Aside0.mk ((by rw [hg]; exact Nat.ne_of_gt (blk_lt (g := gb809) (o := .cells #[.int .i64 a1_0, .string a1_1, .slice A1_2 l1_2.length c1_2, .string a1_3, .slice A1_4 l1_4.length c1_4] 64 (0, 0)) (by (with_reducible repeat (first | refine blk_drewN ?_ _ | refine blk_drew ?_ | refine blk_alloc ?_ _)); exact BK809.out)) : gb837 ≠ gb809)); have n17_ := Aside0.mk ((by rw [hg]; exact Nat.ne_of_lt (blk_lt (g := gb810) (o := .cells #[.int .i64 a2_0, .string a2_1, .slice A2_2 l2_2.length c2_2, .string a2_3, .slice A2_4 l2_4.length c2_4] 64 (0, 0)) (by (with_reducible repeat (first | refine blk_drewN ?_ _ | refine blk_drew ?_ | refine blk_alloc ?_ _)); exact BK810.out)) : gb810 ≠ gb837)); have n18_ := Aside0.mk ((by rw [hg]; exact Nat.ne_of_gt (blk_lt (g := gb810) (o := .cells #[.int .i64 a2_0, .string a2_1, .slice A2_2 l2_2.length c2_2, .string a2_3, .slice A2_4 l2_4.length c2_4] 64 (0, 0)) (by (with_reducible repeat (first | refine blk_drewN ?_ _ | refine blk_drew ?_ | refine blk_alloc ?_ _)); exact BK810.out)) : gb837 ≠ gb810)); have n19_ := Aside0.mk ((by rw [hg]; exact Nat.ne_of_lt (blk_lt (g := gb825) (o := .cells #[.int .i64 t815, .string t816, .slice Ao52 t817.length co52, .string t820, .slice Ao53 t821.length co53] 64 (0, 0)) (by (with_reducible repeat (first | refine blk_drewN ?_ _ | refine blk_drew ?_ | refine blk_alloc ?_ _)); exact BK825.out)) : gb825 ≠ gb837)); have n20_ := Aside0.mk ((by rw [hg]; exact Nat.ne_of_gt (blk_lt (g := gb825) (o := .cells #[.int .i64 t815, .string t816, .slice Ao52 t817.length co52, .string t820, .slice Ao53 t821.length co53] 64 (0, 0)) (by (with_reducible repeat (first | refine blk_drewN ?_ _ | refine blk_drew ?_ | refine blk_alloc ?_ _)); exact BK825.out)) : gb837 ≠ gb825)); have n21_ := Aside0.mk ((by rw [hg]; exact Nat.ne_of_lt (blk_lt (g := gb831) (o := .cells #[.string t826, .slice Ao63 t827.length co63] 51 (0, 0)) (by (with_reducible repeat (first | refine blk_drewN ?_ _ | refine blk_drew ?_ | refine blk_alloc ?_ _)); exact BK831.out)) : gb831 ≠ gb837)); have n22_ := Aside0.mk ((by rw [hg]; exact Nat.ne_of_gt (blk_lt (g := gb831) (o := .cells #[.string t826, .slice Ao63 t827.length co63] 51 (0, 0)) (by (with_reducible repeat (first | refine blk_drewN ?_ _ | refine blk_drew ?_ | refine blk_alloc ?_ _)); exact BK831.out)) : gb837 ≠ gb831)); clear HO819; clear HO823; clear HO829; clear HO835; clear BK808; clear BK809; clear BK810; clear BK825; clear BK831; clear HB; have HO819 := n0_; have HO823 := n1_; have HO829 := n2_; have HO835 := n3_; have BK808 := n4_; have BK809 := n5_; have BK810 := n6_; have BK825 := n7_; have BK831 := n8_; have HB := n9_; have BK837 := n10_; have GW837 := n11_; have GE837 := n12_; have NB808_837 := n13_; have NB837_808 := n14_; have NB809_837 := n15_; have NB837_809 := n16_; have NB810_837 := n17_; have NB837_810 := n18_; have NB825_837 := n19_; have NB837_825 := n20_; have NB831_837 := n21_; have NB837_831 := n22_; clear n0_ n1_ n2_ n3_ n4_ n5_ n6_ n7_ n8_ n9_ n10_ n11_ n12_ n13_ n14_ n15_ n16_ n17_ n18_ n19_ n20_ n21_ n22_; clear hb hbox hg; have hnb67 := NB837_808.out; have hnc67 := NB808_837.out; have hnb68 := NB837_809.out; have hnc68 := NB809_837.out; have hnb69 := NB837_810.out; have hnc69 := NB810_837.out; have hnb70 := NB837_825.out; have hnc70 := NB825_837.out; have hnb71 := NB837_831.out; have hnc71 := NB831_837.out; have hcz72_0 : w66.cell? ⟨gb837, 0, none⟩ = some (.string (⟨#[]⟩ : ByteArray)) := (blk_cell BK837.out 0).trans rfl; have hcz72_1 : w66.cell? ⟨gb837, 1, none⟩ = some (.slice none 0 0) := (blk_cell BK837.out 1).trans rfl; have hfz72_0 := blk_frozen BK837.out 0; have hfz72_1 := blk_frozen BK837.out 1; obtain ⟨Ao73, co73, eo73⟩ := Kd.R_slice HO835.out; subst eo73))
          (try simp only [Act.put, List.setIfInBounds_toArray, List.set_cons_zero, List.set_cons_succ])
          go_cut [57] (fun v57 wc => ∃ (kq : Nat) (x57_39 : Bool), v57 = .bool x57_39 ∧ Aside0 (bureaulaw07_EditOnce.j1 kq x57_39 a0_0 l0_1 t815 t816 t817 t820 t821 t832 t833 = some r) ∧ Aside0 (kq ≤ kj5) ∧ Aside0 (Kd.R k100 100 wc w.heap.size (fun k_ => some k_ ≠ ((.slice Ao53 t821.length co53) : Value).ownBlock ∧ some k_ ≠ ((.slice Ao63 t827.length co63) : Value).ownBlock ∧ some k_ ≠ ((.slice Ao73 t833.length co73) : Value).ownBlock) (.slice Ao52 t817.length co52) t817) ∧ Aside0 (Kd.R k100 100 wc w.heap.size (fun k_ => some k_ ≠ ((.slice Ao52 t817.length co52) : Value).ownBlock ∧ some k_ ≠ ((.slice Ao63 t827.length co63) : Value).ownBlock ∧ some k_ ≠ ((.slice Ao73 t833.length co73) : Value).ownBlock) (.slice Ao53 t821.length co53) t821) ∧ Aside0 (Kd.R k100 100 wc w.heap.size (fun k_ => some k_ ≠ ((.slice Ao52 t817.length co52) : Value).ownBlock ∧ some k_ ≠ ((.slice Ao53 t821.length co53) : Value).ownBlock ∧ some k_ ≠ ((.slice Ao73 t833.length co73) : Value).ownBlock) (.slice Ao63 t827.length co63) t827) ∧ Aside0 (Kd.R k100 100 wc w.heap.size (fun k_ => some k_ ≠ ((.slice Ao52 t817.length co52) : Value).ownBlock ∧ some k_ ≠ ((.slice Ao53 t821.length co53) : Value).ownBlock ∧ some k_ ≠ ((.slice Ao63 t827.length co63) : Value).ownBlock) (.slice Ao73 t833.length co73) t833) ∧ Aside0 (wc.heap[gb808]? = some (.cells #[.string a0_0, (.slice A0_1 l0_1.length c0_1)] 51 (0, 0))) ∧ Aside0 (wc.heap[gb809]? = some (.cells #[.int .i64 a1_0, .string a1_1, (.slice A1_2 l1_2.length c1_2), .string a1_3, (.slice A1_4 l1_4.length c1_4)] 64 (0, 0))) ∧ Aside0 (wc.heap[gb810]? = some (.cells #[.int .i64 a2_0, .string a2_1, (.slice A2_2 l2_2.length c2_2), .string a2_3, (.slice A2_4 l2_4.length c2_4)] 64 (0, 0))) ∧ Aside0 (wc.heap[gb825]? = some (.cells #[.int .i64 t815, .string t816, (.slice Ao52 t817.length co52), .string t820, (.slice Ao53 t821.length co53)] 64 (0, 0))) ∧ Aside0 (wc.heap[gb831]? = some (.cells #[.string t826, (.slice Ao63 t827.length co63)] 51 (0, 0))) ∧ Aside0 (wc.heap[gb837]? = some (.cells #[.string t832, (.slice Ao73 t833.length co73)] 51 (0, 0))) ∧ Aside0 (Below w.heap.size w wc))
          case first =>
            have H := HC40.out
            clear HC40
            by_cases c74 : t824 = true
            · subst c74
              have H1 : (if t830 = 0 then (bureaulaw07_EditOnce.j1 kj5 (t836 != 0) a0_0 l0_1 t815 t816 t817 t820 t821 t832 t833) else (bureaulaw07_EditOnce.j1 kj5 true a0_0 l0_1 t815 t816 t817 t820 t821 t832 t833)) = some r := by rw [if_pos rfl] at H; exact H
              clear H
              have H := H1
              clear H1
              by_cases c75 : t830 = 0
              · rw [if_pos c75] at H
                have c75b0 : (t830 == 0) = true := beq_iff_eq.mpr c75
                have c75b1 : (t830 != 0) = false := bne_eq_false_iff_eq.mpr c75
                clear c75
                (first | rw [c75b0] | (simp only [i64_w, i32_w]; rw [c75b0]) | skip)
                have H' := Aside0.mk H
                clear H
                go_wp2
                go_meet
                case rel => exact ⟨_, ((t836 != 0)), (by first | rfl | (simp; done) | (simp [*]; done)), H', ⟨by have := HJ5.out; first | omega | exact Nat.le_refl _⟩, ⟨by (with_reducible repeat (first | apply Kd.R_alloc | apply Kd.R_drewN | apply Kd.R_drew)); exact Kd.R_mono (Kd.R_far (p := ⟨gb837, 1, none⟩) (Kd.R_far (p := ⟨gb837, 0, none⟩) (Kd.R_types HO819.out BK837.out (by decide)) (fun _ hk => hk.2) (.string t832)) (fun _ hk => hk.2) (.slice Ao73 t833.length co73)) (fun _ hk => ⟨hk.1.1.1, ⟨hk.1.1.2, hk.1.2⟩⟩)⟩, ⟨by (with_reducible repeat (first | apply Kd.R_alloc | apply Kd.R_drewN | apply Kd.R_drew)); exact Kd.R_mono (Kd.R_far (p := ⟨gb837, 1, none⟩) (Kd.R_far (p := ⟨gb837, 0, none⟩) (Kd.R_types HO823.out BK837.out (by decide)) (fun _ hk => hk.2) (.string t832)) (fun _ hk => hk.2) (.slice Ao73 t833.length co73)) (fun _ hk => ⟨hk.1.1.1, ⟨hk.1.1.2, hk.1.2⟩⟩)⟩, ⟨by (with_reducible repeat (first | apply Kd.R_alloc | apply Kd.R_drewN | apply Kd.R_drew)); exact Kd.R_mono (Kd.R_far (p := ⟨gb837, 1, none⟩) (Kd.R_far (p := ⟨gb837, 0, none⟩) (Kd.R_types HO829.out BK837.out (by decide)) (fun _ hk => hk.2) (.string t832)) (fun _ hk => hk.2) (.slice Ao73 t833.length co73)) (fun _ hk => ⟨hk.1.1.1.2, ⟨hk.1.1.2, hk.1.2⟩⟩)⟩, ⟨by (with_reducible repeat (first | apply Kd.R_alloc | apply Kd.R_drewN | apply Kd.R_drew)); exact Kd.R_mono (Kd.R_far (p := ⟨gb837, 1, none⟩) (Kd.R_far (p := ⟨gb837, 0, none⟩) (Kd.R_types HO835.out BK837.out (by decide)) (fun _ hk => hk.2) (.string t832)) (fun _ hk => hk.2) (.slice Ao73 t833.length co73)) (fun _ hk => ⟨hk.1.1.1.2, ⟨hk.1.1.2, hk.1.2⟩⟩)⟩, ⟨by (with_reducible repeat (first | refine blk_drewN ?_ _ | refine blk_drew ?_ | refine blk_alloc ?_ _)); refine blk_far ?_ NB808_837.out _; (with_reducible repeat (first | refine blk_drewN ?_ _ | refine blk_drew ?_ | refine blk_alloc ?_ _)); refine blk_far ?_ NB808_837.out _; (with_reducible repeat (first | refine blk_drewN ?_ _ | refine blk_drew ?_ | refine blk_alloc ?_ _)); exact BK808.out⟩, ⟨by (with_reducible repeat (first | refine blk_drewN ?_ _ | refine blk_drew ?_ | refine blk_alloc ?_ _)); refine blk_far ?_ NB809_837.out _; (with_reducible repeat (first | refine blk_drewN ?_ _ | refine blk_drew ?_ | refine blk_alloc ?_ _)); refine blk_far ?_ NB809_837.out _; (with_reducible repeat (first | refine blk_drewN ?_ _ | refine blk_drew ?_ | refine blk_alloc ?_ _)); exact BK809.out⟩, ⟨by (with_reducible repeat (first | refine blk_drewN ?_ _ | refine blk_drew ?_ | refine blk_alloc ?_ _)); refine blk_far ?_ NB810_837.out _; (with_reducible repeat (first | refine blk_drewN ?_ _ | refine blk_drew ?_ | refine blk_alloc ?_ _)); refine blk_far ?_ NB810_837.out _; (with_reducible repeat (first | refine blk_drewN ?_ _ | refine blk_drew ?_ | refine blk_alloc ?_ _)); exact BK810.out⟩, ⟨by (with_reducible repeat (first | refine blk_drewN ?_ _ | refine blk_drew ?_ | refine blk_alloc ?_ _)); refine blk_far ?_ NB825_837.out _; (with_reducible repeat (first | refine blk_drewN ?_ _ | refine blk_drew ?_ | refine blk_alloc ?_ _)); refine blk_far ?_ NB825_837.out _; (with_reducible repeat (first | refine blk_drewN ?_ _ | refine blk_drew ?_ | refine blk_alloc ?_ _)); exact BK825.out⟩, ⟨by (with_reducible repeat (first | refine blk_drewN ?_ _ | refine blk_drew ?_ | refine blk_alloc ?_ _)); refine blk_far ?_ NB831_837.out _; (with_reducible repeat (first | refine blk_drewN ?_ _ | refine blk_drew ?_ | refine blk_alloc ?_ _)); refine blk_far ?_ NB831_837.out _; (with_reducible repeat (first | refine blk_drewN ?_ _ | refine blk_drew ?_ | refine blk_alloc ?_ _)); exact BK831.out⟩, ⟨by (with_reducible repeat (first | refine blk_drewN ?_ _ | refine blk_drew ?_ | refine blk_alloc ?_ _)); refine blk_put (cs := #[.string t832, .slice none 0 0]) ?_ 1 _ rfl; (with_reducible repeat (first | refine blk_drewN ?_ _ | refine blk_drew ?_ | refine blk_alloc ?_ _)); refine blk_put (cs := #[.string (⟨#[]⟩ : ByteArray), .slice none 0 0]) ?_ 0 _ rfl; (with_reducible repeat (first | refine blk_drewN ?_ _ | refine blk_drew ?_ | refine blk_alloc ?_ _)); exact BK837.out⟩, ⟨by repeat (first | (with_reducible first | exact HB.out | apply below_alloc | apply pw_below_drewN | apply below_drew1 | refine below_set ?_ GE808.out | refine below_set ?_ GE809.out | refine below_set ?_ GE810.out | refine below_set ?_ GE825.out | refine below_set ?_ GE831.out | refine below_set ?_ GE837.out) | exact HB.out)⟩⟩
              · rw [if_neg c75] at H
                have c75b0 : (t830 == 0) = false := beq_eq_false_iff_ne.mpr c75
                have c75b1 : (t830 != 0) = true := bne_iff_ne.mpr c75
                (first | rw [c75b0] | (simp only [i64_w, i32_w]; rw [c75b0]) | skip)
                have H' := Aside0.mk H
                clear H
                go_wp2
                go_meet
                case rel => exact ⟨_, (true), (by first | rfl | (simp; done) | (simp [*]; done)), H', ⟨by have := HJ5.out; first | omega | exact Nat.le_refl _⟩, ⟨by (with_reducible repeat (first | apply Kd.R_alloc | apply Kd.R_drewN | apply Kd.R_drew)); exact Kd.R_mono (Kd.R_far (p := ⟨gb837, 1, none⟩) (Kd.R_far (p := ⟨gb837, 0, none⟩) (Kd.R_types HO819.out BK837.out (by decide)) (fun _ hk => hk.2) (.string t832)) (fun _ hk => hk.2) (.slice Ao73 t833.length co73)) (fun _ hk => ⟨hk.1.1.1, ⟨hk.1.1.2, hk.1.2⟩⟩)⟩, ⟨by (with_reducible repeat (first | apply Kd.R_alloc | apply Kd.R_drewN | apply Kd.R_drew)); exact Kd.R_mono (Kd.R_far (p := ⟨gb837, 1, none⟩) (Kd.R_far (p := ⟨gb837, 0, none⟩) (Kd.R_types HO823.out BK837.out (by decide)) (fun _ hk => hk.2) (.string t832)) (fun _ hk => hk.2) (.slice Ao73 t833.length co73)) (fun _ hk => ⟨hk.1.1.1, ⟨hk.1.1.2, hk.1.2⟩⟩)⟩, ⟨by (with_reducible repeat (first | apply Kd.R_alloc | apply Kd.R_drewN | apply Kd.R_drew)); exact Kd.R_mono (Kd.R_far (p := ⟨gb837, 1, none⟩) (Kd.R_far (p := ⟨gb837, 0, none⟩) (Kd.R_types HO829.out BK837.out (by decide)) (fun _ hk => hk.2) (.string t832)) (fun _ hk => hk.2) (.slice Ao73 t833.length co73)) (fun _ hk => ⟨hk.1.1.1.2, ⟨hk.1.1.2, hk.1.2⟩⟩)⟩, ⟨by (with_reducible repeat (first | apply Kd.R_alloc | apply Kd.R_drewN | apply Kd.R_drew)); exact Kd.R_mono (Kd.R_far (p := ⟨gb837, 1, none⟩) (Kd.R_far (p := ⟨gb837, 0, none⟩) (Kd.R_types HO835.out BK837.out (by decide)) (fun _ hk => hk.2) (.string t832)) (fun _ hk => hk.2) (.slice Ao73 t833.length co73)) (fun _ hk => ⟨hk.1.1.1.2, ⟨hk.1.1.2, hk.1.2⟩⟩)⟩, ⟨by (with_reducible repeat (first | refine blk_drewN ?_ _ | refine blk_drew ?_ | refine blk_alloc ?_ _)); refine blk_far ?_ NB808_837.out _; (with_reducible repeat (first | refine blk_drewN ?_ _ | refine blk_drew ?_ | refine blk_alloc ?_ _)); refine blk_far ?_ NB808_837.out _; (with_reducible repeat (first | refine blk_drewN ?_ _ | refine blk_drew ?_ | refine blk_alloc ?_ _)); exact BK808.out⟩, ⟨by (with_reducible repeat (first | refine blk_drewN ?_ _ | refine blk_drew ?_ | refine blk_alloc ?_ _)); refine blk_far ?_ NB809_837.out _; (with_reducible repeat (first | refine blk_drewN ?_ _ | refine blk_drew ?_ | refine blk_alloc ?_ _)); refine blk_far ?_ NB809_837.out _; (with_reducible repeat (first | refine blk_drewN ?_ _ | refine blk_drew ?_ | refine blk_alloc ?_ _)); exact BK809.out⟩, ⟨by (with_reducible repeat (first | refine blk_drewN ?_ _ | refine blk_drew ?_ | refine blk_alloc ?_ _)); refine blk_far ?_ NB810_837.out _; (with_reducible repeat (first | refine blk_drewN ?_ _ | refine blk_drew ?_ | refine blk_alloc ?_ _)); refine blk_far ?_ NB810_837.out _; (with_reducible repeat (first | refine blk_drewN ?_ _ | refine blk_drew ?_ | refine blk_alloc ?_ _)); exact BK810.out⟩, ⟨by (with_reducible repeat (first | refine blk_drewN ?_ _ | refine blk_drew ?_ | refine blk_alloc ?_ _)); refine blk_far ?_ NB825_837.out _; (with_reducible repeat (first | refine blk_drewN ?_ _ | refine blk_drew ?_ | refine blk_alloc ?_ _)); refine blk_far ?_ NB825_837.out _; (with_reducible repeat (first | refine blk_drewN ?_ _ | refine blk_drew ?_ | refine blk_alloc ?_ _)); exact BK825.out⟩, ⟨by (with_reducible repeat (first | refine blk_drewN ?_ _ | refine blk_drew ?_ | refine blk_alloc ?_ _)); refine blk_far ?_ NB831_837.out _; (with_reducible repeat (first | refine blk_drewN ?_ _ | refine blk_drew ?_ | refine blk_alloc ?_ _)); refine blk_far ?_ NB831_837.out _; (with_reducible repeat (first | refine blk_drewN ?_ _ | refine blk_drew ?_ | refine blk_alloc ?_ _)); exact BK831.out⟩, ⟨by (with_reducible repeat (first | refine blk_drewN ?_ _ | refine blk_drew ?_ | refine blk_alloc ?_ _)); refine blk_put (cs := #[.string t832, .slice none 0 0]) ?_ 1 _ rfl; (with_reducible repeat (first | refine blk_drewN ?_ _ | refine blk_drew ?_ | refine blk_alloc ?_ _)); refine blk_put (cs := #[.string (⟨#[]⟩ : ByteArray), .slice none 0 0]) ?_ 0 _ rfl; (with_reducible repeat (first | refine blk_drewN ?_ _ | refine blk_drew ?_ | refine blk_alloc ?_ _)); exact BK837.out⟩, ⟨by repeat (first | (with_reducible first | exact HB.out | apply below_alloc | apply pw_below_drewN | apply below_drew1 | refine below_set ?_ GE808.out | refine below_set ?_ GE809.out | refine below_set ?_ GE810.out | refine below_set ?_ GE825.out | refine below_set ?_ GE831.out | refine below_set ?_ GE837.out) | exact HB.out)⟩⟩
            · replace c74 := Bool.eq_false_iff.mpr c74
              subst c74
              have H1 : (bureaulaw07_EditOnce.j1 kj5 true a0_0 l0_1 t815 t816 t817 t820 t821 t832 t833) = some r := by rw [if_neg (show ¬ (false = true) by decide)] at H; exact H
              clear H
              have H := H1
              clear H1
              have H' := Aside0.mk H
              clear H
              go_wp2
              go_meet
              case rel => exact ⟨_, (true), (by first | rfl | (simp; done) | (simp [*]; done)), H', ⟨by have := HJ5.out; first | omega | exact Nat.le_refl _⟩, ⟨by (with_reducible repeat (first | apply Kd.R_alloc | apply Kd.R_drewN | apply Kd.R_drew)); exact Kd.R_mono (Kd.R_far (p := ⟨gb837, 1, none⟩) (Kd.R_far (p := ⟨gb837, 0, none⟩) (Kd.R_types HO819.out BK837.out (by decide)) (fun _ hk => hk.2) (.string t832)) (fun _ hk => hk.2) (.slice Ao73 t833.length co73)) (fun _ hk => ⟨hk.1.1.1, ⟨hk.1.1.2, hk.1.2⟩⟩)⟩, ⟨by (with_reducible repeat (first | apply Kd.R_alloc | apply Kd.R_drewN | apply Kd.R_drew)); exact Kd.R_mono (Kd.R_far (p := ⟨gb837, 1, none⟩) (Kd.R_far (p := ⟨gb837, 0, none⟩) (Kd.R_types HO823.out BK837.out (by decide)) (fun _ hk => hk.2) (.string t832)) (fun _ hk => hk.2) (.slice Ao73 t833.length co73)) (fun _ hk => ⟨hk.1.1.1, ⟨hk.1.1.2, hk.1.2⟩⟩)⟩, ⟨by (with_reducible repeat (first | apply Kd.R_alloc | apply Kd.R_drewN | apply Kd.R_drew)); exact Kd.R_mono (Kd.R_far (p := ⟨gb837, 1, none⟩) (Kd.R_far (p := ⟨gb837, 0, none⟩) (Kd.R_types HO829.out BK837.out (by decide)) (fun _ hk => hk.2) (.string t832)) (fun _ hk => hk.2) (.slice Ao73 t833.length co73)) (fun _ hk => ⟨hk.1.1.1.2, ⟨hk.1.1.2, hk.1.2⟩⟩)⟩, ⟨by (with_reducible repeat (first | apply Kd.R_alloc | apply Kd.R_drewN | apply Kd.R_drew)); exact Kd.R_mono (Kd.R_far (p := ⟨gb837, 1, none⟩) (Kd.R_far (p := ⟨gb837, 0, none⟩) (Kd.R_types HO835.out BK837.out (by decide)) (fun _ hk => hk.2) (.string t832)) (fun _ hk => hk.2) (.slice Ao73 t833.length co73)) (fun _ hk => ⟨hk.1.1.1.2, ⟨hk.1.1.2, hk.1.2⟩⟩)⟩, ⟨by (with_reducible repeat (first | refine blk_drewN ?_ _ | refine blk_drew ?_ | refine blk_alloc ?_ _)); refine blk_far ?_ NB808_837.out _; (with_reducible repeat (first | refine blk_drewN ?_ _ | refine blk_drew ?_ | refine blk_alloc ?_ _)); refine blk_far ?_ NB808_837.out _; (with_reducible repeat (first | refine blk_drewN ?_ _ | refine blk_drew ?_ | refine blk_alloc ?_ _)); exact BK808.out⟩, ⟨by (with_reducible repeat (first | refine blk_drewN ?_ _ | refine blk_drew ?_ | refine blk_alloc ?_ _)); refine blk_far ?_ NB809_837.out _; (with_reducible repeat (first | refine blk_drewN ?_ _ | refine blk_drew ?_ | refine blk_alloc ?_ _)); refine blk_far ?_ NB809_837.out _; (with_reducible repeat (first | refine blk_drewN ?_ _ | refine blk_drew ?_ | refine blk_alloc ?_ _)); exact BK809.out⟩, ⟨by (with_reducible repeat (first | refine blk_drewN ?_ _ | refine blk_drew ?_ | refine blk_alloc ?_ _)); refine blk_far ?_ NB810_837.out _; (with_reducible repeat (first | refine blk_drewN ?_ _ | refine blk_drew ?_ | refine blk_alloc ?_ _)); refine blk_far ?_ NB810_837.out _; (with_reducible repeat (first | refine blk_drewN ?_ _ | refine blk_drew ?_ | refine blk_alloc ?_ _)); exact BK810.out⟩, ⟨by (with_reducible repeat (first | refine blk_drewN ?_ _ | refine blk_drew ?_ | refine blk_alloc ?_ _)); refine blk_far ?_ NB825_837.out _; (with_reducible repeat (first | refine blk_drewN ?_ _ | refine blk_drew ?_ | refine blk_alloc ?_ _)); refine blk_far ?_ NB825_837.out _; (with_reducible repeat (first | refine blk_drewN ?_ _ | refine blk_drew ?_ | refine blk_alloc ?_ _)); exact BK825.out⟩, ⟨by (with_reducible repeat (first | refine blk_drewN ?_ _ | refine blk_drew ?_ | refine blk_alloc ?_ _)); refine blk_far ?_ NB831_837.out _; (with_reducible repeat (first | refine blk_drewN ?_ _ | refine blk_drew ?_ | refine blk_alloc ?_ _)); refine blk_far ?_ NB831_837.out _; (with_reducible repeat (first | refine blk_drewN ?_ _ | refine blk_drew ?_ | refine blk_alloc ?_ _)); exact BK831.out⟩, ⟨by (with_reducible repeat (first | refine blk_drewN ?_ _ | refine blk_drew ?_ | refine blk_alloc ?_ _)); refine blk_put (cs := #[.string t832, .slice none 0 0]) ?_ 1 _ rfl; (with_reducible repeat (first | refine blk_drewN ?_ _ | refine blk_drew ?_ | refine blk_alloc ?_ _)); refine blk_put (cs := #[.string (⟨#[]⟩ : ByteArray), .slice none 0 0]) ?_ 0 _ rfl; (with_reducible repeat (first | refine blk_drewN ?_ _ | refine blk_drew ?_ | refine blk_alloc ?_ _)); exact BK837.out⟩, ⟨by repeat (first | (with_reducible first | exact HB.out | apply below_alloc | apply pw_below_drewN | apply below_drew1 | refine below_set ?_ GE808.out | refine below_set ?_ GE809.out | refine below_set ?_ GE810.out | refine below_set ?_ GE825.out | refine below_set ?_ GE831.out | refine below_set ?_ GE837.out) | exact HB.out)⟩⟩
          case rest =>
            clear HC40
            try clear c1
            try clear c2
            try clear p2
            try clear c3
            try clear c4
            try clear c5
            try clear c6
            try clear c7
            try clear c12
            try clear c14
            try clear c16
            try clear c17
            try clear c19
            try clear c20
            try clear c25
            try clear c26
            try clear c29
            try clear c32
            try clear c33
            try clear c36
            try clear c41
            try clear c42
            try clear c44
            try clear c45
            try clear c48
            try clear c49
            try clear c50
            try clear c55
            try clear c58
            try clear c59
            try clear c60
            try clear c61
            try clear c65
            try clear c67
            try clear c68
            try clear c69
            try clear c70
            try clear c71
            try clear c72
            try clear c74
            try clear c75
            try clear c75b0
            try clear c75b1
            try clear hcz18_0
            try clear hcz18_1
            try clear hcz21_0
            try clear hcz21_1
            try clear hcz21_2
            try clear hcz21_3
            try clear hcz21_4
            try clear hcz23_0
            try clear hcz23_1
            try clear hcz23_2
            try clear hcz23_3
            try clear hcz23_4
            try clear hcz27_0
            try clear hcz27_1
            try clear hcz30_0
            try clear hcz30_1
            try clear hcz30_2
            try clear hcz30_3
            try clear hcz30_4
            try clear hcz34_0
            try clear hcz34_1
            try clear hcz43_0
            try clear hcz43_1
            try clear hcz43_2
            try clear hcz43_3
            try clear hcz43_4
            try clear hcz45_0
            try clear hcz45_1
            try clear hcz45_2
            try clear hcz45_3
            try clear hcz45_4
            try clear hcz51_0
            try clear hcz51_1
            try clear hcz51_2
            try clear hcz51_3
            try clear hcz51_4
            try clear hcz54_0
            try clear hcz54_1
            try clear hcz55_0
            try clear hcz55_1
            try clear hcz55_2
            try clear hcz55_3
            try clear hcz55_4
            try clear hcz62_0
            try clear hcz62_1
            try clear hcz64_0
            try clear hcz64_1
            try clear hcz64_2
            try clear hcz64_3
            try clear hcz64_4
            try clear hcz72_0
            try clear hcz72_1
            try clear hfz18_0
            try clear hfz18_1
            try clear hfz21_0
            try clear hfz21_1
            try clear hfz21_2
            try clear hfz21_3
            try clear hfz21_4
            try clear hfz23_0
            try clear hfz23_1
            try clear hfz23_2
            try clear hfz23_3
            try clear hfz23_4
            try clear hfz27_0
            try clear hfz27_1
            try clear hfz30_0
            try clear hfz30_1
            try clear hfz30_2
            try clear hfz30_3
            try clear hfz30_4
            try clear hfz34_0
            try clear hfz34_1
            try clear hfz43_0
            try clear hfz43_1
            try clear hfz43_2
            try clear hfz43_3
            try clear hfz43_4
            try clear hfz45_0
            try clear hfz45_1
            try clear hfz45_2
            try clear hfz45_3
            try clear hfz45_4
            try clear hfz51_0
            try clear hfz51_1
            try clear hfz51_2
            try clear hfz51_3
            try clear hfz51_4
            try clear hfz54_0
            try clear hfz54_1
            try clear hfz55_0
            try clear hfz55_1
            try clear hfz55_2
            try clear hfz55_3
            try clear hfz55_4
            try clear hfz62_0
            try clear hfz62_1
            try clear hfz64_0
            try clear hfz64_1
            try clear hfz64_2
            try clear hfz64_3
            try clear hfz64_4
            try clear hfz72_0
            try clear hfz72_1
            try clear p2
            obtain ⟨kq, x57_39, rfl, HA, HJ39, HO_826002, HO_826004, HO_832001, HO_838001, BK808, BK809, BK810, BK825, BK831, BK837, HB⟩ := hcut
            cases kq with
            | zero => exact absurd HA.out (by simp [bureaulaw07_EditOnce.j1])
            | succ kj39 =>
              have H := HA.out
              clear HA
              simp only [bureaulaw07_EditOnce.j1] at H
              by_cases c76 : x57_39 = true
              · subst c76
                have H1 : (some true) = some r := by rw [if_pos rfl] at H; exact H
                clear H
                have H := H1
                clear H1
                obtain rfl := Option.some.inj H
                go_wp2
                go_ret
                exact ⟨by first | rfl | (simp [errW_none, errW_some] <;> rfl) | (simp [*, errW_none, errW_some] <;> rfl), by repeat (first | (with_reducible first | exact HB.out | apply below_alloc | apply pw_below_drewN | apply below_drew1 | refine below_set ?_ GE808.out | refine below_set ?_ GE809.out | refine below_set ?_ GE810.out | refine below_set ?_ GE825.out | refine below_set ?_ GE831.out | refine below_set ?_ GE837.out) | exact HB.out)⟩
              · replace c76 := Bool.eq_false_iff.mpr c76
                subst c76
                have H1 : ((edit_Apply.f kj39 a0_0 l0_1 t815 t816 t817 t820 t821).bind fun bt838 => (if bt838.2.2 = 0 then ((bureauref04_Same.f kj39 t832 t833 bt838.1 bt838.2.1).bind fun t844 => (some t844)) else (some false))) = some r := by rw [if_neg (show ¬ (false = true) by decide)] at H; exact H
                clear H
                have H := H1
                clear H1
                replace H := Option.bind_eq_some_iff.mp H
                obtain ⟨⟨t838, t839, t842⟩, A770, H⟩ := H
                replace H : (if t842 = 0 then ((bureauref04_Same.f kj39 t832 t833 t838 t839).bind fun t844 => (some t844)) else (some false)) = some r := H
                have A77 := Aside0.mk A770
                clear A770
                by_cases c78 : t842 = 0
                · rw [if_pos c78] at H
                  have c78b0 : (t842 == 0) = true := beq_iff_eq.mpr c78
                  have c78b1 : (t842 != 0) = false := bne_eq_false_iff_eq.mpr c78
                  clear c78
                  replace H := Option.bind_eq_some_iff.mp H
                  obtain ⟨t844, A790, H⟩ := H
                  replace H : (some t844) = some r := H
                  have A79 := Aside0.mk A790
                  clear A790
                  obtain rfl := Option.some.inj H
                  have hnb80 := NB808_809.out
                  have hnc80 := NB809_808.out
                  have hnb81 := NB808_810.out
                  have hnc81 := NB810_808.out
                  have hnb82 := NB808_825.out
                  have hnc82 := NB825_808.out
                  have hnb83 := NB808_831.out
                  have hnc83 := NB831_808.out
                  have hnb84 := NB808_837.out
                  have hnc84 := NB837_808.out
                  have hcz85_0 : wc.cell? ⟨gb808, 0, none⟩ = some (.string a0_0) := (blk_cell BK808.out 0).trans rfl
                  have hcz85_1 : wc.cell? ⟨gb808, 1, none⟩ = some (.slice A0_1 l0_1.length c0_1) := (blk_cell BK808.out 1).trans rfl
                  have hfz85_0 := blk_frozen BK808.out 0
                  have hfz85_1 := blk_frozen BK808.out 1
                  have hnb86 := NB825_809.out
                  have hnc86 := NB809_825.out
                  have hnb87 := NB825_810.out
                  have hnc87 := NB810_825.out
                  have hnb88 := NB825_831.out
                  have hnc88 := NB831_825.out
                  have hnb89 := NB825_837.out
                  have hnc89 := NB837_825.out
                  have hcz90_0 : wc.cell? ⟨gb825, 0, none⟩ = some (.int .i64 t815) := (blk_cell BK825.out 0).trans rfl
                  have hcz90_1 : wc.cell? ⟨gb825, 1, none⟩ = some (.string t816) := (blk_cell BK825.out 1).trans rfl
                  have hcz90_2 : wc.cell? ⟨gb825, 2, none⟩ = some (.slice Ao52 t817.length co52) := (blk_cell BK825.out 2).trans rfl
                  have hcz90_3 : wc.cell? ⟨gb825, 3, none⟩ = some (.string t820) := (blk_cell BK825.out 3).trans rfl
                  have hcz90_4 : wc.cell? ⟨gb825, 4, none⟩ = some (.slice Ao53 t821.length co53) := (blk_cell BK825.out 4).trans rfl
                  have hfz90_0 := blk_frozen BK825.out 0
                  have hfz90_1 := blk_frozen BK825.out 1
                  have hfz90_2 := blk_frozen BK825.out 2
                  have hfz90_3 := blk_frozen BK825.out 3
                  have hfz90_4 := blk_frozen BK825.out 4
                  go_wp2_with (first | ((with_reducible refine gate_callee (f := 65) rfl ?_); refine goesL_ (some 61) rfl rfl Try.func65 (by kernel_rfl) rfl #[.agg #[.string a0_0, .slice A0_1 l0_1.length c0_1], .agg #[.int .i64 t815, .string t816, .slice Ao52 t817.length co52, .string t820, .slice Ao53 t821.length co53]] rfl (by (try simp only [List.map_toArray, List.map_cons, List.map_nil]); first | done | rfl | (simp only [List.length_drop, List.length_take]; rfl)) ?_; (with_reducible refine (edit_Apply.calls kj39 a0_0 _ _ l0_1 t815 t816 _ _ t817 t820 _ _ t821 t838 t839 t842 _ ?side1 ?side2 ?side3 ?side4 ?side5 ?side6 A77.out).mono ?_); (case side1 => repeat (first | exact (Kd.C_below HR0_1.out HB.out) | (with_reducible refine Kd.C_alloc ?_ _) | (with_reducible refine Kd.C_drewN ?_ _) | (with_reducible refine Kd.C_drew ?_))); (case side2 => exact HC0_1.out); (case side3 => repeat (first | exact (Kd.R_reads' HO_826002.out).2.2 | (with_reducible refine Kd.C_alloc ?_ _) | (with_reducible refine Kd.C_drewN ?_ _) | (with_reducible refine Kd.C_drew ?_))); (case side4 => exact (Kd.R_reads' HO_826002.out).2.1); (case side5 => repeat (first | exact (Kd.R_reads' HO_826004.out).2.2 | (with_reducible refine Kd.C_alloc ?_ _) | (with_reducible refine Kd.C_drewN ?_ _) | (with_reducible refine Kd.C_drew ?_))); (case side6 => exact (Kd.R_reads' HO_826004.out).2.1); rintro e w91 ⟨v840, rfl, ho0, hb⟩; refine ⟨_, rfl, ?_⟩; have n0_ := Aside0.mk (Kd.R_elder' (by (with_reducible repeat (first | apply Kd.R_alloc | apply Kd.R_drewN | apply Kd.R_drew)); exact HO_826002.out) (Kd.R_base ho0) hb); have n1_ := Aside0.mk (Kd.R_elder' (by (with_reducible repeat (first | apply Kd.R_alloc | apply Kd.R_drewN | apply Kd.R_drew)); exact HO_826004.out) (Kd.R_base ho0) hb); have n2_ := Aside0.mk (Kd.R_elder' (by (with_reducible repeat (first | apply Kd.R_alloc | apply Kd.R_drewN | apply Kd.R_drew)); exact HO_832001.out) (Kd.R_base ho0) hb); have n3_ := Aside0.mk (Kd.R_elder' (by (with_reducible repeat (first | apply Kd.R_alloc | apply Kd.R_drewN | apply Kd.R_drew)); exact HO_838001.out) (Kd.R_base ho0) hb); have n4_ := Aside0.mk (Kd.R_lower (Kd.R_new' (Kd.R_new' (Kd.R_new' (Kd.R_new' ho0 (Kd.R_lt (by (with_reducible repeat (first | apply Kd.R_alloc | apply Kd.R_drewN | apply Kd.R_drew)); exact HO_826002.out))) (Kd.R_lt (by (with_reducible repeat (first | apply Kd.R_alloc | apply Kd.R_drewN | apply Kd.R_drew)); exact HO_826004.out))) (Kd.R_lt (by (with_reducible repeat (first | apply Kd.R_alloc | apply Kd.R_drewN | apply Kd.R_drew)); exact HO_832001.out))) (Kd.R_lt (by (with_reducible repeat (first | apply Kd.R_alloc | apply Kd.R_drewN | apply Kd.R_drew)); exact HO_838001.out))) (below_size (by repeat (first | (with_reducible first | exact HB.out | apply below_alloc | apply pw_below_drewN | apply below_drew1 | refine below_set ?_ GE808.out | refine below_set ?_ GE809.out | refine below_set ?_ GE810.out | refine below_set ?_ GE825.out | refine below_set ?_ GE831.out | refine below_set ?_ GE837.out) | exact HB.out)))); have n5_ := Aside0.mk (blk_below (g := gb808) (o := .cells #[.string a0_0, .slice A0_1 l0_1.length c0_1] 51 (0, 0)) (by (with_reducible repeat (first | refine blk_drewN ?_ _ | refine blk_drew ?_ | refine blk_alloc ?_ _)); exact BK808.out) hb); have n6_ := Aside0.mk (blk_below (g := gb809) (o := .cells #[.int .i64 a1_0, .string a1_1, .slice A1_2 l1_2.length c1_2, .string a1_3, .slice A1_4 l1_4.length c1_4] 64 (0, 0)) (by (with_reducible repeat (first | refine blk_drewN ?_ _ | refine blk_drew ?_ | refine blk_alloc ?_ _)); exact BK809.out) hb); have n7_ := Aside0.mk (blk_below (g := gb810) (o := .cells #[.int .i64 a2_0, .string a2_1, .slice A2_2 l2_2.length c2_2, .string a2_3, .slice A2_4 l2_4.length c2_4] 64 (0, 0)) (by (with_reducible repeat (first | refine blk_drewN ?_ _ | refine blk_drew ?_ | refine blk_alloc ?_ _)); exact BK810.out) hb); have n8_ := Aside0.mk (blk_below (g := gb825) (o := .cells #[.int .i64 t815, .string t816, .slice Ao52 t817.length co52, .string t820, .slice Ao53 t821.length co53] 64 (0, 0)) (by (with_reducible repeat (first | refine blk_drewN ?_ _ | refine blk_drew ?_ | refine blk_alloc ?_ _)); exact BK825.out) hb); have n9_ := Aside0.mk (blk_below (g := gb831) (o := .cells #[.string t826, .slice Ao63 t827.length co63] 51 (0, 0)) (by (with_reducible repeat (first | refine blk_drewN ?_ _ | refine blk_drew ?_ | refine blk_alloc ?_ _)); exact BK831.out) hb); have n10_ := Aside0.mk (blk_below (g := gb837) (o := .cells #[.string t832, .slice Ao73 t833.length co73] 51 (0, 0)) (by (with_reducible repeat (first | refine blk_drewN ?_ _ | refine blk_drew ?_ | refine blk_alloc ?_ _)); exact BK837.out) hb); have n11_ := Aside0.mk (below_step (by repeat (first | (with_reducible first | exact HB.out | apply below_alloc | apply pw_below_drewN | apply below_drew1 | refine below_set ?_ GE808.out | refine below_set ?_ GE809.out | refine below_set ?_ GE810.out | refine below_set ?_ GE825.out | refine below_set ?_ GE831.out | refine below_set ?_ GE837.out) | exact HB.out)) hb); clear HO_826002; clear HO_826004; clear HO_832001; clear HO_838001; clear BK808; clear BK809; clear BK810; clear BK825; clear BK831; clear BK837; clear HB; have HO_826002 := n0_; have HO_826004 := n1_; have HO_832001 := n2_; have HO_838001 := n3_; have HO841 := n4_; have BK808 := n5_; have BK809 := n6_; have BK810 := n7_; have BK825 := n8_; have BK831 := n9_; have BK837 := n10_; have HB := n11_; clear n0_ n1_ n2_ n3_ n4_ n5_ n6_ n7_ n8_ n9_ n10_ n11_; (try clear hb); (try clear hb2); (try clear hk); (try clear hi); (try clear ho0)) | ((with_reducible refine gate_dst (N := 13) rfl ?_); refine box_event ?hg (N := 13) ?hd (cs := #[.string (⟨#[]⟩ : ByteArray), .slice none 0 0]) (t := 51) ?hr ?_; (case hd => rfl); (case hg => rfl); (case hr => first | (go_simp; done) | (go_simp; rfl)); intro gb843 hg w92 hbox hb; have n0_ := Aside0.mk (Kd.R_below (by (with_reducible repeat (first | apply Kd.R_alloc | apply Kd.R_drewN | apply Kd.R_drew)); exact HO_826002.out) hb); have n1_ := Aside0.mk (Kd.R_below (by (with_reducible repeat (first | apply Kd.R_alloc | apply Kd.R_drewN | apply Kd.R_drew)); exact HO_826004.out) hb); have n2_ := Aside0.mk (Kd.R_below (by (with_reducible repeat (first | apply Kd.R_alloc | apply Kd.R_drewN | apply Kd.R_drew)); exact HO_832001.out) hb); have n3_ := Aside0.mk (Kd.R_below (by (with_reducible repeat (first | apply Kd.R_alloc | apply Kd.R_drewN | apply Kd.R_drew)); exact HO_838001.out) hb); have n4_ := Aside0.mk (Kd.R_below (by (with_reducible repeat (first | apply Kd.R_alloc | apply Kd.R_drewN | apply Kd.R_drew)); exact HO841.out) hb); have n5_ := Aside0.mk (blk_below (g := gb808) (o := .cells #[.string a0_0, .slice A0_1 l0_1.length c0_1] 51 (0, 0)) (by (with_reducible repeat (first | refine blk_drewN ?_ _ | refine blk_drew ?_ | refine blk_alloc ?_ _)); exact BK808.out) hb); have n6_ := Aside0.mk (blk_below (g := gb809) (o := .cells #[.int .i64 a1_0, .string a1_1, .slice A1_2 l1_2.length c1_2, .string a1_3, .slice A1_4 l1_4.length c1_4] 64 (0, 0)) (by (with_reducible repeat (first | refine blk_drewN ?_ _ | refine blk_drew ?_ | refine blk_alloc ?_ _)); exact BK809.out) hb); have n7_ := Aside0.mk (blk_below (g := gb810) (o := .cells #[.int .i64 a2_0, .string a2_1, .slice A2_2 l2_2.length c2_2, .string a2_3, .slice A2_4 l2_4.length c2_4] 64 (0, 0)) (by (with_reducible repeat (first | refine blk_drewN ?_ _ | refine blk_drew ?_ | refine blk_alloc ?_ _)); exact BK810.out) hb); have n8_ := Aside0.mk (blk_below (g := gb825) (o := .cells #[.int .i64 t815, .string t816, .slice Ao52 t817.length co52, .string t820, .slice Ao53 t821.length co53] 64 (0, 0)) (by (with_reducible repeat (first | refine blk_drewN ?_ _ | refine blk_drew ?_ | refine blk_alloc ?_ _)); exact BK825.out) hb); have n9_ := Aside0.mk (blk_below (g := gb831) (o := .cells #[.string t826, .slice Ao63 t827.length co63] 51 (0, 0)) (by (with_reducible repeat (first | refine blk_drewN ?_ _ | refine blk_drew ?_ | refine blk_alloc ?_ _)); exact BK831.out) hb); have n10_ := Aside0.mk (blk_below (g := gb837) (o := .cells #[.string t832, .slice Ao73 t833.length co73] 51 (0, 0)) (by (with_reducible repeat (first | refine blk_drewN ?_ _ | refine blk_drew ?_ | refine blk_alloc ?_ _)); exact BK837.out) hb); have n11_ := Aside0.mk (below_step (by repeat (first | (with_reducible first | exact HB.out | apply below_alloc | apply pw_below_drewN | apply below_drew1 | refine below_set ?_ GE808.out | refine below_set ?_ GE809.out | refine below_set ?_ GE810.out | refine below_set ?_ GE825.out | refine below_set ?_ GE831.out | refine below_set ?_ GE837.out) | exact HB.out)) hb); have n12_ := Aside0.mk (hbox); have n13_ := Aside0.mk ((by rw [hg]; exact (below_size (by repeat (first | (with_reducible first | exact HB.out | apply below_alloc | apply pw_below_drewN | apply below_drew1 | refine below_set ?_ GE808.out | refine below_set ?_ GE809.out | refine below_set ?_ GE810.out | refine below_set ?_ GE825.out | refine below_set ?_ GE831.out | refine below_set ?_ GE837.out) | exact HB.out))) : w.heap.size ≤ gb843)); have n14_ := Aside0.mk ((by rw [hg]; exact (below_size (by repeat (first | (with_reducible first | exact HB.out | apply below_alloc | apply pw_below_drewN | apply below_drew1 | refine below_set ?_ GE808.out | refine below_set ?_ GE809.out | refine below_set ?_ GE810.out | refine below_set ?_ GE825.out | refine below_set ?_ GE831.out | refine below_set ?_ GE837.out) | exact HB.out))) : w.heap.size ≤ gb843)); have n15_ := Aside0.mk ((by rw [hg]; exact Nat.ne_of_lt (blk_lt (g := gb808) (o := .cells #[.string a0_0, .slice A0_1 l0_1.length c0_1] 51 (0, 0)) (by (with_reducible repeat (first | refine blk_drewN ?_ _ | refine blk_drew ?_ | refine blk_alloc ?_ _)); exact BK808.out)) : gb808 ≠ gb843)); have n16_ := Aside0.mk ((by rw [hg]; exact Nat.ne_of_gt (blk_lt (g := gb808) (o := .cells #[.string a0_0, .slice A0_1 l0_1.length c0_1] 51 (0, 0)) (by (with_reducible repeat (first | refine blk_drewN ?_ _ | refine blk_drew ?_ | refine blk_alloc ?_ _)); exact BK808.out)) : gb843 ≠ gb808)); have n17_ := Aside0.mk ((by rw [hg]; exact Nat.ne_of_lt (blk_lt (g := gb809) (o := .cells #[.int .i64 a1_0, .string a1_1, .slice A1_2 l1_2.length c1_2, .string a1_3, .slice A1_4 l1_4.length c1_4] 64 (0, 0)) (by (with_reducible repeat (first | refine blk_drewN ?_ _ | refine blk_drew ?_ | refine blk_alloc ?_ _)); exact BK809.out)) : gb809 ≠ gb843)); have n18_ := Aside0.mk ((by rw [hg]; exact Nat.ne_of_gt (blk_lt (g := gb809) (o := .cells #[.int .i64 a1_0, .string a1_1, .slice A1_2 l1_2.length c1_2, .string a1_3, .slice A1_4 l1_4.length c1_4] 64 (0, 0)) (by (with_reducible repeat (first | refine blk_drewN ?_ _ | refine blk_drew ?_ | refine blk_alloc ?_ _)); exact BK809.out)) : gb843 ≠ gb809)); have n19_ := Aside0.mk ((by rw [hg]; exact Nat.ne_of_lt (blk_lt (g := gb810) (o := .cells #[.int .i64 a2_0, .string a2_1, .slice A2_2 l2_2.length c2_2, .string a2_3, .slice A2_4 l2_4.length c2_4] 64 (0, 0)) (by (with_reducible repeat (first | refine blk_drewN ?_ _ | refine blk_drew ?_ | refine blk_alloc ?_ _)); exact BK810.out)) : gb810 ≠ gb843)); have n20_ := Aside0.mk ((by rw [hg]; exact Nat.ne_of_gt (blk_lt (g := gb810) (o := .cells #[.int .i64 a2_0, .string a2_1, .slice A2_2 l2_2.length c2_2, .string a2_3, .slice A2_4 l2_4.length c2_4] 64 (0, 0)) (by (with_reducible repeat (first | refine blk_drewN ?_ _ | refine blk_drew ?_ | refine blk_alloc ?_ _)); exact BK810.out)) : gb843 ≠ gb810)); have n21_ := Aside0.mk ((by rw [hg]; exact Nat.ne_of_lt (blk_lt (g := gb825) (o := .cells #[.int .i64 t815, .string t816, .slice Ao52 t817.length co52, .string t820, .slice Ao53 t821.length co53] 64 (0, 0)) (by (with_reducible repeat (first | refine blk_drewN ?_ _ | refine blk_drew ?_ | refine blk_alloc ?_ _)); exact BK825.out)) : gb825 ≠ gb843)); have n22_ := Aside0.mk ((by rw [hg]; exact Nat.ne_of_gt (blk_lt (g := gb825) (o := .cells #[.int .i64 t815, .string t816, .slice Ao52 t817.length co52, .string t820, .slice Ao53 t821.length co53] 64 (0, 0)) (by (with_reducible repeat (first | refine blk_drewN ?_ _ | refine blk_drew ?_ | refine blk_alloc ?_ _)); exact BK825.out)) : gb843 ≠ gb825)); have n23_ := Aside0.mk ((by rw [hg]; exact Nat.ne_of_lt (blk_lt (g := gb831) (o := .cells #[.string t826, .slice Ao63 t827.length co63] 51 (0, 0)) (by (with_reducible repeat (first | refine blk_drewN ?_ _ | refine blk_drew ?_ | refine blk_alloc ?_ _)); exact BK831.out)) : gb831 ≠ gb843)); have n24_ := Aside0.mk ((by rw [hg]; exact Nat.ne_of_gt (blk_lt (g := gb831) (o := .cells #[.string t826, .slice Ao63 t827.length co63] 51 (0, 0)) (by (with_reducible repeat (first | refine blk_drewN ?_ _ | refine blk_drew ?_ | refine blk_alloc ?_ _)); exact BK831.out)) : gb843 ≠ gb831)); have n25_ := Aside0.mk ((by rw [hg]; exact Nat.ne_of_lt (blk_lt (g := gb837) (o := .cells #[.string t832, .slice Ao73 t833.length co73] 51 (0, 0)) (by (with_reducible repeat (first | refine blk_drewN ?_ _ | refine blk_drew ?_ | refine blk_alloc ?_ _)); exact BK837.out)) : gb837 ≠ gb843)); have n26_ := Aside0.mk ((by rw [hg]; exact Nat.ne_of_gt (blk_lt (g := gb837) (o := .cells #[.string t832, .slice Ao73 t833.length co73] 51 (0, 0)) (by (with_reducible repeat (first | refine blk_drewN ?_ _ | refine blk_drew ?_ | refine blk_alloc ?_ _)); exact BK837.out)) : gb843 ≠ gb837)); clear HO_826002; clear HO_826004; clear HO_832001; clear HO_838001; clear HO841; clear BK808; clear BK809; clear BK810; clear BK825; clear BK831; clear BK837; clear HB; have HO_826002 := n0_; have HO_826004 := n1_; have HO_832001 := n2_; have HO_838001 := n3_; have HO841 := n4_; have BK808 := n5_; have BK809 := n6_; have BK810 := n7_; have BK825 := n8_; have BK831 := n9_; have BK837 := n10_; have HB := n11_; have BK843 := n12_; have GW843 := n13_; have GE843 := n14_; have NB808_843 := n15_; have NB843_808 := n16_; have NB809_843 := n17_; have NB843_809 := n18_; have NB810_843 := n19_; have NB843_810 := n20_; have NB825_843 := n21_; have NB843_825 := n22_; have NB831_843 := n23_; have NB843_831 := n24_; have NB837_843 := n25_; have NB843_837 := n26_; clear n0_ n1_ n2_ n3_ n4_ n5_ n6_ n7_ n8_ n9_ n10_ n11_ n12_ n13_ n14_ n15_ n16_ n17_ n18_ n19_ n20_ n21_ n22_ n23_ n24_ n25_ n26_; clear hb hbox hg; have hnb93 := NB843_808.out; have hnc93 := NB808_843.out; have hnb94 := NB843_809.out; have hnc94 := NB809_843.out; have hnb95 := NB843_810.out; have hnc95 := NB810_843.out; have hnb96 := NB843_825.out; have hnc96 := NB825_843.out; have hnb97 := NB843_831.out; have hnc97 := NB831_843.out; have hnb98 := NB843_837.out; have hnc98 := NB837_843.out; have hcz99_0 : w92.cell? ⟨gb843, 0, none⟩ = some (.string (⟨#[]⟩ : ByteArray)) := (blk_cell BK843.out 0).trans rfl; have hcz99_1 : w92.cell? ⟨gb843, 1, none⟩ = some (.slice none 0 0) := (blk_cell BK843.out 1).trans rfl; have hfz99_0 := blk_frozen BK843.out 0; have hfz99_1 := blk_frozen BK843.out 1; obtain ⟨Ao100, co100, eo100⟩ := Kd.R_slice HO841.out; subst eo100; have hnb101 := NB837_809.out; have hnc101 := NB809_837.out; have hnb102 := NB837_810.out; have hnc102 := NB810_837.out; have hnb103 := NB837_831.out; have hnc103 := NB831_837.out; have hcz104_0 : w92.cell? ⟨gb837, 0, none⟩ = some (.string t832) := (blk_cell BK837.out 0).trans rfl; have hcz104_1 : w92.cell? ⟨gb837, 1, none⟩ = some (.slice Ao73 t833.length co73) := (blk_cell BK837.out 1).trans rfl; have hfz104_0 := blk_frozen BK837.out 0; have hfz104_1 := blk_frozen BK837.out 1) | (go_at_call 48; (with_reducible refine (bureauref04_Same.calls kj39 t832 _ _ t833 t838 _ _ t839 t844 _ ?side1 ?side2 ?side3 ?side4 A79.out).mono ?_); (case side1 => refine (Kd.R_reads' (e := 100) (base := w.heap.size) (ok := fun k_ => ((some k_ ≠ (.slice Ao52 t817.length co52 : Value).ownBlock ∧ (some k_ ≠ (.slice Ao53 t821.length co53 : Value).ownBlock ∧ some k_ ≠ (.slice Ao63 t827.length co63 : Value).ownBlock)) ∧ some k_ ≠ (.slice Ao100 t839.length co100 : Value).ownBlock)) (n := t833.length) (c := co73) ?_).2.2; exact (by (with_reducible repeat (first | apply Kd.R_alloc | apply Kd.R_drewN | apply Kd.R_drew)); exact (Kd.R_mono (Kd.R_far (p := ⟨gb843, 1, none⟩) (Kd.R_far (p := ⟨gb843, 0, none⟩) (Kd.R_types HO_838001.out BK843.out (by decide)) (fun _ hk => hk.2) (.string t838)) (fun _ hk => hk.2) (.slice Ao100 t839.length co100)) (fun _ h_ => h_.1)))); (case side2 => exact (Kd.R_reads' HO_838001.out).2.1); (case side3 => refine (Kd.R_reads' (e := 100) (base := w.heap.size) (ok := fun k_ => ((((True ∧ some k_ ≠ (.slice Ao52 t817.length co52 : Value).ownBlock) ∧ some k_ ≠ (.slice Ao53 t821.length co53 : Value).ownBlock) ∧ some k_ ≠ (.slice Ao63 t827.length co63 : Value).ownBlock) ∧ some k_ ≠ (.slice Ao73 t833.length co73 : Value).ownBlock)) (n := t839.length) (c := co100) ?_).2.2; exact (by (with_reducible repeat (first | apply Kd.R_alloc | apply Kd.R_drewN | apply Kd.R_drew)); exact (Kd.R_mono (Kd.R_far (p := ⟨gb843, 1, none⟩) (Kd.R_far (p := ⟨gb843, 0, none⟩) (Kd.R_types HO841.out BK843.out (by decide)) (fun _ hk => hk.2) (.string t838)) (fun _ hk => hk.2) (.slice Ao100 t839.length co100)) (fun _ h_ => h_.1)))); (case side4 => exact (Kd.R_reads' HO841.out).2.1); rintro e w105 ⟨rfl, hb⟩; have n0_ := Aside0.mk (Kd.R_below (by (with_reducible repeat (first | apply Kd.R_alloc | apply Kd.R_drewN | apply Kd.R_drew)); exact (Kd.R_mono (Kd.R_far (p := ⟨gb843, 1, none⟩) (Kd.R_far (p := ⟨gb843, 0, none⟩) (Kd.R_types HO_826002.out BK843.out (by decide)) (fun _ hk => hk.2) (.string t838)) (fun _ hk => hk.2) (.slice Ao100 t839.length co100)) (fun _ h_ => h_.1))) hb); have n1_ := Aside0.mk (Kd.R_below (by (with_reducible repeat (first | apply Kd.R_alloc | apply Kd.R_drewN | apply Kd.R_drew)); exact (Kd.R_mono (Kd.R_far (p := ⟨gb843, 1, none⟩) (Kd.R_far (p := ⟨gb843, 0, none⟩) (Kd.R_types HO_826004.out BK843.out (by decide)) (fun _ hk => hk.2) (.string t838)) (fun _ hk => hk.2) (.slice Ao100 t839.length co100)) (fun _ h_ => h_.1))) hb); have n2_ := Aside0.mk (Kd.R_below (by (with_reducible repeat (first | apply Kd.R_alloc | apply Kd.R_drewN | apply Kd.R_drew)); exact (Kd.R_mono (Kd.R_far (p := ⟨gb843, 1, none⟩) (Kd.R_far (p := ⟨gb843, 0, none⟩) (Kd.R_types HO_832001.out BK843.out (by decide)) (fun _ hk => hk.2) (.string t838)) (fun _ hk => hk.2) (.slice Ao100 t839.length co100)) (fun _ h_ => h_.1))) hb); have n3_ := Aside0.mk (Kd.R_below (by (with_reducible repeat (first | apply Kd.R_alloc | apply Kd.R_drewN | apply Kd.R_drew)); exact (Kd.R_mono (Kd.R_far (p := ⟨gb843, 1, none⟩) (Kd.R_far (p := ⟨gb843, 0, none⟩) (Kd.R_types HO_838001.out BK843.out (by decide)) (fun _ hk => hk.2) (.string t838)) (fun _ hk => hk.2) (.slice Ao100 t839.length co100)) (fun _ h_ => h_.1))) hb); have n4_ := Aside0.mk (Kd.R_below (by (with_reducible repeat (first | apply Kd.R_alloc | apply Kd.R_drewN | apply Kd.R_drew)); exact (Kd.R_mono (Kd.R_far (p := ⟨gb843, 1, none⟩) (Kd.R_far (p := ⟨gb843, 0, none⟩) (Kd.R_types HO841.out BK843.out (by decide)) (fun _ hk => hk.2) (.string t838)) (fun _ hk => hk.2) (.slice Ao100 t839.length co100)) (fun _ h_ => h_.1))) hb); have n5_ := Aside0.mk (blk_below (g := gb808) (o := .cells #[.string a0_0, .slice A0_1 l0_1.length c0_1] 51 (0, 0)) (by (with_reducible repeat (first | refine blk_drewN ?_ _ | refine blk_drew ?_ | refine blk_alloc ?_ _)); refine blk_far ?_ NB808_843.out _; (with_reducible repeat (first | refine blk_drewN ?_ _ | refine blk_drew ?_ | refine blk_alloc ?_ _)); refine blk_far ?_ NB808_843.out _; (with_reducible repeat (first | refine blk_drewN ?_ _ | refine blk_drew ?_ | refine blk_alloc ?_ _)); exact BK808.out) hb); have n6_ := Aside0.mk (blk_below (g := gb809) (o := .cells #[.int .i64 a1_0, .string a1_1, .slice A1_2 l1_2.length c1_2, .string a1_3, .slice A1_4 l1_4.length c1_4] 64 (0, 0)) (by (with_reducible repeat (first | refine blk_drewN ?_ _ | refine blk_drew ?_ | refine blk_alloc ?_ _)); refine blk_far ?_ NB809_843.out _; (with_reducible repeat (first | refine blk_drewN ?_ _ | refine blk_drew ?_ | refine blk_alloc ?_ _)); refine blk_far ?_ NB809_843.out _; (with_reducible repeat (first | refine blk_drewN ?_ _ | refine blk_drew ?_ | refine blk_alloc ?_ _)); exact BK809.out) hb); have n7_ := Aside0.mk (blk_below (g := gb810) (o := .cells #[.int .i64 a2_0, .string a2_1, .slice A2_2 l2_2.length c2_2, .string a2_3, .slice A2_4 l2_4.length c2_4] 64 (0, 0)) (by (with_reducible repeat (first | refine blk_drewN ?_ _ | refine blk_drew ?_ | refine blk_alloc ?_ _)); refine blk_far ?_ NB810_843.out _; (with_reducible repeat (first | refine blk_drewN ?_ _ | refine blk_drew ?_ | refine blk_alloc ?_ _)); refine blk_far ?_ NB810_843.out _; (with_reducible repeat (first | refine blk_drewN ?_ _ | refine blk_drew ?_ | refine blk_alloc ?_ _)); exact BK810.out) hb); have n8_ := Aside0.mk (blk_below (g := gb825) (o := .cells #[.int .i64 t815, .string t816, .slice Ao52 t817.length co52, .string t820, .slice Ao53 t821.length co53] 64 (0, 0)) (by (with_reducible repeat (first | refine blk_drewN ?_ _ | refine blk_drew ?_ | refine blk_alloc ?_ _)); refine blk_far ?_ NB825_843.out _; (with_reducible repeat (first | refine blk_drewN ?_ _ | refine blk_drew ?_ | refine blk_alloc ?_ _)); refine blk_far ?_ NB825_843.out _; (with_reducible repeat (first | refine blk_drewN ?_ _ | refine blk_drew ?_ | refine blk_alloc ?_ _)); exact BK825.out) hb); have n9_ := Aside0.mk (blk_below (g := gb831) (o := .cells #[.string t826, .slice Ao63 t827.length co63] 51 (0, 0)) (by (with_reducible repeat (first | refine blk_drewN ?_ _ | refine blk_drew ?_ | refine blk_alloc ?_ _)); refine blk_far ?_ NB831_843.out _; (with_reducible repeat (first | refine blk_drewN ?_ _ | refine blk_drew ?_ | refine blk_alloc ?_ _)); refine blk_far ?_ NB831_843.out _; (with_reducible repeat (first | refine blk_drewN ?_ _ | refine blk_drew ?_ | refine blk_alloc ?_ _)); exact BK831.out) hb); have n10_ := Aside0.mk (blk_below (g := gb837) (o := .cells #[.string t832, .slice Ao73 t833.length co73] 51 (0, 0)) (by (with_reducible repeat (first | refine blk_drewN ?_ _ | refine blk_drew ?_ | refine blk_alloc ?_ _)); refine blk_far ?_ NB837_843.out _; (with_reducible repeat (first | refine blk_drewN ?_ _ | refine blk_drew ?_ | refine blk_alloc ?_ _)); refine blk_far ?_ NB837_843.out _; (with_reducible repeat (first | refine blk_drewN ?_ _ | refine blk_drew ?_ | refine blk_alloc ?_ _)); exact BK837.out) hb); have n11_ := Aside0.mk (blk_below (g := gb843) (o := .cells #[.string t838, .slice Ao100 t839.length co100] 51 (0, 0)) (by (with_reducible repeat (first | refine blk_drewN ?_ _ | refine blk_drew ?_ | refine blk_alloc ?_ _)); refine blk_put (cs := #[.string t838, .slice none 0 0]) ?_ 1 _ rfl; (with_reducible repeat (first | refine blk_drewN ?_ _ | refine blk_drew ?_ | refine blk_alloc ?_ _)); refine blk_put (cs := #[.string (⟨#[]⟩ : ByteArray), .slice none 0 0]) ?_ 0 _ rfl; (with_reducible repeat (first | refine blk_drewN ?_ _ | refine blk_drew ?_ | refine blk_alloc ?_ _)); exact BK843.out) hb); have n12_ := Aside0.mk (below_step (by repeat (first | (with_reducible first | exact HB.out | apply below_alloc | apply pw_below_drewN | apply below_drew1 | refine below_set ?_ GE808.out | refine below_set ?_ GE809.out | refine below_set ?_ GE810.out | refine below_set ?_ GE825.out | refine below_set ?_ GE831.out | refine below_set ?_ GE837.out | refine below_set ?_ GE843.out) | exact HB.out)) hb); clear HO_826002; clear HO_826004; clear HO_832001; clear HO_838001; clear HO841; clear BK808; clear BK809; clear BK810; clear BK825; clear BK831; clear BK837; clear BK843; clear HB; have HO_826002 := n0_; have HO_826004 := n1_; have HO_832001 := n2_; have HO_838001 := n3_; have HO841 := n4_; have BK808 := n5_; have BK809 := n6_; have BK810 := n7_; have BK825 := n8_; have BK831 := n9_; have BK837 := n10_; have BK843 := n11_; have HB := n12_; clear n0_ n1_ n2_ n3_ n4_ n5_ n6_ n7_ n8_ n9_ n10_ n11_ n12_; (try clear hb); (try clear hb2); (try clear hk); (try clear hi)))
                  go_ret
                  exact ⟨by first | rfl | (simp [errW_none, errW_some] <;> rfl) | (simp [*, errW_none, errW_some] <;> rfl), by repeat (first | (with_reducible first | exact HB.out | apply below_alloc | apply pw_below_drewN | apply below_drew1 | refine below_set ?_ GE808.out | refine below_set ?_ GE809.out | refine below_set ?_ GE810.out | refine below_set ?_ GE825.out | refine below_set ?_ GE831.out | refine below_set ?_ GE837.out | refine below_set ?_ GE843.out) | exact HB.out)⟩
                · rw [if_neg c78] at H
                  have c78b0 : (t842 == 0) = false := beq_eq_false_iff_ne.mpr c78
                  have c78b1 : (t842 != 0) = true := bne_iff_ne.mpr c78
                  obtain rfl := Option.some.inj H
                  have hnb106 := NB808_809.out
                  have hnc106 := NB809_808.out
                  have hnb107 := NB808_810.out
                  have hnc107 := NB810_808.out
                  have hnb108 := NB808_825.out
                  have hnc108 := NB825_808.out
                  have hnb109 := NB808_831.out
                  have hnc109 := NB831_808.out
                  have hnb110 := NB808_837.out
                  have hnc110 := NB837_808.out
                  have hcz111_0 : wc.cell? ⟨gb808, 0, none⟩ = some (.string a0_0) := (blk_cell BK808.out 0).trans rfl
                  have hcz111_1 : wc.cell? ⟨gb808, 1, none⟩ = some (.slice A0_1 l0_1.length c0_1) := (blk_cell BK808.out 1).trans rfl
                  have hfz111_0 := blk_frozen BK808.out 0
                  have hfz111_1 := blk_frozen BK808.out 1
                  have hnb112 := NB825_809.out
                  have hnc112 := NB809_825.out
                  have hnb113 := NB825_810.out
                  have hnc113 := NB810_825.out
                  have hnb114 := NB825_831.out
                  have hnc114 := NB831_825.out
                  have hnb115 := NB825_837.out
                  have hnc115 := NB837_825.out
                  have hcz116_0 : wc.cell? ⟨gb825, 0, none⟩ = some (.int .i64 t815) := (blk_cell BK825.out 0).trans rfl
                  have hcz116_1 : wc.cell? ⟨gb825, 1, none⟩ = some (.string t816) := (blk_cell BK825.out 1).trans rfl
                  have hcz116_2 : wc.cell? ⟨gb825, 2, none⟩ = some (.slice Ao52 t817.length co52) := (blk_cell BK825.out 2).trans rfl
                  have hcz116_3 : wc.cell? ⟨gb825, 3, none⟩ = some (.string t820) := (blk_cell BK825.out 3).trans rfl
                  have hcz116_4 : wc.cell? ⟨gb825, 4, none⟩ = some (.slice Ao53 t821.length co53) := (blk_cell BK825.out 4).trans rfl
                  have hfz116_0 := blk_frozen BK825.out 0
                  have hfz116_1 := blk_frozen BK825.out 1
                  have hfz116_2 := blk_frozen BK825.out 2
                  have hfz116_3 := blk_frozen BK825.out 3
                  have hfz116_4 := blk_frozen BK825.out 4
                  go_wp2_with (first | ((with_reducible refine gate_callee (f := 65) rfl ?_); refine goesL_ (some 61) rfl rfl Try.func65 (by kernel_rfl) rfl #[.agg #[.string a0_0, .slice A0_1 l0_1.length c0_1], .agg #[.int .i64 t815, .string t816, .slice Ao52 t817.length co52, .string t820, .slice Ao53 t821.length co53]] rfl (by (try simp only [List.map_toArray, List.map_cons, List.map_nil]); first | done | rfl | (simp only [List.length_drop, List.length_take]; rfl)) ?_; (with_reducible refine (edit_Apply.calls kj39 a0_0 _ _ l0_1 t815 t816 _ _ t817 t820 _ _ t821 t838 t839 t842 _ ?side1 ?side2 ?side3 ?side4 ?side5 ?side6 A77.out).mono ?_); (case side1 => repeat (first | exact (Kd.C_below HR0_1.out HB.out) | (with_reducible refine Kd.C_alloc ?_ _) | (with_reducible refine Kd.C_drewN ?_ _) | (with_reducible refine Kd.C_drew ?_))); (case side2 => exact HC0_1.out); (case side3 => repeat (first | exact (Kd.R_reads' HO_826002.out).2.2 | (with_reducible refine Kd.C_alloc ?_ _) | (with_reducible refine Kd.C_drewN ?_ _) | (with_reducible refine Kd.C_drew ?_))); (case side4 => exact (Kd.R_reads' HO_826002.out).2.1); (case side5 => repeat (first | exact (Kd.R_reads' HO_826004.out).2.2 | (with_reducible refine Kd.C_alloc ?_ _) | (with_reducible refine Kd.C_drewN ?_ _) | (with_reducible refine Kd.C_drew ?_))); (case side6 => exact (Kd.R_reads' HO_826004.out).2.1); rintro e w117 ⟨v840, rfl, ho0, hb⟩; refine ⟨_, rfl, ?_⟩; have n0_ := Aside0.mk (Kd.R_elder' (by (with_reducible repeat (first | apply Kd.R_alloc | apply Kd.R_drewN | apply Kd.R_drew)); exact HO_826002.out) (Kd.R_base ho0) hb); have n1_ := Aside0.mk (Kd.R_elder' (by (with_reducible repeat (first | apply Kd.R_alloc | apply Kd.R_drewN | apply Kd.R_drew)); exact HO_826004.out) (Kd.R_base ho0) hb); have n2_ := Aside0.mk (Kd.R_elder' (by (with_reducible repeat (first | apply Kd.R_alloc | apply Kd.R_drewN | apply Kd.R_drew)); exact HO_832001.out) (Kd.R_base ho0) hb); have n3_ := Aside0.mk (Kd.R_elder' (by (with_reducible repeat (first | apply Kd.R_alloc | apply Kd.R_drewN | apply Kd.R_drew)); exact HO_838001.out) (Kd.R_base ho0) hb); have n4_ := Aside0.mk (Kd.R_lower (Kd.R_new' (Kd.R_new' (Kd.R_new' (Kd.R_new' ho0 (Kd.R_lt (by (with_reducible repeat (first | apply Kd.R_alloc | apply Kd.R_drewN | apply Kd.R_drew)); exact HO_826002.out))) (Kd.R_lt (by (with_reducible repeat (first | apply Kd.R_alloc | apply Kd.R_drewN | apply Kd.R_drew)); exact HO_826004.out))) (Kd.R_lt (by (with_reducible repeat (first | apply Kd.R_alloc | apply Kd.R_drewN | apply Kd.R_drew)); exact HO_832001.out))) (Kd.R_lt (by (with_reducible repeat (first | apply Kd.R_alloc | apply Kd.R_drewN | apply Kd.R_drew)); exact HO_838001.out))) (below_size (by repeat (first | (with_reducible first | exact HB.out | apply below_alloc | apply pw_below_drewN | apply below_drew1 | refine below_set ?_ GE808.out | refine below_set ?_ GE809.out | refine below_set ?_ GE810.out | refine below_set ?_ GE825.out | refine below_set ?_ GE831.out | refine below_set ?_ GE837.out) | exact HB.out)))); have n5_ := Aside0.mk (blk_below (g := gb808) (o := .cells #[.string a0_0, .slice A0_1 l0_1.length c0_1] 51 (0, 0)) (by (with_reducible repeat (first | refine blk_drewN ?_ _ | refine blk_drew ?_ | refine blk_alloc ?_ _)); exact BK808.out) hb); have n6_ := Aside0.mk (blk_below (g := gb809) (o := .cells #[.int .i64 a1_0, .string a1_1, .slice A1_2 l1_2.length c1_2, .string a1_3, .slice A1_4 l1_4.length c1_4] 64 (0, 0)) (by (with_reducible repeat (first | refine blk_drewN ?_ _ | refine blk_drew ?_ | refine blk_alloc ?_ _)); exact BK809.out) hb); have n7_ := Aside0.mk (blk_below (g := gb810) (o := .cells #[.int .i64 a2_0, .string a2_1, .slice A2_2 l2_2.length c2_2, .string a2_3, .slice A2_4 l2_4.length c2_4] 64 (0, 0)) (by (with_reducible repeat (first | refine blk_drewN ?_ _ | refine blk_drew ?_ | refine blk_alloc ?_ _)); exact BK810.out) hb); have n8_ := Aside0.mk (blk_below (g := gb825) (o := .cells #[.int .i64 t815, .string t816, .slice Ao52 t817.length co52, .string t820, .slice Ao53 t821.length co53] 64 (0, 0)) (by (with_reducible repeat (first | refine blk_drewN ?_ _ | refine blk_drew ?_ | refine blk_alloc ?_ _)); exact BK825.out) hb); have n9_ := Aside0.mk (blk_below (g := gb831) (o := .cells #[.string t826, .slice Ao63 t827.length co63] 51 (0, 0)) (by (with_reducible repeat (first | refine blk_drewN ?_ _ | refine blk_drew ?_ | refine blk_alloc ?_ _)); exact BK831.out) hb); have n10_ := Aside0.mk (blk_below (g := gb837) (o := .cells #[.string t832, .slice Ao73 t833.length co73] 51 (0, 0)) (by (with_reducible repeat (first | refine blk_drewN ?_ _ | refine blk_drew ?_ | refine blk_alloc ?_ _)); exact BK837.out) hb); have n11_ := Aside0.mk (below_step (by repeat (first | (with_reducible first | exact HB.out | apply below_alloc | apply pw_below_drewN | apply below_drew1 | refine below_set ?_ GE808.out | refine below_set ?_ GE809.out | refine below_set ?_ GE810.out | refine below_set ?_ GE825.out | refine below_set ?_ GE831.out | refine below_set ?_ GE837.out) | exact HB.out)) hb); clear HO_826002; clear HO_826004; clear HO_832001; clear HO_838001; clear BK808; clear BK809; clear BK810; clear BK825; clear BK831; clear BK837; clear HB; have HO_826002 := n0_; have HO_826004 := n1_; have HO_832001 := n2_; have HO_838001 := n3_; have HO841 := n4_; have BK808 := n5_; have BK809 := n6_; have BK810 := n7_; have BK825 := n8_; have BK831 := n9_; have BK837 := n10_; have HB := n11_; clear n0_ n1_ n2_ n3_ n4_ n5_ n6_ n7_ n8_ n9_ n10_ n11_; (try clear hb); (try clear hb2); (try clear hk); (try clear hi); (try clear ho0)) | ((with_reducible refine gate_dst (N := 13) rfl ?_); refine box_event ?hg (N := 13) ?hd (cs := #[.string (⟨#[]⟩ : ByteArray), .slice none 0 0]) (t := 51) ?hr ?_; (case hd => rfl); (case hg => rfl); (case hr => first | (go_simp; done) | (go_simp; rfl)); intro gb843 hg w118 hbox hb; have n0_ := Aside0.mk (Kd.R_below (by (with_reducible repeat (first | apply Kd.R_alloc | apply Kd.R_drewN | apply Kd.R_drew)); exact HO_826002.out) hb); have n1_ := Aside0.mk (Kd.R_below (by (with_reducible repeat (first | apply Kd.R_alloc | apply Kd.R_drewN | apply Kd.R_drew)); exact HO_826004.out) hb); have n2_ := Aside0.mk (Kd.R_below (by (with_reducible repeat (first | apply Kd.R_alloc | apply Kd.R_drewN | apply Kd.R_drew)); exact HO_832001.out) hb); have n3_ := Aside0.mk (Kd.R_below (by (with_reducible repeat (first | apply Kd.R_alloc | apply Kd.R_drewN | apply Kd.R_drew)); exact HO_838001.out) hb); have n4_ := Aside0.mk (Kd.R_below (by (with_reducible repeat (first | apply Kd.R_alloc | apply Kd.R_drewN | apply Kd.R_drew)); exact HO841.out) hb); have n5_ := Aside0.mk (blk_below (g := gb808) (o := .cells #[.string a0_0, .slice A0_1 l0_1.length c0_1] 51 (0, 0)) (by (with_reducible repeat (first | refine blk_drewN ?_ _ | refine blk_drew ?_ | refine blk_alloc ?_ _)); exact BK808.out) hb); have n6_ := Aside0.mk (blk_below (g := gb809) (o := .cells #[.int .i64 a1_0, .string a1_1, .slice A1_2 l1_2.length c1_2, .string a1_3, .slice A1_4 l1_4.length c1_4] 64 (0, 0)) (by (with_reducible repeat (first | refine blk_drewN ?_ _ | refine blk_drew ?_ | refine blk_alloc ?_ _)); exact BK809.out) hb); have n7_ := Aside0.mk (blk_below (g := gb810) (o := .cells #[.int .i64 a2_0, .string a2_1, .slice A2_2 l2_2.length c2_2, .string a2_3, .slice A2_4 l2_4.length c2_4] 64 (0, 0)) (by (with_reducible repeat (first | refine blk_drewN ?_ _ | refine blk_drew ?_ | refine blk_alloc ?_ _)); exact BK810.out) hb); have n8_ := Aside0.mk (blk_below (g := gb825) (o := .cells #[.int .i64 t815, .string t816, .slice Ao52 t817.length co52, .string t820, .slice Ao53 t821.length co53] 64 (0, 0)) (by (with_reducible repeat (first | refine blk_drewN ?_ _ | refine blk_drew ?_ | refine blk_alloc ?_ _)); exact BK825.out) hb); have n9_ := Aside0.mk (blk_below (g := gb831) (o := .cells #[.string t826, .slice Ao63 t827.length co63] 51 (0, 0)) (by (with_reducible repeat (first | refine blk_drewN ?_ _ | refine blk_drew ?_ | refine blk_alloc ?_ _)); exact BK831.out) hb); have n10_ := Aside0.mk (blk_below (g := gb837) (o := .cells #[.string t832, .slice Ao73 t833.length co73] 51 (0, 0)) (by (with_reducible repeat (first | refine blk_drewN ?_ _ | refine blk_drew ?_ | refine blk_alloc ?_ _)); exact BK837.out) hb); have n11_ := Aside0.mk (below_step (by repeat (first | (with_reducible first | exact HB.out | apply below_alloc | apply pw_below_drewN | apply below_drew1 | refine below_set ?_ GE808.out | refine below_set ?_ GE809.out | refine below_set ?_ GE810.out | refine below_set ?_ GE825.out | refine below_set ?_ GE831.out | refine below_set ?_ GE837.out) | exact HB.out)) hb); have n12_ := Aside0.mk (hbox); have n13_ := Aside0.mk ((by rw [hg]; exact (below_size (by repeat (first | (with_reducible first | exact HB.out | apply below_alloc | apply pw_below_drewN | apply below_drew1 | refine below_set ?_ GE808.out | refine below_set ?_ GE809.out | refine below_set ?_ GE810.out | refine below_set ?_ GE825.out | refine below_set ?_ GE831.out | refine below_set ?_ GE837.out) | exact HB.out))) : w.heap.size ≤ gb843)); have n14_ := Aside0.mk ((by rw [hg]; exact (below_size (by repeat (first | (with_reducible first | exact HB.out | apply below_alloc | apply pw_below_drewN | apply below_drew1 | refine below_set ?_ GE808.out | refine below_set ?_ GE809.out | refine below_set ?_ GE810.out | refine below_set ?_ GE825.out | refine below_set ?_ GE831.out | refine below_set ?_ GE837.out) | exact HB.out))) : w.heap.size ≤ gb843)); have n15_ := Aside0.mk ((by rw [hg]; exact Nat.ne_of_lt (blk_lt (g := gb808) (o := .cells #[.string a0_0, .slice A0_1 l0_1.length c0_1] 51 (0, 0)) (by (with_reducible repeat (first | refine blk_drewN ?_ _ | refine blk_drew ?_ | refine blk_alloc ?_ _)); exact BK808.out)) : gb808 ≠ gb843)); have n16_ := Aside0.mk ((by rw [hg]; exact Nat.ne_of_gt (blk_lt (g := gb808) (o := .cells #[.string a0_0, .slice A0_1 l0_1.length c0_1] 51 (0, 0)) (by (with_reducible repeat (first | refine blk_drewN ?_ _ | refine blk_drew ?_ | refine blk_alloc ?_ _)); exact BK808.out)) : gb843 ≠ gb808)); have n17_ := Aside0.mk ((by rw [hg]; exact Nat.ne_of_lt (blk_lt (g := gb809) (o := .cells #[.int .i64 a1_0, .string a1_1, .slice A1_2 l1_2.length c1_2, .string a1_3, .slice A1_4 l1_4.length c1_4] 64 (0, 0)) (by (with_reducible repeat (first | refine blk_drewN ?_ _ | refine blk_drew ?_ | refine blk_alloc ?_ _)); exact BK809.out)) : gb809 ≠ gb843)); have n18_ := Aside0.mk ((by rw [hg]; exact Nat.ne_of_gt (blk_lt (g := gb809) (o := .cells #[.int .i64 a1_0, .string a1_1, .slice A1_2 l1_2.length c1_2, .string a1_3, .slice A1_4 l1_4.length c1_4] 64 (0, 0)) (by (with_reducible repeat (first | refine blk_drewN ?_ _ | refine blk_drew ?_ | refine blk_alloc ?_ _)); exact BK809.out)) : gb843 ≠ gb809)); have n19_ := Aside0.mk ((by rw [hg]; exact Nat.ne_of_lt (blk_lt (g := gb810) (o := .cells #[.int .i64 a2_0, .string a2_1, .slice A2_2 l2_2.length c2_2, .string a2_3, .slice A2_4 l2_4.length c2_4] 64 (0, 0)) (by (with_reducible repeat (first | refine blk_drewN ?_ _ | refine blk_drew ?_ | refine blk_alloc ?_ _)); exact BK810.out)) : gb810 ≠ gb843)); have n20_ := Aside0.mk ((by rw [hg]; exact Nat.ne_of_gt (blk_lt (g := gb810) (o := .cells #[.int .i64 a2_0, .string a2_1, .slice A2_2 l2_2.length c2_2, .string a2_3, .slice A2_4 l2_4.length c2_4] 64 (0, 0)) (by (with_reducible repeat (first | refine blk_drewN ?_ _ | refine blk_drew ?_ | refine blk_alloc ?_ _)); exact BK810.out)) : gb843 ≠ gb810)); have n21_ := Aside0.mk ((by rw [hg]; exact Nat.ne_of_lt (blk_lt (g := gb825) (o := .cells #[.int .i64 t815, .string t816, .slice Ao52 t817.length co52, .string t820, .slice Ao53 t821.length co53] 64 (0, 0)) (by (with_reducible repeat (first | refine blk_drewN ?_ _ | refine blk_drew ?_ | refine blk_alloc ?_ _)); exact BK825.out)) : gb825 ≠ gb843)); have n22_ := Aside0.mk ((by rw [hg]; exact Nat.ne_of_gt (blk_lt (g := gb825) (o := .cells #[.int .i64 t815, .string t816, .slice Ao52 t817.length co52, .string t820, .slice Ao53 t821.length co53] 64 (0, 0)) (by (with_reducible repeat (first | refine blk_drewN ?_ _ | refine blk_drew ?_ | refine blk_alloc ?_ _)); exact BK825.out)) : gb843 ≠ gb825)); have n23_ := Aside0.mk ((by rw [hg]; exact Nat.ne_of_lt (blk_lt (g := gb831) (o := .cells #[.string t826, .slice Ao63 t827.length co63] 51 (0, 0)) (by (with_reducible repeat (first | refine blk_drewN ?_ _ | refine blk_drew ?_ | refine blk_alloc ?_ _)); exact BK831.out)) : gb831 ≠ gb843)); have n24_ := Aside0.mk ((by rw [hg]; exact Nat.ne_of_gt (blk_lt (g := gb831) (o := .cells #[.string t826, .slice Ao63 t827.length co63] 51 (0, 0)) (by (with_reducible repeat (first | refine blk_drewN ?_ _ | refine blk_drew ?_ | refine blk_alloc ?_ _)); exact BK831.out)) : gb843 ≠ gb831)); have n25_ := Aside0.mk ((by rw [hg]; exact Nat.ne_of_lt (blk_lt (g := gb837) (o := .cells #[.string t832, .slice Ao73 t833.length co73] 51 (0, 0)) (by (with_reducible repeat (first | refine blk_drewN ?_ _ | refine blk_drew ?_ | refine blk_alloc ?_ _)); exact BK837.out)) : gb837 ≠ gb843)); have n26_ := Aside0.mk ((by rw [hg]; exact Nat.ne_of_gt (blk_lt (g := gb837) (o := .cells #[.string t832, .slice Ao73 t833.length co73] 51 (0, 0)) (by (with_reducible repeat (first | refine blk_drewN ?_ _ | refine blk_drew ?_ | refine blk_alloc ?_ _)); exact BK837.out)) : gb843 ≠ gb837)); clear HO_826002; clear HO_826004; clear HO_832001; clear HO_838001; clear HO841; clear BK808; clear BK809; clear BK810; clear BK825; clear BK831; clear BK837; clear HB; have HO_826002 := n0_; have HO_826004 := n1_; have HO_832001 := n2_; have HO_838001 := n3_; have HO841 := n4_; have BK808 := n5_; have BK809 := n6_; have BK810 := n7_; have BK825 := n8_; have BK831 := n9_; have BK837 := n10_; have HB := n11_; have BK843 := n12_; have GW843 := n13_; have GE843 := n14_; have NB808_843 := n15_; have NB843_808 := n16_; have NB809_843 := n17_; have NB843_809 := n18_; have NB810_843 := n19_; have NB843_810 := n20_; have NB825_843 := n21_; have NB843_825 := n22_; have NB831_843 := n23_; have NB843_831 := n24_; have NB837_843 := n25_; have NB843_837 := n26_; clear n0_ n1_ n2_ n3_ n4_ n5_ n6_ n7_ n8_ n9_ n10_ n11_ n12_ n13_ n14_ n15_ n16_ n17_ n18_ n19_ n20_ n21_ n22_ n23_ n24_ n25_ n26_; clear hb hbox hg; have hnb119 := NB843_808.out; have hnc119 := NB808_843.out; have hnb120 := NB843_809.out; have hnc120 := NB809_843.out; have hnb121 := NB843_810.out; have hnc121 := NB810_843.out; have hnb122 := NB843_825.out; have hnc122 := NB825_843.out; have hnb123 := NB843_831.out; have hnc123 := NB831_843.out; have hnb124 := NB843_837.out; have hnc124 := NB837_843.out; have hcz125_0 : w118.cell? ⟨gb843, 0, none⟩ = some (.string (⟨#[]⟩ : ByteArray)) := (blk_cell BK843.out 0).trans rfl; have hcz125_1 : w118.cell? ⟨gb843, 1, none⟩ = some (.slice none 0 0) := (blk_cell BK843.out 1).trans rfl; have hfz125_0 := blk_frozen BK843.out 0; have hfz125_1 := blk_frozen BK843.out 1; obtain ⟨Ao126, co126, eo126⟩ := Kd.R_slice HO841.out; subst eo126))
                  go_ret
                  exact ⟨by first | rfl | (simp [errW_none, errW_some] <;> rfl) | (simp [*, errW_none, errW_some] <;> rfl), by repeat (first | (with_reducible first | exact HB.out | apply below_alloc | apply pw_below_drewN | apply below_drew1 | refine below_set ?_ GE808.out | refine below_set ?_ GE809.out | refine below_set ?_ GE810.out | refine below_set ?_ GE825.out | refine below_set ?_ GE831.out | refine below_set ?_ GE837.out | refine below_set ?_ GE843.out) | exact HB.out)⟩
  · replace c5 := Bool.eq_false_iff.mpr c5
    subst c5
    have H1 : (some false) = some r := by rw [if_neg (show ¬ (false = true) by decide)] at H; exact H
    clear H
    have H := H1
    clear H1
    obtain rfl := Option.some.inj H
    go_enter Try.func19, Try.ntmps19
    go_wp2_with (first | ((with_reducible refine gate_dst (N := 3) rfl ?_); refine box_event ?hg (N := 3) ?hd (cs := #[.string a0_0, .slice A0_1 l0_1.length c0_1]) (t := 51) ?hr ?_; (case hd => rfl); (case hg => rfl); (case hr => first | (go_simp; done) | (go_simp; rfl)); intro gb808 hg w127 hbox hb; have n0_ := Aside0.mk (below_step (by repeat (first | (with_reducible first | exact HB.out | apply below_alloc | apply pw_below_drewN | apply below_drew1) | exact HB.out)) hb); have n1_ := Aside0.mk (hbox); have n2_ := Aside0.mk ((by rw [hg]; exact (below_size (by repeat (first | (with_reducible first | exact HB.out | apply below_alloc | apply pw_below_drewN | apply below_drew1) | exact HB.out))) : w.heap.size ≤ gb808)); have n3_ := Aside0.mk ((by rw [hg]; exact (below_size (by repeat (first | (with_reducible first | exact HB.out | apply below_alloc | apply pw_below_drewN | apply below_drew1) | exact HB.out))) : w.heap.size ≤ gb808)); clear HB; have HB := n0_; have BK808 := n1_; have GW808 := n2_; have GE808 := n3_; clear n0_ n1_ n2_ n3_; clear hb hbox hg) | ((with_reducible refine gate_dst (N := 4) rfl ?_); refine box_event ?hg (N := 4) ?hd (cs := #[.int .i64 a1_0, .string a1_1, .slice A1_2 l1_2.length c1_2, .string a1_3, .slice A1_4 l1_4.length c1_4]) (t := 64) ?hr ?_; (case hd => rfl); (case hg => rfl); (case hr => first | (go_simp; done) | (go_simp; rfl)); intro gb809 hg w128 hbox hb; have n0_ := Aside0.mk (blk_below (g := gb808) (o := .cells #[.string a0_0, .slice A0_1 l0_1.length c0_1] 51 (0, 0)) (by (with_reducible repeat (first | refine blk_drewN ?_ _ | refine blk_drew ?_ | refine blk_alloc ?_ _)); exact BK808.out) hb); have n1_ := Aside0.mk (below_step (by repeat (first | (with_reducible first | exact HB.out | apply below_alloc | apply pw_below_drewN | apply below_drew1 | refine below_set ?_ GE808.out) | exact HB.out)) hb); have n2_ := Aside0.mk (hbox); have n3_ := Aside0.mk ((by rw [hg]; exact (below_size (by repeat (first | (with_reducible first | exact HB.out | apply below_alloc | apply pw_below_drewN | apply below_drew1 | refine below_set ?_ GE808.out) | exact HB.out))) : w.heap.size ≤ gb809)); have n4_ := Aside0.mk ((by rw [hg]; exact (below_size (by repeat (first | (with_reducible first | exact HB.out | apply below_alloc | apply pw_below_drewN | apply below_drew1 | refine below_set ?_ GE808.out) | exact HB.out))) : w.heap.size ≤ gb809)); have n5_ := Aside0.mk ((by rw [hg]; exact Nat.ne_of_lt (blk_lt (g := gb808) (o := .cells #[.string a0_0, .slice A0_1 l0_1.length c0_1] 51 (0, 0)) (by (with_reducible repeat (first | refine blk_drewN ?_ _ | refine blk_drew ?_ | refine blk_alloc ?_ _)); exact BK808.out)) : gb808 ≠ gb809)); have n6_ := Aside0.mk ((by rw [hg]; exact Nat.ne_of_gt (blk_lt (g := gb808) (o := .cells #[.string a0_0, .slice A0_1 l0_1.length c0_1] 51 (0, 0)) (by (with_reducible repeat (first | refine blk_drewN ?_ _ | refine blk_drew ?_ | refine blk_alloc ?_ _)); exact BK808.out)) : gb809 ≠ gb808)); clear BK808; clear HB; have BK808 := n0_; have HB := n1_; have BK809 := n2_; have GW809 := n3_; have GE809 := n4_; have NB808_809 := n5_; have NB809_808 := n6_; clear n0_ n1_ n2_ n3_ n4_ n5_ n6_; clear hb hbox hg) | ((with_reducible refine gate_dst (N := 5) rfl ?_); refine box_event ?hg (N := 5) ?hd (cs := #[.int .i64 a2_0, .string a2_1, .slice A2_2 l2_2.length c2_2, .string a2_3, .slice A2_4 l2_4.length c2_4]) (t := 64) ?hr ?_; (case hd => rfl); (case hg => rfl); (case hr => first | (go_simp; done) | (go_simp; rfl)); intro gb810 hg w129 hbox hb; have n0_ := Aside0.mk (blk_below (g := gb808) (o := .cells #[.string a0_0, .slice A0_1 l0_1.length c0_1] 51 (0, 0)) (by (with_reducible repeat (first | refine blk_drewN ?_ _ | refine blk_drew ?_ | refine blk_alloc ?_ _)); exact BK808.out) hb); have n1_ := Aside0.mk (blk_below (g := gb809) (o := .cells #[.int .i64 a1_0, .string a1_1, .slice A1_2 l1_2.length c1_2, .string a1_3, .slice A1_4 l1_4.length c1_4] 64 (0, 0)) (by (with_reducible repeat (first | refine blk_drewN ?_ _ | refine blk_drew ?_ | refine blk_alloc ?_ _)); exact BK809.out) hb); have n2_ := Aside0.mk (below_step (by repeat (first | (with_reducible first | exact HB.out | apply below_alloc | apply pw_below_drewN | apply below_drew1 | refine below_set ?_ GE808.out | refine below_set ?_ GE809.out) | exact HB.out)) hb); have n3_ := Aside0.mk (hbox); have n4_ := Aside0.mk ((by rw [hg]; exact (below_size (by repeat (first | (with_reducible first | exact HB.out | apply below_alloc | apply pw_below_drewN | apply below_drew1 | refine below_set ?_ GE808.out | refine below_set ?_ GE809.out) | exact HB.out))) : w.heap.size ≤ gb810)); have n5_ := Aside0.mk ((by rw [hg]; exact (below_size (by repeat (first | (with_reducible first | exact HB.out | apply below_alloc | apply pw_below_drewN | apply below_drew1 | refine below_set ?_ GE808.out | refine below_set ?_ GE809.out) | exact HB.out))) : w.heap.size ≤ gb810)); have n6_ := Aside0.mk ((by rw [hg]; exact Nat.ne_of_lt (blk_lt (g := gb808) (o := .cells #[.string a0_0, .slice A0_1 l0_1.length c0_1] 51 (0, 0)) (by (with_reducible repeat (first | refine blk_drewN ?_ _ | refine blk_drew ?_ | refine blk_alloc ?_ _)); exact BK808.out)) : gb808 ≠ gb810)); have n7_ := Aside0.mk ((by rw [hg]; exact Nat.ne_of_gt (blk_lt (g := gb808) (o := .cells #[.string a0_0, .slice A0_1 l0_1.length c0_1] 51 (0, 0)) (by (with_reducible repeat (first | refine blk_drewN ?_ _ | refine blk_drew ?_ | refine blk_alloc ?_ _)); exact BK808.out)) : gb810 ≠ gb808)); have n8_ := Aside0.mk ((by rw [hg]; exact Nat.ne_of_lt (blk_lt (g := gb809) (o := .cells #[.int .i64 a1_0, .string a1_1, .slice A1_2 l1_2.length c1_2, .string a1_3, .slice A1_4 l1_4.length c1_4] 64 (0, 0)) (by (with_reducible repeat (first | refine blk_drewN ?_ _ | refine blk_drew ?_ | refine blk_alloc ?_ _)); exact BK809.out)) : gb809 ≠ gb810)); have n9_ := Aside0.mk ((by rw [hg]; exact Nat.ne_of_gt (blk_lt (g := gb809) (o := .cells #[.int .i64 a1_0, .string a1_1, .slice A1_2 l1_2.length c1_2, .string a1_3, .slice A1_4 l1_4.length c1_4] 64 (0, 0)) (by (with_reducible repeat (first | refine blk_drewN ?_ _ | refine blk_drew ?_ | refine blk_alloc ?_ _)); exact BK809.out)) : gb810 ≠ gb809)); clear BK808; clear BK809; clear HB; have BK808 := n0_; have BK809 := n1_; have HB := n2_; have BK810 := n3_; have GW810 := n4_; have GE810 := n5_; have NB808_810 := n6_; have NB810_808 := n7_; have NB809_810 := n8_; have NB810_809 := n9_; clear n0_ n1_ n2_ n3_ n4_ n5_ n6_ n7_ n8_ n9_; clear hb hbox hg) | ((with_reducible refine gate_callee (f := 55) rfl ?_); refine goesL_ (some 15) rfl rfl Try.func55 (by kernel_rfl) rfl #[] rfl (by (try simp only [List.map_toArray, List.map_cons, List.map_nil]); first | done | rfl | (simp only [List.length_drop, List.length_take]; rfl)) ?_; (with_reducible refine (bureaulaw07_alive.calls k  false _ A4.out).mono ?_); rintro e w130 ⟨rfl, hb⟩; refine ⟨_, rfl, ?_⟩; have n0_ := Aside0.mk (blk_below (g := gb808) (o := .cells #[.string a0_0, .slice A0_1 l0_1.length c0_1] 51 (0, 0)) (by (with_reducible repeat (first | refine blk_drewN ?_ _ | refine blk_drew ?_ | refine blk_alloc ?_ _)); exact BK808.out) hb); have n1_ := Aside0.mk (blk_below (g := gb809) (o := .cells #[.int .i64 a1_0, .string a1_1, .slice A1_2 l1_2.length c1_2, .string a1_3, .slice A1_4 l1_4.length c1_4] 64 (0, 0)) (by (with_reducible repeat (first | refine blk_drewN ?_ _ | refine blk_drew ?_ | refine blk_alloc ?_ _)); exact BK809.out) hb); have n2_ := Aside0.mk (blk_below (g := gb810) (o := .cells #[.int .i64 a2_0, .string a2_1, .slice A2_2 l2_2.length c2_2, .string a2_3, .slice A2_4 l2_4.length c2_4] 64 (0, 0)) (by (with_reducible repeat (first | refine blk_drewN ?_ _ | refine blk_drew ?_ | refine blk_alloc ?_ _)); exact BK810.out) hb); have n3_ := Aside0.mk (below_step (by repeat (first | (with_reducible first | exact HB.out | apply below_alloc | apply pw_below_drewN | apply below_drew1 | refine below_set ?_ GE808.out | refine below_set ?_ GE809.out | refine below_set ?_ GE810.out) | exact HB.out)) hb); clear BK808; clear BK809; clear BK810; clear HB; have BK808 := n0_; have BK809 := n1_; have BK810 := n2_; have HB := n3_; clear n0_ n1_ n2_ n3_; (try clear hb); (try clear hb2); (try clear hk); (try clear hi)))
    go_ret
    exact ⟨by first | rfl | (simp [errW_none, errW_some] <;> rfl) | (simp [*, errW_none, errW_some] <;> rfl), by repeat (first | (with_reducible first | exact HB.out | apply below_alloc | apply pw_below_drewN | apply below_drew1 | refine below_set ?_ GE808.out | refine below_set ?_ GE809.out | refine below_set ?_ GE810.out) | exact HB.out)⟩
end Go.Proofs.Ythpjagblnddjaaa.PB
end

section
namespace Go.Proofs.Ythpjagblnddjaaa.PB
open Go.RowKit Go.Proofs.YthpjagblnddjaaaW.PrintWords
set_option linter.unusedVariables false
def totF : List S100 → Int → Int
  | [], n => n
  | r :: l, n => if r.f1 > 4096 - n then 4097 else totF l (n + (if r.f1 < 0 then 0 else r.f1))
def tot (l : List S100) : Int := totF l 0
def bytes (l : List S100) : List Int := l.flatMap fun r => List.replicate r.f1.toNat r.f0
def step1 (acc : List S100) (x : Int) : List S100 :=
  if 0 < acc.length ∧ (acc.getD (acc.length - 1) z100).f0 = x then acc.set (acc.length - 1) ⟨x, (acc.getD (acc.length - 1) z100).f1 + 1⟩ else acc ++ [⟨x, 1⟩]
def packTo (acc : List S100) (b : List Int) : List S100 := b.foldl step1 acc
def pack (b : List Int) : List S100 := packTo [] b
theorem packTo_append (acc : List S100) (a b : List Int) : packTo acc (a ++ b) = packTo (packTo acc a) b := List.foldl_append
theorem snoc_cases (acc : List S100) : acc = [] ∨ ∃ pre q, acc = pre ++ [q] := by
  rcases List.eq_nil_or_concat acc with h | ⟨pre, q, h⟩
  · exact .inl h
  · exact .inr ⟨pre, q, by rw [h, List.concat_eq_append]⟩
theorem getD_snoc (pre : List S100) (q : S100) : (pre ++ [q]).getD ((pre ++ [q]).length - 1) z100 = q := by
  simp [List.getD_eq_getElem?_getD]
theorem set_snoc (pre : List S100) (q r : S100) : (pre ++ [q]).set ((pre ++ [q]).length - 1) r = pre ++ [r] := by
  simp
theorem step1_nil (x : Int) : step1 [] x = [⟨x, 1⟩] := by simp [step1]
theorem step1_same (pre : List S100) (q : S100) : step1 (pre ++ [q]) q.f0 = pre ++ [⟨q.f0, q.f1 + 1⟩] := by
  unfold step1
  rw [getD_snoc, set_snoc, if_pos ⟨by simp, rfl⟩]
theorem step1_other (pre : List S100) (q : S100) (x : Int) (h : q.f0 ≠ x) : step1 (pre ++ [q]) x = pre ++ [q] ++ [⟨x, 1⟩] := by
  unfold step1
  rw [getD_snoc, if_neg (fun hh => h hh.2)]
theorem addRun_small (acc : List S100) (r : S100) (h : r.f1 < 1) : addRun acc r = acc := by simp [addRun, h]
theorem addRun_nil (r : S100) (h : ¬ r.f1 < 1) : addRun [] r = [r] := by simp [addRun, h]
theorem addRun_same (pre : List S100) (q r : S100) (h : ¬ r.f1 < 1) (he : q.f0 = r.f0) : addRun (pre ++ [q]) r = pre ++ [⟨q.f0, wrap64 (q.f1 + r.f1)⟩] := by
  unfold addRun
  rw [if_neg h, getD_snoc, set_snoc, if_pos (by simp), if_pos he]
theorem addRun_other (pre : List S100) (q r : S100) (h : ¬ r.f1 < 1) (he : ¬ q.f0 = r.f0) : addRun (pre ++ [q]) r = pre ++ [q] ++ [r] := by
  unfold addRun
  rw [if_neg h, getD_snoc, if_pos (by simp), if_neg he]
theorem packTo_rep_same (pre : List S100) (x : Int) : ∀ (n : Nat) (m : Int), packTo (pre ++ [⟨x, m⟩]) (List.replicate n x) = pre ++ [⟨x, m + n⟩]
  | 0, m => by simp [packTo]
  | n + 1, m => by
    rw [List.replicate_succ]
    show packTo (step1 (pre ++ [⟨x, m⟩]) x) _ = _
    rw [show step1 (pre ++ [(⟨x, m⟩ : S100)]) x = pre ++ [⟨x, m + 1⟩] from step1_same pre ⟨x, m⟩, packTo_rep_same pre x n (m + 1)]
    congr 3
    push_cast
    omega
def capped (B : Int) (acc : List S100) : Prop := ∀ r ∈ acc, 0 ≤ r.f1 ∧ r.f1 ≤ B
theorem addRun_pack (acc : List S100) (L : Int) (N : Nat) (B : Int) (hc : capped B acc) (hB : B + N ≤ 9223372036854775807) : addRun acc ⟨L, N⟩ = packTo acc (List.replicate N L) := by
  cases N with
  | zero => rw [addRun_small _ _ (by show ((0 : Nat) : Int) < 1; omega)]; rfl
  | succ n =>
    have h1 : ¬ ((⟨L, ((n + 1 : Nat) : Int)⟩ : S100).f1 < 1) := by show ¬ ((n + 1 : Nat) : Int) < 1; omega
    rw [List.replicate_succ]
    rcases snoc_cases acc with rfl | ⟨pre, q, rfl⟩
    · rw [addRun_nil _ h1]
      show _ = packTo (step1 [] L) _
      rw [step1_nil, ← List.nil_append [(⟨L, 1⟩ : S100)], packTo_rep_same]
      simp
      omega
    · show _ = packTo (step1 (pre ++ [q]) L) _
      by_cases he : q.f0 = L
      · subst he
        have hq := hc q (by simp)
        rw [addRun_same pre q ⟨q.f0, ((n + 1 : Nat) : Int)⟩ h1 rfl, step1_same, packTo_rep_same]
        congr 3
        show wrap64 (q.f1 + ((n + 1 : Nat) : Int)) = _
        unfold wrap64
        omega
      · rw [addRun_other _ _ _ h1 he, step1_other _ _ _ he, packTo_rep_same]
        simp
        omega
theorem capped_mono {B B' : Int} {acc : List S100} (h : capped B acc) (hB : B ≤ B') : capped B' acc := fun r hr => ⟨(h r hr).1, by have := (h r hr).2; omega⟩
theorem step1_capped {B : Int} {acc : List S100} (h : capped B acc) (hB : 0 ≤ B) (x : Int) : capped (B + 1) (step1 acc x) := by
  rcases snoc_cases acc with rfl | ⟨pre, q, rfl⟩
  · rw [step1_nil]
    intro r hr
    obtain rfl := List.mem_singleton.1 hr
    exact ⟨by show (0 : Int) ≤ 1; omega, by show (1 : Int) ≤ B + 1; omega⟩
  · by_cases he : q.f0 = x
    · subst he
      rw [step1_same]
      intro r hr
      rcases List.mem_append.1 hr with hr | hr
      · have := h r (List.mem_append_left _ hr); omega
      · obtain rfl := List.mem_singleton.1 hr
        have := h q (by simp)
        exact ⟨by show 0 ≤ q.f1 + 1; omega, by show q.f1 + 1 ≤ B + 1; omega⟩
    · rw [step1_other _ _ _ he]
      intro r hr
      rcases List.mem_append.1 hr with hr | hr
      · have := h r hr; omega
      · obtain rfl := List.mem_singleton.1 hr
        exact ⟨by show (0 : Int) ≤ 1; omega, by show (1 : Int) ≤ B + 1; omega⟩
theorem packTo_capped (b : List Int) : ∀ {B : Int} {acc : List S100}, capped B acc → 0 ≤ B → capped (B + b.length) (packTo acc b) := by
  induction b with
  | nil => intro B acc h hB; simpa [packTo] using h
  | cons x b ih =>
    intro B acc h hB
    have := ih (step1_capped h hB x) (by omega)
    show capped _ (packTo (step1 acc x) b)
    refine capped_mono this ?_
    rw [List.length_cons]
    push_cast
    omega
theorem bytes_cons (r : S100) (l : List S100) : bytes (r :: l) = List.replicate r.f1.toNat r.f0 ++ bytes l := by simp [bytes]
theorem bytes_append (a b : List S100) : bytes (a ++ b) = bytes a ++ bytes b := by simp [bytes]
theorem someTo_pack (a b : Nat) (l : List S100) : ∀ (p : Nat) (acc : List S100) (B : Int), (∀ r ∈ l, 0 ≤ r.f1) → capped B acc → 0 ≤ B → B + (bytes l).length ≤ 1000000 → p + (bytes l).length ≤ 1000000 → a ≤ 1000000 → b ≤ 1000000 →
    someTo addRun (a : Int) (b : Int) l (p : Int) acc = packTo acc (((bytes l).take (b - p)).drop (a - p)) := by
  induction l with
  | nil => intro p acc B _ _ _ _ _ _ _; simp [someTo, bytes, packTo]
  | cons r l ih =>
    intro p acc B h0 hc hB hlen hp ha hb
    obtain ⟨n, hn⟩ := Int.eq_ofNat_of_zero_le (h0 r List.mem_cons_self)
    have hn' : r.f1.toNat = n := by omega
    rw [bytes_cons, hn'] at hlen hp ⊢
    rw [List.length_append, List.length_replicate] at hlen hp
    push_cast at hlen hp
    have hw : wrap64 ((p : Int) + r.f1) = ((p + n : Nat) : Int) := by unfold wrap64; omega
    simp only [someTo]
    rw [hw]
    
    have hN : wrap64 ((if (b : Int) < ((p + n : Nat) : Int) then (b : Int) else ((p + n : Nat) : Int)) - (if (p : Int) < (a : Int) then (a : Int) else (p : Int))) = (min b (p + n) : Nat) - (max p a : Nat) := by
      unfold wrap64
      split <;> split <;> omega
    rw [hN]
    have hsplit : (((List.replicate n r.f0) ++ bytes l).take (b - p)).drop (a - p) = List.replicate (min b (p + n) - max p a) r.f0 ++ ((bytes l).take (b - (p + n))).drop (a - (p + n)) := by
      rw [List.take_append, List.drop_append, List.length_take, List.length_replicate, List.take_replicate, List.drop_replicate]
      congr 1
      · congr 1; omega
      · by_cases hbp : b ≤ p + n
        · rw [show b - p - n = 0 by omega, show b - (p + n) = 0 by omega]; simp
        · rw [show b - p - n = b - (p + n) by omega, show a - p - min (b - p) n = a - (p + n) by omega]
    rw [hsplit, packTo_append]
    by_cases hle : max p a ≤ min b (p + n)
    · rw [show ((min b (p + n) : Nat) : Int) - ((max p a : Nat) : Int) = ((min b (p + n) - max p a : Nat) : Int) by omega]
      rw [addRun_pack acc r.f0 _ B hc (by omega)]
      have hc2 := packTo_capped (List.replicate (min b (p + n) - max p a) r.f0) hc hB
      rw [List.length_replicate] at hc2
      exact ih (p + n) _ _ (fun r hr => h0 r (List.mem_cons_of_mem _ hr)) hc2 (by omega) (by omega) (by push_cast; omega) ha hb
    · rw [addRun_small _ _ (by show ((min b (p + n) : Nat) : Int) - ((max p a : Nat) : Int) < 1; omega), show min b (p + n) - max p a = 0 by omega]
      exact ih (p + n) acc B (fun r hr => h0 r (List.mem_cons_of_mem _ hr)) hc hB (by omega) (by push_cast; omega) ha hb
theorem totF_bytes (l : List S100) : ∀ n : Int, 0 ≤ n → totF l n ≤ 4096 → totF l n = n + (bytes l).length := by
  induction l with
  | nil => intro n _ h; simp [totF, bytes]
  | cons r l ih =>
    intro n h0 h
    simp only [totF] at h ⊢
    split at h
    · omega
    · rename_i hc
      rw [if_neg hc]
      rw [ih _ (by split <;> omega) h, bytes_cons, List.length_append, List.length_replicate]
      push_cast
      split <;> omega
theorem tot_bytes {l : List S100} (h : tot l ≤ 4096) : tot l = (bytes l).length := by
  have := totF_bytes l 0 (by omega) h
  unfold tot
  omega
theorem tot_of_bytes {l : List S100} (h0 : ∀ r ∈ l, 0 ≤ r.f1) (h : (bytes l).length ≤ 4096) : tot l = (bytes l).length := by
  have : ∀ (l : List S100) (n : Int), 0 ≤ n → (∀ r ∈ l, 0 ≤ r.f1) → n + (bytes l).length ≤ 4096 → totF l n = n + (bytes l).length := by
    intro l
    induction l with
    | nil => intro n _ _ _; simp [totF, bytes]
    | cons r l ih =>
      intro n hn h0 h
      have hr := h0 r List.mem_cons_self
      rw [bytes_cons, List.length_append, List.length_replicate] at h ⊢
      push_cast at h ⊢
      simp only [totF]
      rw [if_neg (by omega), if_neg (by omega), ih _ (by omega) (fun r hr => h0 r (List.mem_cons_of_mem _ hr)) (by omega)]
      omega
  have := this l 0 (by omega) h0 (by omega)
  unfold tot
  omega
def nrm : List S100 → Prop
  | [] => True
  | [r] => 1 ≤ r.f1
  | r :: s :: l => 1 ≤ r.f1 ∧ r.f0 ≠ s.f0 ∧ nrm (s :: l)
theorem nrm_tail {r : S100} {l : List S100} (h : nrm (r :: l)) : nrm l := by
  cases l with
  | nil => trivial
  | cons s l => exact h.2.2
theorem nrm_head {r : S100} {l : List S100} (h : nrm (r :: l)) : 1 ≤ r.f1 := by
  cases l with
  | nil => exact h
  | cons s l => exact h.1
theorem nrm_pos {l : List S100} (h : nrm l) : ∀ r ∈ l, 1 ≤ r.f1 := by
  induction l with
  | nil => intro r hr; cases hr
  | cons s l ih =>
    intro r hr
    rcases List.mem_cons.1 hr with rfl | hr
    · exact nrm_head h
    · exact ih (nrm_tail h) r hr
theorem nrm_snoc {pre : List S100} {q r : S100} : nrm (pre ++ [q]) → q.f0 ≠ r.f0 → 1 ≤ r.f1 → nrm (pre ++ [q] ++ [r]) := by
  induction pre with
  | nil => intro h h1 h2; exact ⟨h, h1, h2⟩
  | cons p pre ih =>
    intro h h1 h2
    cases pre with
    | nil => exact ⟨h.1, h.2.1, ih h.2.2 h1 h2⟩
    | cons s pre => exact ⟨h.1, h.2.1, ih h.2.2 h1 h2⟩
theorem nrm_last {pre : List S100} {q q' : S100} : nrm (pre ++ [q]) → q'.f0 = q.f0 → 1 ≤ q'.f1 → nrm (pre ++ [q']) := by
  induction pre with
  | nil => intro h h1 h2; exact h2
  | cons p pre ih =>
    intro h h1 h2
    cases pre with
    | nil => exact ⟨h.1, by rw [h1]; exact h.2.1, h2⟩
    | cons s pre => exact ⟨h.1, h.2.1, ih h.2.2 h1 h2⟩
theorem step1_nrm {acc : List S100} (h : nrm acc) (x : Int) : nrm (step1 acc x) := by
  rcases snoc_cases acc with rfl | ⟨pre, q, rfl⟩
  · rw [step1_nil]; show (1 : Int) ≤ 1; omega
  · by_cases he : q.f0 = x
    · subst he
      rw [step1_same]
      exact nrm_last h rfl (by have := nrm_pos h q (by simp); show 1 ≤ q.f1 + 1; omega)
    · rw [step1_other _ _ _ he]
      exact nrm_snoc h he (by show (1 : Int) ≤ 1; omega)
theorem packTo_nrm (b : List Int) : ∀ {acc : List S100}, nrm acc → nrm (packTo acc b) := by
  induction b with
  | nil => intro acc h; exact h
  | cons x b ih => intro acc h; exact ih (step1_nrm h x)
theorem pack_nrm (b : List Int) : nrm (pack b) := packTo_nrm b trivial
theorem step1_bytes {acc : List S100} (h : nrm acc) (x : Int) : bytes (step1 acc x) = bytes acc ++ [x] := by
  rcases snoc_cases acc with rfl | ⟨pre, q, rfl⟩
  · rw [step1_nil]; simp [bytes]
  · by_cases he : q.f0 = x
    · subst he
      have := nrm_pos h q (by simp)
      rw [step1_same, bytes_append, bytes_append, List.append_assoc]
      congr 1
      simp only [bytes, List.flatMap_cons, List.flatMap_nil, List.append_nil]
      rw [show (q.f1 + 1).toNat = q.f1.toNat + 1 by omega, List.replicate_succ']
    · rw [step1_other _ _ _ he, bytes_append]
      congr 1
theorem packTo_bytes (b : List Int) : ∀ {acc : List S100}, nrm acc → bytes (packTo acc b) = bytes acc ++ b := by
  induction b with
  | nil => intro acc h; simp [packTo]
  | cons x b ih =>
    intro acc h
    show bytes (packTo (step1 acc x) b) = _
    rw [ih (step1_nrm h x), step1_bytes h, List.append_assoc]
    rfl
theorem pack_bytes (b : List Int) : bytes (pack b) = b := by
  unfold pack
  rw [packTo_bytes b (acc := []) trivial]
  simp [bytes]
theorem packTo_normal (l : List S100) : ∀ (pre : List S100) (q : S100), nrm (q :: l) → packTo (pre ++ [q]) (bytes l) = pre ++ q :: l := by
  induction l with
  | nil => intro pre q _; simp [bytes, packTo]
  | cons s l ih =>
    intro pre q h
    have hs := nrm_head (nrm_tail h)
    obtain ⟨n, hn⟩ : ∃ n : Nat, s.f1 = ((n + 1 : Nat) : Int) := ⟨(s.f1 - 1).toNat, by omega⟩
    rw [bytes_cons, packTo_append, hn, Int.toNat_natCast, List.replicate_succ]
    show packTo (packTo (step1 (pre ++ [q]) s.f0) _) _ = _
    rw [step1_other _ _ _ h.2.1, packTo_rep_same]
    have e : (⟨s.f0, 1 + (n : Int)⟩ : S100) = s := by
      cases s
      simp only at hn
      subst hn
      congr 1
      push_cast
      omega
    rw [e, ih (pre ++ [q]) s (nrm_tail h)]
    simp
theorem pack_of_nrm {l : List S100} (h : nrm l) : pack (bytes l) = l := by
  cases l with
  | nil => rfl
  | cons s l =>
    have hs := nrm_head h
    obtain ⟨n, hn⟩ : ∃ n : Nat, s.f1 = ((n + 1 : Nat) : Int) := ⟨(s.f1 - 1).toNat, by omega⟩
    unfold pack
    rw [bytes_cons, packTo_append, hn, Int.toNat_natCast, List.replicate_succ]
    show packTo (packTo (step1 [] s.f0) _) _ = _
    rw [step1_nil, ← List.nil_append [(⟨s.f0, 1⟩ : S100)], packTo_rep_same]
    have e : (⟨s.f0, 1 + (n : Int)⟩ : S100) = s := by
      cases s
      simp only at hn
      subst hn
      congr 1
      push_cast
      omega
    rw [e, packTo_normal l [] s h]
    rfl
instance nrmDec : (l : List S100) → Decidable (nrm l)
  | [] => isTrue trivial
  | [r] => inferInstanceAs (Decidable (1 ≤ r.f1))
  | r :: s :: l => by
    have := nrmDec (s :: l)
    exact inferInstanceAs (Decidable (1 ≤ r.f1 ∧ r.f0 ≠ s.f0 ∧ nrm (s :: l)))
def good (l : List S100) : Bool := decide (nrm l) && decide (tot l ≤ 4096)
end Go.Proofs.Ythpjagblnddjaaa.PB
end

section
namespace Go.Proofs.Ythpjagblnddjaaa.PB
open Go.Proofs.YthpjagblnddjaaaW.PrintWords
theorem Ev.pos {α : Type} {c : Prop} [Decidable c] {A B : Nat → Option α} {r : α} (h : c) (k : Ev A r) : Ev (fun n => if c then A n else B n) r := by
  obtain ⟨K, hK⟩ := k
  exact ⟨K, fun n hn => by show (if c then A n else B n) = _; rw [if_pos h]; exact hK n hn⟩
theorem Ev.neg {α : Type} {c : Prop} [Decidable c] {A B : Nat → Option α} {r : α} (h : ¬ c) (k : Ev B r) : Ev (fun n => if c then A n else B n) r := by
  obtain ⟨K, hK⟩ := k
  exact ⟨K, fun n hn => by show (if c then A n else B n) = _; rw [if_neg h]; exact hK n hn⟩
theorem Ev.ite {α : Type} {c : Prop} [Decidable c] {A B : Nat → Option α} {r s : α} (h1 : c → Ev A r) (h2 : ¬ c → Ev B s) : Ev (fun n => if c then A n else B n) (if c then r else s) := by
  by_cases h : c
  · rw [if_pos h]; exact Ev.pos h (h1 h)
  · rw [if_neg h]; exact Ev.neg h (h2 h)
theorem Ev.ite' {α : Type} {c : Prop} [Decidable c] {A B : Nat → Option α} {r : α} (h1 : c → Ev A r) (h2 : ¬ c → Ev B r) : Ev (fun n => if c then A n else B n) r := by
  by_cases h : c
  · exact Ev.pos h (h1 h)
  · exact Ev.neg h (h2 h)
theorem ev_val {α : Type} {g : Nat → Option α} {a b : α} (h : Ev g a) (e : a = b) : Ev g b := e ▸ h
end Go.Proofs.Ythpjagblnddjaaa.PB
end
