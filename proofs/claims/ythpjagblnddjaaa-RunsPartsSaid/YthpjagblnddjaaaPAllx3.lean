-- by a program of this session's, out of the translation
import Derived.Test.YthpjagblnddjaaaPAllx0
import Derived.Test.YthpjagblnddjaaaPAllx2
namespace Go.Proofs.Ythpjagblnddjaaa.PAll
open Go.RowKit Go.Proofs.YthpjagblnddjaaaW.PrintWords Go.Proofs.YthpjagblnddjaaaW.PrintLast Go.Proofs.YthpjagblnddjaaaW.PrintMore
attribute [local go_sem] max2_int min2_int max_two min_two max_three min_three max_four min_four   -- for this text's walks alone
set_option linter.unusedVariables false
set_option linter.unusedSimpArgs false

/-! ### runs_At: function 34 -/
mutual
def runs_At.j0 : Nat → List (S100) → Int → Bool → Option (Int × Bool)
  | 0, _, _, _ => none
  | k + 1, x0, x1, x14 => if x14 = true then (some (0, false)) else (runs_At.l0 k x1 x0 (x0.length : Int) 0)
def runs_At.l0 : Nat → Int → List (S100) → Int → Int → Option (Int × Bool)
  | 0, _, _, _, _ => none
  | k + 1, x1, x15, x16, x17 => if x17 < x16 then (if 0 ≤ x17 then (if x17 < (x15.length : Int) then (if x1 < ((rd_T100 x15 x17).f1) then (some ((rd_T100 x15 x17).f0, true)) else (runs_At.l0 k (wrap64 (x1 - ((rd_T100 x15 x17).f1))) x15 x16 (wrap64 (x17 + 1)))) else (none)) else (none)) else (some (0, false))
end
def runs_At.f (k : Nat) (l0 : List (S100)) (a1 : Int) : Option (Int × Bool) := (runs_Good.f k l0).bind fun t109 => (if t109 = true then (runs_At.j0 k l0 a1 (decide (a1 < 0))) else (runs_At.j0 k l0 a1 true))
theorem runs_At.mono_l : ∀ k, (∀ y0 y1 y2, LeO (runs_At.j0 k y0 y1 y2) (runs_At.j0 (k + 1) y0 y1 y2)) ∧ (∀ y0 y1 y2 y3, LeO (runs_At.l0 k y0 y1 y2 y3) (runs_At.l0 (k + 1) y0 y1 y2 y3))
  | 0 => ⟨fun _ _ _ r h => by simp [runs_At.j0] at h, fun _ _ _ _ r h => by simp [runs_At.l0] at h⟩
  | k + 1 => by
    obtain ⟨ih0, ih1⟩ := runs_At.mono_l k
    refine ⟨?_, ?_⟩
    · intro y0 y1 y2
      unfold runs_At.j0
      repeat' first
      | (with_reducible exact ih0 _ _ _)
      | (with_reducible exact ih1 _ _ _ _)
      | (with_reducible exact runs_Good.mono _ _)
      | (with_reducible exact LeO.refl _)
      | (with_reducible exact LeO.none _)
      | (with_reducible refine LeO.ite ?_ ?_)
      | (with_reducible refine LeO.bind ?_ (fun _ => ?_))
      | exact ih0 _ _ _
      | exact ih1 _ _ _ _
      | exact runs_Good.mono _ _
      | exact LeO.none _
      | refine LeO.ite ?_ ?_
      | refine LeO.bind ?_ (fun _ => ?_)
    · intro y0 y1 y2 y3
      unfold runs_At.l0
      repeat' first
      | (with_reducible exact ih0 _ _ _)
      | (with_reducible exact ih1 _ _ _ _)
      | (with_reducible exact runs_Good.mono _ _)
      | (with_reducible exact LeO.refl _)
      | (with_reducible exact LeO.none _)
      | (with_reducible refine LeO.ite ?_ ?_)
      | (with_reducible refine LeO.bind ?_ (fun _ => ?_))
      | exact ih0 _ _ _
      | exact ih1 _ _ _ _
      | exact runs_Good.mono _ _
      | exact LeO.none _
      | refine LeO.ite ?_ ?_
      | refine LeO.bind ?_ (fun _ => ?_)
theorem runs_At.mono : ∀ a0 a1 k, LeO (runs_At.f k a0 a1) (runs_At.f (k + 1) a0 a1) := by
  intro a0 a1 k
  obtain ⟨ih0, ih1⟩ := runs_At.mono_l k
  unfold runs_At.f
  repeat' first
      | (with_reducible exact ih0 _ _ _)
      | (with_reducible exact ih1 _ _ _ _)
      | (with_reducible exact runs_Good.mono _ _)
      | (with_reducible exact LeO.refl _)
      | (with_reducible exact LeO.none _)
      | (with_reducible refine LeO.ite ?_ ?_)
      | (with_reducible refine LeO.bind ?_ (fun _ => ?_))
      | exact ih0 _ _ _
      | exact ih1 _ _ _ _
      | exact runs_Good.mono _ _
      | exact LeO.none _
      | refine LeO.ite ?_ ?_
      | refine LeO.bind ?_ (fun _ => ?_)
set_option maxHeartbeats 8000000 in
set_option maxRecDepth 100000 in
theorem runs_At.calls (k : Nat) (A0 : Option Addr) (c0 : Nat) (l0 : List (S100)) (a1 : Int) (r1 : Int) (r2 : Bool) (w : World) (hr0 : Kd.C k100 w A0 l0.length l0) (hc0 : l0.length ≤ c0) (h : runs_At.f k l0 a1 = some (r1, r2)) :
    Calls Try.prog 34 #[.slice A0 l0.length c0, .int .i64 a1] w fun e w' => e = .returned (.tuple #[.int .u64 r1, .bool r2]) ∧ Below w.heap.size w w' := by
  have hu100 := Try.underlying100
  have HR0 := Aside0.mk hr0
  have HC0 := Aside0.mk hc0
  clear hr0 hc0
  have HB := Aside0.mk (Below.refl w.heap.size w)
  have H : ((runs_Good.f k l0).bind fun t109 => (if t109 = true then (runs_At.j0 k l0 a1 (decide (a1 < 0))) else (runs_At.j0 k l0 a1 true))) = some (r1, r2) := h
  clear h
  have HC3 := Aside0.mk H
  clear H
  go_enter Try.func34, Try.ntmps34
  go_upto_region 1 with (fail)
  go_cut [14] (fun v14 wc => ∃ (kq : Nat) (x14_2 : Bool), v14 = .bool x14_2 ∧ Aside0 (runs_At.j0 kq l0 a1 x14_2 = some (r1, r2)) ∧ Aside0 (kq ≤ k) ∧ Aside0 (Below w.heap.size w wc))
  case first =>
    have H := HC3.out
    clear HC3
    replace H := Option.bind_eq_some_iff.mp H
    obtain ⟨t109, A40, H⟩ := H
    replace H : (if t109 = true then (runs_At.j0 k l0 a1 (decide (a1 < 0))) else (runs_At.j0 k l0 a1 true)) = some (r1, r2) := H
    have A4 := Aside0.mk A40
    clear A40
    by_cases c5 : t109 = true
    · subst c5
      have H1 : (runs_At.j0 k l0 a1 (decide (a1 < 0))) = some (r1, r2) := by rw [if_pos rfl] at H; exact H
      clear H
      have H := H1
      clear H1
      have H' := Aside0.mk H
      clear H
      go_wp2_with (first | ((with_reducible refine gate_callee (f := 28) rfl ?_); refine goesL_ (some 9) rfl rfl Try.func28 (by kernel_rfl) rfl #[.slice A0 l0.length c0] rfl (by (try simp only [List.map_toArray, List.map_cons, List.map_nil]); first | done | rfl | (simp only [List.length_drop, List.length_take]; rfl)) ?_; (with_reducible refine (runs_Good.calls k _ _ l0 true _ ?side1 ?side2 A4.out).mono ?_); (case side1 => repeat (first | exact (Kd.C_below HR0.out HB.out) | (with_reducible refine Kd.C_alloc ?_ _) | (with_reducible refine Kd.C_drewN ?_ _) | (with_reducible refine Kd.C_drew ?_))); (case side2 => exact HC0.out); rintro e w6 ⟨rfl, hb⟩; refine ⟨_, rfl, ?_⟩; have n0_ := Aside0.mk (below_step (by repeat (first | (with_reducible first | exact HB.out | apply below_alloc | apply pw_below_drewN | apply below_drew1) | exact HB.out)) hb); clear HB; have HB := n0_; clear n0_; (try clear hb); (try clear hb2); (try clear hk); (try clear hi)))
      go_meet
      case rel => exact ⟨_, (decide (a1 < 0)), (by first | rfl | (simp; done) | (simp [*]; done)), H', ⟨by first | omega | exact Nat.le_refl _⟩, ⟨by repeat (first | (with_reducible first | exact HB.out | apply below_alloc | apply pw_below_drewN | apply below_drew1) | exact HB.out)⟩⟩
    · replace c5 := Bool.eq_false_iff.mpr c5
      subst c5
      have H1 : (runs_At.j0 k l0 a1 true) = some (r1, r2) := by rw [if_neg (show ¬ (false = true) by decide)] at H; exact H
      clear H
      have H := H1
      clear H1
      have H' := Aside0.mk H
      clear H
      go_wp2_with (first | ((with_reducible refine gate_callee (f := 28) rfl ?_); refine goesL_ (some 9) rfl rfl Try.func28 (by kernel_rfl) rfl #[.slice A0 l0.length c0] rfl (by (try simp only [List.map_toArray, List.map_cons, List.map_nil]); first | done | rfl | (simp only [List.length_drop, List.length_take]; rfl)) ?_; (with_reducible refine (runs_Good.calls k _ _ l0 false _ ?side1 ?side2 A4.out).mono ?_); (case side1 => repeat (first | exact (Kd.C_below HR0.out HB.out) | (with_reducible refine Kd.C_alloc ?_ _) | (with_reducible refine Kd.C_drewN ?_ _) | (with_reducible refine Kd.C_drew ?_))); (case side2 => exact HC0.out); rintro e w7 ⟨rfl, hb⟩; refine ⟨_, rfl, ?_⟩; have n0_ := Aside0.mk (below_step (by repeat (first | (with_reducible first | exact HB.out | apply below_alloc | apply pw_below_drewN | apply below_drew1) | exact HB.out)) hb); clear HB; have HB := n0_; clear n0_; (try clear hb); (try clear hb2); (try clear hk); (try clear hi)))
      go_meet
      case rel => exact ⟨_, (true), (by first | rfl | (simp; done) | (simp [*]; done)), H', ⟨by first | omega | exact Nat.le_refl _⟩, ⟨by repeat (first | (with_reducible first | exact HB.out | apply below_alloc | apply pw_below_drewN | apply below_drew1) | exact HB.out)⟩⟩
  case rest =>
    clear HC3
    try clear c2
    try clear p2
    try clear c3
    try clear c5
    obtain ⟨kq, x14_2, rfl, HA, HJ2, HB⟩ := hcut
    cases kq with
    | zero => exact absurd HA.out (by simp [runs_At.j0])
    | succ kj2 =>
      have H := HA.out
      clear HA
      simp only [runs_At.j0] at H
      by_cases c8 : x14_2 = true
      · subst c8
        have H1 : (some (0, false)) = some (r1, r2) := by rw [if_pos rfl] at H; exact H
        clear H
        have H := H1
        clear H1
        simp only [Option.some.injEq, Prod.mk.injEq] at H
        obtain ⟨rfl, rfl⟩ := H
        go_wp2
        go_ret2
        exact ⟨by first | rfl | (simp [errW_none, errW_some] <;> rfl) | (simp [*, errW_none, errW_some] <;> rfl), by repeat (first | (with_reducible first | exact HB.out | apply below_alloc | apply pw_below_drewN | apply below_drew1) | exact HB.out)⟩
      · replace c8 := Bool.eq_false_iff.mpr c8
        subst c8
        have H1 : (runs_At.l0 kj2 a1 l0 (l0.length : Int) 0) = some (r1, r2) := by rw [if_neg (show ¬ (false = true) by decide)] at H; exact H
        clear H
        have H := H1
        clear H1
        have H' := Aside0.mk H
        clear H
        go_wp2
        go_loopg [1, 17] kj2 (fun kq v1 v17 w' => ∃ (x1_2 : Int) (x17_2 : Int), v1 = .int .i64 x1_2 ∧ v17 = .int .i64 x17_2 ∧ Aside0 (runs_At.l0 kq x1_2 l0 (l0.length : Int) x17_2 = some (r1, r2)) ∧ Aside0 (kq ≤ kj2) ∧ Aside0 (Below w.heap.size w w'))
        case atStart => exact ⟨(a1), (0), (by first | rfl | (simp; done) | (simp [*]; done)), (by first | rfl | (simp; done) | (simp [*]; done)), H', ⟨Nat.le_refl _⟩, ⟨by repeat (first | (with_reducible first | exact HB.out | apply below_alloc | apply pw_below_drewN | apply below_drew1) | exact HB.out)⟩⟩
        case round =>
          clear H'
          try clear c2
          try clear p2
          try clear c3
          try clear c5
          try clear c8
          try clear p2
          obtain ⟨x1_2, x17_2, rfl, rfl, HA, HK2, HB⟩ := hrel
          cases gk with
          | zero => exact absurd HA.out (by simp [runs_At.l0])
          | succ k2 =>
            have H := HA.out
            clear HA
            simp only [runs_At.l0] at H
            by_cases c9 : x17_2 < (l0.length : Int)
            · rw [if_pos c9] at H
              have c9b0 : decide (x17_2 < (l0.length : Int)) = true := decide_eq_true c9
              clear c9
              by_cases c10 : 0 ≤ x17_2
              · rw [if_pos c10] at H
                have c10b0 : decide (0 ≤ x17_2) = true := decide_eq_true c10
                clear c10
                by_cases c11 : x17_2 < (l0.length : Int)
                · rw [if_pos c11] at H
                  have c11b0 : decide (x17_2 < (l0.length : Int)) = true := decide_eq_true c11
                  clear c11
                  by_cases c12 : x1_2 < ((rd_T100 l0 x17_2).f1)
                  · rw [if_pos c12] at H
                    have c12b0 : decide (x1_2 < ((rd_T100 l0 x17_2).f1)) = true := decide_eq_true c12
                    clear c12
                    simp only [Option.some.injEq, Prod.mk.injEq] at H
                    obtain ⟨rfl, rfl⟩ := H
                    have p110 : 0 ≤ (x17_2 : Int) := of_decide_eq_true (by first | (with_reducible assumption) | assumption)
                    have q110 : x17_2 < (l0.length : Int) := of_decide_eq_true (by first | (with_reducible assumption) | assumption)
                    obtain ⟨ad110, e110, hx110_0, hx110_1⟩ := at_T100 HR0.out x17_2 p110 q110
                    cases e110
                    replace hx110_0 := (HB.out.cell (World.block_lt_of_cell? w _ hx110_0)).trans hx110_0
                    replace hx110_1 := (HB.out.cell (World.block_lt_of_cell? w _ hx110_1)).trans hx110_1
                    replace p110 := eq_true p110
                    replace q110 := eq_true q110
                    go_wp2_with (first | ((with_reducible refine gate_dst (N := 7) rfl ?_); refine box_event ?hg (N := 7) ?hd (cs := #[.int .u64 0, .int .i64 0]) (t := 100) ?hr ?_; (case hd => rfl); (case hg => rfl); (case hr => first | (go_simp; done) | (go_simp; rfl)); intro gb111 hg w13 hbox hb; have n0_ := Aside0.mk (below_step (by repeat (first | (with_reducible first | exact HB.out | apply below_alloc | apply pw_below_drewN | apply below_drew1) | exact HB.out)) hb); have n1_ := Aside0.mk (hbox); have n2_ := Aside0.mk ((by rw [hg]; exact (below_size (by repeat (first | (with_reducible first | exact HB.out | apply below_alloc | apply pw_below_drewN | apply below_drew1) | exact HB.out))) : w.heap.size ≤ gb111)); have n3_ := Aside0.mk ((by rw [hg]; exact (below_size (by repeat (first | (with_reducible first | exact HB.out | apply below_alloc | apply pw_below_drewN | apply below_drew1) | exact HB.out))) : w.heap.size ≤ gb111)); clear HB; have HB := n0_; have BK111 := n1_; have GW111 := n2_; have GE111 := n3_; clear n0_ n1_ n2_ n3_; clear hb hbox hg; have hcz14_0 : w13.cell? ⟨gb111, 0, none⟩ = some (.int .u64 0) := (blk_cell BK111.out 0).trans rfl; have hcz14_1 : w13.cell? ⟨gb111, 1, none⟩ = some (.int .i64 0) := (blk_cell BK111.out 1).trans rfl; have hfz14_0 := blk_frozen BK111.out 0; have hfz14_1 := blk_frozen BK111.out 1))
                    go_ret2
                    exact ⟨by first | rfl | (simp [errW_none, errW_some] <;> rfl) | (simp [*, errW_none, errW_some] <;> rfl), by repeat (first | (with_reducible first | exact HB.out | apply below_alloc | apply pw_below_drewN | apply below_drew1 | refine below_set ?_ GE111.out) | exact HB.out)⟩
                  · rw [if_neg c12] at H
                    have c12b0 : decide (x1_2 < ((rd_T100 l0 x17_2).f1)) = false := decide_eq_false c12
                    clear c12
                    have H' := Aside0.mk H
                    clear H
                    have p110 : 0 ≤ (x17_2 : Int) := of_decide_eq_true (by first | (with_reducible assumption) | assumption)
                    have q110 : x17_2 < (l0.length : Int) := of_decide_eq_true (by first | (with_reducible assumption) | assumption)
                    obtain ⟨ad110, e110, hx110_0, hx110_1⟩ := at_T100 HR0.out x17_2 p110 q110
                    cases e110
                    replace hx110_0 := (HB.out.cell (World.block_lt_of_cell? w _ hx110_0)).trans hx110_0
                    replace hx110_1 := (HB.out.cell (World.block_lt_of_cell? w _ hx110_1)).trans hx110_1
                    replace p110 := eq_true p110
                    replace q110 := eq_true q110
                    go_wp2_with (first | ((with_reducible refine gate_dst (N := 7) rfl ?_); refine box_event ?hg (N := 7) ?hd (cs := #[.int .u64 0, .int .i64 0]) (t := 100) ?hr ?_; (case hd => rfl); (case hg => rfl); (case hr => first | (go_simp; done) | (go_simp; rfl)); intro gb111 hg w15 hbox hb; have n0_ := Aside0.mk (below_step (by repeat (first | (with_reducible first | exact HB.out | apply below_alloc | apply pw_below_drewN | apply below_drew1) | exact HB.out)) hb); have n1_ := Aside0.mk (hbox); have n2_ := Aside0.mk ((by rw [hg]; exact (below_size (by repeat (first | (with_reducible first | exact HB.out | apply below_alloc | apply pw_below_drewN | apply below_drew1) | exact HB.out))) : w.heap.size ≤ gb111)); have n3_ := Aside0.mk ((by rw [hg]; exact (below_size (by repeat (first | (with_reducible first | exact HB.out | apply below_alloc | apply pw_below_drewN | apply below_drew1) | exact HB.out))) : w.heap.size ≤ gb111)); clear HB; have HB := n0_; have BK111 := n1_; have GW111 := n2_; have GE111 := n3_; clear n0_ n1_ n2_ n3_; clear hb hbox hg; have hcz16_0 : w15.cell? ⟨gb111, 0, none⟩ = some (.int .u64 0) := (blk_cell BK111.out 0).trans rfl; have hcz16_1 : w15.cell? ⟨gb111, 1, none⟩ = some (.int .i64 0) := (blk_cell BK111.out 1).trans rfl; have hfz16_0 := blk_frozen BK111.out 0; have hfz16_1 := blk_frozen BK111.out 1))
                    go_roundg k2
                    case measure => have := HJ2.out; have := HK2.out; omega
                    case rel => exact ⟨(wrap64 (x1_2 - ((rd_T100 l0 x17_2).f1))), (wrap64 (x17_2 + 1)), (by first | rfl | (simp; done) | (simp [*]; done)), (by first | rfl | (simp; done) | (simp [*]; done)), H', ⟨by have := HJ2.out; have := HK2.out; omega⟩, ⟨by repeat (first | (with_reducible first | exact HB.out | apply below_alloc | apply pw_below_drewN | apply below_drew1 | refine below_set ?_ GE111.out) | exact HB.out)⟩⟩
                · rw [if_neg c11] at H
                  exact absurd H (by simp)
              · rw [if_neg c10] at H
                exact absurd H (by simp)
            · rw [if_neg c9] at H
              have c9b0 : decide (x17_2 < (l0.length : Int)) = false := decide_eq_false c9
              clear c9
              simp only [Option.some.injEq, Prod.mk.injEq] at H
              obtain ⟨rfl, rfl⟩ := H
              go_wp2
              go_ret2
              exact ⟨by first | rfl | (simp [errW_none, errW_some] <;> rfl) | (simp [*, errW_none, errW_some] <;> rfl), by repeat (first | (with_reducible first | exact HB.out | apply below_alloc | apply pw_below_drewN | apply below_drew1) | exact HB.out)⟩

/-! ### bureauref03_Total: function 31 -/
def bureauref03_Total.l0 : Nat → List (S100) → Int → Int → Option (Int)
  | 0, _, _, _ => none
  | k + 1, x0, x3, x4 => if x4 < (x0.length : Int) then (if 0 ≤ x4 then (if ((rd_T100 x0 x4).f1) > (wrap64 (4096 - x3)) then (some 4097) else (if ((rd_T100 x0 x4).f1) > 0 then (bureauref03_Total.l0 k x0 (wrap64 (x3 + ((rd_T100 x0 x4).f1))) (wrap64 (x4 + 1))) else (bureauref03_Total.l0 k x0 x3 (wrap64 (x4 + 1))))) else (none)) else (some x3)
def bureauref03_Total.f (k : Nat) (l0 : List (S100)) : Option (Int) := bureauref03_Total.l0 k l0 0 0
theorem bureauref03_Total.mono_l : ∀ k, (∀ y0 y1 y2, LeO (bureauref03_Total.l0 k y0 y1 y2) (bureauref03_Total.l0 (k + 1) y0 y1 y2))
  | 0 => fun _ _ _ r h => by simp [bureauref03_Total.l0] at h
  | k + 1 => by
    have ih0 := bureauref03_Total.mono_l k
    · intro y0 y1 y2
      unfold bureauref03_Total.l0
      repeat' first
      | (with_reducible exact ih0 _ _ _)
      | (with_reducible exact LeO.refl _)
      | (with_reducible exact LeO.none _)
      | (with_reducible refine LeO.ite ?_ ?_)
      | (with_reducible refine LeO.bind ?_ (fun _ => ?_))
      | exact ih0 _ _ _
      | exact LeO.none _
      | refine LeO.ite ?_ ?_
      | refine LeO.bind ?_ (fun _ => ?_)
theorem bureauref03_Total.mono : ∀ a0 k, LeO (bureauref03_Total.f k a0) (bureauref03_Total.f (k + 1) a0) := by
  intro a0 k
  have ih0 := bureauref03_Total.mono_l k
  unfold bureauref03_Total.f
  repeat' first
      | (with_reducible exact ih0 _ _ _)
      | (with_reducible exact LeO.refl _)
      | (with_reducible exact LeO.none _)
      | (with_reducible refine LeO.ite ?_ ?_)
      | (with_reducible refine LeO.bind ?_ (fun _ => ?_))
      | exact ih0 _ _ _
      | exact LeO.none _
      | refine LeO.ite ?_ ?_
      | refine LeO.bind ?_ (fun _ => ?_)
set_option maxHeartbeats 8000000 in
set_option maxRecDepth 100000 in
theorem bureauref03_Total.calls (k : Nat) (A0 : Option Addr) (c0 : Nat) (l0 : List (S100)) (r : Int) (w : World) (hr0 : Kd.C k100 w A0 l0.length l0) (hc0 : l0.length ≤ c0) (h : bureauref03_Total.f k l0 = some r) :
    Calls Try.prog 31 #[.slice A0 l0.length c0] w fun e w' => e = .returned (.int .i64 r) ∧ Drawn0 w w' := by
  have HR0 := Aside0.mk hr0
  have HC0 := Aside0.mk hc0
  clear hr0 hc0
  have H : (bureauref03_Total.l0 k l0 0 0) = some r := h
  clear h
  have H' := Aside0.mk H
  clear H
  go_enter Try.func31, Try.ntmps31
  go_wp2
  go_loopg [3, 4] k (fun kq v3 v4 w' => ∃ (x3_1 : Int) (x4_1 : Int), v3 = .int .i64 x3_1 ∧ v4 = .int .i64 x4_1 ∧ Aside0 (bureauref03_Total.l0 kq l0 x3_1 x4_1 = some r) ∧ Aside0 (kq ≤ k) ∧ Drawn0 w w')
  case atStart => exact ⟨(0), (0), (by first | rfl | (simp; done) | (simp [*]; done)), (by first | rfl | (simp; done) | (simp [*]; done)), H', ⟨Nat.le_refl _⟩, by repeat (first | exact Drawn0.refl _ | apply Drawn0.step)⟩
  case round =>
    clear H'
    obtain ⟨x3_1, x4_1, rfl, rfl, HA, HK1, ⟨m1, rfl⟩⟩ := hrel
    cases gk with
    | zero => exact absurd HA.out (by simp [bureauref03_Total.l0])
    | succ k1 =>
      have H := HA.out
      clear HA
      simp only [bureauref03_Total.l0] at H
      by_cases c2 : x4_1 < (l0.length : Int)
      · rw [if_pos c2] at H
        have c2b0 : decide (x4_1 < (l0.length : Int)) = true := decide_eq_true c2
        clear c2
        by_cases c3 : 0 ≤ x4_1
        · rw [if_pos c3] at H
          have c3b0 : decide (0 ≤ x4_1) = true := decide_eq_true c3
          clear c3
          by_cases c4 : ((rd_T100 l0 x4_1).f1) > (wrap64 (4096 - x3_1))
          · rw [if_pos c4] at H
            have c4b0 : decide ((wrap64 (4096 - x3_1)) < ((rd_T100 l0 x4_1).f1)) = true := decide_eq_true c4
            clear c4
            obtain rfl := Option.some.inj H
            have p126 : 0 ≤ (x4_1 : Int) := of_decide_eq_true (by first | (with_reducible assumption) | assumption)
            have q126 : x4_1 < (l0.length : Int) := of_decide_eq_true (by first | (with_reducible assumption) | assumption)
            obtain ⟨ad126, e126, hx126_0, hx126_1⟩ := at_T100 HR0.out x4_1 p126 q126
            cases e126
            replace p126 := eq_true p126
            replace q126 := eq_true q126
            go_wp2
            go_ret
            exact ⟨by first | rfl | (simp; done) | (simp [*]; done), by repeat (first | exact Drawn0.refl _ | apply Drawn0.step)⟩
          · rw [if_neg c4] at H
            have c4b0 : decide ((wrap64 (4096 - x3_1)) < ((rd_T100 l0 x4_1).f1)) = false := decide_eq_false c4
            clear c4
            by_cases c5 : ((rd_T100 l0 x4_1).f1) > 0
            · rw [if_pos c5] at H
              have c5b0 : decide (0 < ((rd_T100 l0 x4_1).f1)) = true := decide_eq_true c5
              clear c5
              have H' := Aside0.mk H
              clear H
              have p126 : 0 ≤ (x4_1 : Int) := of_decide_eq_true (by first | (with_reducible assumption) | assumption)
              have q126 : x4_1 < (l0.length : Int) := of_decide_eq_true (by first | (with_reducible assumption) | assumption)
              obtain ⟨ad126, e126, hx126_0, hx126_1⟩ := at_T100 HR0.out x4_1 p126 q126
              cases e126
              replace p126 := eq_true p126
              replace q126 := eq_true q126
              have p127 : 0 ≤ (x4_1 : Int) := of_decide_eq_true (by first | (with_reducible assumption) | assumption)
              have q127 : x4_1 < (l0.length : Int) := of_decide_eq_true (by first | (with_reducible assumption) | assumption)
              obtain ⟨ad127, e127, hx127_0, hx127_1⟩ := at_T100 HR0.out x4_1 p127 q127
              obtain rfl : ad126 = ad127 := (by injection e127)
              replace p127 := eq_true p127
              replace q127 := eq_true q127
              have p128 : 0 ≤ (x4_1 : Int) := of_decide_eq_true (by first | (with_reducible assumption) | assumption)
              have q128 : x4_1 < (l0.length : Int) := of_decide_eq_true (by first | (with_reducible assumption) | assumption)
              obtain ⟨ad128, e128, hx128_0, hx128_1⟩ := at_T100 HR0.out x4_1 p128 q128
              obtain rfl : ad126 = ad128 := (by injection e128)
              replace p128 := eq_true p128
              replace q128 := eq_true q128
              go_wp2
              go_roundg k1
              case measure => have := HK1.out; omega
              case rel => exact ⟨(wrap64 (x3_1 + ((rd_T100 l0 x4_1).f1))), (wrap64 (x4_1 + 1)), (by first | rfl | (simp; done) | (simp [*]; done)), (by first | rfl | (simp; done) | (simp [*]; done)), H', ⟨by have := HK1.out; omega⟩, by repeat (first | exact Drawn0.refl _ | apply Drawn0.step)⟩
            · rw [if_neg c5] at H
              have c5b0 : decide (0 < ((rd_T100 l0 x4_1).f1)) = false := decide_eq_false c5
              clear c5
              have H' := Aside0.mk H
              clear H
              have p126 : 0 ≤ (x4_1 : Int) := of_decide_eq_true (by first | (with_reducible assumption) | assumption)
              have q126 : x4_1 < (l0.length : Int) := of_decide_eq_true (by first | (with_reducible assumption) | assumption)
              obtain ⟨ad126, e126, hx126_0, hx126_1⟩ := at_T100 HR0.out x4_1 p126 q126
              cases e126
              replace p126 := eq_true p126
              replace q126 := eq_true q126
              have p127 : 0 ≤ (x4_1 : Int) := of_decide_eq_true (by first | (with_reducible assumption) | assumption)
              have q127 : x4_1 < (l0.length : Int) := of_decide_eq_true (by first | (with_reducible assumption) | assumption)
              obtain ⟨ad127, e127, hx127_0, hx127_1⟩ := at_T100 HR0.out x4_1 p127 q127
              obtain rfl : ad126 = ad127 := (by injection e127)
              replace p127 := eq_true p127
              replace q127 := eq_true q127
              go_wp2
              go_roundg k1
              case measure => have := HK1.out; omega
              case rel => exact ⟨(x3_1), (wrap64 (x4_1 + 1)), (by first | rfl | (simp; done) | (simp [*]; done)), (by first | rfl | (simp; done) | (simp [*]; done)), H', ⟨by have := HK1.out; omega⟩, by repeat (first | exact Drawn0.refl _ | apply Drawn0.step)⟩
        · rw [if_neg c3] at H
          exact absurd H (by simp)
      · rw [if_neg c2] at H
        have c2b0 : decide (x4_1 < (l0.length : Int)) = false := decide_eq_false c2
        clear c2
        obtain rfl := Option.some.inj H
        go_wp2
        go_ret
        exact ⟨by first | rfl | (simp; done) | (simp [*]; done), by repeat (first | exact Drawn0.refl _ | apply Drawn0.step)⟩

/-! ### bureauref03_Pack: function 83 -/
def bureauref03_Pack.l0 : Nat → List Int → List (S100) → Int → Option ((List (S100)))
  | 0, _, _, _ => none
  | k + 1, x0, x3, x4 => if x4 < (x0.length : Int) then (if (x3.length : Int) > 0 then (if 0 ≤ (wrap64 ((x3.length : Int) - 1)) then (if (wrap64 ((x3.length : Int) - 1)) < (x3.length : Int) then (if 0 ≤ x4 then (if ((rd_T100 x3 (wrap64 ((x3.length : Int) - 1))).f0) = (rd x0 x4) then (bureauref03_Pack.l0 k x0 (x3.set ((wrap64 ((x3.length : Int) - 1)) : Int).toNat (⟨(rd_T100 x3 (wrap64 ((x3.length : Int) - 1))).f0, wrap64 (((rd_T100 x3 (wrap64 ((x3.length : Int) - 1))).f1) + 1)⟩ : S100)) (wrap64 (x4 + 1))) else (if x3.length < 8796093022208 then (bureauref03_Pack.l0 k x0 (x3 ++ [(⟨rd x0 x4, 1⟩ : S100)]) (wrap64 (x4 + 1))) else (none))) else (none)) else (none)) else (none)) else (if 0 ≤ x4 then (if x3.length < 8796093022208 then (bureauref03_Pack.l0 k x0 (x3 ++ [(⟨rd x0 x4, 1⟩ : S100)]) (wrap64 (x4 + 1))) else (none)) else (none))) else (some x3)
def bureauref03_Pack.f (k : Nat) (l0 : List Int) : Option ((List (S100))) := bureauref03_Pack.l0 k l0 ([] : List (S100)) 0
theorem bureauref03_Pack.mono_l : ∀ k, (∀ y0 y1 y2, LeO (bureauref03_Pack.l0 k y0 y1 y2) (bureauref03_Pack.l0 (k + 1) y0 y1 y2))
  | 0 => fun _ _ _ r h => by simp [bureauref03_Pack.l0] at h
  | k + 1 => by
    have ih0 := bureauref03_Pack.mono_l k
    · intro y0 y1 y2
      unfold bureauref03_Pack.l0
      repeat' first
      | (with_reducible exact ih0 _ _ _)
      | (with_reducible exact LeO.refl _)
      | (with_reducible exact LeO.none _)
      | (with_reducible refine LeO.ite ?_ ?_)
      | (with_reducible refine LeO.bind ?_ (fun _ => ?_))
      | exact ih0 _ _ _
      | exact LeO.none _
      | refine LeO.ite ?_ ?_
      | refine LeO.bind ?_ (fun _ => ?_)
theorem bureauref03_Pack.mono : ∀ a0 k, LeO (bureauref03_Pack.f k a0) (bureauref03_Pack.f (k + 1) a0) := by
  intro a0 k
  have ih0 := bureauref03_Pack.mono_l k
  unfold bureauref03_Pack.f
  repeat' first
      | (with_reducible exact ih0 _ _ _)
      | (with_reducible exact LeO.refl _)
      | (with_reducible exact LeO.none _)
      | (with_reducible refine LeO.ite ?_ ?_)
      | (with_reducible refine LeO.bind ?_ (fun _ => ?_))
      | exact ih0 _ _ _
      | exact LeO.none _
      | refine LeO.ite ?_ ?_
      | refine LeO.bind ?_ (fun _ => ?_)
set_option maxHeartbeats 8000000 in
set_option maxRecDepth 100000 in
theorem bureauref03_Pack.calls (k : Nat) (A0 : Option Addr) (c0 : Nat) (l0 : List Int) (r : List (S100)) (w : World) (hr0 : Kd.C (Kd.int .u64) w A0 l0.length l0) (hc0 : l0.length ≤ c0) (h : bureauref03_Pack.f k l0 = some r) :
    Calls Try.prog 83 #[.slice A0 l0.length c0] w fun e w' => ∃ v0_ : Value, e = .returned (v0_) ∧ Kd.R k100 100 w' w.heap.size (fun _ => True) v0_ r ∧ Below w.heap.size w w' := by
  have hu100 := Try.underlying100
  have HR0 := Aside0.mk hr0
  have HC0 := Aside0.mk hc0
  clear hr0 hc0
  have HB := Aside0.mk (Below.refl w.heap.size w)
  have H : (bureauref03_Pack.l0 k l0 ([] : List (S100)) 0) = some r := h
  clear h
  have H' := Aside0.mk H
  clear H
  go_enter Try.func83, Try.ntmps83
  go_wp2
  repeat (go_quiet (fail); try go_wp2)
  go_loopg [3, 4] k (fun kq v3 v4 w' => ∃ (x3_1 : List (S100)) (x4_1 : Int), v4 = .int .i64 x4_1 ∧ Aside0 (bureauref03_Pack.l0 kq l0 x3_1 x4_1 = some r) ∧ Aside0 (kq ≤ k) ∧ Aside0 (Kd.R k100 100 w' w.heap.size (fun _ => True) v3 x3_1) ∧ Aside0 (Below w.heap.size w w'))
  case atStart => exact ⟨(([] : List (S100))), (0), (by first | rfl | (simp; done) | (simp [*]; done)), H', ⟨Nat.le_refl _⟩, ⟨by first | exact Kd.R_nil _ _ _ _ _ | exact Kd.N_nil _ _ _ _ _ | exact Kd.V_nil _ _ _ _ _ | exact Kd.Q_nil _ _ _ _ _ | exact Kd.S_nil _ _ _ _ _⟩, ⟨by repeat (first | (with_reducible first | exact HB.out | apply below_alloc | apply pw_below_drewN | apply below_drew1) | exact HB.out)⟩⟩
  case round =>
    clear H'
    obtain ⟨x3_1, x4_1, rfl, HA, HK1, HO_3, HB⟩ := hrel
    cases gk with
    | zero => exact absurd HA.out (by simp [bureauref03_Pack.l0])
    | succ k1 =>
      have H := HA.out
      clear HA
      simp only [bureauref03_Pack.l0] at H
      by_cases c2 : x4_1 < (l0.length : Int)
      · rw [if_pos c2] at H
        have c2b0 : decide (x4_1 < (l0.length : Int)) = true := decide_eq_true c2
        clear c2
        by_cases c3 : (x3_1.length : Int) > 0
        · rw [if_pos c3] at H
          have c3b0 : decide (0 < (x3_1.length : Int)) = true := decide_eq_true c3
          have c3b1 : decide (0 < x3_1.length) = true := decide_eq_true (by omega)
          clear c3
          obtain ⟨ji4, hji4⟩ : ∃ j_ : Int, (wrap64 ((x3_1.length : Int) - 1)) = j_ := ⟨_, rfl⟩
          replace H : (if 0 ≤ (ji4) then (if (ji4) < (x3_1.length : Int) then (if 0 ≤ x4_1 then (if ((rd_T100 x3_1 (ji4)).f0) = (rd l0 x4_1) then (bureauref03_Pack.l0 k1 l0 (x3_1.set ((ji4) : Int).toNat (⟨(rd_T100 x3_1 (ji4)).f0, wrap64 (((rd_T100 x3_1 (ji4)).f1) + 1)⟩ : S100)) (wrap64 (x4_1 + 1))) else (if x3_1.length < 8796093022208 then (bureauref03_Pack.l0 k1 l0 (x3_1 ++ [(⟨rd l0 x4_1, 1⟩ : S100)]) (wrap64 (x4_1 + 1))) else (none))) else (none)) else (none)) else (none)) = some r := by first | (rw [hji4] at H; exact H) | (simp only [hji4] at H ⊢; exact H)
          have hji4w : (IntKind.i64.wrap ((x3_1.length : Int) - 1)) = ji4 := (i64_w _).trans hji4
          by_cases c5 : 0 ≤ (ji4)
          · rw [if_pos c5] at H
            have c5b0 : decide (0 ≤ (ji4)) = true := decide_eq_true c5
            clear c5
            by_cases c6 : (ji4) < (x3_1.length : Int)
            · rw [if_pos c6] at H
              have c6b0 : decide ((ji4) < (x3_1.length : Int)) = true := decide_eq_true c6
              clear c6
              by_cases c7 : 0 ≤ x4_1
              · rw [if_pos c7] at H
                have c7b0 : decide (0 ≤ x4_1) = true := decide_eq_true c7
                clear c7
                by_cases c8 : ((rd_T100 x3_1 (ji4)).f0) = (rd l0 x4_1)
                · rw [if_pos c8] at H
                  have c8b0 : (((rd_T100 x3_1 (ji4)).f0) == (rd l0 x4_1)) = true := beq_iff_eq.mpr c8
                  have c8b1 : (((rd_T100 x3_1 (ji4)).f0) != (rd l0 x4_1)) = false := bne_eq_false_iff_eq.mpr c8
                  clear c8
                  obtain ⟨y132, hy132⟩ : ∃ y_ : List (S100), y_ = (x3_1.set ((ji4) : Int).toNat (⟨(rd_T100 x3_1 (ji4)).f0, wrap64 (((rd_T100 x3_1 (ji4)).f1) + 1)⟩ : S100)) := ⟨_, rfl⟩
                  replace H : (bureauref03_Pack.l0 k1 l0 y132 (wrap64 (x4_1 + 1))) = some r := by first | (rw [hy132]; with_reducible exact H) | (have H2_ := (Option.bind_some _ _).symm.trans H; rw [hy132]; with_reducible exact H2_) | (have H2_ := (Option.bind_some _ _).symm.trans H; with_reducible exact H2_) | with_reducible exact H | (rw [hy132]; exact H) | exact H
                  have Ny132 := Aside0.mk hy132
                  clear hy132
                  have H' := Aside0.mk H
                  clear H
                  obtain ⟨Ao10, co10, eo10⟩ := Kd.R_slice HO_3.out
                  subst eo10
                  have p129 : 0 ≤ ((ji4) : Int) := of_decide_eq_true (by first | (with_reducible assumption) | assumption)
                  have q129 : (ji4) < (x3_1.length : Int) := of_decide_eq_true (by first | (with_reducible assumption) | assumption)
                  obtain ⟨ad129, e129, hx129_0, hx129_1⟩ := at_T100 (Kd.R_reads' HO_3.out).2.2 (ji4) p129 q129
                  cases e129
                  replace p129 := eq_true p129
                  replace q129 := eq_true q129
                  have p130 : 0 ≤ (x4_1 : Int) := of_decide_eq_true (by first | (with_reducible assumption) | assumption)
                  have q130 : x4_1 < (l0.length : Int) := of_decide_eq_true (by first | (with_reducible assumption) | assumption)
                  obtain ⟨ad130, e130, hx130_0⟩ := Kd.at_int HR0.out x4_1 p130 q130
                  cases e130
                  replace hx130_0 := (HB.out.cell (World.block_lt_of_cell? w _ hx130_0)).trans hx130_0
                  replace p130 := eq_true p130
                  replace q130 := eq_true q130
                  have p131 : 0 ≤ ((ji4) : Int) := of_decide_eq_true (by first | (with_reducible assumption) | assumption)
                  have q131 : (ji4) < (x3_1.length : Int) := of_decide_eq_true (by first | (with_reducible assumption) | assumption)
                  obtain ⟨ad131, e131, hx131_0, hx131_1⟩ := at_T100 (Kd.R_reads' HO_3.out).2.2 (ji4) p131 q131
                  obtain rfl : ad129 = ad131 := (by injection e131)
                  replace p131 := eq_true p131
                  replace q131 := eq_true q131
                  have p9 : 0 ≤ ((ji4) : Int) := of_decide_eq_true (by first | (with_reducible assumption) | assumption)
                  have q9 : ((ji4) : Int) < ((x3_1.length : Int) : Int) := of_decide_eq_true (by first | (with_reducible assumption) | assumption)
                  obtain ⟨go9, co9, eo9, gb9, gl9, cl9, HG9⟩ := Kd.R_form HO_3.out (by omega)
                  (first | cases eo9 | (injection eo9 with ea_ en_ ec_; (first | subst ea_ | (injection ea_ with ea_; subst ea_)); subst ec_; clear en_))
                  have GB9 := Aside0.mk gb9
                  have GG9 := Aside0.mk HG9
                  clear gb9 gl9 HG9
                  (first | simp only [add_plain] at hx129_0 | skip)
                  (first | simp only [add_plain] at hx129_1 | skip)
                  (first | simp only [add_plain] at hx131_0 | skip)
                  (first | simp only [add_plain] at hx131_1 | skip)
                  obtain ⟨ce9, hcl9, hM9, hcc9, hfr9⟩ := Kd.R_elem HO_3.out z100 ((ji4) : Int) p9 q9
                  obtain rfl := k100_openM hM9
                  have hx9_0 : wr.cell? ⟨go9, ((ji4) : Int).toNat * 2, none⟩ = some (.int .u64 ((rd_T100 x3_1 (ji4)).f0)) := hcc9 0 _ rfl
                  have hx9_1 : wr.cell? ⟨go9, ((ji4) : Int).toNat * 2 + 1, none⟩ = some (.int .i64 ((rd_T100 x3_1 (ji4)).f1)) := hcc9 1 _ rfl
                  have hf9_0 : wr.frozen? ⟨go9, ((ji4) : Int).toNat * 2, none⟩ = false := hfr9 0
                  have hf9_1 : wr.frozen? ⟨go9, ((ji4) : Int).toNat * 2 + 1, none⟩ = false := hfr9 1
                  clear hcl9 hcc9 hfr9 hM9
                  replace p9 := eq_true p9
                  replace q9 := eq_true q9
                  have HX11 := Aside0.mk (show Kd.R k100 100 wr w.heap.size (fun _ => True) (.slice (some ⟨go9, 0, none⟩) x3_1.length co10) x3_1 from (by (with_reducible repeat (first | apply Kd.R_alloc | apply Kd.R_drewN | apply Kd.R_drew)); exact HO_3.out))
                  obtain ⟨ce11, hcl11, hM11, hcc11, hfr11⟩ := Kd.R_elem HX11.out z100 ((ji4) : Int) (of_decide_eq_true (by first | (with_reducible assumption) | assumption)) (by have h_ : ((ji4) : Int) < ((x3_1.length : Int) : Int) := of_decide_eq_true (by first | (with_reducible assumption) | assumption); first | exact h_ | (have e_ := (Kd.R_reads' HO_3.out).1; omega) | simpa using h_)
                  obtain rfl := k100_openM hM11
                  have HP11 := Kd.R_seg HX11.out ((ji4) : Int) (of_decide_eq_true (by first | (with_reducible assumption) | assumption)) (by have h_ : ((ji4) : Int) < ((x3_1.length : Int) : Int) := of_decide_eq_true (by first | (with_reducible assumption) | assumption); first | exact h_ | (have e_ := (Kd.R_reads' HO_3.out).1; omega) | simpa using h_) (seg := [.int .i64 (wrap64 (((rd_T100 x3_1 (ji4)).f1) + 1))]) (j := 1) hcl11 hcc11 (show 2 ≤ 2 from by decide) (x' := (⟨(rd_T100 x3_1 (ji4)).f0, wrap64 (((rd_T100 x3_1 (ji4)).f1) + 1)⟩ : S100)) (k100_mkM _ _ _ (⟨(rd_T100 x3_1 (ji4)).f0, wrap64 (((rd_T100 x3_1 (ji4)).f1) + 1)⟩ : S100) ) (fun _ hk => hk)
                  have hx11_1 := hcc11 1 _ rfl
                  (try simp only [show (k100).sz = 2 from rfl, Nat.mul_one, Nat.add_zero] at hx11_1)
                  have hf11_1 := hfr11 1
                  (try simp only [show (k100).sz = 2 from rfl, Nat.mul_one, Nat.add_zero] at hf11_1)
                  clear hcl11 hcc11 hfr11 hM11
                  go_wp2_with (first | ((with_reducible refine gate_store (t := 3) (p := 37) rfl ?_); (try (rw [drewN_self wr]; generalize hq_ : World.drewN wr _ = wr; have n0_ := Aside0.mk (Kd.R_at hq_ HO_3.out); have n1_ := Aside0.mk (below_at hq_ HB.out); clear hq_ HO_3 HB; have HO_3 := n0_; have HB := n1_; clear n0_ n1_; (try (have HX11 := Aside0.mk (show Kd.R k100 100 wr w.heap.size (fun _ => True) (.slice (some ⟨go9, 0, none⟩) x3_1.length co10) x3_1 from (by (with_reducible repeat (first | apply Kd.R_alloc | apply Kd.R_drewN | apply Kd.R_drew)); exact HO_3.out)))); (try (obtain ⟨ce11, hcl11, hM11, hcc11, hfr11⟩ := Kd.R_elem HX11.out z100 ((ji4) : Int) (of_decide_eq_true (by first | (with_reducible assumption) | assumption)) (by have h_ : ((ji4) : Int) < ((x3_1.length : Int) : Int) := of_decide_eq_true (by first | (with_reducible assumption) | assumption); first | exact h_ | (have e_ := (Kd.R_reads' HO_3.out).1; omega) | simpa using h_))); (try (obtain rfl := k100_openM hM11)); (try (have HP11 := Kd.R_seg HX11.out ((ji4) : Int) (of_decide_eq_true (by first | (with_reducible assumption) | assumption)) (by have h_ : ((ji4) : Int) < ((x3_1.length : Int) : Int) := of_decide_eq_true (by first | (with_reducible assumption) | assumption); first | exact h_ | (have e_ := (Kd.R_reads' HO_3.out).1; omega) | simpa using h_) (seg := [.int .i64 (wrap64 (((rd_T100 x3_1 (ji4)).f1) + 1))]) (j := 1) hcl11 hcc11 (show 2 ≤ 2 from by decide) (x' := (⟨(rd_T100 x3_1 (ji4)).f0, wrap64 (((rd_T100 x3_1 (ji4)).f1) + 1)⟩ : S100)) (k100_mkM _ _ _ (⟨(rd_T100 x3_1 (ji4)).f0, wrap64 (((rd_T100 x3_1 (ji4)).f1) + 1)⟩ : S100) ) (fun _ hk => hk))); (try (have hx11_1 := hcc11 1 _ rfl)); (try (try simp only [show (k100).sz = 2 from rfl, Nat.mul_one, Nat.add_zero] at hx11_1)); (try (have hf11_1 := hfr11 1)); (try (try simp only [show (k100).sz = 2 from rfl, Nat.mul_one, Nat.add_zero] at hf11_1)); (try (clear hcl11 hcc11 hfr11 hM11)))); refine store_event (t := 3) (p := 37) (v := ?vo_w12) (w1 := (wr.setCell ⟨go9, ((ji4) : Int).toNat * 2 + 1, none⟩ (.int .i64 (wrap64 (((rd_T100 x3_1 (ji4)).f1) + 1))))) ?hg ?ho ?hn ?hr ?_; (case ho => rfl); (case hg => rfl); (case hn => rfl); (case hr => first | (go_simp; done) | (go_simp; rfl)); intro w12 hw; have hg : wr.grownBy w12 (some go9) := (by rw [hw]; exact HP11.2); have hp_ : Kd.R k100 100 w12 w.heap.size (fun _ => True) (.slice (some ⟨go9, 0, none⟩) x3_1.length co10) y132 := (by rw [hw, Ny132.out]; exact HP11.1); clear HP11; have n0_ := Aside0.mk (hp_); have n1_ := Aside0.mk ((by rw [hw]; exact below_set (HB.out) GB9.out : Below w.heap.size w w12)); clear HO_3; clear HB; have HO_3 := n0_; have HB := n1_; clear n0_ n1_; clear hg hw hp_))
                  repeat (go_quiet (first | ((with_reducible refine gate_store (t := 3) (p := 37) rfl ?_); (try (rw [drewN_self wr]; generalize hq_ : World.drewN wr _ = wr; have n0_ := Aside0.mk (Kd.R_at hq_ HO_3.out); have n1_ := Aside0.mk (below_at hq_ HB.out); clear hq_ HO_3 HB; have HO_3 := n0_; have HB := n1_; clear n0_ n1_; (try (have HX11 := Aside0.mk (show Kd.R k100 100 wr w.heap.size (fun _ => True) (.slice (some ⟨go9, 0, none⟩) x3_1.length co10) x3_1 from (by (with_reducible repeat (first | apply Kd.R_alloc | apply Kd.R_drewN | apply Kd.R_drew)); exact HO_3.out)))); (try (obtain ⟨ce11, hcl11, hM11, hcc11, hfr11⟩ := Kd.R_elem HX11.out z100 ((ji4) : Int) (of_decide_eq_true (by first | (with_reducible assumption) | assumption)) (by have h_ : ((ji4) : Int) < ((x3_1.length : Int) : Int) := of_decide_eq_true (by first | (with_reducible assumption) | assumption); first | exact h_ | (have e_ := (Kd.R_reads' HO_3.out).1; omega) | simpa using h_))); (try (obtain rfl := k100_openM hM11)); (try (have HP11 := Kd.R_seg HX11.out ((ji4) : Int) (of_decide_eq_true (by first | (with_reducible assumption) | assumption)) (by have h_ : ((ji4) : Int) < ((x3_1.length : Int) : Int) := of_decide_eq_true (by first | (with_reducible assumption) | assumption); first | exact h_ | (have e_ := (Kd.R_reads' HO_3.out).1; omega) | simpa using h_) (seg := [.int .i64 (wrap64 (((rd_T100 x3_1 (ji4)).f1) + 1))]) (j := 1) hcl11 hcc11 (show 2 ≤ 2 from by decide) (x' := (⟨(rd_T100 x3_1 (ji4)).f0, wrap64 (((rd_T100 x3_1 (ji4)).f1) + 1)⟩ : S100)) (k100_mkM _ _ _ (⟨(rd_T100 x3_1 (ji4)).f0, wrap64 (((rd_T100 x3_1 (ji4)).f1) + 1)⟩ : S100) ) (fun _ hk => hk))); (try (have hx11_1 := hcc11 1 _ rfl)); (try (try simp only [show (k100).sz = 2 from rfl, Nat.mul_one, Nat.add_zero] at hx11_1)); (try (have hf11_1 := hfr11 1)); (try (try simp only [show (k100).sz = 2 from rfl, Nat.mul_one, Nat.add_zero] at hf11_1)); (try (clear hcl11 hcc11 hfr11 hM11)))); refine store_event (t := 3) (p := 37) (v := ?vo_w12) (w1 := (wr.setCell ⟨go9, ((ji4) : Int).toNat * 2 + 1, none⟩ (.int .i64 (wrap64 (((rd_T100 x3_1 (ji4)).f1) + 1))))) ?hg ?ho ?hn ?hr ?_; (case ho => rfl); (case hg => rfl); (case hn => rfl); (case hr => first | (go_simp; done) | (go_simp; rfl)); intro w12 hw; have hg : wr.grownBy w12 (some go9) := (by rw [hw]; exact HP11.2); have hp_ : Kd.R k100 100 w12 w.heap.size (fun _ => True) (.slice (some ⟨go9, 0, none⟩) x3_1.length co10) y132 := (by rw [hw, Ny132.out]; exact HP11.1); clear HP11; have n0_ := Aside0.mk (hp_); have n1_ := Aside0.mk ((by rw [hw]; exact below_set (HB.out) GB9.out : Below w.heap.size w w12)); clear HO_3; clear HB; have HO_3 := n0_; have HB := n1_; clear n0_ n1_; clear hg hw hp_)); try go_wp2_with (first | ((with_reducible refine gate_store (t := 3) (p := 37) rfl ?_); (try (rw [drewN_self wr]; generalize hq_ : World.drewN wr _ = wr; have n0_ := Aside0.mk (Kd.R_at hq_ HO_3.out); have n1_ := Aside0.mk (below_at hq_ HB.out); clear hq_ HO_3 HB; have HO_3 := n0_; have HB := n1_; clear n0_ n1_; (try (have HX11 := Aside0.mk (show Kd.R k100 100 wr w.heap.size (fun _ => True) (.slice (some ⟨go9, 0, none⟩) x3_1.length co10) x3_1 from (by (with_reducible repeat (first | apply Kd.R_alloc | apply Kd.R_drewN | apply Kd.R_drew)); exact HO_3.out)))); (try (obtain ⟨ce11, hcl11, hM11, hcc11, hfr11⟩ := Kd.R_elem HX11.out z100 ((ji4) : Int) (of_decide_eq_true (by first | (with_reducible assumption) | assumption)) (by have h_ : ((ji4) : Int) < ((x3_1.length : Int) : Int) := of_decide_eq_true (by first | (with_reducible assumption) | assumption); first | exact h_ | (have e_ := (Kd.R_reads' HO_3.out).1; omega) | simpa using h_))); (try (obtain rfl := k100_openM hM11)); (try (have HP11 := Kd.R_seg HX11.out ((ji4) : Int) (of_decide_eq_true (by first | (with_reducible assumption) | assumption)) (by have h_ : ((ji4) : Int) < ((x3_1.length : Int) : Int) := of_decide_eq_true (by first | (with_reducible assumption) | assumption); first | exact h_ | (have e_ := (Kd.R_reads' HO_3.out).1; omega) | simpa using h_) (seg := [.int .i64 (wrap64 (((rd_T100 x3_1 (ji4)).f1) + 1))]) (j := 1) hcl11 hcc11 (show 2 ≤ 2 from by decide) (x' := (⟨(rd_T100 x3_1 (ji4)).f0, wrap64 (((rd_T100 x3_1 (ji4)).f1) + 1)⟩ : S100)) (k100_mkM _ _ _ (⟨(rd_T100 x3_1 (ji4)).f0, wrap64 (((rd_T100 x3_1 (ji4)).f1) + 1)⟩ : S100) ) (fun _ hk => hk))); (try (have hx11_1 := hcc11 1 _ rfl)); (try (try simp only [show (k100).sz = 2 from rfl, Nat.mul_one, Nat.add_zero] at hx11_1)); (try (have hf11_1 := hfr11 1)); (try (try simp only [show (k100).sz = 2 from rfl, Nat.mul_one, Nat.add_zero] at hf11_1)); (try (clear hcl11 hcc11 hfr11 hM11)))); refine store_event (t := 3) (p := 37) (v := ?vo_w12) (w1 := (wr.setCell ⟨go9, ((ji4) : Int).toNat * 2 + 1, none⟩ (.int .i64 (wrap64 (((rd_T100 x3_1 (ji4)).f1) + 1))))) ?hg ?ho ?hn ?hr ?_; (case ho => rfl); (case hg => rfl); (case hn => rfl); (case hr => first | (go_simp; done) | (go_simp; rfl)); intro w12 hw; have hg : wr.grownBy w12 (some go9) := (by rw [hw]; exact HP11.2); have hp_ : Kd.R k100 100 w12 w.heap.size (fun _ => True) (.slice (some ⟨go9, 0, none⟩) x3_1.length co10) y132 := (by rw [hw, Ny132.out]; exact HP11.1); clear HP11; have n0_ := Aside0.mk (hp_); have n1_ := Aside0.mk ((by rw [hw]; exact below_set (HB.out) GB9.out : Below w.heap.size w w12)); clear HO_3; clear HB; have HO_3 := n0_; have HB := n1_; clear n0_ n1_; clear hg hw hp_)))
                  go_roundg k1
                  case measure => have := HK1.out; omega
                  case rel => exact ⟨(y132), (wrap64 (x4_1 + 1)), (by first | rfl | (simp; done) | (simp [*]; done)), H', ⟨by have := HK1.out; omega⟩, ⟨by (with_reducible repeat (first | apply Kd.R_alloc | apply Kd.R_drewN | apply Kd.R_drew)); exact HO_3.out⟩, ⟨by repeat (first | (with_reducible first | exact HB.out | apply below_alloc | apply pw_below_drewN | apply below_drew1) | exact HB.out)⟩⟩
                · rw [if_neg c8] at H
                  have c8b0 : (((rd_T100 x3_1 (ji4)).f0) == (rd l0 x4_1)) = false := beq_eq_false_iff_ne.mpr c8
                  have c8b1 : (((rd_T100 x3_1 (ji4)).f0) != (rd l0 x4_1)) = true := bne_iff_ne.mpr c8
                  by_cases c13 : x3_1.length < 8796093022208
                  · rw [if_pos c13] at H
                    have LMc13 := Aside0.mk c13
                    clear c13
                    obtain ⟨y134, hy134⟩ : ∃ y_ : List (S100), y_ = (x3_1 ++ [(⟨rd l0 x4_1, 1⟩ : S100)]) := ⟨_, rfl⟩
                    replace H : (bureauref03_Pack.l0 k1 l0 y134 (wrap64 (x4_1 + 1))) = some r := by first | (rw [hy134]; with_reducible exact H) | (have H2_ := (Option.bind_some _ _).symm.trans H; rw [hy134]; with_reducible exact H2_) | (have H2_ := (Option.bind_some _ _).symm.trans H; with_reducible exact H2_) | with_reducible exact H | (rw [hy134]; exact H) | exact H
                    have Ny134 := Aside0.mk hy134
                    clear hy134
                    have H' := Aside0.mk H
                    clear H
                    obtain ⟨Ao14, co14, eo14⟩ := Kd.R_slice HO_3.out
                    subst eo14
                    have p129 : 0 ≤ ((ji4) : Int) := of_decide_eq_true (by first | (with_reducible assumption) | assumption)
                    have q129 : (ji4) < (x3_1.length : Int) := of_decide_eq_true (by first | (with_reducible assumption) | assumption)
                    obtain ⟨ad129, e129, hx129_0, hx129_1⟩ := at_T100 (Kd.R_reads' HO_3.out).2.2 (ji4) p129 q129
                    cases e129
                    replace p129 := eq_true p129
                    replace q129 := eq_true q129
                    have p130 : 0 ≤ (x4_1 : Int) := of_decide_eq_true (by first | (with_reducible assumption) | assumption)
                    have q130 : x4_1 < (l0.length : Int) := of_decide_eq_true (by first | (with_reducible assumption) | assumption)
                    obtain ⟨ad130, e130, hx130_0⟩ := Kd.at_int HR0.out x4_1 p130 q130
                    cases e130
                    replace hx130_0 := (HB.out.cell (World.block_lt_of_cell? w _ hx130_0)).trans hx130_0
                    replace p130 := eq_true p130
                    replace q130 := eq_true q130
                    have p133 : 0 ≤ (x4_1 : Int) := of_decide_eq_true (by first | (with_reducible assumption) | assumption)
                    have q133 : x4_1 < (l0.length : Int) := of_decide_eq_true (by first | (with_reducible assumption) | assumption)
                    obtain ⟨ad133, e133, hx133_0⟩ := Kd.at_int HR0.out x4_1 p133 q133
                    obtain rfl : ad130 = ad133 := (by injection e133)
                    replace hx133_0 := (HB.out.cell (World.block_lt_of_cell? w _ hx133_0)).trans hx133_0
                    replace p133 := eq_true p133
                    replace q133 := eq_true q133
                    go_wp2_with (first | ((with_reducible refine gate_builtin (b := .append) (xs := #[.tmp 38, .tmp 44]) rfl ?_); at_builtin; refine Kd.R_append k100 (w0 := w) w.heap.size rfl (.tmp 38) (.tmp 44) 22 100 (.agg #[(.int .u64 0), (.int .i64 0)]) 16 rfl Try.underlying22 info100 rfl (by decide) (by omega) (.slice (some ad129) x3_1.length co14) x3_1 (⟨rd l0 x4_1, 1⟩ : S100) [.int .u64 (rd l0 x4_1), .int .i64 1] (fun _ => True) (fun _ => False) rfl rfl ?aP (fun _ hk => hk.elim) ?aF ?aO ?aB ?aS ?aL ?_; (case aP => exact k100_mkM _ _ _ (⟨rd l0 x4_1, 1⟩ : S100)); (case aB => exact (by repeat (first | (with_reducible first | exact HB.out | apply below_alloc | apply pw_below_drewN | apply below_drew1) | exact HB.out))); (case aF => exact (fun _ _ => trivial)); (case aO => exact (by (with_reducible repeat (first | apply Kd.R_alloc | apply Kd.R_drewN | apply Kd.R_drew)); exact HO_3.out)); (case aS => exact (below_size (by repeat (first | (with_reducible first | exact HB.out | apply below_alloc | apply pw_below_drewN | apply below_drew1) | exact HB.out)))); (case aL => have := LMc13.out; omega); intro v135 w15 ho hb hg hat; rw [← Ny134.out] at ho; have n0_ := Aside0.mk (hb); have n1_ := Aside0.mk (ho); clear HB; clear HO_3; have HB := n0_; have HO136 := n1_; clear n0_ n1_; clear ho hb hg hat))
                    repeat (go_quiet (first | ((with_reducible refine gate_builtin (b := .append) (xs := #[.tmp 38, .tmp 44]) rfl ?_); at_builtin; refine Kd.R_append k100 (w0 := w) w.heap.size rfl (.tmp 38) (.tmp 44) 22 100 (.agg #[(.int .u64 0), (.int .i64 0)]) 16 rfl Try.underlying22 info100 rfl (by decide) (by omega) (.slice (some ad129) x3_1.length co14) x3_1 (⟨rd l0 x4_1, 1⟩ : S100) [.int .u64 (rd l0 x4_1), .int .i64 1] (fun _ => True) (fun _ => False) rfl rfl ?aP (fun _ hk => hk.elim) ?aF ?aO ?aB ?aS ?aL ?_; (case aP => exact k100_mkM _ _ _ (⟨rd l0 x4_1, 1⟩ : S100)); (case aB => exact (by repeat (first | (with_reducible first | exact HB.out | apply below_alloc | apply pw_below_drewN | apply below_drew1) | exact HB.out))); (case aF => exact (fun _ _ => trivial)); (case aO => exact (by (with_reducible repeat (first | apply Kd.R_alloc | apply Kd.R_drewN | apply Kd.R_drew)); exact HO_3.out)); (case aS => exact (below_size (by repeat (first | (with_reducible first | exact HB.out | apply below_alloc | apply pw_below_drewN | apply below_drew1) | exact HB.out)))); (case aL => have := LMc13.out; omega); intro v135 w15 ho hb hg hat; rw [← Ny134.out] at ho; have n0_ := Aside0.mk (hb); have n1_ := Aside0.mk (ho); clear HB; clear HO_3; have HB := n0_; have HO136 := n1_; clear n0_ n1_; clear ho hb hg hat)); try go_wp2_with (first | ((with_reducible refine gate_builtin (b := .append) (xs := #[.tmp 38, .tmp 44]) rfl ?_); at_builtin; refine Kd.R_append k100 (w0 := w) w.heap.size rfl (.tmp 38) (.tmp 44) 22 100 (.agg #[(.int .u64 0), (.int .i64 0)]) 16 rfl Try.underlying22 info100 rfl (by decide) (by omega) (.slice (some ad129) x3_1.length co14) x3_1 (⟨rd l0 x4_1, 1⟩ : S100) [.int .u64 (rd l0 x4_1), .int .i64 1] (fun _ => True) (fun _ => False) rfl rfl ?aP (fun _ hk => hk.elim) ?aF ?aO ?aB ?aS ?aL ?_; (case aP => exact k100_mkM _ _ _ (⟨rd l0 x4_1, 1⟩ : S100)); (case aB => exact (by repeat (first | (with_reducible first | exact HB.out | apply below_alloc | apply pw_below_drewN | apply below_drew1) | exact HB.out))); (case aF => exact (fun _ _ => trivial)); (case aO => exact (by (with_reducible repeat (first | apply Kd.R_alloc | apply Kd.R_drewN | apply Kd.R_drew)); exact HO_3.out)); (case aS => exact (below_size (by repeat (first | (with_reducible first | exact HB.out | apply below_alloc | apply pw_below_drewN | apply below_drew1) | exact HB.out)))); (case aL => have := LMc13.out; omega); intro v135 w15 ho hb hg hat; rw [← Ny134.out] at ho; have n0_ := Aside0.mk (hb); have n1_ := Aside0.mk (ho); clear HB; clear HO_3; have HB := n0_; have HO136 := n1_; clear n0_ n1_; clear ho hb hg hat)))
                    go_roundg k1
                    case measure => have := HK1.out; omega
                    case rel => exact ⟨(y134), (wrap64 (x4_1 + 1)), (by first | rfl | (simp; done) | (simp [*]; done)), H', ⟨by have := HK1.out; omega⟩, ⟨by (with_reducible repeat (first | apply Kd.R_alloc | apply Kd.R_drewN | apply Kd.R_drew)); exact HO136.out⟩, ⟨by repeat (first | (with_reducible first | exact HB.out | apply below_alloc | apply pw_below_drewN | apply below_drew1) | exact HB.out)⟩⟩
                  · rw [if_neg c13] at H
                    exact absurd H (by simp)
              · rw [if_neg c7] at H
                exact absurd H (by simp)
            · rw [if_neg c6] at H
              exact absurd H (by simp)
          · rw [if_neg c5] at H
            exact absurd H (by simp)
        · rw [if_neg c3] at H
          have c3b0 : decide (0 < (x3_1.length : Int)) = false := decide_eq_false c3
          have c3b1 : decide (0 < x3_1.length) = false := decide_eq_false (by omega)
          clear c3
          by_cases c16 : 0 ≤ x4_1
          · rw [if_pos c16] at H
            have c16b0 : decide (0 ≤ x4_1) = true := decide_eq_true c16
            clear c16
            by_cases c17 : x3_1.length < 8796093022208
            · rw [if_pos c17] at H
              have LMc17 := Aside0.mk c17
              clear c17
              obtain ⟨y138, hy138⟩ : ∃ y_ : List (S100), y_ = (x3_1 ++ [(⟨rd l0 x4_1, 1⟩ : S100)]) := ⟨_, rfl⟩
              replace H : (bureauref03_Pack.l0 k1 l0 y138 (wrap64 (x4_1 + 1))) = some r := by first | (rw [hy138]; with_reducible exact H) | (have H2_ := (Option.bind_some _ _).symm.trans H; rw [hy138]; with_reducible exact H2_) | (have H2_ := (Option.bind_some _ _).symm.trans H; with_reducible exact H2_) | with_reducible exact H | (rw [hy138]; exact H) | exact H
              have Ny138 := Aside0.mk hy138
              clear hy138
              have H' := Aside0.mk H
              clear H
              obtain ⟨Ao18, co18, eo18⟩ := Kd.R_slice HO_3.out
              subst eo18
              have p137 : 0 ≤ (x4_1 : Int) := of_decide_eq_true (by first | (with_reducible assumption) | assumption)
              have q137 : x4_1 < (l0.length : Int) := of_decide_eq_true (by first | (with_reducible assumption) | assumption)
              obtain ⟨ad137, e137, hx137_0⟩ := Kd.at_int HR0.out x4_1 p137 q137
              cases e137
              replace hx137_0 := (HB.out.cell (World.block_lt_of_cell? w _ hx137_0)).trans hx137_0
              replace p137 := eq_true p137
              replace q137 := eq_true q137
              go_wp2_with (first | ((with_reducible refine gate_builtin (b := .append) (xs := #[.tmp 38, .tmp 44]) rfl ?_); at_builtin; refine Kd.R_append k100 (w0 := w) w.heap.size rfl (.tmp 38) (.tmp 44) 22 100 (.agg #[(.int .u64 0), (.int .i64 0)]) 16 rfl Try.underlying22 info100 rfl (by decide) (by omega) (.slice Ao18 x3_1.length co18) x3_1 (⟨rd l0 x4_1, 1⟩ : S100) [.int .u64 (rd l0 x4_1), .int .i64 1] (fun _ => True) (fun _ => False) rfl rfl ?aP (fun _ hk => hk.elim) ?aF ?aO ?aB ?aS ?aL ?_; (case aP => exact k100_mkM _ _ _ (⟨rd l0 x4_1, 1⟩ : S100)); (case aB => exact (by repeat (first | (with_reducible first | exact HB.out | apply below_alloc | apply pw_below_drewN | apply below_drew1) | exact HB.out))); (case aF => exact (fun _ _ => trivial)); (case aO => exact (by (with_reducible repeat (first | apply Kd.R_alloc | apply Kd.R_drewN | apply Kd.R_drew)); exact HO_3.out)); (case aS => exact (below_size (by repeat (first | (with_reducible first | exact HB.out | apply below_alloc | apply pw_below_drewN | apply below_drew1) | exact HB.out)))); (case aL => have := LMc17.out; omega); intro v139 w19 ho hb hg hat; rw [← Ny138.out] at ho; have n0_ := Aside0.mk (hb); have n1_ := Aside0.mk (ho); clear HB; clear HO_3; have HB := n0_; have HO140 := n1_; clear n0_ n1_; clear ho hb hg hat))
              repeat (go_quiet (first | ((with_reducible refine gate_builtin (b := .append) (xs := #[.tmp 38, .tmp 44]) rfl ?_); at_builtin; refine Kd.R_append k100 (w0 := w) w.heap.size rfl (.tmp 38) (.tmp 44) 22 100 (.agg #[(.int .u64 0), (.int .i64 0)]) 16 rfl Try.underlying22 info100 rfl (by decide) (by omega) (.slice Ao18 x3_1.length co18) x3_1 (⟨rd l0 x4_1, 1⟩ : S100) [.int .u64 (rd l0 x4_1), .int .i64 1] (fun _ => True) (fun _ => False) rfl rfl ?aP (fun _ hk => hk.elim) ?aF ?aO ?aB ?aS ?aL ?_; (case aP => exact k100_mkM _ _ _ (⟨rd l0 x4_1, 1⟩ : S100)); (case aB => exact (by repeat (first | (with_reducible first | exact HB.out | apply below_alloc | apply pw_below_drewN | apply below_drew1) | exact HB.out))); (case aF => exact (fun _ _ => trivial)); (case aO => exact (by (with_reducible repeat (first | apply Kd.R_alloc | apply Kd.R_drewN | apply Kd.R_drew)); exact HO_3.out)); (case aS => exact (below_size (by repeat (first | (with_reducible first | exact HB.out | apply below_alloc | apply pw_below_drewN | apply below_drew1) | exact HB.out)))); (case aL => have := LMc17.out; omega); intro v139 w19 ho hb hg hat; rw [← Ny138.out] at ho; have n0_ := Aside0.mk (hb); have n1_ := Aside0.mk (ho); clear HB; clear HO_3; have HB := n0_; have HO140 := n1_; clear n0_ n1_; clear ho hb hg hat)); try go_wp2_with (first | ((with_reducible refine gate_builtin (b := .append) (xs := #[.tmp 38, .tmp 44]) rfl ?_); at_builtin; refine Kd.R_append k100 (w0 := w) w.heap.size rfl (.tmp 38) (.tmp 44) 22 100 (.agg #[(.int .u64 0), (.int .i64 0)]) 16 rfl Try.underlying22 info100 rfl (by decide) (by omega) (.slice Ao18 x3_1.length co18) x3_1 (⟨rd l0 x4_1, 1⟩ : S100) [.int .u64 (rd l0 x4_1), .int .i64 1] (fun _ => True) (fun _ => False) rfl rfl ?aP (fun _ hk => hk.elim) ?aF ?aO ?aB ?aS ?aL ?_; (case aP => exact k100_mkM _ _ _ (⟨rd l0 x4_1, 1⟩ : S100)); (case aB => exact (by repeat (first | (with_reducible first | exact HB.out | apply below_alloc | apply pw_below_drewN | apply below_drew1) | exact HB.out))); (case aF => exact (fun _ _ => trivial)); (case aO => exact (by (with_reducible repeat (first | apply Kd.R_alloc | apply Kd.R_drewN | apply Kd.R_drew)); exact HO_3.out)); (case aS => exact (below_size (by repeat (first | (with_reducible first | exact HB.out | apply below_alloc | apply pw_below_drewN | apply below_drew1) | exact HB.out)))); (case aL => have := LMc17.out; omega); intro v139 w19 ho hb hg hat; rw [← Ny138.out] at ho; have n0_ := Aside0.mk (hb); have n1_ := Aside0.mk (ho); clear HB; clear HO_3; have HB := n0_; have HO140 := n1_; clear n0_ n1_; clear ho hb hg hat)))
              go_roundg k1
              case measure => have := HK1.out; omega
              case rel => exact ⟨(y138), (wrap64 (x4_1 + 1)), (by first | rfl | (simp; done) | (simp [*]; done)), H', ⟨by have := HK1.out; omega⟩, ⟨by (with_reducible repeat (first | apply Kd.R_alloc | apply Kd.R_drewN | apply Kd.R_drew)); exact HO140.out⟩, ⟨by repeat (first | (with_reducible first | exact HB.out | apply below_alloc | apply pw_below_drewN | apply below_drew1) | exact HB.out)⟩⟩
            · rw [if_neg c17] at H
              exact absurd H (by simp)
          · rw [if_neg c16] at H
            exact absurd H (by simp)
      · rw [if_neg c2] at H
        have c2b0 : decide (x4_1 < (l0.length : Int)) = false := decide_eq_false c2
        clear c2
        obtain rfl := Option.some.inj H
        go_wp2
        repeat (go_quiet (fail); try go_wp2)
        go_ret
        exact ⟨_, by first | rfl | (simp [errW_none, errW_some] <;> rfl) | (simp [*, errW_none, errW_some] <;> rfl), by (with_reducible repeat (first | apply Kd.R_alloc | apply Kd.R_drewN | apply Kd.R_drew)); exact HO_3.out, by repeat (first | (with_reducible first | exact HB.out | apply below_alloc | apply pw_below_drewN | apply below_drew1) | exact HB.out)⟩

end Go.Proofs.Ythpjagblnddjaaa.PAll
