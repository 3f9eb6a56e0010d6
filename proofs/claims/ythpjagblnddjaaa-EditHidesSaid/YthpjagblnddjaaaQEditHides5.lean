/- What the row hangs on, part 5. -/
import Derived.Test.YthpjagblnddjaaaQEditHides4
section
namespace Go.Proofs.Ythpjagblnddjaaa.PB
open Go.RowKit Go.Proofs.YthpjagblnddjaaaW.PrintWords Go.Proofs.YthpjagblnddjaaaW.PrintLast Go.Proofs.YthpjagblnddjaaaW.PrintMore
attribute [local go_sem] max2_int min2_int max_two min_two max_three min_three max_four min_four   
set_option linter.unusedVariables false
set_option linter.unusedSimpArgs false
mutual
def bureauref04_Other.j0 : Nat → Int → ByteArray → Bool → ByteArray → List (S100) → Option (ByteArray × (List (S100)))
  | 0, _, _, _, _, _ => none
  | k + 1, x1, x2, x17, x742000, x742001 => if x17 = true then (some (x742000, x742001)) else ((bureauref03_Bytes.f k x742001).bind fun t744 => (bureauref04_Other.l0 k x1 x2 t744 ([] : List Int) 0 x742000 x742001))
def bureauref04_Other.l0 : Nat → Int → ByteArray → List Int → List Int → Int → ByteArray → List (S100) → Option (ByteArray × (List (S100)))
  | 0, _, _, _, _, _, _, _ => none
  | k + 1, x1, x2, x7, x8, x9, x742000, x742001 => if x9 < (x7.length : Int) then (if 0 ≤ x9 then ((bureauref01_Below.f (rd x7 x9) x1).bind fun t748 => (if t748 = true then (if x9 < (x742000.size : Int) then (if x8.length < 140737488355328 then (bureauref04_Other.l0 k x1 x2 x7 (x8 ++ [bt x742000 x9]) (wrap64 (x9 + 1)) x742000 x742001) else (none)) else (none)) else (if (x2.size : Int) = 0 then (none) else (if 0 ≤ (Int.tmod x9 (x2.size : Int)) then (if (Int.tmod x9 (x2.size : Int)) < (x2.size : Int) then (if x8.length < 140737488355328 then (bureauref04_Other.l0 k x1 x2 x7 (x8 ++ [bt x2 (Int.tmod x9 (x2.size : Int))]) (wrap64 (x9 + 1)) x742000 x742001) else (none)) else (none)) else (none))))) else (none)) else (some (strOfNums x8, x742001))
end
def bureauref04_Other.f (k : Nat) (a0_0 : ByteArray) (l0_1 : List (S100)) (a1 : Int) (a2 : ByteArray) : Option (ByteArray × (List (S100))) := (bureauref04_Good.f k a0_0 l0_1).bind fun t743 => (if t743 = true then (bureauref04_Other.j0 k a1 a2 ((a2.size : Int) == 0) a0_0 l0_1) else (bureauref04_Other.j0 k a1 a2 true a0_0 l0_1))
set_option maxHeartbeats 8000000 in
set_option maxRecDepth 100000 in
theorem bureauref04_Other.calls (k : Nat) (a0_0 : ByteArray) (P0_1_ : Nat → Prop) (A0_1 : Option Addr) (c0_1 : Nat) (l0_1 : List (S100)) (a1 : Int) (a2 : ByteArray) (r1 : ByteArray) (r2 : List (S100)) (w : World) (hs0_1 : Kd.V k100 100 w w.heap.size (fun k_ => P0_1_ k_) (.slice A0_1 l0_1.length c0_1) l0_1) (h : bureauref04_Other.f k a0_0 l0_1 a1 a2 = some (r1, r2)) :
    Calls Try.prog 66 #[.agg #[.string a0_0, .slice A0_1 l0_1.length c0_1], .int .u64 a1, .string a2] w fun e w' => ∃ v1_ : Value, e = .returned (.agg #[.string r1, v1_]) ∧ Kd.V k100 100 w' w.heap.size (fun k_ => (P0_1_ k_ ∨ w.heap.size ≤ k_)) v1_ r2 ∧ Below w.heap.size w w' := by
  have hu51 := Try.underlying51
  have HO0_1 := aM (show Kd.V k100 100 w w.heap.size (fun k_ => (P0_1_ k_ ∨ w.heap.size ≤ k_)) (.slice A0_1 l0_1.length c0_1) l0_1 from Kd.V_mono hs0_1 (fun k_ hk => .inl hk))
  have HB := aM (Below.refl w.heap.size w)
  have H : ((bureauref04_Good.f k a0_0 l0_1).bind fun t743 => (if t743 = true then (bureauref04_Other.j0 k a1 a2 ((a2.size : Int) == 0) a0_0 l0_1) else (bureauref04_Other.j0 k a1 a2 true a0_0 l0_1))) = some (r1, r2) := h
  clear h
  have HC4 := aM H
  clear H
  go_enter Try.func66, Try.ntmps66
  go_upto_region 1 with (first | ((with_reducible refine gate_dst (N := 3) rfl ?_); (try (refine gate_guard (by rfl) ?_; dsimp only)); refine box_event ?hg (N := 3) ?hd (cs := #[.string a0_0, .slice A0_1 l0_1.length c0_1]) (t := 51) ?hr ?_; (case hd => rfl); (case hg => rfl); (case hr => first | (go_simp; done) | (go_simp; rfl)); intro gb741 hg w5 hbox hb; have n0_ := aM (Kd.V_below (Kd.V_elderB (by (with_reducible repeat (first | apply va | apply vn | apply vd)); exact HO0_1.out) gb741 (Nat.le_of_eq hg.symm)) hb); have n1_ := aM (bP (by repeat (first | (with_reducible first | exact HB.out | apply ea | apply en | apply ed) | exact HB.out)) hb); have n2_ := aM (hbox); have n3_ := aM ((by rw [hg]; exact (bZ (by repeat (first | (with_reducible first | exact HB.out | apply ea | apply en | apply ed) | exact HB.out))) : w.heap.size ≤ gb741)); have n4_ := aM ((by rw [hg]; exact (bZ (by repeat (first | (with_reducible first | exact HB.out | apply ea | apply en | apply ed) | exact HB.out))) : w.heap.size ≤ gb741)); clear HO0_1; clear HB; have HO0_1 := n0_; have HB := n1_; have BK741 := n2_; have GW741 := n3_; have GE741 := n4_; clear n0_ n1_ n2_ n3_ n4_; clear hb hbox hg) | ((with_reducible refine gate_dst (N := 6) rfl ?_); (try (refine gate_guard (by rfl) ?_; dsimp only)); refine box_event ?hg (N := 6) ?hd (cs := #[.string (⟨#[]⟩ : ByteArray), .slice none 0 0]) (t := 51) ?hr ?_; (case hd => rfl); (case hg => rfl); (case hr => first | (go_simp; done) | (go_simp; rfl)); intro gb742 hg w6 hbox hb; have n0_ := aM (Kd.V_below (Kd.V_elderB (by (with_reducible repeat (first | apply va | apply vn | apply vd)); exact HO0_1.out) gb742 (Nat.le_of_eq hg.symm)) hb); have n1_ := aM (bB (g := gb741) (o := .cells #[.string a0_0, .slice A0_1 l0_1.length c0_1] 51 (0, 0)) (by (with_reducible repeat (first | refine qn ?_ _ | refine qd ?_ | refine qa ?_ _)); exact BK741.out) hb); have n2_ := aM (bP (by repeat (first | (with_reducible first | exact HB.out | apply ea | apply en | apply ed | refine es ?_ GE741.out) | exact HB.out)) hb); have n3_ := aM (hbox); have n4_ := aM ((by rw [hg]; exact (bZ (by repeat (first | (with_reducible first | exact HB.out | apply ea | apply en | apply ed | refine es ?_ GE741.out) | exact HB.out))) : w.heap.size ≤ gb742)); have n5_ := aM ((by rw [hg]; exact (bZ (by repeat (first | (with_reducible first | exact HB.out | apply ea | apply en | apply ed | refine es ?_ GE741.out) | exact HB.out))) : w.heap.size ≤ gb742)); have n6_ := aM ((by rw [hg]; exact Nat.ne_of_lt (blk_lt (g := gb741) (o := .cells #[.string a0_0, .slice A0_1 l0_1.length c0_1] 51 (0, 0)) (by (with_reducible repeat (first | refine qn ?_ _ | refine qd ?_ | refine qa ?_ _)); exact BK741.out)) : gb741 ≠ gb742)); have n7_ := aM ((by rw [hg]; exact Nat.ne_of_gt (blk_lt (g := gb741) (o := .cells #[.string a0_0, .slice A0_1 l0_1.length c0_1] 51 (0, 0)) (by (with_reducible repeat (first | refine qn ?_ _ | refine qd ?_ | refine qa ?_ _)); exact BK741.out)) : gb742 ≠ gb741)); clear HO0_1; clear BK741; clear HB; have HO0_1 := n0_; have BK741 := n1_; have HB := n2_; have BK742 := n3_; have GW742 := n4_; have GE742 := n5_; have NB741_742 := n6_; have NB742_741 := n7_; clear n0_ n1_ n2_ n3_ n4_ n5_ n6_ n7_; clear hb hbox hg))
  (try simp only [Act.put, List.setIfInBounds_toArray, List.set_cons_zero, List.set_cons_succ])
  go_cut [17] (fun v17 wc => ∃ (kq : Nat) (x17_3 : Bool), v17 = .bool x17_3 ∧ Aside0 (bureauref04_Other.j0 kq a1 a2 x17_3 a0_0 l0_1 = some (r1, r2)) ∧ Aside0 (kq ≤ k) ∧ Aside0 (Kd.V k100 100 wc w.heap.size (fun k_ => (P0_1_ k_ ∨ w.heap.size ≤ k_) ∧ k_ ≠ gb741 ∧ k_ ≠ gb742) (.slice A0_1 l0_1.length c0_1) l0_1) ∧ Aside0 (wc.heap[gb741]? = some (.cells #[.string a0_0, (.slice A0_1 l0_1.length c0_1)] 51 (0, 0))) ∧ Aside0 (wc.heap[gb742]? = some (.cells #[.string (⟨#[]⟩ : ByteArray), (.slice none 0 0)] 51 (0, 0))) ∧ Aside0 (Below w.heap.size w wc))
  case first =>
    have H := HC4.out
    clear HC4
    replace H := Option.bind_eq_some_iff.mp H
    obtain ⟨t743, A70, H⟩ := H
    replace H : (if t743 = true then (bureauref04_Other.j0 k a1 a2 ((a2.size : Int) == 0) a0_0 l0_1) else (bureauref04_Other.j0 k a1 a2 true a0_0 l0_1)) = some (r1, r2) := H
    have A7 := aM A70
    clear A70
    by_cases c8 : t743 = true
    · subst c8
      have H1 : (bureauref04_Other.j0 k a1 a2 ((a2.size : Int) == 0) a0_0 l0_1) = some (r1, r2) := by rw [if_pos rfl] at H; exact H
      clear H
      have H := H1
      clear H1
      have H' := aM H
      clear H
      have hnb9 := NB741_742.out
      have hnc9 := NB742_741.out
      have hcz10_0 : w6.cell? ⟨gb741, 0, none⟩ = some (.string a0_0) := (bC BK741.out 0).trans rfl
      have hcz10_1 : w6.cell? ⟨gb741, 1, none⟩ = some (.slice A0_1 l0_1.length c0_1) := (bC BK741.out 1).trans rfl
      have hfz10_0 := bF BK741.out 0
      have hfz10_1 := bF BK741.out 1
      go_wp2_with (first | ((with_reducible refine gate_callee (f := 50) rfl ?_); refine goesL_ (some 11) rfl rfl Try.func50 (by kernel_rfl) rfl #[.agg #[.string a0_0, .slice A0_1 l0_1.length c0_1]] rfl (by (try simp only [List.map_toArray, List.map_cons, List.map_nil]); first | done | rfl | (simp only [List.length_drop, List.length_take]; rfl)) ?_; (with_reducible refine (bureauref04_Good.calls k a0_0 _ _ l0_1 true _ ?side1 ?side2 A7.out).mono ?_); (case side1 => repeat (first | exact (Kd.V_reads' HO0_1.out).2.2 | (with_reducible refine Kd.C_alloc ?_ _) | (with_reducible refine Kd.C_drewN ?_ _) | (with_reducible refine Kd.C_drew ?_))); (case side2 => exact (Kd.V_reads' HO0_1.out).2.1); rintro e w11 ⟨rfl, hb⟩; refine ⟨_, rfl, ?_⟩; have n0_ := aM (Kd.V_below (by (with_reducible repeat (first | apply va | apply vn | apply vd)); exact HO0_1.out) hb); have n1_ := aM (bB (g := gb741) (o := .cells #[.string a0_0, .slice A0_1 l0_1.length c0_1] 51 (0, 0)) (by (with_reducible repeat (first | refine qn ?_ _ | refine qd ?_ | refine qa ?_ _)); exact BK741.out) hb); have n2_ := aM (bB (g := gb742) (o := .cells #[.string (⟨#[]⟩ : ByteArray), .slice none 0 0] 51 (0, 0)) (by (with_reducible repeat (first | refine qn ?_ _ | refine qd ?_ | refine qa ?_ _)); exact BK742.out) hb); have n3_ := aM (bP (by repeat (first | (with_reducible first | exact HB.out | apply ea | apply en | apply ed | refine es ?_ GE741.out | refine es ?_ GE742.out) | exact HB.out)) hb); clear HO0_1; clear BK741; clear BK742; clear HB; have HO0_1 := n0_; have BK741 := n1_; have BK742 := n2_; have HB := n3_; clear n0_ n1_ n2_ n3_; (try clear hb); (try clear hb2); (try clear hk); (try clear hi)))
      go_meet
      case rel => exact ⟨_, (((a2.size : Int) == 0)), (by first | rfl | (simp; done) | (simp [*]; done)), H', ⟨by first | omega | exact Nat.le_refl _⟩, ⟨by (with_reducible repeat (first | apply va | apply vn | apply vd)); exact Kd.V_mono HO0_1.out (fun _ hk => ⟨hk.1.1, ⟨hk.1.2, hk.2⟩⟩)⟩, ⟨by (with_reducible repeat (first | refine qn ?_ _ | refine qd ?_ | refine qa ?_ _)); exact BK741.out⟩, ⟨by (with_reducible repeat (first | refine qn ?_ _ | refine qd ?_ | refine qa ?_ _)); exact BK742.out⟩, ⟨by repeat (first | (with_reducible first | exact HB.out | apply ea | apply en | apply ed | refine es ?_ GE741.out | refine es ?_ GE742.out) | exact HB.out)⟩⟩
    · replace c8 := Bool.eq_false_iff.mpr c8
      subst c8
      have H1 : (bureauref04_Other.j0 k a1 a2 true a0_0 l0_1) = some (r1, r2) := by rw [if_neg (show ¬ (false = true) by decide)] at H; exact H
      clear H
      have H := H1
      clear H1
      have H' := aM H
      clear H
      have hnb12 := NB741_742.out
      have hnc12 := NB742_741.out
      have hcz13_0 : w6.cell? ⟨gb741, 0, none⟩ = some (.string a0_0) := (bC BK741.out 0).trans rfl
      have hcz13_1 : w6.cell? ⟨gb741, 1, none⟩ = some (.slice A0_1 l0_1.length c0_1) := (bC BK741.out 1).trans rfl
      have hfz13_0 := bF BK741.out 0
      have hfz13_1 := bF BK741.out 1
      go_wp2_with (first | ((with_reducible refine gate_callee (f := 50) rfl ?_); refine goesL_ (some 11) rfl rfl Try.func50 (by kernel_rfl) rfl #[.agg #[.string a0_0, .slice A0_1 l0_1.length c0_1]] rfl (by (try simp only [List.map_toArray, List.map_cons, List.map_nil]); first | done | rfl | (simp only [List.length_drop, List.length_take]; rfl)) ?_; (with_reducible refine (bureauref04_Good.calls k a0_0 _ _ l0_1 false _ ?side1 ?side2 A7.out).mono ?_); (case side1 => repeat (first | exact (Kd.V_reads' HO0_1.out).2.2 | (with_reducible refine Kd.C_alloc ?_ _) | (with_reducible refine Kd.C_drewN ?_ _) | (with_reducible refine Kd.C_drew ?_))); (case side2 => exact (Kd.V_reads' HO0_1.out).2.1); rintro e w14 ⟨rfl, hb⟩; refine ⟨_, rfl, ?_⟩; have n0_ := aM (Kd.V_below (by (with_reducible repeat (first | apply va | apply vn | apply vd)); exact HO0_1.out) hb); have n1_ := aM (bB (g := gb741) (o := .cells #[.string a0_0, .slice A0_1 l0_1.length c0_1] 51 (0, 0)) (by (with_reducible repeat (first | refine qn ?_ _ | refine qd ?_ | refine qa ?_ _)); exact BK741.out) hb); have n2_ := aM (bB (g := gb742) (o := .cells #[.string (⟨#[]⟩ : ByteArray), .slice none 0 0] 51 (0, 0)) (by (with_reducible repeat (first | refine qn ?_ _ | refine qd ?_ | refine qa ?_ _)); exact BK742.out) hb); have n3_ := aM (bP (by repeat (first | (with_reducible first | exact HB.out | apply ea | apply en | apply ed | refine es ?_ GE741.out | refine es ?_ GE742.out) | exact HB.out)) hb); clear HO0_1; clear BK741; clear BK742; clear HB; have HO0_1 := n0_; have BK741 := n1_; have BK742 := n2_; have HB := n3_; clear n0_ n1_ n2_ n3_; (try clear hb); (try clear hb2); (try clear hk); (try clear hi)))
      go_meet
      case rel => exact ⟨_, (true), (by first | rfl | (simp; done) | (simp [*]; done)), H', ⟨by first | omega | exact Nat.le_refl _⟩, ⟨by (with_reducible repeat (first | apply va | apply vn | apply vd)); exact Kd.V_mono HO0_1.out (fun _ hk => ⟨hk.1.1, ⟨hk.1.2, hk.2⟩⟩)⟩, ⟨by (with_reducible repeat (first | refine qn ?_ _ | refine qd ?_ | refine qa ?_ _)); exact BK741.out⟩, ⟨by (with_reducible repeat (first | refine qn ?_ _ | refine qd ?_ | refine qa ?_ _)); exact BK742.out⟩, ⟨by repeat (first | (with_reducible first | exact HB.out | apply ea | apply en | apply ed | refine es ?_ GE741.out | refine es ?_ GE742.out) | exact HB.out)⟩⟩
  case rest =>
    clear HC4
    try clear c1
    try clear p2
    try clear c5
    try clear c6
    try clear c8
    try clear c9
    try clear c12
    try clear hcz10_0
    try clear hcz10_1
    try clear hcz13_0
    try clear hcz13_1
    try clear hfz10_0
    try clear hfz10_1
    try clear hfz13_0
    try clear hfz13_1
    obtain ⟨kq, x17_3, rfl, HA, HJ3, HO_742001, BK741, BK742, HB⟩ := hcut
    cases kq with
    | zero => exact absurd HA.out (by simp [bureauref04_Other.j0])
    | succ kj3 =>
      have H := HA.out
      clear HA
      simp only [bureauref04_Other.j0] at H
      by_cases c15 : x17_3 = true
      · subst c15
        have H1 : (some (a0_0, l0_1)) = some (r1, r2) := by rw [if_pos rfl] at H; exact H
        clear H
        have H := H1
        clear H1
        simp only [Option.some.injEq, Prod.mk.injEq] at H
        obtain ⟨rfl, rfl⟩ := H
        have hnb16 := NB741_742.out
        have hnc16 := NB742_741.out
        have hcz17_0 : wc.cell? ⟨gb741, 0, none⟩ = some (.string a0_0) := (bC BK741.out 0).trans rfl
        have hcz17_1 : wc.cell? ⟨gb741, 1, none⟩ = some (.slice A0_1 l0_1.length c0_1) := (bC BK741.out 1).trans rfl
        have hfz17_0 := bF BK741.out 0
        have hfz17_1 := bF BK741.out 1
        have hcz18_0 : wc.cell? ⟨gb742, 0, none⟩ = some (.string (⟨#[]⟩ : ByteArray)) := (bC BK742.out 0).trans rfl
        have hcz18_1 : wc.cell? ⟨gb742, 1, none⟩ = some (.slice none 0 0) := (bC BK742.out 1).trans rfl
        have hfz18_0 := bF BK742.out 0
        have hfz18_1 := bF BK742.out 1
        go_wp2
        refine bodyPost_ret (results_cell_row rfl _ _ gb742 51 #[.string a0_0, .slice A0_1 l0_1.length c0_1] (0, 0) _ rfl (by (with_reducible repeat (first | refine qn ?_ _ | refine qd ?_ | refine qa ?_ _)); refine bU (cs := #[.string a0_0, .slice none 0 0]) ?_ 1 _ rfl; (with_reducible repeat (first | refine qn ?_ _ | refine qd ?_ | refine qa ?_ _)); refine bU (cs := #[.string (⟨#[]⟩ : ByteArray), .slice none 0 0]) ?_ 0 _ rfl; (with_reducible repeat (first | refine qn ?_ _ | refine qd ?_ | refine qa ?_ _)); exact BK742.out) Try.underlying51 rfl (by kernel_rfl)) rfl ?_
        exact ⟨_, by first | rfl | (simp [errW_none, errW_some] <;> rfl) | (simp [*, errW_none, errW_some] <;> rfl), by (with_reducible repeat (first | apply va | apply vn | apply vd)); exact Kd.V_mono (Kd.V_far (p := ⟨gb742, 1, none⟩) (Kd.V_far (p := ⟨gb742, 0, none⟩) (Kd.V_mono HO_742001.out (fun k_ hk => (⟨hk, hk.2.2⟩ : _ ∧ k_ ≠ gb742))) (fun _ hk => hk.2) (.string a0_0)) (fun _ hk => hk.2) (.slice A0_1 l0_1.length c0_1)) (fun _ hk => hk.1.1), by repeat (first | (with_reducible first | exact HB.out | apply ea | apply en | apply ed | refine es ?_ GE741.out | refine es ?_ GE742.out) | exact HB.out)⟩
      · replace c15 := Bool.eq_false_iff.mpr c15
        subst c15
        have H1 : ((bureauref03_Bytes.f kj3 l0_1).bind fun t744 => (bureauref04_Other.l0 kj3 a1 a2 t744 ([] : List Int) 0 a0_0 l0_1)) = some (r1, r2) := by rw [if_neg (show ¬ (false = true) by decide)] at H; exact H
        clear H
        have H := H1
        clear H1
        replace H := Option.bind_eq_some_iff.mp H
        obtain ⟨t744, A190, H⟩ := H
        replace H : (bureauref04_Other.l0 kj3 a1 a2 t744 ([] : List Int) 0 a0_0 l0_1) = some (r1, r2) := H
        have A19 := aM A190
        clear A190
        have H' := aM H
        clear H
        have hnb20 := NB741_742.out
        have hnc20 := NB742_741.out
        have hcz21_0 : wc.cell? ⟨gb741, 0, none⟩ = some (.string a0_0) := (bC BK741.out 0).trans rfl
        have hcz21_1 : wc.cell? ⟨gb741, 1, none⟩ = some (.slice A0_1 l0_1.length c0_1) := (bC BK741.out 1).trans rfl
        have hfz21_0 := bF BK741.out 0
        have hfz21_1 := bF BK741.out 1
        go_wp2_with (first | ((with_reducible refine gate_callee (f := 84) rfl ?_); refine goesL_ (some 21) rfl rfl Try.func84 (by kernel_rfl) rfl #[.slice A0_1 l0_1.length c0_1] rfl (by (try simp only [List.map_toArray, List.map_cons, List.map_nil]); first | done | rfl | (simp only [List.length_drop, List.length_take]; rfl)) ?_; (with_reducible refine (bureauref03_Bytes.calls kj3 _ _ l0_1 t744 _ ?side1 ?side2 A19.out).mono ?_); (case side1 => repeat (first | exact (Kd.V_reads' HO_742001.out).2.2 | (with_reducible refine Kd.C_alloc ?_ _) | (with_reducible refine Kd.C_drewN ?_ _) | (with_reducible refine Kd.C_drew ?_))); (case side2 => exact (Kd.V_reads' HO_742001.out).2.1); rintro e w22 ⟨v745, rfl, ho0, hb⟩; refine ⟨_, rfl, ?_⟩; have n0_ := aM (Kd.V_elder' (by (with_reducible repeat (first | apply va | apply vn | apply vd)); exact HO_742001.out) (Kd.R_base ho0) hb); have n1_ := aM (rL (Kd.R_newM (M := fun k_ => (w.heap.size ≤ k_)) ho0 (bZ (by repeat (first | (with_reducible first | exact HB.out | apply ea | apply en | apply ed | refine es ?_ GE741.out | refine es ?_ GE742.out) | exact HB.out))) (fun k_ h_ => h_)) (bZ (by repeat (first | (with_reducible first | exact HB.out | apply ea | apply en | apply ed | refine es ?_ GE741.out | refine es ?_ GE742.out) | exact HB.out)))); have n2_ := aM (bB (g := gb741) (o := .cells #[.string a0_0, .slice A0_1 l0_1.length c0_1] 51 (0, 0)) (by (with_reducible repeat (first | refine qn ?_ _ | refine qd ?_ | refine qa ?_ _)); exact BK741.out) hb); have n3_ := aM (bB (g := gb742) (o := .cells #[.string (⟨#[]⟩ : ByteArray), .slice none 0 0] 51 (0, 0)) (by (with_reducible repeat (first | refine qn ?_ _ | refine qd ?_ | refine qa ?_ _)); exact BK742.out) hb); have n4_ := aM (bP (by repeat (first | (with_reducible first | exact HB.out | apply ea | apply en | apply ed | refine es ?_ GE741.out | refine es ?_ GE742.out) | exact HB.out)) hb); clear HO_742001; clear BK741; clear BK742; clear HB; have HO_742001 := n0_; have HO746 := n1_; have BK741 := n2_; have BK742 := n3_; have HB := n4_; clear n0_ n1_ n2_ n3_ n4_; (try clear hb); (try clear hb2); (try clear hk); (try clear hi); (try clear ho0)))
        go_loopg [8, 9] kj3 (fun kq v8 v9 w' => ∃ (x8_2 : List Int) (x9_2 : Int), v9 = .int .i64 x9_2 ∧ Aside0 (bureauref04_Other.l0 kq a1 a2 t744 x8_2 x9_2 a0_0 l0_1 = some (r1, r2)) ∧ Aside0 (kq ≤ kj3) ∧ Aside0 (Kd.R (Kd.int .u64) 36 w' w.heap.size (fun k_ => (w.heap.size ≤ k_)) v745 t744) ∧ Aside0 (Kd.R (Kd.int .u8) 5 w' w.heap.size (fun k_ => (w.heap.size ≤ k_)) v8 x8_2) ∧ Aside0 (Kd.V k100 100 w' w.heap.size (fun k_ => (P0_1_ k_ ∨ w.heap.size ≤ k_) ∧ some k_ ≠ (v745 : Value).ownBlock ∧ some k_ ≠ (v8 : Value).ownBlock ∧ k_ ≠ gb741 ∧ k_ ≠ gb742) (.slice A0_1 l0_1.length c0_1) l0_1) ∧ Aside0 (w'.heap[gb741]? = some (.cells #[.string a0_0, (.slice A0_1 l0_1.length c0_1)] 51 (0, 0))) ∧ Aside0 (w'.heap[gb742]? = some (.cells #[.string (⟨#[]⟩ : ByteArray), (.slice none 0 0)] 51 (0, 0))) ∧ Aside0 (Below w.heap.size w w'))
        case atStart => exact ⟨(([] : List Int)), (0), (by first | rfl | (simp; done) | (simp [*]; done)), H', ⟨Nat.le_refl _⟩, ⟨by (with_reducible repeat (first | apply ra | apply rn | apply rd_)); exact rM HO746.out (fun _ hk => hk.1)⟩, ⟨by first | exact Kd.R_nil _ _ _ _ _ | exact Kd.N_nil _ _ _ _ _ | exact Kd.V_nil _ _ _ _ _ | exact Kd.Q_nil _ _ _ _ _ | exact Kd.S_nil _ _ _ _ _⟩, ⟨by (with_reducible repeat (first | apply va | apply vn | apply vd)); exact Kd.V_mono HO_742001.out (fun _ hk => ⟨hk.1.1, ⟨hk.2, ⟨(by simp [Value.ownBlock]), ⟨hk.1.2.1, hk.1.2.2⟩⟩⟩⟩)⟩, ⟨by (with_reducible repeat (first | refine qn ?_ _ | refine qd ?_ | refine qa ?_ _)); exact BK741.out⟩, ⟨by (with_reducible repeat (first | refine qn ?_ _ | refine qd ?_ | refine qa ?_ _)); exact BK742.out⟩, ⟨by repeat (first | (with_reducible first | exact HB.out | apply ea | apply en | apply ed | refine es ?_ GE741.out | refine es ?_ GE742.out) | exact HB.out)⟩⟩
        case round =>
          clear H'
          try clear c1
          try clear c2
          try clear p2
          try clear c5
          try clear c6
          try clear c8
          try clear c9
          try clear c12
          try clear c15
          try clear c16
          try clear c20
          try clear hcz10_0
          try clear hcz10_1
          try clear hcz13_0
          try clear hcz13_1
          try clear hcz17_0
          try clear hcz17_1
          try clear hcz18_0
          try clear hcz18_1
          try clear hcz21_0
          try clear hcz21_1
          try clear hfz10_0
          try clear hfz10_1
          try clear hfz13_0
          try clear hfz13_1
          try clear hfz17_0
          try clear hfz17_1
          try clear hfz18_0
          try clear hfz18_1
          try clear hfz21_0
          try clear hfz21_1
          try clear p2
          obtain ⟨x8_2, x9_2, rfl, HA, HK2, HO_7, HO_8, HO_742001, BK741, BK742, HB⟩ := hrel
          cases gk with
          | zero => exact absurd HA.out (by simp [bureauref04_Other.l0])
          | succ k2 =>
            have H := HA.out
            clear HA
            simp only [bureauref04_Other.l0] at H
            by_cases c23 : x9_2 < (t744.length : Int)
            · rw [if_pos c23] at H
              have c23b0 : decide (x9_2 < (t744.length : Int)) = true := decide_eq_true c23
              clear c23
              by_cases c24 : 0 ≤ x9_2
              · rw [if_pos c24] at H
                have c24b0 : decide (0 ≤ x9_2) = true := decide_eq_true c24
                clear c24
                replace H := Option.bind_eq_some_iff.mp H
                obtain ⟨t748, A250, H⟩ := H
                replace H : (if t748 = true then (if x9_2 < (a0_0.size : Int) then (if x8_2.length < 140737488355328 then (bureauref04_Other.l0 k2 a1 a2 t744 (x8_2 ++ [bt a0_0 x9_2]) (wrap64 (x9_2 + 1)) a0_0 l0_1) else (none)) else (none)) else (if (a2.size : Int) = 0 then (none) else (if 0 ≤ (Int.tmod x9_2 (a2.size : Int)) then (if (Int.tmod x9_2 (a2.size : Int)) < (a2.size : Int) then (if x8_2.length < 140737488355328 then (bureauref04_Other.l0 k2 a1 a2 t744 (x8_2 ++ [bt a2 (Int.tmod x9_2 (a2.size : Int))]) (wrap64 (x9_2 + 1)) a0_0 l0_1) else (none)) else (none)) else (none)))) = some (r1, r2) := H
                have A25 := aM A250
                clear A250
                by_cases c26 : t748 = true
                · subst c26
                  have H1 : (if x9_2 < (a0_0.size : Int) then (if x8_2.length < 140737488355328 then (bureauref04_Other.l0 k2 a1 a2 t744 (x8_2 ++ [bt a0_0 x9_2]) (wrap64 (x9_2 + 1)) a0_0 l0_1) else (none)) else (none)) = some (r1, r2) := by rw [if_pos rfl] at H; exact H
                  clear H
                  have H := H1
                  clear H1
                  by_cases c27 : x9_2 < (a0_0.size : Int)
                  · rw [if_pos c27] at H
                    have c27b0 : decide (x9_2 < (a0_0.size : Int)) = true := decide_eq_true c27
                    clear c27
                    by_cases c29 : x8_2.length < 140737488355328
                    · rw [if_pos c29] at H
                      have LMc29 := aM c29
                      clear c29
                      obtain ⟨y749, hy749⟩ : ∃ y_ : List Int, y_ = (x8_2 ++ [bt a0_0 x9_2]) := ⟨_, rfl⟩
                      replace H : (bureauref04_Other.l0 k2 a1 a2 t744 y749 (wrap64 (x9_2 + 1)) a0_0 l0_1) = some (r1, r2) := by first | (rw [hy749]; with_reducible exact H) | (have H2_ := (Option.bind_some _ _).symm.trans H; rw [hy749]; with_reducible exact H2_) | (have H2_ := (Option.bind_some _ _).symm.trans H; with_reducible exact H2_) | with_reducible exact H | (rw [hy749]; exact H) | exact H
                      have Ny749 := aM hy749
                      clear hy749
                      have H' := aM H
                      clear H
                      obtain ⟨Ao30, co30, eo30⟩ := Kd.R_slice HO_7.out
                      subst eo30
                      have p747 : 0 ≤ (x9_2 : Int) := of_decide_eq_true (by first | (with_reducible assumption) | assumption)
                      have q747 : x9_2 < (t744.length : Int) := of_decide_eq_true (by first | (with_reducible assumption) | assumption)
                      obtain ⟨ad747, e747, hx747_0⟩ := Kd.at_int (rR HO_7.out).2.2 x9_2 p747 q747
                      cases e747
                      replace p747 := eq_true p747
                      replace q747 := eq_true q747
                      go_wp2_with (first | ((with_reducible refine gate_callee (f := 100) rfl ?_); refine goesL_ (some 33) rfl rfl Try.func100 (by kernel_rfl) rfl #[.int .u64 (rd t744 x9_2), .int .u64 a1] rfl (by (try simp only [List.map_toArray, List.map_cons, List.map_nil]); first | done | rfl | (simp only [List.length_drop, List.length_take]; rfl)) ?_; (with_reducible refine (bureauref01_Below.calls (rd t744 x9_2) a1 true _ A25.out).mono ?_); rintro e w31 ⟨rfl, hb⟩; refine ⟨_, rfl, ?_⟩; have n0_ := aM (Kd.R_below (by (with_reducible repeat (first | apply ra | apply rn | apply rd_)); exact HO_7.out) hb); have n1_ := aM (Kd.R_below (by (with_reducible repeat (first | apply ra | apply rn | apply rd_)); exact HO_8.out) hb); have n2_ := aM (Kd.V_below (by (with_reducible repeat (first | apply va | apply vn | apply vd)); exact HO_742001.out) hb); have n3_ := aM (bB (g := gb741) (o := .cells #[.string a0_0, .slice A0_1 l0_1.length c0_1] 51 (0, 0)) (by (with_reducible repeat (first | refine qn ?_ _ | refine qd ?_ | refine qa ?_ _)); exact BK741.out) hb); have n4_ := aM (bB (g := gb742) (o := .cells #[.string (⟨#[]⟩ : ByteArray), .slice none 0 0] 51 (0, 0)) (by (with_reducible repeat (first | refine qn ?_ _ | refine qd ?_ | refine qa ?_ _)); exact BK742.out) hb); have n5_ := aM (bP (by repeat (first | (with_reducible first | exact HB.out | apply ea | apply en | apply ed | refine es ?_ GE741.out | refine es ?_ GE742.out) | exact HB.out)) hb); clear HO_7; clear HO_8; clear HO_742001; clear BK741; clear BK742; clear HB; have HO_7 := n0_; have HO_8 := n1_; have HO_742001 := n2_; have BK741 := n3_; have BK742 := n4_; have HB := n5_; clear n0_ n1_ n2_ n3_ n4_ n5_; (try clear hb); (try clear hb2); (try clear hk); (try clear hi); have hnb32 := NB741_742.out; have hnc32 := NB742_741.out; have hcz33_0 : w31.cell? ⟨gb741, 0, none⟩ = some (.string a0_0) := (bC BK741.out 0).trans rfl; have hcz33_1 : w31.cell? ⟨gb741, 1, none⟩ = some (.slice A0_1 l0_1.length c0_1) := (bC BK741.out 1).trans rfl; have hfz33_0 := bF BK741.out 0; have hfz33_1 := bF BK741.out 1; have p28 : 0 ≤ (x9_2 : Int) := of_decide_eq_true (by first | (with_reducible assumption) | assumption); have q28 : x9_2 < (a0_0.size : Int) := of_decide_eq_true (by first | (with_reducible assumption) | assumption); have hx28 := bt_at a0_0 x9_2; replace p28 := eq_true p28; replace q28 := eq_true q28) | ((with_reducible refine gate_builtin (b := .append) (xs := #[.tmp 34, .tmp 39]) rfl ?_); (try (refine gate_guard (by rfl) ?_; dsimp only)); at_builtin; refine Kd.R_append (Kd.int .u8) (w0 := w) w.heap.size rfl (.tmp 34) (.tmp 39) 113 5 (.int .u8 0) 1 rfl Try.underlying113 info5 rfl (by decide) (by omega) u8 x8_2 (bt a0_0 x9_2) [.int .u8 (bt a0_0 x9_2)] (fun k_ => (w.heap.size ≤ k_)) (fun _ => False) rfl rfl ?aP (fun _ hk => hk.elim) ?aF ?aO ?aB ?aS ?aL ?_; (case aP => exact rfl); (case aB => exact (by repeat (first | (with_reducible first | exact HB.out | apply ea | apply en | apply ed | refine es ?_ GE741.out | refine es ?_ GE742.out) | exact HB.out))); (case aF => exact (fun k_ hk => (Nat.le_trans (bZ (by repeat (first | (with_reducible first | exact HB.out | apply ea | apply en | apply ed | refine es ?_ GE741.out | refine es ?_ GE742.out) | exact HB.out))) hk))); (case aO => exact (by (with_reducible repeat (first | apply ra | apply rn | apply rd_)); exact HO_8.out)); (case aS => exact (bZ (by repeat (first | (with_reducible first | exact HB.out | apply ea | apply en | apply ed | refine es ?_ GE741.out | refine es ?_ GE742.out) | exact HB.out)))); (case aL => have := LMc29.out; omega); intro v750 w34 ho hb hg hat; rw [← Ny749.out] at ho; have n0_ := aM (Kd.R_over' (by (with_reducible repeat (first | apply ra | apply rn | apply rd_)); exact HO_7.out) (Kd.R_typed (by (with_reducible repeat (first | apply ra | apply rn | apply rd_)); exact HO_8.out)) (by decide) hg); have n1_ := aM (Kd.V_afterv (ok := (fun k_ => (P0_1_ k_ ∨ w.heap.size ≤ k_) ∧ some k_ ≠ (.slice (some ad747) t744.length co30 : Value).ownBlock ∧ k_ ≠ gb741 ∧ k_ ≠ gb742)) (by (with_reducible repeat (first | apply va | apply vn | apply vd)); exact Kd.V_mono HO_742001.out (fun _ hk => ⟨⟨hk.1, ⟨hk.2.1, ⟨hk.2.2.2.1, hk.2.2.2.2⟩⟩⟩, hk.2.2.1⟩)) hg hat); have n2_ := aM (blk_grown (g := gb741) (o := .cells #[.string a0_0, .slice A0_1 l0_1.length c0_1] 51 (0, 0)) (by (with_reducible repeat (first | refine qn ?_ _ | refine qd ?_ | refine qa ?_ _)); exact BK741.out) hg (Kd.R_ne HO_8.out BK741.out (by decide))); have n3_ := aM (blk_grown (g := gb742) (o := .cells #[.string (⟨#[]⟩ : ByteArray), .slice none 0 0] 51 (0, 0)) (by (with_reducible repeat (first | refine qn ?_ _ | refine qd ?_ | refine qa ?_ _)); exact BK742.out) hg (Kd.R_ne HO_8.out BK742.out (by decide))); have n4_ := aM (hb); have n5_ := aM (ho); clear HO_7; clear HO_742001; clear BK741; clear BK742; clear HB; clear HO_8; have HO_7 := n0_; have HO_742001 := n1_; have BK741 := n2_; have BK742 := n3_; have HB := n4_; have HO751 := n5_; clear n0_ n1_ n2_ n3_ n4_ n5_; clear ho hb hg hat))
                      go_roundg k2
                      case measure => have := HJ3.out; have := HK2.out; omega
                      case rel => exact ⟨(y749), (wrap64 (x9_2 + 1)), (by first | rfl | (simp; done) | (simp [*]; done)), H', ⟨by have := HJ3.out; have := HK2.out; omega⟩, ⟨by (with_reducible repeat (first | apply ra | apply rn | apply rd_)); exact HO_7.out⟩, ⟨by (with_reducible repeat (first | apply ra | apply rn | apply rd_)); exact HO751.out⟩, ⟨by (with_reducible repeat (first | apply va | apply vn | apply vd)); exact Kd.V_mono HO_742001.out (fun _ hk => ⟨hk.1.1, ⟨hk.1.2.1, ⟨hk.2, ⟨hk.1.2.2.1, hk.1.2.2.2⟩⟩⟩⟩)⟩, ⟨by (with_reducible repeat (first | refine qn ?_ _ | refine qd ?_ | refine qa ?_ _)); exact BK741.out⟩, ⟨by (with_reducible repeat (first | refine qn ?_ _ | refine qd ?_ | refine qa ?_ _)); exact BK742.out⟩, ⟨by repeat (first | (with_reducible first | exact HB.out | apply ea | apply en | apply ed | refine es ?_ GE741.out | refine es ?_ GE742.out) | exact HB.out)⟩⟩
                    · rw [if_neg c29] at H
                      exact absurd H (by simp)
                  · rw [if_neg c27] at H
                    exact absurd H (by simp)
                · replace c26 := Bool.eq_false_iff.mpr c26
                  subst c26
                  have H1 : (if (a2.size : Int) = 0 then (none) else (if 0 ≤ (Int.tmod x9_2 (a2.size : Int)) then (if (Int.tmod x9_2 (a2.size : Int)) < (a2.size : Int) then (if x8_2.length < 140737488355328 then (bureauref04_Other.l0 k2 a1 a2 t744 (x8_2 ++ [bt a2 (Int.tmod x9_2 (a2.size : Int))]) (wrap64 (x9_2 + 1)) a0_0 l0_1) else (none)) else (none)) else (none))) = some (r1, r2) := by rw [if_neg (show ¬ (false = true) by decide)] at H; exact H
                  clear H
                  have H := H1
                  clear H1
                  by_cases c35 : (a2.size : Int) = 0
                  · rw [if_pos c35] at H
                    exact absurd H (by simp)
                  · rw [if_neg c35] at H
                    have c35b0 : ((a2.size : Int) == 0) = false := beq_eq_false_iff_ne.mpr c35
                    have c35b1 : ((a2.size : Int) != 0) = true := bne_iff_ne.mpr c35
                    obtain ⟨ji36, hji36⟩ : ∃ j_ : Int, (Int.tmod x9_2 (a2.size : Int)) = j_ := ⟨_, rfl⟩
                    replace H : (if 0 ≤ (ji36) then (if (ji36) < (a2.size : Int) then (if x8_2.length < 140737488355328 then (bureauref04_Other.l0 k2 a1 a2 t744 (x8_2 ++ [bt a2 (ji36)]) (wrap64 (x9_2 + 1)) a0_0 l0_1) else (none)) else (none)) else (none)) = some (r1, r2) := by first | (rw [hji36] at H; exact H) | (simp only [hji36] at H ⊢; exact H)
                    (try rw [hji36] at A25)
                    by_cases c37 : 0 ≤ (ji36)
                    · rw [if_pos c37] at H
                      have c37b0 : decide (0 ≤ (ji36)) = true := decide_eq_true c37
                      clear c37
                      by_cases c38 : (ji36) < (a2.size : Int)
                      · rw [if_pos c38] at H
                        have c38b0 : decide ((ji36) < (a2.size : Int)) = true := decide_eq_true c38
                        clear c38
                        by_cases c40 : x8_2.length < 140737488355328
                        · rw [if_pos c40] at H
                          have LMc40 := aM c40
                          clear c40
                          obtain ⟨y752, hy752⟩ : ∃ y_ : List Int, y_ = (x8_2 ++ [bt a2 (ji36)]) := ⟨_, rfl⟩
                          replace H : (bureauref04_Other.l0 k2 a1 a2 t744 y752 (wrap64 (x9_2 + 1)) a0_0 l0_1) = some (r1, r2) := by first | (rw [hy752]; with_reducible exact H) | (have H2_ := (Option.bind_some _ _).symm.trans H; rw [hy752]; with_reducible exact H2_) | (have H2_ := (Option.bind_some _ _).symm.trans H; with_reducible exact H2_) | with_reducible exact H | (rw [hy752]; exact H) | exact H
                          have Ny752 := aM hy752
                          clear hy752
                          have H' := aM H
                          clear H
                          obtain ⟨Ao41, co41, eo41⟩ := Kd.R_slice HO_7.out
                          subst eo41
                          have p747 : 0 ≤ (x9_2 : Int) := of_decide_eq_true (by first | (with_reducible assumption) | assumption)
                          have q747 : x9_2 < (t744.length : Int) := of_decide_eq_true (by first | (with_reducible assumption) | assumption)
                          obtain ⟨ad747, e747, hx747_0⟩ := Kd.at_int (rR HO_7.out).2.2 x9_2 p747 q747
                          cases e747
                          replace p747 := eq_true p747
                          replace q747 := eq_true q747
                          go_wp2_with (first | ((with_reducible refine gate_callee (f := 100) rfl ?_); refine goesL_ (some 33) rfl rfl Try.func100 (by kernel_rfl) rfl #[.int .u64 (rd t744 x9_2), .int .u64 a1] rfl (by (try simp only [List.map_toArray, List.map_cons, List.map_nil]); first | done | rfl | (simp only [List.length_drop, List.length_take]; rfl)) ?_; (with_reducible refine (bureauref01_Below.calls (rd t744 x9_2) a1 false _ A25.out).mono ?_); rintro e w42 ⟨rfl, hb⟩; refine ⟨_, rfl, ?_⟩; have n0_ := aM (Kd.R_below (by (with_reducible repeat (first | apply ra | apply rn | apply rd_)); exact HO_7.out) hb); have n1_ := aM (Kd.R_below (by (with_reducible repeat (first | apply ra | apply rn | apply rd_)); exact HO_8.out) hb); have n2_ := aM (Kd.V_below (by (with_reducible repeat (first | apply va | apply vn | apply vd)); exact HO_742001.out) hb); have n3_ := aM (bB (g := gb741) (o := .cells #[.string a0_0, .slice A0_1 l0_1.length c0_1] 51 (0, 0)) (by (with_reducible repeat (first | refine qn ?_ _ | refine qd ?_ | refine qa ?_ _)); exact BK741.out) hb); have n4_ := aM (bB (g := gb742) (o := .cells #[.string (⟨#[]⟩ : ByteArray), .slice none 0 0] 51 (0, 0)) (by (with_reducible repeat (first | refine qn ?_ _ | refine qd ?_ | refine qa ?_ _)); exact BK742.out) hb); have n5_ := aM (bP (by repeat (first | (with_reducible first | exact HB.out | apply ea | apply en | apply ed | refine es ?_ GE741.out | refine es ?_ GE742.out) | exact HB.out)) hb); clear HO_7; clear HO_8; clear HO_742001; clear BK741; clear BK742; clear HB; have HO_7 := n0_; have HO_8 := n1_; have HO_742001 := n2_; have BK741 := n3_; have BK742 := n4_; have HB := n5_; clear n0_ n1_ n2_ n3_ n4_ n5_; (try clear hb); (try clear hb2); (try clear hk); (try clear hi); have p39 : 0 ≤ ((ji36) : Int) := of_decide_eq_true (by first | (with_reducible assumption) | assumption); have q39 : (ji36) < (a2.size : Int) := of_decide_eq_true (by first | (with_reducible assumption) | assumption); have hx39 := bt_at a2 (ji36); replace p39 := eq_true p39; replace q39 := eq_true q39) | ((with_reducible refine gate_builtin (b := .append) (xs := #[.tmp 41, .tmp 48]) rfl ?_); (try (refine gate_guard (by rfl) ?_; dsimp only)); at_builtin; refine Kd.R_append (Kd.int .u8) (w0 := w) w.heap.size rfl (.tmp 41) (.tmp 48) 113 5 (.int .u8 0) 1 rfl Try.underlying113 info5 rfl (by decide) (by omega) u8 x8_2 (bt a2 (ji36)) [.int .u8 (bt a2 (ji36))] (fun k_ => (w.heap.size ≤ k_)) (fun _ => False) rfl rfl ?aP (fun _ hk => hk.elim) ?aF ?aO ?aB ?aS ?aL ?_; (case aP => exact rfl); (case aB => exact (by repeat (first | (with_reducible first | exact HB.out | apply ea | apply en | apply ed | refine es ?_ GE741.out | refine es ?_ GE742.out) | exact HB.out))); (case aF => exact (fun k_ hk => (Nat.le_trans (bZ (by repeat (first | (with_reducible first | exact HB.out | apply ea | apply en | apply ed | refine es ?_ GE741.out | refine es ?_ GE742.out) | exact HB.out))) hk))); (case aO => exact (by (with_reducible repeat (first | apply ra | apply rn | apply rd_)); exact HO_8.out)); (case aS => exact (bZ (by repeat (first | (with_reducible first | exact HB.out | apply ea | apply en | apply ed | refine es ?_ GE741.out | refine es ?_ GE742.out) | exact HB.out)))); (case aL => have := LMc40.out; omega); intro v753 w43 ho hb hg hat; rw [← Ny752.out] at ho; have n0_ := aM (Kd.R_over' (by (with_reducible repeat (first | apply ra | apply rn | apply rd_)); exact HO_7.out) (Kd.R_typed (by (with_reducible repeat (first | apply ra | apply rn | apply rd_)); exact HO_8.out)) (by decide) hg); have n1_ := aM (Kd.V_afterv (ok := (fun k_ => (P0_1_ k_ ∨ w.heap.size ≤ k_) ∧ some k_ ≠ (.slice (some ad747) t744.length co41 : Value).ownBlock ∧ k_ ≠ gb741 ∧ k_ ≠ gb742)) (by (with_reducible repeat (first | apply va | apply vn | apply vd)); exact Kd.V_mono HO_742001.out (fun _ hk => ⟨⟨hk.1, ⟨hk.2.1, ⟨hk.2.2.2.1, hk.2.2.2.2⟩⟩⟩, hk.2.2.1⟩)) hg hat); have n2_ := aM (blk_grown (g := gb741) (o := .cells #[.string a0_0, .slice A0_1 l0_1.length c0_1] 51 (0, 0)) (by (with_reducible repeat (first | refine qn ?_ _ | refine qd ?_ | refine qa ?_ _)); exact BK741.out) hg (Kd.R_ne HO_8.out BK741.out (by decide))); have n3_ := aM (blk_grown (g := gb742) (o := .cells #[.string (⟨#[]⟩ : ByteArray), .slice none 0 0] 51 (0, 0)) (by (with_reducible repeat (first | refine qn ?_ _ | refine qd ?_ | refine qa ?_ _)); exact BK742.out) hg (Kd.R_ne HO_8.out BK742.out (by decide))); have n4_ := aM (hb); have n5_ := aM (ho); clear HO_7; clear HO_742001; clear BK741; clear BK742; clear HB; clear HO_8; have HO_7 := n0_; have HO_742001 := n1_; have BK741 := n2_; have BK742 := n3_; have HB := n4_; have HO754 := n5_; clear n0_ n1_ n2_ n3_ n4_ n5_; clear ho hb hg hat))
                          go_roundg k2
                          case measure => have := HJ3.out; have := HK2.out; omega
                          case rel => exact ⟨(y752), (wrap64 (x9_2 + 1)), (by first | rfl | (simp; done) | (simp [*]; done)), H', ⟨by have := HJ3.out; have := HK2.out; omega⟩, ⟨by (with_reducible repeat (first | apply ra | apply rn | apply rd_)); exact HO_7.out⟩, ⟨by (with_reducible repeat (first | apply ra | apply rn | apply rd_)); exact HO754.out⟩, ⟨by (with_reducible repeat (first | apply va | apply vn | apply vd)); exact Kd.V_mono HO_742001.out (fun _ hk => ⟨hk.1.1, ⟨hk.1.2.1, ⟨hk.2, ⟨hk.1.2.2.1, hk.1.2.2.2⟩⟩⟩⟩)⟩, ⟨by (with_reducible repeat (first | refine qn ?_ _ | refine qd ?_ | refine qa ?_ _)); exact BK741.out⟩, ⟨by (with_reducible repeat (first | refine qn ?_ _ | refine qd ?_ | refine qa ?_ _)); exact BK742.out⟩, ⟨by repeat (first | (with_reducible first | exact HB.out | apply ea | apply en | apply ed | refine es ?_ GE741.out | refine es ?_ GE742.out) | exact HB.out)⟩⟩
                        · rw [if_neg c40] at H
                          exact absurd H (by simp)
                      · rw [if_neg c38] at H
                        exact absurd H (by simp)
                    · rw [if_neg c37] at H
                      exact absurd H (by simp)
              · rw [if_neg c24] at H
                exact absurd H (by simp)
            · rw [if_neg c23] at H
              have c23b0 : decide (x9_2 < (t744.length : Int)) = false := decide_eq_false c23
              clear c23
              simp only [Option.some.injEq, Prod.mk.injEq] at H
              obtain ⟨rfl, rfl⟩ := H
              obtain ⟨Ao44, co44, eo44⟩ := Kd.R_slice HO_7.out
              subst eo44
              have hcv45 := own_string (P := Try.prog) Try.underlying113 Try.underlying5 Try.underlying9 (Kd.own_of_R HO_8.out)
              have hnb46 := NB741_742.out
              have hnc46 := NB742_741.out
              have hcz47_0 : wr.cell? ⟨gb741, 0, none⟩ = some (.string a0_0) := (bC BK741.out 0).trans rfl
              have hcz47_1 : wr.cell? ⟨gb741, 1, none⟩ = some (.slice A0_1 l0_1.length c0_1) := (bC BK741.out 1).trans rfl
              have hfz47_0 := bF BK741.out 0
              have hfz47_1 := bF BK741.out 1
              have hcz48_0 : wr.cell? ⟨gb742, 0, none⟩ = some (.string (⟨#[]⟩ : ByteArray)) := (bC BK742.out 0).trans rfl
              have hcz48_1 : wr.cell? ⟨gb742, 1, none⟩ = some (.slice none 0 0) := (bC BK742.out 1).trans rfl
              have hfz48_0 := bF BK742.out 0
              have hfz48_1 := bF BK742.out 1
              go_wp2
              refine bodyPost_ret (results_cell_row rfl _ _ gb742 51 #[.string (strOfNums x8_2), .slice A0_1 l0_1.length c0_1] (0, 0) _ rfl (by (with_reducible repeat (first | refine qn ?_ _ | refine qd ?_ | refine qa ?_ _)); refine bU (cs := #[.string (strOfNums x8_2), .slice none 0 0]) ?_ 1 _ rfl; (with_reducible repeat (first | refine qn ?_ _ | refine qd ?_ | refine qa ?_ _)); refine bU (cs := #[.string (⟨#[]⟩ : ByteArray), .slice none 0 0]) ?_ 0 _ rfl; (with_reducible repeat (first | refine qn ?_ _ | refine qd ?_ | refine qa ?_ _)); exact BK742.out) Try.underlying51 rfl (by kernel_rfl)) rfl ?_
              exact ⟨_, by first | rfl | (simp [errW_none, errW_some] <;> rfl) | (simp [*, errW_none, errW_some] <;> rfl), by (with_reducible repeat (first | apply va | apply vn | apply vd)); exact Kd.V_mono (Kd.V_far (p := ⟨gb742, 1, none⟩) (Kd.V_far (p := ⟨gb742, 0, none⟩) (Kd.V_mono HO_742001.out (fun k_ hk => (⟨hk, hk.2.2.2.2⟩ : _ ∧ k_ ≠ gb742))) (fun _ hk => hk.2) (.string (strOfNums x8_2))) (fun _ hk => hk.2) (.slice A0_1 l0_1.length c0_1)) (fun _ hk => hk.1.1), by repeat (first | (with_reducible first | exact HB.out | apply ea | apply en | apply ed | refine es ?_ GE741.out | refine es ?_ GE742.out) | exact HB.out)⟩
end Go.Proofs.Ythpjagblnddjaaa.PB
end

section
namespace Go.Proofs.Ythpjagblnddjaaa.PB
open Go.RowKit Go.Proofs.YthpjagblnddjaaaW.PrintWords Go.Proofs.YthpjagblnddjaaaW.PrintLast Go.Proofs.YthpjagblnddjaaaW.PrintMore
attribute [local go_sem] max2_int min2_int max_two min_two max_three min_three max_four min_four   
set_option linter.unusedVariables false
set_option linter.unusedSimpArgs false
def bureauref04_View.l0 : Nat → Int → List Int → List Int → Int → ByteArray → List (S100) → Option (ByteArray × Int)
  | 0, _, _, _, _, _, _ => none
  | k + 1, x1, x6, x7, x8, x756000, x756001 => if x8 < (x6.length : Int) then (if 0 ≤ x8 then ((bureauref01_Below.f (rd x6 x8) x1).bind fun t761 => (if t761 = true then (if x8 < (x756000.size : Int) then (if x7.length < 140737488355328 then (bureauref04_View.l0 k x1 x6 (x7 ++ [bt x756000 x8]) (wrap64 (x8 + 1)) x756000 x756001) else (none)) else (none)) else (if x7.length < 140737488355328 then (bureauref04_View.l0 k x1 x6 (x7 ++ [35]) (wrap64 (x8 + 1)) x756000 x756001) else (none)))) else (none)) else (some (strOfNums x7, 0))
def bureauref04_View.f (k : Nat) (a0_0 : ByteArray) (l0_1 : List (S100)) (a1 : Int) : Option (ByteArray × Int) := (bureauref04_Good.f k a0_0 l0_1).bind fun t756 => (if t756 = true then ((bureauref03_Bytes.f k l0_1).bind fun t757 => (bureauref04_View.l0 k a1 t757 ([] : List Int) 0 a0_0 l0_1)) else (some ((⟨#[]⟩ : ByteArray), 2)))
set_option maxHeartbeats 8000000 in
set_option maxRecDepth 100000 in
theorem bureauref04_View.calls (k : Nat) (a0_0 : ByteArray) (A0_1 : Option Addr) (c0_1 : Nat) (l0_1 : List (S100)) (a1 : Int) (r1 : ByteArray) (r2 : Int) (w : World) (hr0_1 : Kd.C k100 w A0_1 l0_1.length l0_1) (hc0_1 : l0_1.length ≤ c0_1) (h : bureauref04_View.f k a0_0 l0_1 a1 = some (r1, r2)) :
    Calls Try.prog 69 #[.agg #[.string a0_0, .slice A0_1 l0_1.length c0_1], .int .u64 a1] w fun e w' => e = .returned (.tuple #[.string r1, .int .i64 r2]) ∧ Below w.heap.size w w' := by
  have hu51 := Try.underlying51
  have HR0_1 := aM hr0_1
  have HC0_1 := aM hc0_1
  clear hr0_1 hc0_1
  have HB := aM (Below.refl w.heap.size w)
  have H : ((bureauref04_Good.f k a0_0 l0_1).bind fun t756 => (if t756 = true then ((bureauref03_Bytes.f k l0_1).bind fun t757 => (bureauref04_View.l0 k a1 t757 ([] : List Int) 0 a0_0 l0_1)) else (some ((⟨#[]⟩ : ByteArray), 2)))) = some (r1, r2) := h
  clear h
  replace H := Option.bind_eq_some_iff.mp H
  obtain ⟨t756, A30, H⟩ := H
  replace H : (if t756 = true then ((bureauref03_Bytes.f k l0_1).bind fun t757 => (bureauref04_View.l0 k a1 t757 ([] : List Int) 0 a0_0 l0_1)) else (some ((⟨#[]⟩ : ByteArray), 2))) = some (r1, r2) := H
  have A3 := aM A30
  clear A30
  by_cases c4 : t756 = true
  · subst c4
    have H1 : ((bureauref03_Bytes.f k l0_1).bind fun t757 => (bureauref04_View.l0 k a1 t757 ([] : List Int) 0 a0_0 l0_1)) = some (r1, r2) := by rw [if_pos rfl] at H; exact H
    clear H
    have H := H1
    clear H1
    replace H := Option.bind_eq_some_iff.mp H
    obtain ⟨t757, A50, H⟩ := H
    replace H : (bureauref04_View.l0 k a1 t757 ([] : List Int) 0 a0_0 l0_1) = some (r1, r2) := H
    have A5 := aM A50
    clear A50
    have H' := aM H
    clear H
    go_enter Try.func69, Try.ntmps69
    go_wp2_with (first | ((with_reducible refine gate_dst (N := 2) rfl ?_); refine box_event ?hg (N := 2) ?hd (cs := #[.string a0_0, .slice A0_1 l0_1.length c0_1]) (t := 51) ?hr ?_; (case hd => rfl); (case hg => rfl); (case hr => first | (go_simp; done) | (go_simp; rfl)); intro gb755 hg w6 hbox hb; have n0_ := aM (bP (by repeat (first | (with_reducible first | exact HB.out | apply ea | apply en | apply ed) | exact HB.out)) hb); have n1_ := aM (hbox); have n2_ := aM ((by rw [hg]; exact (bZ (by repeat (first | (with_reducible first | exact HB.out | apply ea | apply en | apply ed) | exact HB.out))) : w.heap.size ≤ gb755)); have n3_ := aM ((by rw [hg]; exact (bZ (by repeat (first | (with_reducible first | exact HB.out | apply ea | apply en | apply ed) | exact HB.out))) : w.heap.size ≤ gb755)); clear HB; have HB := n0_; have BK755 := n1_; have GW755 := n2_; have GE755 := n3_; clear n0_ n1_ n2_ n3_; clear hb hbox hg; have hcz7_0 : w6.cell? ⟨gb755, 0, none⟩ = some (.string a0_0) := (bC BK755.out 0).trans rfl; have hcz7_1 : w6.cell? ⟨gb755, 1, none⟩ = some (.slice A0_1 l0_1.length c0_1) := (bC BK755.out 1).trans rfl; have hfz7_0 := bF BK755.out 0; have hfz7_1 := bF BK755.out 1) | ((with_reducible refine gate_callee (f := 50) rfl ?_); refine goesL_ (some 10) rfl rfl Try.func50 (by kernel_rfl) rfl #[.agg #[.string a0_0, .slice A0_1 l0_1.length c0_1]] rfl (by (try simp only [List.map_toArray, List.map_cons, List.map_nil]); first | done | rfl | (simp only [List.length_drop, List.length_take]; rfl)) ?_; (with_reducible refine (bureauref04_Good.calls k a0_0 _ _ l0_1 true _ ?side1 ?side2 A3.out).mono ?_); (case side1 => repeat (first | exact (cB_ HR0_1.out HB.out) | (with_reducible refine Kd.C_alloc ?_ _) | (with_reducible refine Kd.C_drewN ?_ _) | (with_reducible refine Kd.C_drew ?_))); (case side2 => exact HC0_1.out); rintro e w8 ⟨rfl, hb⟩; refine ⟨_, rfl, ?_⟩; have n0_ := aM (bB (g := gb755) (o := .cells #[.string a0_0, .slice A0_1 l0_1.length c0_1] 51 (0, 0)) (by (with_reducible repeat (first | refine qn ?_ _ | refine qd ?_ | refine qa ?_ _)); exact BK755.out) hb); have n1_ := aM (bP (by repeat (first | (with_reducible first | exact HB.out | apply ea | apply en | apply ed | refine es ?_ GE755.out) | exact HB.out)) hb); clear BK755; clear HB; have BK755 := n0_; have HB := n1_; clear n0_ n1_; (try clear hb); (try clear hb2); (try clear hk); (try clear hi); have hcz9_0 : w8.cell? ⟨gb755, 0, none⟩ = some (.string a0_0) := (bC BK755.out 0).trans rfl; have hcz9_1 : w8.cell? ⟨gb755, 1, none⟩ = some (.slice A0_1 l0_1.length c0_1) := (bC BK755.out 1).trans rfl; have hfz9_0 := bF BK755.out 0; have hfz9_1 := bF BK755.out 1) | ((with_reducible refine gate_callee (f := 84) rfl ?_); refine goesL_ (some 14) rfl rfl Try.func84 (by kernel_rfl) rfl #[.slice A0_1 l0_1.length c0_1] rfl (by (try simp only [List.map_toArray, List.map_cons, List.map_nil]); first | done | rfl | (simp only [List.length_drop, List.length_take]; rfl)) ?_; (with_reducible refine (bureauref03_Bytes.calls k _ _ l0_1 t757 _ ?side1 ?side2 A5.out).mono ?_); (case side1 => repeat (first | exact (cB_ HR0_1.out HB.out) | (with_reducible refine Kd.C_alloc ?_ _) | (with_reducible refine Kd.C_drewN ?_ _) | (with_reducible refine Kd.C_drew ?_))); (case side2 => exact HC0_1.out); rintro e w10 ⟨v758, rfl, ho0, hb⟩; refine ⟨_, rfl, ?_⟩; have n0_ := aM (rL ho0 (bZ (by repeat (first | (with_reducible first | exact HB.out | apply ea | apply en | apply ed | refine es ?_ GE755.out) | exact HB.out)))); have n1_ := aM (bB (g := gb755) (o := .cells #[.string a0_0, .slice A0_1 l0_1.length c0_1] 51 (0, 0)) (by (with_reducible repeat (first | refine qn ?_ _ | refine qd ?_ | refine qa ?_ _)); exact BK755.out) hb); have n2_ := aM (bP (by repeat (first | (with_reducible first | exact HB.out | apply ea | apply en | apply ed | refine es ?_ GE755.out) | exact HB.out)) hb); clear BK755; clear HB; have HO759 := n0_; have BK755 := n1_; have HB := n2_; clear n0_ n1_ n2_; (try clear hb); (try clear hb2); (try clear hk); (try clear hi); (try clear ho0)))
    go_loopg [7, 8] k (fun kq v7 v8 w' => ∃ (x7_1 : List Int) (x8_1 : Int), v8 = .int .i64 x8_1 ∧ Aside0 (bureauref04_View.l0 kq a1 t757 x7_1 x8_1 a0_0 l0_1 = some (r1, r2)) ∧ Aside0 (kq ≤ k) ∧ Aside0 (Kd.R (Kd.int .u64) 36 w' w.heap.size (fun _ => True) v758 t757) ∧ Aside0 (Kd.R (Kd.int .u8) 5 w' w.heap.size (fun _ => True) v7 x7_1) ∧ Aside0 (w'.heap[gb755]? = some (.cells #[.string a0_0, (.slice A0_1 l0_1.length c0_1)] 51 (0, 0))) ∧ Aside0 (Below w.heap.size w w'))
    case atStart => exact ⟨(([] : List Int)), (0), (by first | rfl | (simp; done) | (simp [*]; done)), H', ⟨Nat.le_refl _⟩, ⟨by (with_reducible repeat (first | apply ra | apply rn | apply rd_)); exact HO759.out⟩, ⟨by first | exact Kd.R_nil _ _ _ _ _ | exact Kd.N_nil _ _ _ _ _ | exact Kd.V_nil _ _ _ _ _ | exact Kd.Q_nil _ _ _ _ _ | exact Kd.S_nil _ _ _ _ _⟩, ⟨by (with_reducible repeat (first | refine qn ?_ _ | refine qd ?_ | refine qa ?_ _)); exact BK755.out⟩, ⟨by repeat (first | (with_reducible first | exact HB.out | apply ea | apply en | apply ed | refine es ?_ GE755.out) | exact HB.out)⟩⟩
    case round =>
      clear H'
      try clear p2
      try clear c4
      try clear c5
      try clear c6
      try clear c8
      try clear hcz7_0
      try clear hcz7_1
      try clear hcz9_0
      try clear hcz9_1
      try clear hfz7_0
      try clear hfz7_1
      try clear hfz9_0
      try clear hfz9_1
      obtain ⟨x7_1, x8_1, rfl, HA, HK1, HO_6, HO_7, BK755, HB⟩ := hrel
      cases gk with
      | zero => exact absurd HA.out (by simp [bureauref04_View.l0])
      | succ k1 =>
        have H := HA.out
        clear HA
        simp only [bureauref04_View.l0] at H
        by_cases c11 : x8_1 < (t757.length : Int)
        · rw [if_pos c11] at H
          have c11b0 : decide (x8_1 < (t757.length : Int)) = true := decide_eq_true c11
          clear c11
          by_cases c12 : 0 ≤ x8_1
          · rw [if_pos c12] at H
            have c12b0 : decide (0 ≤ x8_1) = true := decide_eq_true c12
            clear c12
            replace H := Option.bind_eq_some_iff.mp H
            obtain ⟨t761, A130, H⟩ := H
            replace H : (if t761 = true then (if x8_1 < (a0_0.size : Int) then (if x7_1.length < 140737488355328 then (bureauref04_View.l0 k1 a1 t757 (x7_1 ++ [bt a0_0 x8_1]) (wrap64 (x8_1 + 1)) a0_0 l0_1) else (none)) else (none)) else (if x7_1.length < 140737488355328 then (bureauref04_View.l0 k1 a1 t757 (x7_1 ++ [35]) (wrap64 (x8_1 + 1)) a0_0 l0_1) else (none))) = some (r1, r2) := H
            have A13 := aM A130
            clear A130
            by_cases c14 : t761 = true
            · subst c14
              have H1 : (if x8_1 < (a0_0.size : Int) then (if x7_1.length < 140737488355328 then (bureauref04_View.l0 k1 a1 t757 (x7_1 ++ [bt a0_0 x8_1]) (wrap64 (x8_1 + 1)) a0_0 l0_1) else (none)) else (none)) = some (r1, r2) := by rw [if_pos rfl] at H; exact H
              clear H
              have H := H1
              clear H1
              by_cases c15 : x8_1 < (a0_0.size : Int)
              · rw [if_pos c15] at H
                have c15b0 : decide (x8_1 < (a0_0.size : Int)) = true := decide_eq_true c15
                clear c15
                by_cases c17 : x7_1.length < 140737488355328
                · rw [if_pos c17] at H
                  have LMc17 := aM c17
                  clear c17
                  obtain ⟨y762, hy762⟩ : ∃ y_ : List Int, y_ = (x7_1 ++ [bt a0_0 x8_1]) := ⟨_, rfl⟩
                  replace H : (bureauref04_View.l0 k1 a1 t757 y762 (wrap64 (x8_1 + 1)) a0_0 l0_1) = some (r1, r2) := by first | (rw [hy762]; with_reducible exact H) | (have H2_ := (Option.bind_some _ _).symm.trans H; rw [hy762]; with_reducible exact H2_) | (have H2_ := (Option.bind_some _ _).symm.trans H; with_reducible exact H2_) | with_reducible exact H | (rw [hy762]; exact H) | exact H
                  have Ny762 := aM hy762
                  clear hy762
                  have H' := aM H
                  clear H
                  obtain ⟨Ao18, co18, eo18⟩ := Kd.R_slice HO_6.out
                  subst eo18
                  have p760 : 0 ≤ (x8_1 : Int) := of_decide_eq_true (by first | (with_reducible assumption) | assumption)
                  have q760 : x8_1 < (t757.length : Int) := of_decide_eq_true (by first | (with_reducible assumption) | assumption)
                  obtain ⟨ad760, e760, hx760_0⟩ := Kd.at_int (rR HO_6.out).2.2 x8_1 p760 q760
                  cases e760
                  replace p760 := eq_true p760
                  replace q760 := eq_true q760
                  go_wp2_with (first | ((with_reducible refine gate_callee (f := 100) rfl ?_); refine goesL_ (some 26) rfl rfl Try.func100 (by kernel_rfl) rfl #[.int .u64 (rd t757 x8_1), .int .u64 a1] rfl (by (try simp only [List.map_toArray, List.map_cons, List.map_nil]); first | done | rfl | (simp only [List.length_drop, List.length_take]; rfl)) ?_; (with_reducible refine (bureauref01_Below.calls (rd t757 x8_1) a1 true _ A13.out).mono ?_); rintro e w19 ⟨rfl, hb⟩; refine ⟨_, rfl, ?_⟩; have n0_ := aM (Kd.R_below (by (with_reducible repeat (first | apply ra | apply rn | apply rd_)); exact HO_6.out) hb); have n1_ := aM (Kd.R_below (by (with_reducible repeat (first | apply ra | apply rn | apply rd_)); exact HO_7.out) hb); have n2_ := aM (bB (g := gb755) (o := .cells #[.string a0_0, .slice A0_1 l0_1.length c0_1] 51 (0, 0)) (by (with_reducible repeat (first | refine qn ?_ _ | refine qd ?_ | refine qa ?_ _)); exact BK755.out) hb); have n3_ := aM (bP (by repeat (first | (with_reducible first | exact HB.out | apply ea | apply en | apply ed | refine es ?_ GE755.out) | exact HB.out)) hb); clear HO_6; clear HO_7; clear BK755; clear HB; have HO_6 := n0_; have HO_7 := n1_; have BK755 := n2_; have HB := n3_; clear n0_ n1_ n2_ n3_; (try clear hb); (try clear hb2); (try clear hk); (try clear hi); have hcz20_0 : w19.cell? ⟨gb755, 0, none⟩ = some (.string a0_0) := (bC BK755.out 0).trans rfl; have hcz20_1 : w19.cell? ⟨gb755, 1, none⟩ = some (.slice A0_1 l0_1.length c0_1) := (bC BK755.out 1).trans rfl; have hfz20_0 := bF BK755.out 0; have hfz20_1 := bF BK755.out 1; have p16 : 0 ≤ (x8_1 : Int) := of_decide_eq_true (by first | (with_reducible assumption) | assumption); have q16 : x8_1 < (a0_0.size : Int) := of_decide_eq_true (by first | (with_reducible assumption) | assumption); have hx16 := bt_at a0_0 x8_1; replace p16 := eq_true p16; replace q16 := eq_true q16) | ((with_reducible refine gate_builtin (b := .append) (xs := #[.tmp 27, .tmp 32]) rfl ?_); at_builtin; refine Kd.R_append (Kd.int .u8) (w0 := w) w.heap.size rfl (.tmp 27) (.tmp 32) 113 5 (.int .u8 0) 1 rfl Try.underlying113 info5 rfl (by decide) (by omega) u7 x7_1 (bt a0_0 x8_1) [.int .u8 (bt a0_0 x8_1)] (fun _ => True) (fun _ => False) rfl rfl ?aP (fun _ hk => hk.elim) ?aF ?aO ?aB ?aS ?aL ?_; (case aP => exact rfl); (case aB => exact (by repeat (first | (with_reducible first | exact HB.out | apply ea | apply en | apply ed | refine es ?_ GE755.out) | exact HB.out))); (case aF => exact (fun _ _ => trivial)); (case aO => exact (by (with_reducible repeat (first | apply ra | apply rn | apply rd_)); exact HO_7.out)); (case aS => exact (bZ (by repeat (first | (with_reducible first | exact HB.out | apply ea | apply en | apply ed | refine es ?_ GE755.out) | exact HB.out)))); (case aL => have := LMc17.out; omega); intro v763 w21 ho hb hg hat; rw [← Ny762.out] at ho; have n0_ := aM (Kd.R_over' (by (with_reducible repeat (first | apply ra | apply rn | apply rd_)); exact HO_6.out) (Kd.R_typed (by (with_reducible repeat (first | apply ra | apply rn | apply rd_)); exact HO_7.out)) (by decide) hg); have n1_ := aM (blk_grown (g := gb755) (o := .cells #[.string a0_0, .slice A0_1 l0_1.length c0_1] 51 (0, 0)) (by (with_reducible repeat (first | refine qn ?_ _ | refine qd ?_ | refine qa ?_ _)); exact BK755.out) hg (Kd.R_ne HO_7.out BK755.out (by decide))); have n2_ := aM (hb); have n3_ := aM (ho); clear HO_6; clear BK755; clear HB; clear HO_7; have HO_6 := n0_; have BK755 := n1_; have HB := n2_; have HO764 := n3_; clear n0_ n1_ n2_ n3_; clear ho hb hg hat))
                  go_roundg k1
                  case measure => have := HK1.out; omega
                  case rel => exact ⟨(y762), (wrap64 (x8_1 + 1)), (by first | rfl | (simp; done) | (simp [*]; done)), H', ⟨by have := HK1.out; omega⟩, ⟨by (with_reducible repeat (first | apply ra | apply rn | apply rd_)); exact HO_6.out⟩, ⟨by (with_reducible repeat (first | apply ra | apply rn | apply rd_)); exact HO764.out⟩, ⟨by (with_reducible repeat (first | refine qn ?_ _ | refine qd ?_ | refine qa ?_ _)); exact BK755.out⟩, ⟨by repeat (first | (with_reducible first | exact HB.out | apply ea | apply en | apply ed | refine es ?_ GE755.out) | exact HB.out)⟩⟩
                · rw [if_neg c17] at H
                  exact absurd H (by simp)
              · rw [if_neg c15] at H
                exact absurd H (by simp)
            · replace c14 := Bool.eq_false_iff.mpr c14
              subst c14
              have H1 : (if x7_1.length < 140737488355328 then (bureauref04_View.l0 k1 a1 t757 (x7_1 ++ [35]) (wrap64 (x8_1 + 1)) a0_0 l0_1) else (none)) = some (r1, r2) := by rw [if_neg (show ¬ (false = true) by decide)] at H; exact H
              clear H
              have H := H1
              clear H1
              by_cases c22 : x7_1.length < 140737488355328
              · rw [if_pos c22] at H
                have LMc22 := aM c22
                clear c22
                obtain ⟨y765, hy765⟩ : ∃ y_ : List Int, y_ = (x7_1 ++ [35]) := ⟨_, rfl⟩
                replace H : (bureauref04_View.l0 k1 a1 t757 y765 (wrap64 (x8_1 + 1)) a0_0 l0_1) = some (r1, r2) := by first | (rw [hy765]; with_reducible exact H) | (have H2_ := (Option.bind_some _ _).symm.trans H; rw [hy765]; with_reducible exact H2_) | (have H2_ := (Option.bind_some _ _).symm.trans H; with_reducible exact H2_) | with_reducible exact H | (rw [hy765]; exact H) | exact H
                have Ny765 := aM hy765
                clear hy765
                have H' := aM H
                clear H
                obtain ⟨Ao23, co23, eo23⟩ := Kd.R_slice HO_6.out
                subst eo23
                have p760 : 0 ≤ (x8_1 : Int) := of_decide_eq_true (by first | (with_reducible assumption) | assumption)
                have q760 : x8_1 < (t757.length : Int) := of_decide_eq_true (by first | (with_reducible assumption) | assumption)
                obtain ⟨ad760, e760, hx760_0⟩ := Kd.at_int (rR HO_6.out).2.2 x8_1 p760 q760
                cases e760
                replace p760 := eq_true p760
                replace q760 := eq_true q760
                go_wp2_with (first | ((with_reducible refine gate_callee (f := 100) rfl ?_); refine goesL_ (some 26) rfl rfl Try.func100 (by kernel_rfl) rfl #[.int .u64 (rd t757 x8_1), .int .u64 a1] rfl (by (try simp only [List.map_toArray, List.map_cons, List.map_nil]); first | done | rfl | (simp only [List.length_drop, List.length_take]; rfl)) ?_; (with_reducible refine (bureauref01_Below.calls (rd t757 x8_1) a1 false _ A13.out).mono ?_); rintro e w24 ⟨rfl, hb⟩; refine ⟨_, rfl, ?_⟩; have n0_ := aM (Kd.R_below (by (with_reducible repeat (first | apply ra | apply rn | apply rd_)); exact HO_6.out) hb); have n1_ := aM (Kd.R_below (by (with_reducible repeat (first | apply ra | apply rn | apply rd_)); exact HO_7.out) hb); have n2_ := aM (bB (g := gb755) (o := .cells #[.string a0_0, .slice A0_1 l0_1.length c0_1] 51 (0, 0)) (by (with_reducible repeat (first | refine qn ?_ _ | refine qd ?_ | refine qa ?_ _)); exact BK755.out) hb); have n3_ := aM (bP (by repeat (first | (with_reducible first | exact HB.out | apply ea | apply en | apply ed | refine es ?_ GE755.out) | exact HB.out)) hb); clear HO_6; clear HO_7; clear BK755; clear HB; have HO_6 := n0_; have HO_7 := n1_; have BK755 := n2_; have HB := n3_; clear n0_ n1_ n2_ n3_; (try clear hb); (try clear hb2); (try clear hk); (try clear hi)) | ((with_reducible refine gate_builtin (b := .append) (xs := #[.tmp 34, .tmp 35]) rfl ?_); at_builtin; refine Kd.R_append (Kd.int .u8) (w0 := w) w.heap.size rfl (.tmp 34) (.tmp 35) 113 5 (.int .u8 0) 1 rfl Try.underlying113 info5 rfl (by decide) (by omega) u7 x7_1 35 [.int .u8 35] (fun _ => True) (fun _ => False) rfl rfl ?aP (fun _ hk => hk.elim) ?aF ?aO ?aB ?aS ?aL ?_; (case aP => exact rfl); (case aB => exact (by repeat (first | (with_reducible first | exact HB.out | apply ea | apply en | apply ed | refine es ?_ GE755.out) | exact HB.out))); (case aF => exact (fun _ _ => trivial)); (case aO => exact (by (with_reducible repeat (first | apply ra | apply rn | apply rd_)); exact HO_7.out)); (case aS => exact (bZ (by repeat (first | (with_reducible first | exact HB.out | apply ea | apply en | apply ed | refine es ?_ GE755.out) | exact HB.out)))); (case aL => have := LMc22.out; omega); intro v766 w25 ho hb hg hat; rw [← Ny765.out] at ho; have n0_ := aM (Kd.R_over' (by (with_reducible repeat (first | apply ra | apply rn | apply rd_)); exact HO_6.out) (Kd.R_typed (by (with_reducible repeat (first | apply ra | apply rn | apply rd_)); exact HO_7.out)) (by decide) hg); have n1_ := aM (blk_grown (g := gb755) (o := .cells #[.string a0_0, .slice A0_1 l0_1.length c0_1] 51 (0, 0)) (by (with_reducible repeat (first | refine qn ?_ _ | refine qd ?_ | refine qa ?_ _)); exact BK755.out) hg (Kd.R_ne HO_7.out BK755.out (by decide))); have n2_ := aM (hb); have n3_ := aM (ho); clear HO_6; clear BK755; clear HB; clear HO_7; have HO_6 := n0_; have BK755 := n1_; have HB := n2_; have HO767 := n3_; clear n0_ n1_ n2_ n3_; clear ho hb hg hat))
                go_roundg k1
                case measure => have := HK1.out; omega
                case rel => exact ⟨(y765), (wrap64 (x8_1 + 1)), (by first | rfl | (simp; done) | (simp [*]; done)), H', ⟨by have := HK1.out; omega⟩, ⟨by (with_reducible repeat (first | apply ra | apply rn | apply rd_)); exact HO_6.out⟩, ⟨by (with_reducible repeat (first | apply ra | apply rn | apply rd_)); exact HO767.out⟩, ⟨by (with_reducible repeat (first | refine qn ?_ _ | refine qd ?_ | refine qa ?_ _)); exact BK755.out⟩, ⟨by repeat (first | (with_reducible first | exact HB.out | apply ea | apply en | apply ed | refine es ?_ GE755.out) | exact HB.out)⟩⟩
              · rw [if_neg c22] at H
                exact absurd H (by simp)
          · rw [if_neg c12] at H
            exact absurd H (by simp)
        · rw [if_neg c11] at H
          have c11b0 : decide (x8_1 < (t757.length : Int)) = false := decide_eq_false c11
          clear c11
          simp only [Option.some.injEq, Prod.mk.injEq] at H
          obtain ⟨rfl, rfl⟩ := H
          obtain ⟨Ao26, co26, eo26⟩ := Kd.R_slice HO_6.out
          subst eo26
          have hcv27 := own_string (P := Try.prog) Try.underlying113 Try.underlying5 Try.underlying9 (Kd.own_of_R HO_7.out)
          go_wp2
          go_ret2
          exact ⟨by first | rfl | (simp [errW_none, errW_some] <;> rfl) | (simp [*, errW_none, errW_some] <;> rfl), by repeat (first | (with_reducible first | exact HB.out | apply ea | apply en | apply ed | refine es ?_ GE755.out) | exact HB.out)⟩
  · replace c4 := Bool.eq_false_iff.mpr c4
    subst c4
    have H1 : (some ((⟨#[]⟩ : ByteArray), 2)) = some (r1, r2) := by rw [if_neg (show ¬ (false = true) by decide)] at H; exact H
    clear H
    have H := H1
    clear H1
    simp only [Option.some.injEq, Prod.mk.injEq] at H
    obtain ⟨rfl, rfl⟩ := H
    go_enter Try.func69, Try.ntmps69
    go_wp2_with (first | ((with_reducible refine gate_dst (N := 2) rfl ?_); refine box_event ?hg (N := 2) ?hd (cs := #[.string a0_0, .slice A0_1 l0_1.length c0_1]) (t := 51) ?hr ?_; (case hd => rfl); (case hg => rfl); (case hr => first | (go_simp; done) | (go_simp; rfl)); intro gb755 hg w28 hbox hb; have n0_ := aM (bP (by repeat (first | (with_reducible first | exact HB.out | apply ea | apply en | apply ed) | exact HB.out)) hb); have n1_ := aM (hbox); have n2_ := aM ((by rw [hg]; exact (bZ (by repeat (first | (with_reducible first | exact HB.out | apply ea | apply en | apply ed) | exact HB.out))) : w.heap.size ≤ gb755)); have n3_ := aM ((by rw [hg]; exact (bZ (by repeat (first | (with_reducible first | exact HB.out | apply ea | apply en | apply ed) | exact HB.out))) : w.heap.size ≤ gb755)); clear HB; have HB := n0_; have BK755 := n1_; have GW755 := n2_; have GE755 := n3_; clear n0_ n1_ n2_ n3_; clear hb hbox hg; have hcz29_0 : w28.cell? ⟨gb755, 0, none⟩ = some (.string a0_0) := (bC BK755.out 0).trans rfl; have hcz29_1 : w28.cell? ⟨gb755, 1, none⟩ = some (.slice A0_1 l0_1.length c0_1) := (bC BK755.out 1).trans rfl; have hfz29_0 := bF BK755.out 0; have hfz29_1 := bF BK755.out 1) | ((with_reducible refine gate_callee (f := 50) rfl ?_); refine goesL_ (some 10) rfl rfl Try.func50 (by kernel_rfl) rfl #[.agg #[.string a0_0, .slice A0_1 l0_1.length c0_1]] rfl (by (try simp only [List.map_toArray, List.map_cons, List.map_nil]); first | done | rfl | (simp only [List.length_drop, List.length_take]; rfl)) ?_; (with_reducible refine (bureauref04_Good.calls k a0_0 _ _ l0_1 false _ ?side1 ?side2 A3.out).mono ?_); (case side1 => repeat (first | exact (cB_ HR0_1.out HB.out) | (with_reducible refine Kd.C_alloc ?_ _) | (with_reducible refine Kd.C_drewN ?_ _) | (with_reducible refine Kd.C_drew ?_))); (case side2 => exact HC0_1.out); rintro e w30 ⟨rfl, hb⟩; refine ⟨_, rfl, ?_⟩; have n0_ := aM (bB (g := gb755) (o := .cells #[.string a0_0, .slice A0_1 l0_1.length c0_1] 51 (0, 0)) (by (with_reducible repeat (first | refine qn ?_ _ | refine qd ?_ | refine qa ?_ _)); exact BK755.out) hb); have n1_ := aM (bP (by repeat (first | (with_reducible first | exact HB.out | apply ea | apply en | apply ed | refine es ?_ GE755.out) | exact HB.out)) hb); clear BK755; clear HB; have BK755 := n0_; have HB := n1_; clear n0_ n1_; (try clear hb); (try clear hb2); (try clear hk); (try clear hi)))
    go_ret2
    exact ⟨by first | rfl | (simp [errW_none, errW_some] <;> rfl) | (simp [*, errW_none, errW_some] <;> rfl), by repeat (first | (with_reducible first | exact HB.out | apply ea | apply en | apply ed | refine es ?_ GE755.out) | exact HB.out)⟩
def bureauref04_Low.f (k : Nat) (a0_0 : ByteArray) (l0_1 : List (S100)) (a1_0 : ByteArray) (l1_1 : List (S100)) (a2 : Int) : Option (Bool) := (bureauref04_View.f k a0_0 l0_1 a2).bind fun bt770 => ((bureauref04_View.f k a1_0 l1_1 a2).bind fun bt772 => (if bt770.2 = 0 then (if bt772.2 = 0 then ((bureauref03_Same.f k l0_1 l1_1).bind fun t774 => (if t774 = true then (some (bt770.1.toList == bt772.1.toList)) else (some false))) else (some false)) else (some false)))
set_option maxHeartbeats 8000000 in
set_option maxRecDepth 100000 in
theorem bureauref04_Low.calls (k : Nat) (a0_0 : ByteArray) (A0_1 : Option Addr) (c0_1 : Nat) (l0_1 : List (S100)) (a1_0 : ByteArray) (A1_1 : Option Addr) (c1_1 : Nat) (l1_1 : List (S100)) (a2 : Int) (r : Bool) (w : World) (hr0_1 : Kd.C k100 w A0_1 l0_1.length l0_1) (hc0_1 : l0_1.length ≤ c0_1) (hr1_1 : Kd.C k100 w A1_1 l1_1.length l1_1) (hc1_1 : l1_1.length ≤ c1_1) (h : bureauref04_Low.f k a0_0 l0_1 a1_0 l1_1 a2 = some r) :
    Calls Try.prog 67 #[.agg #[.string a0_0, .slice A0_1 l0_1.length c0_1], .agg #[.string a1_0, .slice A1_1 l1_1.length c1_1], .int .u64 a2] w fun e w' => e = .returned (.bool r) ∧ Below w.heap.size w w' := by
  have hu51 := Try.underlying51
  have HR0_1 := aM hr0_1
  have HC0_1 := aM hc0_1
  clear hr0_1 hc0_1
  have HR1_1 := aM hr1_1
  have HC1_1 := aM hc1_1
  clear hr1_1 hc1_1
  have HB := aM (Below.refl w.heap.size w)
  have H : ((bureauref04_View.f k a0_0 l0_1 a2).bind fun bt770 => ((bureauref04_View.f k a1_0 l1_1 a2).bind fun bt772 => (if bt770.2 = 0 then (if bt772.2 = 0 then ((bureauref03_Same.f k l0_1 l1_1).bind fun t774 => (if t774 = true then (some (bt770.1.toList == bt772.1.toList)) else (some false))) else (some false)) else (some false)))) = some r := h
  clear h
  replace H := Option.bind_eq_some_iff.mp H
  obtain ⟨⟨t770, t771⟩, A40, H⟩ := H
  replace H : ((bureauref04_View.f k a1_0 l1_1 a2).bind fun bt772 => (if t771 = 0 then (if bt772.2 = 0 then ((bureauref03_Same.f k l0_1 l1_1).bind fun t774 => (if t774 = true then (some (t770.toList == bt772.1.toList)) else (some false))) else (some false)) else (some false))) = some r := H
  have A4 := aM A40
  clear A40
  replace H := Option.bind_eq_some_iff.mp H
  obtain ⟨⟨t772, t773⟩, A50, H⟩ := H
  replace H : (if t771 = 0 then (if t773 = 0 then ((bureauref03_Same.f k l0_1 l1_1).bind fun t774 => (if t774 = true then (some (t770.toList == t772.toList)) else (some false))) else (some false)) else (some false)) = some r := H
  have A5 := aM A50
  clear A50
  by_cases c6 : t771 = 0
  · rw [if_pos c6] at H
    have c6b0 : (t771 == 0) = true := beq_iff_eq.mpr c6
    have c6b1 : (t771 != 0) = false := bne_eq_false_iff_eq.mpr c6
    clear c6
    by_cases c7 : t773 = 0
    · rw [if_pos c7] at H
      have c7b0 : (t773 == 0) = true := beq_iff_eq.mpr c7
      have c7b1 : (t773 != 0) = false := bne_eq_false_iff_eq.mpr c7
      clear c7
      replace H := Option.bind_eq_some_iff.mp H
      obtain ⟨t774, A80, H⟩ := H
      replace H : (if t774 = true then (some (t770.toList == t772.toList)) else (some false)) = some r := H
      have A8 := aM A80
      clear A80
      by_cases c9 : t774 = true
      · subst c9
        have H1 : (some (t770.toList == t772.toList)) = some r := by rw [if_pos rfl] at H; exact H
        clear H
        have H := H1
        clear H1
        obtain rfl := Option.some.inj H
        go_enter Try.func67, Try.ntmps67
        go_wp2_with (first | ((with_reducible refine gate_dst (N := 3) rfl ?_); refine box_event ?hg (N := 3) ?hd (cs := #[.string a0_0, .slice A0_1 l0_1.length c0_1]) (t := 51) ?hr ?_; (case hd => rfl); (case hg => rfl); (case hr => first | (go_simp; done) | (go_simp; rfl)); intro gb768 hg w10 hbox hb; have n0_ := aM (bP (by repeat (first | (with_reducible first | exact HB.out | apply ea | apply en | apply ed) | exact HB.out)) hb); have n1_ := aM (hbox); have n2_ := aM ((by rw [hg]; exact (bZ (by repeat (first | (with_reducible first | exact HB.out | apply ea | apply en | apply ed) | exact HB.out))) : w.heap.size ≤ gb768)); have n3_ := aM ((by rw [hg]; exact (bZ (by repeat (first | (with_reducible first | exact HB.out | apply ea | apply en | apply ed) | exact HB.out))) : w.heap.size ≤ gb768)); clear HB; have HB := n0_; have BK768 := n1_; have GW768 := n2_; have GE768 := n3_; clear n0_ n1_ n2_ n3_; clear hb hbox hg) | ((with_reducible refine gate_dst (N := 4) rfl ?_); refine box_event ?hg (N := 4) ?hd (cs := #[.string a1_0, .slice A1_1 l1_1.length c1_1]) (t := 51) ?hr ?_; (case hd => rfl); (case hg => rfl); (case hr => first | (go_simp; done) | (go_simp; rfl)); intro gb769 hg w11 hbox hb; have n0_ := aM (bB (g := gb768) (o := .cells #[.string a0_0, .slice A0_1 l0_1.length c0_1] 51 (0, 0)) (by (with_reducible repeat (first | refine qn ?_ _ | refine qd ?_ | refine qa ?_ _)); exact BK768.out) hb); have n1_ := aM (bP (by repeat (first | (with_reducible first | exact HB.out | apply ea | apply en | apply ed | refine es ?_ GE768.out) | exact HB.out)) hb); have n2_ := aM (hbox); have n3_ := aM ((by rw [hg]; exact (bZ (by repeat (first | (with_reducible first | exact HB.out | apply ea | apply en | apply ed | refine es ?_ GE768.out) | exact HB.out))) : w.heap.size ≤ gb769)); have n4_ := aM ((by rw [hg]; exact (bZ (by repeat (first | (with_reducible first | exact HB.out | apply ea | apply en | apply ed | refine es ?_ GE768.out) | exact HB.out))) : w.heap.size ≤ gb769)); have n5_ := aM ((by rw [hg]; exact Nat.ne_of_lt (blk_lt (g := gb768) (o := .cells #[.string a0_0, .slice A0_1 l0_1.length c0_1] 51 (0, 0)) (by (with_reducible repeat (first | refine qn ?_ _ | refine qd ?_ | refine qa ?_ _)); exact BK768.out)) : gb768 ≠ gb769)); have n6_ := aM ((by rw [hg]; exact Nat.ne_of_gt (blk_lt (g := gb768) (o := .cells #[.string a0_0, .slice A0_1 l0_1.length c0_1] 51 (0, 0)) (by (with_reducible repeat (first | refine qn ?_ _ | refine qd ?_ | refine qa ?_ _)); exact BK768.out)) : gb769 ≠ gb768)); clear BK768; clear HB; have BK768 := n0_; have HB := n1_; have BK769 := n2_; have GW769 := n3_; have GE769 := n4_; have NB768_769 := n5_; have NB769_768 := n6_; clear n0_ n1_ n2_ n3_ n4_ n5_ n6_; clear hb hbox hg; have hnb12 := NB768_769.out; have hnc12 := NB769_768.out; have hcz13_0 : w11.cell? ⟨gb768, 0, none⟩ = some (.string a0_0) := (bC BK768.out 0).trans rfl; have hcz13_1 : w11.cell? ⟨gb768, 1, none⟩ = some (.slice A0_1 l0_1.length c0_1) := (bC BK768.out 1).trans rfl; have hfz13_0 := bF BK768.out 0; have hfz13_1 := bF BK768.out 1) | ((with_reducible refine gate_callee (f := 69) rfl ?_); refine goesL_ (some 14) rfl rfl Try.func69 (by kernel_rfl) rfl #[.agg #[.string a0_0, .slice A0_1 l0_1.length c0_1], .int .u64 a2] rfl (by (try simp only [List.map_toArray, List.map_cons, List.map_nil]); first | done | rfl | (simp only [List.length_drop, List.length_take]; rfl)) ?_; (with_reducible refine (bureauref04_View.calls k a0_0 _ _ l0_1 a2 t770 t771 _ ?side1 ?side2 A4.out).mono ?_); (case side1 => repeat (first | exact (cB_ HR0_1.out HB.out) | (with_reducible refine Kd.C_alloc ?_ _) | (with_reducible refine Kd.C_drewN ?_ _) | (with_reducible refine Kd.C_drew ?_))); (case side2 => exact HC0_1.out); rintro e w14 ⟨rfl, hb⟩; refine ⟨_, rfl, ?_⟩; have n0_ := aM (bB (g := gb768) (o := .cells #[.string a0_0, .slice A0_1 l0_1.length c0_1] 51 (0, 0)) (by (with_reducible repeat (first | refine qn ?_ _ | refine qd ?_ | refine qa ?_ _)); exact BK768.out) hb); have n1_ := aM (bB (g := gb769) (o := .cells #[.string a1_0, .slice A1_1 l1_1.length c1_1] 51 (0, 0)) (by (with_reducible repeat (first | refine qn ?_ _ | refine qd ?_ | refine qa ?_ _)); exact BK769.out) hb); have n2_ := aM (bP (by repeat (first | (with_reducible first | exact HB.out | apply ea | apply en | apply ed | refine es ?_ GE768.out | refine es ?_ GE769.out) | exact HB.out)) hb); clear BK768; clear BK769; clear HB; have BK768 := n0_; have BK769 := n1_; have HB := n2_; clear n0_ n1_ n2_; (try clear hb); (try clear hb2); (try clear hk); (try clear hi); have hcz15_0 : w14.cell? ⟨gb769, 0, none⟩ = some (.string a1_0) := (bC BK769.out 0).trans rfl; have hcz15_1 : w14.cell? ⟨gb769, 1, none⟩ = some (.slice A1_1 l1_1.length c1_1) := (bC BK769.out 1).trans rfl; have hfz15_0 := bF BK769.out 0; have hfz15_1 := bF BK769.out 1) | ((with_reducible refine gate_callee (f := 69) rfl ?_); refine goesL_ (some 20) rfl rfl Try.func69 (by kernel_rfl) rfl #[.agg #[.string a1_0, .slice A1_1 l1_1.length c1_1], .int .u64 a2] rfl (by (try simp only [List.map_toArray, List.map_cons, List.map_nil]); first | done | rfl | (simp only [List.length_drop, List.length_take]; rfl)) ?_; (with_reducible refine (bureauref04_View.calls k a1_0 _ _ l1_1 a2 t772 t773 _ ?side1 ?side2 A5.out).mono ?_); (case side1 => repeat (first | exact (cB_ HR1_1.out HB.out) | (with_reducible refine Kd.C_alloc ?_ _) | (with_reducible refine Kd.C_drewN ?_ _) | (with_reducible refine Kd.C_drew ?_))); (case side2 => exact HC1_1.out); rintro e w16 ⟨rfl, hb⟩; refine ⟨_, rfl, ?_⟩; have n0_ := aM (bB (g := gb768) (o := .cells #[.string a0_0, .slice A0_1 l0_1.length c0_1] 51 (0, 0)) (by (with_reducible repeat (first | refine qn ?_ _ | refine qd ?_ | refine qa ?_ _)); exact BK768.out) hb); have n1_ := aM (bB (g := gb769) (o := .cells #[.string a1_0, .slice A1_1 l1_1.length c1_1] 51 (0, 0)) (by (with_reducible repeat (first | refine qn ?_ _ | refine qd ?_ | refine qa ?_ _)); exact BK769.out) hb); have n2_ := aM (bP (by repeat (first | (with_reducible first | exact HB.out | apply ea | apply en | apply ed | refine es ?_ GE768.out | refine es ?_ GE769.out) | exact HB.out)) hb); clear BK768; clear BK769; clear HB; have BK768 := n0_; have BK769 := n1_; have HB := n2_; clear n0_ n1_ n2_; (try clear hb); (try clear hb2); (try clear hk); (try clear hi); have hcz17_0 : w16.cell? ⟨gb768, 0, none⟩ = some (.string a0_0) := (bC BK768.out 0).trans rfl; have hcz17_1 : w16.cell? ⟨gb768, 1, none⟩ = some (.slice A0_1 l0_1.length c0_1) := (bC BK768.out 1).trans rfl; have hfz17_0 := bF BK768.out 0; have hfz17_1 := bF BK768.out 1; have hcz18_0 : w16.cell? ⟨gb769, 0, none⟩ = some (.string a1_0) := (bC BK769.out 0).trans rfl; have hcz18_1 : w16.cell? ⟨gb769, 1, none⟩ = some (.slice A1_1 l1_1.length c1_1) := (bC BK769.out 1).trans rfl; have hfz18_0 := bF BK769.out 0; have hfz18_1 := bF BK769.out 1) | (go_at_call 27; (with_reducible refine (bureauref03_Same.calls k _ _ l0_1 _ _ l1_1 true _ ?side1 ?side2 ?side3 ?side4 A8.out).mono ?_); (case side1 => repeat (first | exact (cB_ HR0_1.out HB.out) | (with_reducible refine Kd.C_alloc ?_ _) | (with_reducible refine Kd.C_drewN ?_ _) | (with_reducible refine Kd.C_drew ?_))); (case side2 => exact HC0_1.out); (case side3 => repeat (first | exact (cB_ HR1_1.out HB.out) | (with_reducible refine Kd.C_alloc ?_ _) | (with_reducible refine Kd.C_drewN ?_ _) | (with_reducible refine Kd.C_drew ?_))); (case side4 => exact HC1_1.out); rintro e w' ⟨rfl, ⟨nd, rfl⟩⟩))
        go_ret
        exact ⟨by first | rfl | (simp [errW_none, errW_some] <;> rfl) | (simp [*, errW_none, errW_some] <;> rfl), by repeat (first | (with_reducible first | exact HB.out | apply ea | apply en | apply ed | refine es ?_ GE768.out | refine es ?_ GE769.out) | exact HB.out)⟩
      · replace c9 := Bool.eq_false_iff.mpr c9
        subst c9
        have H1 : (some false) = some r := by rw [if_neg (show ¬ (false = true) by decide)] at H; exact H
        clear H
        have H := H1
        clear H1
        obtain rfl := Option.some.inj H
        go_enter Try.func67, Try.ntmps67
        go_wp2_with (first | ((with_reducible refine gate_dst (N := 3) rfl ?_); refine box_event ?hg (N := 3) ?hd (cs := #[.string a0_0, .slice A0_1 l0_1.length c0_1]) (t := 51) ?hr ?_; (case hd => rfl); (case hg => rfl); (case hr => first | (go_simp; done) | (go_simp; rfl)); intro gb768 hg w19 hbox hb; have n0_ := aM (bP (by repeat (first | (with_reducible first | exact HB.out | apply ea | apply en | apply ed) | exact HB.out)) hb); have n1_ := aM (hbox); have n2_ := aM ((by rw [hg]; exact (bZ (by repeat (first | (with_reducible first | exact HB.out | apply ea | apply en | apply ed) | exact HB.out))) : w.heap.size ≤ gb768)); have n3_ := aM ((by rw [hg]; exact (bZ (by repeat (first | (with_reducible first | exact HB.out | apply ea | apply en | apply ed) | exact HB.out))) : w.heap.size ≤ gb768)); clear HB; have HB := n0_; have BK768 := n1_; have GW768 := n2_; have GE768 := n3_; clear n0_ n1_ n2_ n3_; clear hb hbox hg) | ((with_reducible refine gate_dst (N := 4) rfl ?_); refine box_event ?hg (N := 4) ?hd (cs := #[.string a1_0, .slice A1_1 l1_1.length c1_1]) (t := 51) ?hr ?_; (case hd => rfl); (case hg => rfl); (case hr => first | (go_simp; done) | (go_simp; rfl)); intro gb769 hg w20 hbox hb; have n0_ := aM (bB (g := gb768) (o := .cells #[.string a0_0, .slice A0_1 l0_1.length c0_1] 51 (0, 0)) (by (with_reducible repeat (first | refine qn ?_ _ | refine qd ?_ | refine qa ?_ _)); exact BK768.out) hb); have n1_ := aM (bP (by repeat (first | (with_reducible first | exact HB.out | apply ea | apply en | apply ed | refine es ?_ GE768.out) | exact HB.out)) hb); have n2_ := aM (hbox); have n3_ := aM ((by rw [hg]; exact (bZ (by repeat (first | (with_reducible first | exact HB.out | apply ea | apply en | apply ed | refine es ?_ GE768.out) | exact HB.out))) : w.heap.size ≤ gb769)); have n4_ := aM ((by rw [hg]; exact (bZ (by repeat (first | (with_reducible first | exact HB.out | apply ea | apply en | apply ed | refine es ?_ GE768.out) | exact HB.out))) : w.heap.size ≤ gb769)); have n5_ := aM ((by rw [hg]; exact Nat.ne_of_lt (blk_lt (g := gb768) (o := .cells #[.string a0_0, .slice A0_1 l0_1.length c0_1] 51 (0, 0)) (by (with_reducible repeat (first | refine qn ?_ _ | refine qd ?_ | refine qa ?_ _)); exact BK768.out)) : gb768 ≠ gb769)); have n6_ := aM ((by rw [hg]; exact Nat.ne_of_gt (blk_lt (g := gb768) (o := .cells #[.string a0_0, .slice A0_1 l0_1.length c0_1] 51 (0, 0)) (by (with_reducible repeat (first | refine qn ?_ _ | refine qd ?_ | refine qa ?_ _)); exact BK768.out)) : gb769 ≠ gb768)); clear BK768; clear HB; have BK768 := n0_; have HB := n1_; have BK769 := n2_; have GW769 := n3_; have GE769 := n4_; have NB768_769 := n5_; have NB769_768 := n6_; clear n0_ n1_ n2_ n3_ n4_ n5_ n6_; clear hb hbox hg; have hnb21 := NB768_769.out; have hnc21 := NB769_768.out; have hcz22_0 : w20.cell? ⟨gb768, 0, none⟩ = some (.string a0_0) := (bC BK768.out 0).trans rfl; have hcz22_1 : w20.cell? ⟨gb768, 1, none⟩ = some (.slice A0_1 l0_1.length c0_1) := (bC BK768.out 1).trans rfl; have hfz22_0 := bF BK768.out 0; have hfz22_1 := bF BK768.out 1) | ((with_reducible refine gate_callee (f := 69) rfl ?_); refine goesL_ (some 14) rfl rfl Try.func69 (by kernel_rfl) rfl #[.agg #[.string a0_0, .slice A0_1 l0_1.length c0_1], .int .u64 a2] rfl (by (try simp only [List.map_toArray, List.map_cons, List.map_nil]); first | done | rfl | (simp only [List.length_drop, List.length_take]; rfl)) ?_; (with_reducible refine (bureauref04_View.calls k a0_0 _ _ l0_1 a2 t770 t771 _ ?side1 ?side2 A4.out).mono ?_); (case side1 => repeat (first | exact (cB_ HR0_1.out HB.out) | (with_reducible refine Kd.C_alloc ?_ _) | (with_reducible refine Kd.C_drewN ?_ _) | (with_reducible refine Kd.C_drew ?_))); (case side2 => exact HC0_1.out); rintro e w23 ⟨rfl, hb⟩; refine ⟨_, rfl, ?_⟩; have n0_ := aM (bB (g := gb768) (o := .cells #[.string a0_0, .slice A0_1 l0_1.length c0_1] 51 (0, 0)) (by (with_reducible repeat (first | refine qn ?_ _ | refine qd ?_ | refine qa ?_ _)); exact BK768.out) hb); have n1_ := aM (bB (g := gb769) (o := .cells #[.string a1_0, .slice A1_1 l1_1.length c1_1] 51 (0, 0)) (by (with_reducible repeat (first | refine qn ?_ _ | refine qd ?_ | refine qa ?_ _)); exact BK769.out) hb); have n2_ := aM (bP (by repeat (first | (with_reducible first | exact HB.out | apply ea | apply en | apply ed | refine es ?_ GE768.out | refine es ?_ GE769.out) | exact HB.out)) hb); clear BK768; clear BK769; clear HB; have BK768 := n0_; have BK769 := n1_; have HB := n2_; clear n0_ n1_ n2_; (try clear hb); (try clear hb2); (try clear hk); (try clear hi); have hcz24_0 : w23.cell? ⟨gb769, 0, none⟩ = some (.string a1_0) := (bC BK769.out 0).trans rfl; have hcz24_1 : w23.cell? ⟨gb769, 1, none⟩ = some (.slice A1_1 l1_1.length c1_1) := (bC BK769.out 1).trans rfl; have hfz24_0 := bF BK769.out 0; have hfz24_1 := bF BK769.out 1) | ((with_reducible refine gate_callee (f := 69) rfl ?_); refine goesL_ (some 20) rfl rfl Try.func69 (by kernel_rfl) rfl #[.agg #[.string a1_0, .slice A1_1 l1_1.length c1_1], .int .u64 a2] rfl (by (try simp only [List.map_toArray, List.map_cons, List.map_nil]); first | done | rfl | (simp only [List.length_drop, List.length_take]; rfl)) ?_; (with_reducible refine (bureauref04_View.calls k a1_0 _ _ l1_1 a2 t772 t773 _ ?side1 ?side2 A5.out).mono ?_); (case side1 => repeat (first | exact (cB_ HR1_1.out HB.out) | (with_reducible refine Kd.C_alloc ?_ _) | (with_reducible refine Kd.C_drewN ?_ _) | (with_reducible refine Kd.C_drew ?_))); (case side2 => exact HC1_1.out); rintro e w25 ⟨rfl, hb⟩; refine ⟨_, rfl, ?_⟩; have n0_ := aM (bB (g := gb768) (o := .cells #[.string a0_0, .slice A0_1 l0_1.length c0_1] 51 (0, 0)) (by (with_reducible repeat (first | refine qn ?_ _ | refine qd ?_ | refine qa ?_ _)); exact BK768.out) hb); have n1_ := aM (bB (g := gb769) (o := .cells #[.string a1_0, .slice A1_1 l1_1.length c1_1] 51 (0, 0)) (by (with_reducible repeat (first | refine qn ?_ _ | refine qd ?_ | refine qa ?_ _)); exact BK769.out) hb); have n2_ := aM (bP (by repeat (first | (with_reducible first | exact HB.out | apply ea | apply en | apply ed | refine es ?_ GE768.out | refine es ?_ GE769.out) | exact HB.out)) hb); clear BK768; clear BK769; clear HB; have BK768 := n0_; have BK769 := n1_; have HB := n2_; clear n0_ n1_ n2_; (try clear hb); (try clear hb2); (try clear hk); (try clear hi); have hcz26_0 : w25.cell? ⟨gb768, 0, none⟩ = some (.string a0_0) := (bC BK768.out 0).trans rfl; have hcz26_1 : w25.cell? ⟨gb768, 1, none⟩ = some (.slice A0_1 l0_1.length c0_1) := (bC BK768.out 1).trans rfl; have hfz26_0 := bF BK768.out 0; have hfz26_1 := bF BK768.out 1; have hcz27_0 : w25.cell? ⟨gb769, 0, none⟩ = some (.string a1_0) := (bC BK769.out 0).trans rfl; have hcz27_1 : w25.cell? ⟨gb769, 1, none⟩ = some (.slice A1_1 l1_1.length c1_1) := (bC BK769.out 1).trans rfl; have hfz27_0 := bF BK769.out 0; have hfz27_1 := bF BK769.out 1) | (go_at_call 27; (with_reducible refine (bureauref03_Same.calls k _ _ l0_1 _ _ l1_1 false _ ?side1 ?side2 ?side3 ?side4 A8.out).mono ?_); (case side1 => repeat (first | exact (cB_ HR0_1.out HB.out) | (with_reducible refine Kd.C_alloc ?_ _) | (with_reducible refine Kd.C_drewN ?_ _) | (with_reducible refine Kd.C_drew ?_))); (case side2 => exact HC0_1.out); (case side3 => repeat (first | exact (cB_ HR1_1.out HB.out) | (with_reducible refine Kd.C_alloc ?_ _) | (with_reducible refine Kd.C_drewN ?_ _) | (with_reducible refine Kd.C_drew ?_))); (case side4 => exact HC1_1.out); rintro e w' ⟨rfl, ⟨nd, rfl⟩⟩))
        go_ret
        exact ⟨by first | rfl | (simp [errW_none, errW_some] <;> rfl) | (simp [*, errW_none, errW_some] <;> rfl), by repeat (first | (with_reducible first | exact HB.out | apply ea | apply en | apply ed | refine es ?_ GE768.out | refine es ?_ GE769.out) | exact HB.out)⟩
    · rw [if_neg c7] at H
      have c7b0 : (t773 == 0) = false := beq_eq_false_iff_ne.mpr c7
      have c7b1 : (t773 != 0) = true := bne_iff_ne.mpr c7
      obtain rfl := Option.some.inj H
      go_enter Try.func67, Try.ntmps67
      go_wp2_with (first | ((with_reducible refine gate_dst (N := 3) rfl ?_); refine box_event ?hg (N := 3) ?hd (cs := #[.string a0_0, .slice A0_1 l0_1.length c0_1]) (t := 51) ?hr ?_; (case hd => rfl); (case hg => rfl); (case hr => first | (go_simp; done) | (go_simp; rfl)); intro gb768 hg w28 hbox hb; have n0_ := aM (bP (by repeat (first | (with_reducible first | exact HB.out | apply ea | apply en | apply ed) | exact HB.out)) hb); have n1_ := aM (hbox); have n2_ := aM ((by rw [hg]; exact (bZ (by repeat (first | (with_reducible first | exact HB.out | apply ea | apply en | apply ed) | exact HB.out))) : w.heap.size ≤ gb768)); have n3_ := aM ((by rw [hg]; exact (bZ (by repeat (first | (with_reducible first | exact HB.out | apply ea | apply en | apply ed) | exact HB.out))) : w.heap.size ≤ gb768)); clear HB; have HB := n0_; have BK768 := n1_; have GW768 := n2_; have GE768 := n3_; clear n0_ n1_ n2_ n3_; clear hb hbox hg) | ((with_reducible refine gate_dst (N := 4) rfl ?_); refine box_event ?hg (N := 4) ?hd (cs := #[.string a1_0, .slice A1_1 l1_1.length c1_1]) (t := 51) ?hr ?_; (case hd => rfl); (case hg => rfl); (case hr => first | (go_simp; done) | (go_simp; rfl)); intro gb769 hg w29 hbox hb; have n0_ := aM (bB (g := gb768) (o := .cells #[.string a0_0, .slice A0_1 l0_1.length c0_1] 51 (0, 0)) (by (with_reducible repeat (first | refine qn ?_ _ | refine qd ?_ | refine qa ?_ _)); exact BK768.out) hb); have n1_ := aM (bP (by repeat (first | (with_reducible first | exact HB.out | apply ea | apply en | apply ed | refine es ?_ GE768.out) | exact HB.out)) hb); have n2_ := aM (hbox); have n3_ := aM ((by rw [hg]; exact (bZ (by repeat (first | (with_reducible first | exact HB.out | apply ea | apply en | apply ed | refine es ?_ GE768.out) | exact HB.out))) : w.heap.size ≤ gb769)); have n4_ := aM ((by rw [hg]; exact (bZ (by repeat (first | (with_reducible first | exact HB.out | apply ea | apply en | apply ed | refine es ?_ GE768.out) | exact HB.out))) : w.heap.size ≤ gb769)); have n5_ := aM ((by rw [hg]; exact Nat.ne_of_lt (blk_lt (g := gb768) (o := .cells #[.string a0_0, .slice A0_1 l0_1.length c0_1] 51 (0, 0)) (by (with_reducible repeat (first | refine qn ?_ _ | refine qd ?_ | refine qa ?_ _)); exact BK768.out)) : gb768 ≠ gb769)); have n6_ := aM ((by rw [hg]; exact Nat.ne_of_gt (blk_lt (g := gb768) (o := .cells #[.string a0_0, .slice A0_1 l0_1.length c0_1] 51 (0, 0)) (by (with_reducible repeat (first | refine qn ?_ _ | refine qd ?_ | refine qa ?_ _)); exact BK768.out)) : gb769 ≠ gb768)); clear BK768; clear HB; have BK768 := n0_; have HB := n1_; have BK769 := n2_; have GW769 := n3_; have GE769 := n4_; have NB768_769 := n5_; have NB769_768 := n6_; clear n0_ n1_ n2_ n3_ n4_ n5_ n6_; clear hb hbox hg; have hnb30 := NB768_769.out; have hnc30 := NB769_768.out; have hcz31_0 : w29.cell? ⟨gb768, 0, none⟩ = some (.string a0_0) := (bC BK768.out 0).trans rfl; have hcz31_1 : w29.cell? ⟨gb768, 1, none⟩ = some (.slice A0_1 l0_1.length c0_1) := (bC BK768.out 1).trans rfl; have hfz31_0 := bF BK768.out 0; have hfz31_1 := bF BK768.out 1) | ((with_reducible refine gate_callee (f := 69) rfl ?_); refine goesL_ (some 14) rfl rfl Try.func69 (by kernel_rfl) rfl #[.agg #[.string a0_0, .slice A0_1 l0_1.length c0_1], .int .u64 a2] rfl (by (try simp only [List.map_toArray, List.map_cons, List.map_nil]); first | done | rfl | (simp only [List.length_drop, List.length_take]; rfl)) ?_; (with_reducible refine (bureauref04_View.calls k a0_0 _ _ l0_1 a2 t770 t771 _ ?side1 ?side2 A4.out).mono ?_); (case side1 => repeat (first | exact (cB_ HR0_1.out HB.out) | (with_reducible refine Kd.C_alloc ?_ _) | (with_reducible refine Kd.C_drewN ?_ _) | (with_reducible refine Kd.C_drew ?_))); (case side2 => exact HC0_1.out); rintro e w32 ⟨rfl, hb⟩; refine ⟨_, rfl, ?_⟩; have n0_ := aM (bB (g := gb768) (o := .cells #[.string a0_0, .slice A0_1 l0_1.length c0_1] 51 (0, 0)) (by (with_reducible repeat (first | refine qn ?_ _ | refine qd ?_ | refine qa ?_ _)); exact BK768.out) hb); have n1_ := aM (bB (g := gb769) (o := .cells #[.string a1_0, .slice A1_1 l1_1.length c1_1] 51 (0, 0)) (by (with_reducible repeat (first | refine qn ?_ _ | refine qd ?_ | refine qa ?_ _)); exact BK769.out) hb); have n2_ := aM (bP (by repeat (first | (with_reducible first | exact HB.out | apply ea | apply en | apply ed | refine es ?_ GE768.out | refine es ?_ GE769.out) | exact HB.out)) hb); clear BK768; clear BK769; clear HB; have BK768 := n0_; have BK769 := n1_; have HB := n2_; clear n0_ n1_ n2_; (try clear hb); (try clear hb2); (try clear hk); (try clear hi); have hcz33_0 : w32.cell? ⟨gb769, 0, none⟩ = some (.string a1_0) := (bC BK769.out 0).trans rfl; have hcz33_1 : w32.cell? ⟨gb769, 1, none⟩ = some (.slice A1_1 l1_1.length c1_1) := (bC BK769.out 1).trans rfl; have hfz33_0 := bF BK769.out 0; have hfz33_1 := bF BK769.out 1) | ((with_reducible refine gate_callee (f := 69) rfl ?_); refine goesL_ (some 20) rfl rfl Try.func69 (by kernel_rfl) rfl #[.agg #[.string a1_0, .slice A1_1 l1_1.length c1_1], .int .u64 a2] rfl (by (try simp only [List.map_toArray, List.map_cons, List.map_nil]); first | done | rfl | (simp only [List.length_drop, List.length_take]; rfl)) ?_; (with_reducible refine (bureauref04_View.calls k a1_0 _ _ l1_1 a2 t772 t773 _ ?side1 ?side2 A5.out).mono ?_); (case side1 => repeat (first | exact (cB_ HR1_1.out HB.out) | (with_reducible refine Kd.C_alloc ?_ _) | (with_reducible refine Kd.C_drewN ?_ _) | (with_reducible refine Kd.C_drew ?_))); (case side2 => exact HC1_1.out); rintro e w34 ⟨rfl, hb⟩; refine ⟨_, rfl, ?_⟩; have n0_ := aM (bB (g := gb768) (o := .cells #[.string a0_0, .slice A0_1 l0_1.length c0_1] 51 (0, 0)) (by (with_reducible repeat (first | refine qn ?_ _ | refine qd ?_ | refine qa ?_ _)); exact BK768.out) hb); have n1_ := aM (bB (g := gb769) (o := .cells #[.string a1_0, .slice A1_1 l1_1.length c1_1] 51 (0, 0)) (by (with_reducible repeat (first | refine qn ?_ _ | refine qd ?_ | refine qa ?_ _)); exact BK769.out) hb); have n2_ := aM (bP (by repeat (first | (with_reducible first | exact HB.out | apply ea | apply en | apply ed | refine es ?_ GE768.out | refine es ?_ GE769.out) | exact HB.out)) hb); clear BK768; clear BK769; clear HB; have BK768 := n0_; have BK769 := n1_; have HB := n2_; clear n0_ n1_ n2_; (try clear hb); (try clear hb2); (try clear hk); (try clear hi)))
      go_ret
      exact ⟨by first | rfl | (simp [errW_none, errW_some] <;> rfl) | (simp [*, errW_none, errW_some] <;> rfl), by repeat (first | (with_reducible first | exact HB.out | apply ea | apply en | apply ed | refine es ?_ GE768.out | refine es ?_ GE769.out) | exact HB.out)⟩
  · rw [if_neg c6] at H
    have c6b0 : (t771 == 0) = false := beq_eq_false_iff_ne.mpr c6
    have c6b1 : (t771 != 0) = true := bne_iff_ne.mpr c6
    obtain rfl := Option.some.inj H
    go_enter Try.func67, Try.ntmps67
    go_wp2_with (first | ((with_reducible refine gate_dst (N := 3) rfl ?_); refine box_event ?hg (N := 3) ?hd (cs := #[.string a0_0, .slice A0_1 l0_1.length c0_1]) (t := 51) ?hr ?_; (case hd => rfl); (case hg => rfl); (case hr => first | (go_simp; done) | (go_simp; rfl)); intro gb768 hg w35 hbox hb; have n0_ := aM (bP (by repeat (first | (with_reducible first | exact HB.out | apply ea | apply en | apply ed) | exact HB.out)) hb); have n1_ := aM (hbox); have n2_ := aM ((by rw [hg]; exact (bZ (by repeat (first | (with_reducible first | exact HB.out | apply ea | apply en | apply ed) | exact HB.out))) : w.heap.size ≤ gb768)); have n3_ := aM ((by rw [hg]; exact (bZ (by repeat (first | (with_reducible first | exact HB.out | apply ea | apply en | apply ed) | exact HB.out))) : w.heap.size ≤ gb768)); clear HB; have HB := n0_; have BK768 := n1_; have GW768 := n2_; have GE768 := n3_; clear n0_ n1_ n2_ n3_; clear hb hbox hg) | ((with_reducible refine gate_dst (N := 4) rfl ?_); refine box_event ?hg (N := 4) ?hd (cs := #[.string a1_0, .slice A1_1 l1_1.length c1_1]) (t := 51) ?hr ?_; (case hd => rfl); (case hg => rfl); (case hr => first | (go_simp; done) | (go_simp; rfl)); intro gb769 hg w36 hbox hb; have n0_ := aM (bB (g := gb768) (o := .cells #[.string a0_0, .slice A0_1 l0_1.length c0_1] 51 (0, 0)) (by (with_reducible repeat (first | refine qn ?_ _ | refine qd ?_ | refine qa ?_ _)); exact BK768.out) hb); have n1_ := aM (bP (by repeat (first | (with_reducible first | exact HB.out | apply ea | apply en | apply ed | refine es ?_ GE768.out) | exact HB.out)) hb); have n2_ := aM (hbox); have n3_ := aM ((by rw [hg]; exact (bZ (by repeat (first | (with_reducible first | exact HB.out | apply ea | apply en | apply ed | refine es ?_ GE768.out) | exact HB.out))) : w.heap.size ≤ gb769)); have n4_ := aM ((by rw [hg]; exact (bZ (by repeat (first | (with_reducible first | exact HB.out | apply ea | apply en | apply ed | refine es ?_ GE768.out) | exact HB.out))) : w.heap.size ≤ gb769)); have n5_ := aM ((by rw [hg]; exact Nat.ne_of_lt (blk_lt (g := gb768) (o := .cells #[.string a0_0, .slice A0_1 l0_1.length c0_1] 51 (0, 0)) (by (with_reducible repeat (first | refine qn ?_ _ | refine qd ?_ | refine qa ?_ _)); exact BK768.out)) : gb768 ≠ gb769)); have n6_ := aM ((by rw [hg]; exact Nat.ne_of_gt (blk_lt (g := gb768) (o := .cells #[.string a0_0, .slice A0_1 l0_1.length c0_1] 51 (0, 0)) (by (with_reducible repeat (first | refine qn ?_ _ | refine qd ?_ | refine qa ?_ _)); exact BK768.out)) : gb769 ≠ gb768)); clear BK768; clear HB; have BK768 := n0_; have HB := n1_; have BK769 := n2_; have GW769 := n3_; have GE769 := n4_; have NB768_769 := n5_; have NB769_768 := n6_; clear n0_ n1_ n2_ n3_ n4_ n5_ n6_; clear hb hbox hg; have hnb37 := NB768_769.out; have hnc37 := NB769_768.out; have hcz38_0 : w36.cell? ⟨gb768, 0, none⟩ = some (.string a0_0) := (bC BK768.out 0).trans rfl; have hcz38_1 : w36.cell? ⟨gb768, 1, none⟩ = some (.slice A0_1 l0_1.length c0_1) := (bC BK768.out 1).trans rfl; have hfz38_0 := bF BK768.out 0; have hfz38_1 := bF BK768.out 1) | ((with_reducible refine gate_callee (f := 69) rfl ?_); refine goesL_ (some 14) rfl rfl Try.func69 (by kernel_rfl) rfl #[.agg #[.string a0_0, .slice A0_1 l0_1.length c0_1], .int .u64 a2] rfl (by (try simp only [List.map_toArray, List.map_cons, List.map_nil]); first | done | rfl | (simp only [List.length_drop, List.length_take]; rfl)) ?_; (with_reducible refine (bureauref04_View.calls k a0_0 _ _ l0_1 a2 t770 t771 _ ?side1 ?side2 A4.out).mono ?_); (case side1 => repeat (first | exact (cB_ HR0_1.out HB.out) | (with_reducible refine Kd.C_alloc ?_ _) | (with_reducible refine Kd.C_drewN ?_ _) | (with_reducible refine Kd.C_drew ?_))); (case side2 => exact HC0_1.out); rintro e w39 ⟨rfl, hb⟩; refine ⟨_, rfl, ?_⟩; have n0_ := aM (bB (g := gb768) (o := .cells #[.string a0_0, .slice A0_1 l0_1.length c0_1] 51 (0, 0)) (by (with_reducible repeat (first | refine qn ?_ _ | refine qd ?_ | refine qa ?_ _)); exact BK768.out) hb); have n1_ := aM (bB (g := gb769) (o := .cells #[.string a1_0, .slice A1_1 l1_1.length c1_1] 51 (0, 0)) (by (with_reducible repeat (first | refine qn ?_ _ | refine qd ?_ | refine qa ?_ _)); exact BK769.out) hb); have n2_ := aM (bP (by repeat (first | (with_reducible first | exact HB.out | apply ea | apply en | apply ed | refine es ?_ GE768.out | refine es ?_ GE769.out) | exact HB.out)) hb); clear BK768; clear BK769; clear HB; have BK768 := n0_; have BK769 := n1_; have HB := n2_; clear n0_ n1_ n2_; (try clear hb); (try clear hb2); (try clear hk); (try clear hi); have hcz40_0 : w39.cell? ⟨gb769, 0, none⟩ = some (.string a1_0) := (bC BK769.out 0).trans rfl; have hcz40_1 : w39.cell? ⟨gb769, 1, none⟩ = some (.slice A1_1 l1_1.length c1_1) := (bC BK769.out 1).trans rfl; have hfz40_0 := bF BK769.out 0; have hfz40_1 := bF BK769.out 1) | ((with_reducible refine gate_callee (f := 69) rfl ?_); refine goesL_ (some 20) rfl rfl Try.func69 (by kernel_rfl) rfl #[.agg #[.string a1_0, .slice A1_1 l1_1.length c1_1], .int .u64 a2] rfl (by (try simp only [List.map_toArray, List.map_cons, List.map_nil]); first | done | rfl | (simp only [List.length_drop, List.length_take]; rfl)) ?_; (with_reducible refine (bureauref04_View.calls k a1_0 _ _ l1_1 a2 t772 t773 _ ?side1 ?side2 A5.out).mono ?_); (case side1 => repeat (first | exact (cB_ HR1_1.out HB.out) | (with_reducible refine Kd.C_alloc ?_ _) | (with_reducible refine Kd.C_drewN ?_ _) | (with_reducible refine Kd.C_drew ?_))); (case side2 => exact HC1_1.out); rintro e w41 ⟨rfl, hb⟩; refine ⟨_, rfl, ?_⟩; have n0_ := aM (bB (g := gb768) (o := .cells #[.string a0_0, .slice A0_1 l0_1.length c0_1] 51 (0, 0)) (by (with_reducible repeat (first | refine qn ?_ _ | refine qd ?_ | refine qa ?_ _)); exact BK768.out) hb); have n1_ := aM (bB (g := gb769) (o := .cells #[.string a1_0, .slice A1_1 l1_1.length c1_1] 51 (0, 0)) (by (with_reducible repeat (first | refine qn ?_ _ | refine qd ?_ | refine qa ?_ _)); exact BK769.out) hb); have n2_ := aM (bP (by repeat (first | (with_reducible first | exact HB.out | apply ea | apply en | apply ed | refine es ?_ GE768.out | refine es ?_ GE769.out) | exact HB.out)) hb); clear BK768; clear BK769; clear HB; have BK768 := n0_; have BK769 := n1_; have HB := n2_; clear n0_ n1_ n2_; (try clear hb); (try clear hb2); (try clear hk); (try clear hi)))
    go_ret
    exact ⟨by first | rfl | (simp [errW_none, errW_some] <;> rfl) | (simp [*, errW_none, errW_some] <;> rfl), by repeat (first | (with_reducible first | exact HB.out | apply ea | apply en | apply ed | refine es ?_ GE768.out | refine es ?_ GE769.out) | exact HB.out)⟩
end Go.Proofs.Ythpjagblnddjaaa.PB
end

section
namespace Go.Proofs.Ythpjagblnddjaaa.PB
open Go.RowKit Go.Proofs.YthpjagblnddjaaaW.PrintWords Go.Proofs.YthpjagblnddjaaaW.PrintLast Go.Proofs.YthpjagblnddjaaaW.PrintMore
attribute [local go_sem] max2_int min2_int max_two min_two max_three min_three max_four min_four   
set_option linter.unusedVariables false
set_option linter.unusedSimpArgs false
set_option linter.unusedVariables false
set_option linter.unusedSimpArgs false
mutual
def bureaulaw07_EditHides.j0 : Nat → Int → Bool → ByteArray → List (S100) → ByteArray → List (S100) → ByteArray → Int → Int → Int → Option (Bool)
  | 0, _, _, _, _, _, _, _, _, _, _ => none
  | k + 1, x1, x32, x776000, x776001, x776002, x776003, x776004, x776005, x776006, x776007 => if x32 = true then (some true) else ((bureauref04_Other.f k x776000 x776001 x1 x776004).bind fun bt779 => ((bureauref04_Other.f k x776002 x776003 x1 x776004).bind fun bt783 => ((edit_Of.f k x776000 x776001 x776005 x776006 x776002 x776003).bind fun bt789 => ((edit_Of.f k bt779.1 bt779.2 x776005 x776006 bt783.1 bt783.2).bind fun bt800 => (if bt789.2.2.2.2.2 = 0 then (bureaulaw07_EditHides.j1 k x1 bt789.2.2.2.2.2 bt800.2.2.2.2.2 (bt800.2.2.2.2.2 != 0) x776000 x776001 x776002 x776003 x776004 x776005 x776006 x776007 bt779.1 bt779.2 bt789.1 bt789.2.1 bt789.2.2.1 bt789.2.2.2.1 bt789.2.2.2.2.1 bt800.1 bt800.2.1 bt800.2.2.1 bt800.2.2.2.1 bt800.2.2.2.2.1) else (bureaulaw07_EditHides.j1 k x1 bt789.2.2.2.2.2 bt800.2.2.2.2.2 true x776000 x776001 x776002 x776003 x776004 x776005 x776006 x776007 bt779.1 bt779.2 bt789.1 bt789.2.1 bt789.2.2.1 bt789.2.2.2.1 bt789.2.2.2.2.1 bt800.1 bt800.2.1 bt800.2.2.1 bt800.2.2.2.1 bt800.2.2.2.2.1))))))
def bureaulaw07_EditHides.j1 : Nat → Int → Int → Int → Bool → ByteArray → List (S100) → ByteArray → List (S100) → ByteArray → Int → Int → Int → ByteArray → List (S100) → Int → ByteArray → List (S100) → ByteArray → List (S100) → Int → ByteArray → List (S100) → ByteArray → List (S100) → Option (Bool)
  | 0, _, _, _, _, _, _, _, _, _, _, _, _, _, _, _, _, _, _, _, _, _, _, _, _ => none
  | k + 1, x1, x8, x10, x72, x776000, x776001, x776002, x776003, x776004, x776005, x776006, x776007, x788000, x788001, x800000, x800001, x800002, x800003, x800004, x811000, x811001, x811002, x811003, x811004 => if x72 = true then (some (x8 == x10)) else ((edit_Apply.f k x776000 x776001 x800000 x800001 x800002 x800003 x800004).bind fun bt811 => ((edit_Apply.f k x788000 x788001 x811000 x811001 x811002 x811003 x811004).bind fun bt817 => (if bt811.2.2 = 0 then (if bt817.2.2 = 0 then ((bureauref04_Low.f k bt811.1 bt811.2.1 bt817.1 bt817.2.1 x1).bind fun t823 => (if t823 = true then ((bureauref04_Low.f k x800001 x800002 x811001 x811002 x1).bind fun t824 => (some t824)) else (some false))) else (some false)) else (some false))))
end
def bureaulaw07_EditHides.f (k : Nat) (a0_0 : ByteArray) (l0_1 : List (S100)) (a0_2 : ByteArray) (l0_3 : List (S100)) (a0_4 : ByteArray) (a0_5 : Int) (a0_6 : Int) (a0_7 : Int) (a1 : Int) : Option (Bool) := (bureaulaw07_alive.f k).bind fun t776 => (if t776 = true then ((bureaulaw04_Fits.f a0_0 l0_1).bind fun t777 => (if t777 = true then ((bureaulaw04_Fits.f a0_2 l0_3).bind fun t778 => (if t778 = true then (bureaulaw07_EditHides.j0 k a1 (decide ((a0_4.size : Int) > 5000)) a0_0 l0_1 a0_2 l0_3 a0_4 a0_5 a0_6 a0_7) else (bureaulaw07_EditHides.j0 k a1 true a0_0 l0_1 a0_2 l0_3 a0_4 a0_5 a0_6 a0_7))) else (bureaulaw07_EditHides.j0 k a1 true a0_0 l0_1 a0_2 l0_3 a0_4 a0_5 a0_6 a0_7))) else (some false))
def bureaulaw07_EditHides.T5 : Bool × List (List Nat × List Nat) := (true, [([], []), ([0], [0]), ([], []), ([], []), ([3], [3]), ([1, 2, 4], [1, 2, 4]), ([], []), ([6], [6]), ([], []), ([], []), ([9], [9]), ([7, 8, 10, 5], [7, 8, 10]), ([], []), ([], []), ([12, 5, 11, 0, 1, 2, 3, 4, 5, 12, 13], [5, 12]), ([13, 11, 14, 0, 1, 2, 3, 4, 5, 6, 7, 8, 9, 10, 11, 12, 13, 14], [11, 13])])
def bureaulaw07_EditHides.B5 : List Nat := [0, 1, 0, 0, 8, 31, 0, 64, 0, 0, 512, 2047, 0, 0, 16383, 32767]
theorem bureaulaw07_EditHides.tab5 : rtab .any (opsOf Try.f16 5) = bureaulaw07_EditHides.T5 := by kernel_rfl
theorem bureaulaw07_EditHides.bits5 : waitsOk bureaulaw07_EditHides.T5.2 bureaulaw07_EditHides.B5 = true := by kernel_rfl
end Go.Proofs.Ythpjagblnddjaaa.PB
end
