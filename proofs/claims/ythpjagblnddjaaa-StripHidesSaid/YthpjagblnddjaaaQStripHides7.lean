/- The row of a law out of its contract and its pure theorem. No condition. -/
import Derived.OpenShut
import Derived.ChangeArms
import Derived.Deep.Slices
import Derived.SizedLaws
import Derived.Test.YthpjagblnddjaaaRows
import Derived.ProofKit
import Derived.OpenShut
import Derived.ShutString
import Derived.ChangeOld
import Derived.SizedLaws
import Derived.Carry
import Derived.Test.YthpjagblnddjaaaQStripHides6
section
namespace Go.Proofs.Ythpjagblnddjaaa.PB
open Go.RowKit Go.Proofs.YthpjagblnddjaaaW.PrintWords Go.Proofs.YthpjagblnddjaaaW.PrintLast Go.Proofs.YthpjagblnddjaaaW.PrintMore
attribute [local go_sem] max2_int min2_int max_two min_two max_three min_three max_four min_four   
set_option linter.unusedVariables false
set_option linter.unusedSimpArgs false
set_option maxHeartbeats 8000000 in
set_option maxRecDepth 100000 in
theorem bureaulaw04_StripHides.calls (k : Nat) (a0_0 : ByteArray) (A0_1 : Option Addr) (c0_1 : Nat) (l0_1 : List (S100)) (a0_2 : ByteArray) (A0_3 : Option Addr) (c0_3 : Nat) (l0_3 : List (S100)) (a0_4 : ByteArray) (a0_5 : Int) (a0_6 : Int) (a0_7 : Int) (a1 : Int) (r : Bool) (w : World) (hr0_1 : Kd.C k100 w A0_1 l0_1.length l0_1) (hc0_1 : l0_1.length ≤ c0_1) (hr0_3 : Kd.C k100 w A0_3 l0_3.length l0_3) (hc0_3 : l0_3.length ≤ c0_3) (h : bureaulaw04_StripHides.f k a0_0 l0_1 a0_2 l0_3 a0_4 a0_5 a0_6 a0_7 a1 = some r) :
    Calls Try.prog 23 #[.agg #[.string a0_0, .slice A0_1 l0_1.length c0_1, .string a0_2, .slice A0_3 l0_3.length c0_3, .string a0_4, .int .i64 a0_5, .int .i64 a0_6, .int .u64 a0_7], .int .u64 a1] w fun e w' => e = .returned (.bool r) ∧ Below w.heap.size w w' := by
  have hu77 := Try.underlying77
  have hu51 := Try.underlying51
  have HR0_1 := aM hr0_1
  have HC0_1 := aM hc0_1
  clear hr0_1 hc0_1
  have HR0_3 := aM hr0_3
  have HC0_3 := aM hc0_3
  clear hr0_3 hc0_3
  have HB := aM (Below.refl w.heap.size w)
  have H : ((bureaulaw04_alive.f k).bind fun t1012 => (if t1012 = true then ((bureaulaw04_Fits.f a0_0 l0_1).bind fun t1013 => (if t1013 = true then ((bureaulaw04_Fits.f a0_2 l0_3).bind fun t1014 => (if t1014 = true then (bureaulaw04_StripHides.j0 k a1 (decide ((a0_4.size : Int) > 5000)) a0_0 l0_1 a0_2 l0_3 a0_4 a0_5 a0_6 a0_7) else (bureaulaw04_StripHides.j0 k a1 true a0_0 l0_1 a0_2 l0_3 a0_4 a0_5 a0_6 a0_7))) else (bureaulaw04_StripHides.j0 k a1 true a0_0 l0_1 a0_2 l0_3 a0_4 a0_5 a0_6 a0_7))) else (some false))) = some r := h
  clear h
  replace H := Option.bind_eq_some_iff.mp H
  obtain ⟨t1012, A30, H⟩ := H
  replace H : (if t1012 = true then ((bureaulaw04_Fits.f a0_0 l0_1).bind fun t1013 => (if t1013 = true then ((bureaulaw04_Fits.f a0_2 l0_3).bind fun t1014 => (if t1014 = true then (bureaulaw04_StripHides.j0 k a1 (decide ((a0_4.size : Int) > 5000)) a0_0 l0_1 a0_2 l0_3 a0_4 a0_5 a0_6 a0_7) else (bureaulaw04_StripHides.j0 k a1 true a0_0 l0_1 a0_2 l0_3 a0_4 a0_5 a0_6 a0_7))) else (bureaulaw04_StripHides.j0 k a1 true a0_0 l0_1 a0_2 l0_3 a0_4 a0_5 a0_6 a0_7))) else (some false)) = some r := H
  have A3 := aM A30
  clear A30
  by_cases c4 : t1012 = true
  · subst c4
    have H1 : ((bureaulaw04_Fits.f a0_0 l0_1).bind fun t1013 => (if t1013 = true then ((bureaulaw04_Fits.f a0_2 l0_3).bind fun t1014 => (if t1014 = true then (bureaulaw04_StripHides.j0 k a1 (decide ((a0_4.size : Int) > 5000)) a0_0 l0_1 a0_2 l0_3 a0_4 a0_5 a0_6 a0_7) else (bureaulaw04_StripHides.j0 k a1 true a0_0 l0_1 a0_2 l0_3 a0_4 a0_5 a0_6 a0_7))) else (bureaulaw04_StripHides.j0 k a1 true a0_0 l0_1 a0_2 l0_3 a0_4 a0_5 a0_6 a0_7))) = some r := by rw [if_pos rfl] at H; exact H
    clear H
    have H := H1
    clear H1
    have HC5 := aM H
    clear H
    go_enter Try.func23, Try.ntmps23
    go_upto_region 3 with (first | ((with_reducible refine gate_dst (N := 2) rfl ?_); (try (refine gate_guard (by rfl) ?_; dsimp only)); refine box_event ?hg (N := 2) ?hd (cs := #[.string a0_0, .slice A0_1 l0_1.length c0_1, .string a0_2, .slice A0_3 l0_3.length c0_3, .string a0_4, .int .i64 a0_5, .int .i64 a0_6, .int .u64 a0_7]) (t := 77) ?hr ?_; (case hd => rfl); (case hg => rfl); (case hr => first | (go_simp; done) | (go_simp; rfl)); intro gb1011 hg w6 hbox hb; have n0_ := aM (bP (by repeat (first | (with_reducible first | exact HB.out | apply ea | apply en | apply ed) | exact HB.out)) hb); have n1_ := aM (hbox); have n2_ := aM ((by rw [hg]; exact (bZ (by repeat (first | (with_reducible first | exact HB.out | apply ea | apply en | apply ed) | exact HB.out))) : w.heap.size ≤ gb1011)); have n3_ := aM ((by rw [hg]; exact (bZ (by repeat (first | (with_reducible first | exact HB.out | apply ea | apply en | apply ed) | exact HB.out))) : w.heap.size ≤ gb1011)); clear HB; have HB := n0_; have BK1011 := n1_; have GW1011 := n2_; have GE1011 := n3_; clear n0_ n1_ n2_ n3_; clear hb hbox hg) | ((with_reducible refine gate_callee (f := 44) rfl ?_); refine goesL_ (some 11) rfl rfl Try.func44 (by kernel_rfl) rfl #[] rfl (by (try simp only [List.map_toArray, List.map_cons, List.map_nil]); first | done | rfl | (simp only [List.length_drop, List.length_take]; rfl)) ?_; (with_reducible refine (bureaulaw04_alive.calls k  true _ A3.out).mono ?_); rintro e w7 ⟨rfl, hb⟩; refine ⟨_, rfl, ?_⟩; have n0_ := aM (bB (g := gb1011) (o := .cells #[.string a0_0, .slice A0_1 l0_1.length c0_1, .string a0_2, .slice A0_3 l0_3.length c0_3, .string a0_4, .int .i64 a0_5, .int .i64 a0_6, .int .u64 a0_7] 77 (0, 0)) (by (with_reducible repeat (first | refine qn ?_ _ | refine qd ?_ | refine qa ?_ _)); exact BK1011.out) hb); have n1_ := aM (bP (by repeat (first | (with_reducible first | exact HB.out | apply ea | apply en | apply ed | refine es ?_ GE1011.out) | exact HB.out)) hb); clear BK1011; clear HB; have BK1011 := n0_; have HB := n1_; clear n0_ n1_; (try clear hb); (try clear hb2); (try clear hk); (try clear hi)))
    (try simp only [Act.put, List.setIfInBounds_toArray, List.set_cons_zero, List.set_cons_succ])
    go_cut [28] (fun v28 wc => ∃ (kq : Nat) (x28_4 : Bool), v28 = .bool x28_4 ∧ Aside0 (bureaulaw04_StripHides.j0 kq a1 x28_4 a0_0 l0_1 a0_2 l0_3 a0_4 a0_5 a0_6 a0_7 = some r) ∧ Aside0 (kq ≤ k) ∧ Aside0 (wc.heap[gb1011]? = some (.cells #[.string a0_0, (.slice A0_1 l0_1.length c0_1), .string a0_2, (.slice A0_3 l0_3.length c0_3), .string a0_4, .int .i64 a0_5, .int .i64 a0_6, .int .u64 a0_7] 77 (0, 0))) ∧ Aside0 (Below w.heap.size w wc))
    case first =>
      have H := HC5.out
      clear HC5
      replace H := Option.bind_eq_some_iff.mp H
      obtain ⟨t1013, A80, H⟩ := H
      replace H : (if t1013 = true then ((bureaulaw04_Fits.f a0_2 l0_3).bind fun t1014 => (if t1014 = true then (bureaulaw04_StripHides.j0 k a1 (decide ((a0_4.size : Int) > 5000)) a0_0 l0_1 a0_2 l0_3 a0_4 a0_5 a0_6 a0_7) else (bureaulaw04_StripHides.j0 k a1 true a0_0 l0_1 a0_2 l0_3 a0_4 a0_5 a0_6 a0_7))) else (bureaulaw04_StripHides.j0 k a1 true a0_0 l0_1 a0_2 l0_3 a0_4 a0_5 a0_6 a0_7)) = some r := H
      have A8 := aM A80
      clear A80
      by_cases c9 : t1013 = true
      · subst c9
        have H1 : ((bureaulaw04_Fits.f a0_2 l0_3).bind fun t1014 => (if t1014 = true then (bureaulaw04_StripHides.j0 k a1 (decide ((a0_4.size : Int) > 5000)) a0_0 l0_1 a0_2 l0_3 a0_4 a0_5 a0_6 a0_7) else (bureaulaw04_StripHides.j0 k a1 true a0_0 l0_1 a0_2 l0_3 a0_4 a0_5 a0_6 a0_7))) = some r := by rw [if_pos rfl] at H; exact H
        clear H
        have H := H1
        clear H1
        replace H := Option.bind_eq_some_iff.mp H
        obtain ⟨t1014, A100, H⟩ := H
        replace H : (if t1014 = true then (bureaulaw04_StripHides.j0 k a1 (decide ((a0_4.size : Int) > 5000)) a0_0 l0_1 a0_2 l0_3 a0_4 a0_5 a0_6 a0_7) else (bureaulaw04_StripHides.j0 k a1 true a0_0 l0_1 a0_2 l0_3 a0_4 a0_5 a0_6 a0_7)) = some r := H
        have A10 := aM A100
        clear A100
        by_cases c11 : t1014 = true
        · subst c11
          have H1 : (bureaulaw04_StripHides.j0 k a1 (decide ((a0_4.size : Int) > 5000)) a0_0 l0_1 a0_2 l0_3 a0_4 a0_5 a0_6 a0_7) = some r := by rw [if_pos rfl] at H; exact H
          clear H
          have H := H1
          clear H1
          have H' := aM H
          clear H
          have hcz12_0 : w7.cell? ⟨gb1011, 0, none⟩ = some (.string a0_0) := (bC BK1011.out 0).trans rfl
          have hcz12_1 : w7.cell? ⟨gb1011, 1, none⟩ = some (.slice A0_1 l0_1.length c0_1) := (bC BK1011.out 1).trans rfl
          have hcz12_2 : w7.cell? ⟨gb1011, 2, none⟩ = some (.string a0_2) := (bC BK1011.out 2).trans rfl
          have hcz12_3 : w7.cell? ⟨gb1011, 3, none⟩ = some (.slice A0_3 l0_3.length c0_3) := (bC BK1011.out 3).trans rfl
          have hcz12_4 : w7.cell? ⟨gb1011, 4, none⟩ = some (.string a0_4) := (bC BK1011.out 4).trans rfl
          have hcz12_5 : w7.cell? ⟨gb1011, 5, none⟩ = some (.int .i64 a0_5) := (bC BK1011.out 5).trans rfl
          have hcz12_6 : w7.cell? ⟨gb1011, 6, none⟩ = some (.int .i64 a0_6) := (bC BK1011.out 6).trans rfl
          have hcz12_7 : w7.cell? ⟨gb1011, 7, none⟩ = some (.int .u64 a0_7) := (bC BK1011.out 7).trans rfl
          have hfz12_0 := bF BK1011.out 0
          have hfz12_1 := bF BK1011.out 1
          have hfz12_2 := bF BK1011.out 2
          have hfz12_3 := bF BK1011.out 3
          have hfz12_4 := bF BK1011.out 4
          have hfz12_5 := bF BK1011.out 5
          have hfz12_6 := bF BK1011.out 6
          have hfz12_7 := bF BK1011.out 7
          go_wp2_with (first | ((with_reducible refine gate_callee (f := 45) rfl ?_); refine goesL_ (some 15) rfl rfl Try.func45 (by kernel_rfl) rfl #[.agg #[.string a0_0, .slice A0_1 l0_1.length c0_1]] rfl (by (try simp only [List.map_toArray, List.map_cons, List.map_nil]); first | done | rfl | (simp only [List.length_drop, List.length_take]; rfl)) ?_; (with_reducible refine (bureaulaw04_Fits.calls a0_0 _ _ l0_1 true _ ?side1 ?side2 A8.out).mono ?_); (case side1 => repeat (first | exact (cB_ HR0_1.out HB.out) | (with_reducible refine Kd.C_alloc ?_ _) | (with_reducible refine Kd.C_drewN ?_ _) | (with_reducible refine Kd.C_drew ?_))); (case side2 => exact HC0_1.out); rintro e w13 ⟨rfl, hb⟩; refine ⟨_, rfl, ?_⟩; have n0_ := aM (bB (g := gb1011) (o := .cells #[.string a0_0, .slice A0_1 l0_1.length c0_1, .string a0_2, .slice A0_3 l0_3.length c0_3, .string a0_4, .int .i64 a0_5, .int .i64 a0_6, .int .u64 a0_7] 77 (0, 0)) (by (with_reducible repeat (first | refine qn ?_ _ | refine qd ?_ | refine qa ?_ _)); exact BK1011.out) hb); have n1_ := aM (bP (by repeat (first | (with_reducible first | exact HB.out | apply ea | apply en | apply ed | refine es ?_ GE1011.out) | exact HB.out)) hb); clear BK1011; clear HB; have BK1011 := n0_; have HB := n1_; clear n0_ n1_; (try clear hb); (try clear hb2); (try clear hk); (try clear hi); have hcz14_0 : w13.cell? ⟨gb1011, 0, none⟩ = some (.string a0_0) := (bC BK1011.out 0).trans rfl; have hcz14_1 : w13.cell? ⟨gb1011, 1, none⟩ = some (.slice A0_1 l0_1.length c0_1) := (bC BK1011.out 1).trans rfl; have hcz14_2 : w13.cell? ⟨gb1011, 2, none⟩ = some (.string a0_2) := (bC BK1011.out 2).trans rfl; have hcz14_3 : w13.cell? ⟨gb1011, 3, none⟩ = some (.slice A0_3 l0_3.length c0_3) := (bC BK1011.out 3).trans rfl; have hcz14_4 : w13.cell? ⟨gb1011, 4, none⟩ = some (.string a0_4) := (bC BK1011.out 4).trans rfl; have hcz14_5 : w13.cell? ⟨gb1011, 5, none⟩ = some (.int .i64 a0_5) := (bC BK1011.out 5).trans rfl; have hcz14_6 : w13.cell? ⟨gb1011, 6, none⟩ = some (.int .i64 a0_6) := (bC BK1011.out 6).trans rfl; have hcz14_7 : w13.cell? ⟨gb1011, 7, none⟩ = some (.int .u64 a0_7) := (bC BK1011.out 7).trans rfl; have hfz14_0 := bF BK1011.out 0; have hfz14_1 := bF BK1011.out 1; have hfz14_2 := bF BK1011.out 2; have hfz14_3 := bF BK1011.out 3; have hfz14_4 := bF BK1011.out 4; have hfz14_5 := bF BK1011.out 5; have hfz14_6 := bF BK1011.out 6; have hfz14_7 := bF BK1011.out 7) | (go_at_call 45; (with_reducible refine (bureaulaw04_Fits.calls a0_2 _ _ l0_3 true _ ?side1 ?side2 A10.out).mono ?_); (case side1 => repeat (first | exact (cB_ HR0_3.out HB.out) | (with_reducible refine Kd.C_alloc ?_ _) | (with_reducible refine Kd.C_drewN ?_ _) | (with_reducible refine Kd.C_drew ?_))); (case side2 => exact HC0_3.out); rintro e w15 ⟨rfl, hb⟩; have n0_ := aM (bB (g := gb1011) (o := .cells #[.string a0_0, .slice A0_1 l0_1.length c0_1, .string a0_2, .slice A0_3 l0_3.length c0_3, .string a0_4, .int .i64 a0_5, .int .i64 a0_6, .int .u64 a0_7] 77 (0, 0)) (by (with_reducible repeat (first | refine qn ?_ _ | refine qd ?_ | refine qa ?_ _)); exact BK1011.out) hb); have n1_ := aM (bP (by repeat (first | (with_reducible first | exact HB.out | apply ea | apply en | apply ed | refine es ?_ GE1011.out) | exact HB.out)) hb); clear BK1011; clear HB; have BK1011 := n0_; have HB := n1_; clear n0_ n1_; (try clear hb); (try clear hb2); (try clear hk); (try clear hi); have hcz16_0 : w15.cell? ⟨gb1011, 0, none⟩ = some (.string a0_0) := (bC BK1011.out 0).trans rfl; have hcz16_1 : w15.cell? ⟨gb1011, 1, none⟩ = some (.slice A0_1 l0_1.length c0_1) := (bC BK1011.out 1).trans rfl; have hcz16_2 : w15.cell? ⟨gb1011, 2, none⟩ = some (.string a0_2) := (bC BK1011.out 2).trans rfl; have hcz16_3 : w15.cell? ⟨gb1011, 3, none⟩ = some (.slice A0_3 l0_3.length c0_3) := (bC BK1011.out 3).trans rfl; have hcz16_4 : w15.cell? ⟨gb1011, 4, none⟩ = some (.string a0_4) := (bC BK1011.out 4).trans rfl; have hcz16_5 : w15.cell? ⟨gb1011, 5, none⟩ = some (.int .i64 a0_5) := (bC BK1011.out 5).trans rfl; have hcz16_6 : w15.cell? ⟨gb1011, 6, none⟩ = some (.int .i64 a0_6) := (bC BK1011.out 6).trans rfl; have hcz16_7 : w15.cell? ⟨gb1011, 7, none⟩ = some (.int .u64 a0_7) := (bC BK1011.out 7).trans rfl; have hfz16_0 := bF BK1011.out 0; have hfz16_1 := bF BK1011.out 1; have hfz16_2 := bF BK1011.out 2; have hfz16_3 := bF BK1011.out 3; have hfz16_4 := bF BK1011.out 4; have hfz16_5 := bF BK1011.out 5; have hfz16_6 := bF BK1011.out 6; have hfz16_7 := bF BK1011.out 7))
          go_meet
          case rel => exact ⟨_, (decide ((a0_4.size : Int) > 5000)), (by first | rfl | (simp; done) | (simp [*]; done)), H', ⟨by first | omega | exact Nat.le_refl _⟩, ⟨by (with_reducible repeat (first | refine qn ?_ _ | refine qd ?_ | refine qa ?_ _)); exact BK1011.out⟩, ⟨by repeat (first | (with_reducible first | exact HB.out | apply ea | apply en | apply ed | refine es ?_ GE1011.out) | exact HB.out)⟩⟩
        · replace c11 := Bool.eq_false_iff.mpr c11
          subst c11
          have H1 : (bureaulaw04_StripHides.j0 k a1 true a0_0 l0_1 a0_2 l0_3 a0_4 a0_5 a0_6 a0_7) = some r := by rw [if_neg (show ¬ (false = true) by decide)] at H; exact H
          clear H
          have H := H1
          clear H1
          have H' := aM H
          clear H
          have hcz17_0 : w7.cell? ⟨gb1011, 0, none⟩ = some (.string a0_0) := (bC BK1011.out 0).trans rfl
          have hcz17_1 : w7.cell? ⟨gb1011, 1, none⟩ = some (.slice A0_1 l0_1.length c0_1) := (bC BK1011.out 1).trans rfl
          have hcz17_2 : w7.cell? ⟨gb1011, 2, none⟩ = some (.string a0_2) := (bC BK1011.out 2).trans rfl
          have hcz17_3 : w7.cell? ⟨gb1011, 3, none⟩ = some (.slice A0_3 l0_3.length c0_3) := (bC BK1011.out 3).trans rfl
          have hcz17_4 : w7.cell? ⟨gb1011, 4, none⟩ = some (.string a0_4) := (bC BK1011.out 4).trans rfl
          have hcz17_5 : w7.cell? ⟨gb1011, 5, none⟩ = some (.int .i64 a0_5) := (bC BK1011.out 5).trans rfl
          have hcz17_6 : w7.cell? ⟨gb1011, 6, none⟩ = some (.int .i64 a0_6) := (bC BK1011.out 6).trans rfl
          have hcz17_7 : w7.cell? ⟨gb1011, 7, none⟩ = some (.int .u64 a0_7) := (bC BK1011.out 7).trans rfl
          have hfz17_0 := bF BK1011.out 0
          have hfz17_1 := bF BK1011.out 1
          have hfz17_2 := bF BK1011.out 2
          have hfz17_3 := bF BK1011.out 3
          have hfz17_4 := bF BK1011.out 4
          have hfz17_5 := bF BK1011.out 5
          have hfz17_6 := bF BK1011.out 6
          have hfz17_7 := bF BK1011.out 7
          go_wp2_with (first | ((with_reducible refine gate_callee (f := 45) rfl ?_); refine goesL_ (some 15) rfl rfl Try.func45 (by kernel_rfl) rfl #[.agg #[.string a0_0, .slice A0_1 l0_1.length c0_1]] rfl (by (try simp only [List.map_toArray, List.map_cons, List.map_nil]); first | done | rfl | (simp only [List.length_drop, List.length_take]; rfl)) ?_; (with_reducible refine (bureaulaw04_Fits.calls a0_0 _ _ l0_1 true _ ?side1 ?side2 A8.out).mono ?_); (case side1 => repeat (first | exact (cB_ HR0_1.out HB.out) | (with_reducible refine Kd.C_alloc ?_ _) | (with_reducible refine Kd.C_drewN ?_ _) | (with_reducible refine Kd.C_drew ?_))); (case side2 => exact HC0_1.out); rintro e w18 ⟨rfl, hb⟩; refine ⟨_, rfl, ?_⟩; have n0_ := aM (bB (g := gb1011) (o := .cells #[.string a0_0, .slice A0_1 l0_1.length c0_1, .string a0_2, .slice A0_3 l0_3.length c0_3, .string a0_4, .int .i64 a0_5, .int .i64 a0_6, .int .u64 a0_7] 77 (0, 0)) (by (with_reducible repeat (first | refine qn ?_ _ | refine qd ?_ | refine qa ?_ _)); exact BK1011.out) hb); have n1_ := aM (bP (by repeat (first | (with_reducible first | exact HB.out | apply ea | apply en | apply ed | refine es ?_ GE1011.out) | exact HB.out)) hb); clear BK1011; clear HB; have BK1011 := n0_; have HB := n1_; clear n0_ n1_; (try clear hb); (try clear hb2); (try clear hk); (try clear hi); have hcz19_0 : w18.cell? ⟨gb1011, 0, none⟩ = some (.string a0_0) := (bC BK1011.out 0).trans rfl; have hcz19_1 : w18.cell? ⟨gb1011, 1, none⟩ = some (.slice A0_1 l0_1.length c0_1) := (bC BK1011.out 1).trans rfl; have hcz19_2 : w18.cell? ⟨gb1011, 2, none⟩ = some (.string a0_2) := (bC BK1011.out 2).trans rfl; have hcz19_3 : w18.cell? ⟨gb1011, 3, none⟩ = some (.slice A0_3 l0_3.length c0_3) := (bC BK1011.out 3).trans rfl; have hcz19_4 : w18.cell? ⟨gb1011, 4, none⟩ = some (.string a0_4) := (bC BK1011.out 4).trans rfl; have hcz19_5 : w18.cell? ⟨gb1011, 5, none⟩ = some (.int .i64 a0_5) := (bC BK1011.out 5).trans rfl; have hcz19_6 : w18.cell? ⟨gb1011, 6, none⟩ = some (.int .i64 a0_6) := (bC BK1011.out 6).trans rfl; have hcz19_7 : w18.cell? ⟨gb1011, 7, none⟩ = some (.int .u64 a0_7) := (bC BK1011.out 7).trans rfl; have hfz19_0 := bF BK1011.out 0; have hfz19_1 := bF BK1011.out 1; have hfz19_2 := bF BK1011.out 2; have hfz19_3 := bF BK1011.out 3; have hfz19_4 := bF BK1011.out 4; have hfz19_5 := bF BK1011.out 5; have hfz19_6 := bF BK1011.out 6; have hfz19_7 := bF BK1011.out 7) | (go_at_call 45; (with_reducible refine (bureaulaw04_Fits.calls a0_2 _ _ l0_3 false _ ?side1 ?side2 A10.out).mono ?_); (case side1 => repeat (first | exact (cB_ HR0_3.out HB.out) | (with_reducible refine Kd.C_alloc ?_ _) | (with_reducible refine Kd.C_drewN ?_ _) | (with_reducible refine Kd.C_drew ?_))); (case side2 => exact HC0_3.out); rintro e w20 ⟨rfl, hb⟩; have n0_ := aM (bB (g := gb1011) (o := .cells #[.string a0_0, .slice A0_1 l0_1.length c0_1, .string a0_2, .slice A0_3 l0_3.length c0_3, .string a0_4, .int .i64 a0_5, .int .i64 a0_6, .int .u64 a0_7] 77 (0, 0)) (by (with_reducible repeat (first | refine qn ?_ _ | refine qd ?_ | refine qa ?_ _)); exact BK1011.out) hb); have n1_ := aM (bP (by repeat (first | (with_reducible first | exact HB.out | apply ea | apply en | apply ed | refine es ?_ GE1011.out) | exact HB.out)) hb); clear BK1011; clear HB; have BK1011 := n0_; have HB := n1_; clear n0_ n1_; (try clear hb); (try clear hb2); (try clear hk); (try clear hi)))
          go_meet
          case rel => exact ⟨_, (true), (by first | rfl | (simp; done) | (simp [*]; done)), H', ⟨by first | omega | exact Nat.le_refl _⟩, ⟨by (with_reducible repeat (first | refine qn ?_ _ | refine qd ?_ | refine qa ?_ _)); exact BK1011.out⟩, ⟨by repeat (first | (with_reducible first | exact HB.out | apply ea | apply en | apply ed | refine es ?_ GE1011.out) | exact HB.out)⟩⟩
      · replace c9 := Bool.eq_false_iff.mpr c9
        subst c9
        have H1 : (bureaulaw04_StripHides.j0 k a1 true a0_0 l0_1 a0_2 l0_3 a0_4 a0_5 a0_6 a0_7) = some r := by rw [if_neg (show ¬ (false = true) by decide)] at H; exact H
        clear H
        have H := H1
        clear H1
        have H' := aM H
        clear H
        have hcz21_0 : w7.cell? ⟨gb1011, 0, none⟩ = some (.string a0_0) := (bC BK1011.out 0).trans rfl
        have hcz21_1 : w7.cell? ⟨gb1011, 1, none⟩ = some (.slice A0_1 l0_1.length c0_1) := (bC BK1011.out 1).trans rfl
        have hcz21_2 : w7.cell? ⟨gb1011, 2, none⟩ = some (.string a0_2) := (bC BK1011.out 2).trans rfl
        have hcz21_3 : w7.cell? ⟨gb1011, 3, none⟩ = some (.slice A0_3 l0_3.length c0_3) := (bC BK1011.out 3).trans rfl
        have hcz21_4 : w7.cell? ⟨gb1011, 4, none⟩ = some (.string a0_4) := (bC BK1011.out 4).trans rfl
        have hcz21_5 : w7.cell? ⟨gb1011, 5, none⟩ = some (.int .i64 a0_5) := (bC BK1011.out 5).trans rfl
        have hcz21_6 : w7.cell? ⟨gb1011, 6, none⟩ = some (.int .i64 a0_6) := (bC BK1011.out 6).trans rfl
        have hcz21_7 : w7.cell? ⟨gb1011, 7, none⟩ = some (.int .u64 a0_7) := (bC BK1011.out 7).trans rfl
        have hfz21_0 := bF BK1011.out 0
        have hfz21_1 := bF BK1011.out 1
        have hfz21_2 := bF BK1011.out 2
        have hfz21_3 := bF BK1011.out 3
        have hfz21_4 := bF BK1011.out 4
        have hfz21_5 := bF BK1011.out 5
        have hfz21_6 := bF BK1011.out 6
        have hfz21_7 := bF BK1011.out 7
        go_wp2_with (first | ((with_reducible refine gate_callee (f := 45) rfl ?_); refine goesL_ (some 15) rfl rfl Try.func45 (by kernel_rfl) rfl #[.agg #[.string a0_0, .slice A0_1 l0_1.length c0_1]] rfl (by (try simp only [List.map_toArray, List.map_cons, List.map_nil]); first | done | rfl | (simp only [List.length_drop, List.length_take]; rfl)) ?_; (with_reducible refine (bureaulaw04_Fits.calls a0_0 _ _ l0_1 false _ ?side1 ?side2 A8.out).mono ?_); (case side1 => repeat (first | exact (cB_ HR0_1.out HB.out) | (with_reducible refine Kd.C_alloc ?_ _) | (with_reducible refine Kd.C_drewN ?_ _) | (with_reducible refine Kd.C_drew ?_))); (case side2 => exact HC0_1.out); rintro e w22 ⟨rfl, hb⟩; refine ⟨_, rfl, ?_⟩; have n0_ := aM (bB (g := gb1011) (o := .cells #[.string a0_0, .slice A0_1 l0_1.length c0_1, .string a0_2, .slice A0_3 l0_3.length c0_3, .string a0_4, .int .i64 a0_5, .int .i64 a0_6, .int .u64 a0_7] 77 (0, 0)) (by (with_reducible repeat (first | refine qn ?_ _ | refine qd ?_ | refine qa ?_ _)); exact BK1011.out) hb); have n1_ := aM (bP (by repeat (first | (with_reducible first | exact HB.out | apply ea | apply en | apply ed | refine es ?_ GE1011.out) | exact HB.out)) hb); clear BK1011; clear HB; have BK1011 := n0_; have HB := n1_; clear n0_ n1_; (try clear hb); (try clear hb2); (try clear hk); (try clear hi)))
        go_meet
        case rel => exact ⟨_, (true), (by first | rfl | (simp; done) | (simp [*]; done)), H', ⟨by first | omega | exact Nat.le_refl _⟩, ⟨by (with_reducible repeat (first | refine qn ?_ _ | refine qd ?_ | refine qa ?_ _)); exact BK1011.out⟩, ⟨by repeat (first | (with_reducible first | exact HB.out | apply ea | apply en | apply ed | refine es ?_ GE1011.out) | exact HB.out)⟩⟩
    case rest =>
      clear HC5
      try clear c1
      try clear c2
      try clear p2
      try clear c4
      try clear c9
      try clear c11
      try clear hcz12_0
      try clear hcz12_1
      try clear hcz12_2
      try clear hcz12_3
      try clear hcz12_4
      try clear hcz12_5
      try clear hcz12_6
      try clear hcz12_7
      try clear hcz14_0
      try clear hcz14_1
      try clear hcz14_2
      try clear hcz14_3
      try clear hcz14_4
      try clear hcz14_5
      try clear hcz14_6
      try clear hcz14_7
      try clear hcz16_0
      try clear hcz16_1
      try clear hcz16_2
      try clear hcz16_3
      try clear hcz16_4
      try clear hcz16_5
      try clear hcz16_6
      try clear hcz16_7
      try clear hcz17_0
      try clear hcz17_1
      try clear hcz17_2
      try clear hcz17_3
      try clear hcz17_4
      try clear hcz17_5
      try clear hcz17_6
      try clear hcz17_7
      try clear hcz19_0
      try clear hcz19_1
      try clear hcz19_2
      try clear hcz19_3
      try clear hcz19_4
      try clear hcz19_5
      try clear hcz19_6
      try clear hcz19_7
      try clear hcz21_0
      try clear hcz21_1
      try clear hcz21_2
      try clear hcz21_3
      try clear hcz21_4
      try clear hcz21_5
      try clear hcz21_6
      try clear hcz21_7
      try clear hfz12_0
      try clear hfz12_1
      try clear hfz12_2
      try clear hfz12_3
      try clear hfz12_4
      try clear hfz12_5
      try clear hfz12_6
      try clear hfz12_7
      try clear hfz14_0
      try clear hfz14_1
      try clear hfz14_2
      try clear hfz14_3
      try clear hfz14_4
      try clear hfz14_5
      try clear hfz14_6
      try clear hfz14_7
      try clear hfz16_0
      try clear hfz16_1
      try clear hfz16_2
      try clear hfz16_3
      try clear hfz16_4
      try clear hfz16_5
      try clear hfz16_6
      try clear hfz16_7
      try clear hfz17_0
      try clear hfz17_1
      try clear hfz17_2
      try clear hfz17_3
      try clear hfz17_4
      try clear hfz17_5
      try clear hfz17_6
      try clear hfz17_7
      try clear hfz19_0
      try clear hfz19_1
      try clear hfz19_2
      try clear hfz19_3
      try clear hfz19_4
      try clear hfz19_5
      try clear hfz19_6
      try clear hfz19_7
      try clear hfz21_0
      try clear hfz21_1
      try clear hfz21_2
      try clear hfz21_3
      try clear hfz21_4
      try clear hfz21_5
      try clear hfz21_6
      try clear hfz21_7
      obtain ⟨kq, x28_4, rfl, HA, HJ4, BK1011, HB⟩ := hcut
      cases kq with
      | zero => exact absurd HA.out (by simp [bureaulaw04_StripHides.j0])
      | succ kj4 =>
        have H := HA.out
        clear HA
        simp only [bureaulaw04_StripHides.j0] at H
        by_cases c23 : x28_4 = true
        · subst c23
          have H1 : (some true) = some r := by rw [if_pos rfl] at H; exact H
          clear H
          have H := H1
          clear H1
          obtain rfl := Option.some.inj H
          go_wp2
          go_ret
          exact ⟨by first | rfl | (simp [errW_none, errW_some] <;> rfl) | (simp [*, errW_none, errW_some] <;> rfl), by repeat (first | (with_reducible first | exact HB.out | apply ea | apply en | apply ed | refine es ?_ GE1011.out) | exact HB.out)⟩
        · replace c23 := Bool.eq_false_iff.mpr c23
          subst c23
          have H1 : ((bureauref04_Other.f kj4 a0_0 l0_1 a1 a0_4).bind fun bt1015 => ((bureauref04_Other.f kj4 a0_2 l0_3 a1 a0_4).bind fun bt1019 => ((strip_Cut.f kj4 a0_0 l0_1 a0_5 a0_6).bind fun bt1025 => ((strip_Cut.f kj4 bt1015.1 bt1015.2 a0_5 a0_6).bind fun bt1031 => ((bureaulaw04_alike.f kj4 bt1025.1 bt1025.2.1 bt1031.1 bt1031.2.1 bt1025.2.2 bt1031.2.2 a1).bind fun t1037 => (if t1037 = true then ((strip_Cat.f kj4 a0_0 l0_1 a0_2 l0_3).bind fun bt1038 => ((strip_Cat.f kj4 bt1015.1 bt1015.2 bt1019.1 bt1019.2).bind fun bt1043 => ((bureaulaw04_alike.f kj4 bt1038.1 bt1038.2.1 bt1043.1 bt1043.2.1 bt1038.2.2 bt1043.2.2 a1).bind fun t1048 => (if t1048 = true then ((strip_Splice.f kj4 a0_0 l0_1 a0_5 a0_6 a0_2 l0_3).bind fun bt1049 => ((strip_Splice.f kj4 bt1015.1 bt1015.2 a0_5 a0_6 bt1019.1 bt1019.2).bind fun bt1054 => ((bureaulaw04_alike.f kj4 bt1049.1 bt1049.2.1 bt1054.1 bt1054.2.1 bt1049.2.2 bt1054.2.2 a1).bind fun t1059 => (if t1059 = true then ((strip_Raise.f kj4 a0_0 l0_1 a0_7).bind fun bt1060 => ((strip_Raise.f kj4 bt1015.1 bt1015.2 a0_7).bind fun bt1065 => ((bureaulaw04_alike.f kj4 bt1060.1 bt1060.2.1 bt1065.1 bt1065.2.1 bt1060.2.2 bt1065.2.2 a1).bind fun t1070 => (some t1070)))) else (some false))))) else (some false))))) else (some false))))))) = some r := by rw [if_neg (show ¬ (false = true) by decide)] at H; exact H
          clear H
          have H := H1
          clear H1
          go_wp2_with fail
          exact bureaulaw04_StripHides.rest k kj4 HJ4 a0_0 A0_1 c0_1 l0_1 a0_2 A0_3 c0_3 l0_3 a0_4 a0_5 a0_6 a0_7 a1 r w wc gb1011 HR0_1 HC0_1 HR0_3 HC0_3 GW1011 GE1011 BK1011 HB H _ (by assumption) _ _ _ _ _ _ _ _ _ _ _ _ _ _ _ _ _ _ _ _ _ _ _ _ _ _ _ _ _ _ _ _ _ _ _ _ _ _ _ _ _ _ _ _ _ _ _ _ _ _ _ _ _ _ _ _ _ _ _ _ _ _ _ _ _ _ _ _ _ _ _ _ _ _ _ _ _ _ _ _ _ _ _ _ _ _ _ _ _ _ _ _ _ _ _ _ _ _ _ _ _ _ _ _ _ _ _ _ _ _ _ _ _ _ _ _ _ _ _ _ _ _ _ _ _ _
  · replace c4 := Bool.eq_false_iff.mpr c4
    subst c4
    have H1 : (some false) = some r := by rw [if_neg (show ¬ (false = true) by decide)] at H; exact H
    clear H
    have H := H1
    clear H1
    obtain rfl := Option.some.inj H
    go_enter Try.func23, Try.ntmps23
    go_wp2_with (first | ((with_reducible refine gate_dst (N := 2) rfl ?_); (try (refine gate_guard (by rfl) ?_; dsimp only)); refine box_event ?hg (N := 2) ?hd (cs := #[.string a0_0, .slice A0_1 l0_1.length c0_1, .string a0_2, .slice A0_3 l0_3.length c0_3, .string a0_4, .int .i64 a0_5, .int .i64 a0_6, .int .u64 a0_7]) (t := 77) ?hr ?_; (case hd => rfl); (case hg => rfl); (case hr => first | (go_simp; done) | (go_simp; rfl)); intro gb1011 hg w249 hbox hb; have n0_ := aM (bP (by repeat (first | (with_reducible first | exact HB.out | apply ea | apply en | apply ed) | exact HB.out)) hb); have n1_ := aM (hbox); have n2_ := aM ((by rw [hg]; exact (bZ (by repeat (first | (with_reducible first | exact HB.out | apply ea | apply en | apply ed) | exact HB.out))) : w.heap.size ≤ gb1011)); have n3_ := aM ((by rw [hg]; exact (bZ (by repeat (first | (with_reducible first | exact HB.out | apply ea | apply en | apply ed) | exact HB.out))) : w.heap.size ≤ gb1011)); clear HB; have HB := n0_; have BK1011 := n1_; have GW1011 := n2_; have GE1011 := n3_; clear n0_ n1_ n2_ n3_; clear hb hbox hg) | ((with_reducible refine gate_callee (f := 44) rfl ?_); refine goesL_ (some 11) rfl rfl Try.func44 (by kernel_rfl) rfl #[] rfl (by (try simp only [List.map_toArray, List.map_cons, List.map_nil]); first | done | rfl | (simp only [List.length_drop, List.length_take]; rfl)) ?_; (with_reducible refine (bureaulaw04_alive.calls k  false _ A3.out).mono ?_); rintro e w250 ⟨rfl, hb⟩; refine ⟨_, rfl, ?_⟩; have n0_ := aM (bB (g := gb1011) (o := .cells #[.string a0_0, .slice A0_1 l0_1.length c0_1, .string a0_2, .slice A0_3 l0_3.length c0_3, .string a0_4, .int .i64 a0_5, .int .i64 a0_6, .int .u64 a0_7] 77 (0, 0)) (by (with_reducible repeat (first | refine qn ?_ _ | refine qd ?_ | refine qa ?_ _)); exact BK1011.out) hb); have n1_ := aM (bP (by repeat (first | (with_reducible first | exact HB.out | apply ea | apply en | apply ed | refine es ?_ GE1011.out) | exact HB.out)) hb); clear BK1011; clear HB; have BK1011 := n0_; have HB := n1_; clear n0_ n1_; (try clear hb); (try clear hb2); (try clear hk); (try clear hi)))
    go_ret
    exact ⟨by first | rfl | (simp [errW_none, errW_some] <;> rfl) | (simp [*, errW_none, errW_some] <;> rfl), by repeat (first | (with_reducible first | exact HB.out | apply ea | apply en | apply ed | refine es ?_ GE1011.out) | exact HB.out)⟩
end Go.Proofs.Ythpjagblnddjaaa.PB
end

section
namespace Go.Proofs.Ythpjagblnddjaaa.PB
open Go.Proofs.YthpjagblnddjaaaW.PrintWords
theorem Ev.pos {α : Type} {c : Prop} [Decidable c] {A B : Nat → Option α} {r : α} (h : c) (k : Ev A r) : Ev (fun n => if c then A n else B n) r := by
  obtain ⟨K, hK⟩ := k
  exact ⟨K, fun n hn => by show (if c then A n else B n) = _; rw [if_pos h]; exact hK n hn⟩
theorem Ev.neg {α : Type} {c : Prop} [Decidable c] {A B : Nat → Option α} {r : α} (h : ¬ c) (k : Ev B r) : Ev (fun n => if c then A n else B n) r := by
  obtain ⟨K, hK⟩ := k
  exact ⟨K, fun n hn => by show (if c then A n else B n) = _; rw [if_neg h]; exact hK n hn⟩
theorem Ev.ite {α : Type} {c : Prop} [Decidable c] {A B : Nat → Option α} {r s : α} (h1 : c → Ev A r) (h2 : ¬ c → Ev B s) : Ev (fun n => if c then A n else B n) (if c then r else s) := by
  by_cases h : c
  · rw [if_pos h]; exact Ev.pos h (h1 h)
  · rw [if_neg h]; exact Ev.neg h (h2 h)
theorem Ev.ite' {α : Type} {c : Prop} [Decidable c] {A B : Nat → Option α} {r : α} (h1 : c → Ev A r) (h2 : ¬ c → Ev B r) : Ev (fun n => if c then A n else B n) r := by
  by_cases h : c
  · exact Ev.pos h (h1 h)
  · exact Ev.neg h (h2 h)
theorem ev_val {α : Type} {g : Nat → Option α} {a b : α} (h : Ev g a) (e : a = b) : Ev g b := e ▸ h
end Go.Proofs.Ythpjagblnddjaaa.PB
end

section
namespace Go.Proofs.Ythpjagblnddjaaa.PB
open Go.RowKit Go.Proofs.YthpjagblnddjaaaW.PrintWords
set_option linter.unusedVariables false
instance : DecidableEq S100 := fun a b => decidable_of_iff (a.f0 = b.f0 ∧ a.f1 = b.f1) (by cases a; cases b; simp)
theorem rdT (l : List S100) (i : Nat) : rd_T100 l (i : Int) = l.getD i z100 := by unfold rd_T100; rw [Int.toNat_natCast]
theorem dropT {l : List S100} {i : Nat} (h : i < l.length) : l.drop i = l.getD i z100 :: l.drop (i + 1) := by
  rw [List.drop_eq_getElem_cons h, List.getD_eq_getElem?_getD, List.getElem?_eq_getElem h]; rfl
theorem dropI {l : List Int} {i : Nat} (h : i < l.length) : l.drop i = l.getD i 0 :: l.drop (i + 1) := by
  rw [List.drop_eq_getElem_cons h, List.getD_eq_getElem?_getD, List.getElem?_eq_getElem h]; rfl
theorem w1 {i n : Nat} (h : i < n) (hn : n ≤ 1000000000000000) : wrap64 ((i : Int) + 1) = ((i + 1 : Nat) : Int) := by unfold wrap64; omega
abbrev big : Nat := 1000000000000
theorem total_ev (l : List S100) (hl : l.length ≤ big) : Ev (fun k => runs_Total.f k l) (tot l) := by
  unfold big at hl
  have loop : ∀ (d i : Nat) (n : Int), i + d = l.length → 0 ≤ n → n ≤ 4096 → Ev (fun k => runs_Total.l0 k n l (l.length : Int) (i : Int)) (totF (l.drop i) n) := by
    intro d
    induction d with
    | zero =>
      intro i n hi h0 h1
      refine Ev.step (fun k => by simp only [runs_Total.l0]; rfl) ?_
      refine Ev.neg (by omega) ?_
      rw [List.drop_eq_nil_of_le (by omega)]
      exact Ev.now _
    | succ d ih =>
      intro i n hi h0 h1
      have hlt : i < l.length := by omega
      refine Ev.step (fun k => by simp only [runs_Total.l0]; rfl) ?_
      refine Ev.pos (by omega) (Ev.pos (by omega) (Ev.pos (by omega) ?_))
      rw [dropT hlt, rdT]
      simp only [totF]
      rw [show wrap64 (4096 - n) = 4096 - n by unfold wrap64; omega]
      refine Ev.ite (fun _ => Ev.now _) (fun hc => ?_)
      have hm : wrap64 (n + mx (l.getD i z100).f1 0) = n + (if (l.getD i z100).f1 < 0 then 0 else (l.getD i z100).f1) := by
        unfold mx wrap64
        split <;> omega
      rw [hm, w1 hlt (by omega)]
      exact ih (i + 1) _ (by omega) (by split <;> omega) (by split <;> omega)
  exact loop l.length 0 0 (by omega) (by omega) (by omega)
theorem rtotal_ev (l : List S100) (hl : l.length ≤ big) : Ev (fun k => bureauref03_Total.f k l) (tot l) := by
  unfold big at hl
  have loop : ∀ (d i : Nat) (n : Int), i + d = l.length → 0 ≤ n → n ≤ 4096 → Ev (fun k => bureauref03_Total.l0 k l n (i : Int)) (totF (l.drop i) n) := by
    intro d
    induction d with
    | zero =>
      intro i n hi h0 h1
      refine Ev.step (fun k => by simp only [bureauref03_Total.l0]; rfl) ?_
      refine Ev.neg (by omega) ?_
      rw [List.drop_eq_nil_of_le (by omega)]
      exact Ev.now _
    | succ d ih =>
      intro i n hi h0 h1
      have hlt : i < l.length := by omega
      refine Ev.step (fun k => by simp only [bureauref03_Total.l0]; rfl) ?_
      refine Ev.pos (by omega) (Ev.pos (by omega) ?_)
      rw [dropT hlt, rdT]
      simp only [totF]
      rw [show wrap64 (4096 - n) = 4096 - n by unfold wrap64; omega]
      refine Ev.ite (fun _ => Ev.now _) (fun hc => ?_)
      rw [w1 hlt (by omega)]
      by_cases hp : (l.getD i z100).f1 > 0
      · refine Ev.pos hp ?_
        rw [show wrap64 (n + (l.getD i z100).f1) = n + (if (l.getD i z100).f1 < 0 then 0 else (l.getD i z100).f1) by rw [if_neg (by omega)]; unfold wrap64; omega]
        exact ih (i + 1) _ (by omega) (by split <;> omega) (by split <;> omega)
      · refine Ev.neg hp ?_
        have : n = n + (if (l.getD i z100).f1 < 0 then 0 else (l.getD i z100).f1) := by split <;> omega
        rw [← this]
        exact ih (i + 1) _ (by omega) (by omega) (by omega)
  exact loop l.length 0 0 (by omega) (by omega) (by omega)
theorem same_ev (a b : List S100) (hl : a.length ≤ big) : Ev (fun k => bureauref03_Same.f k a b) (decide (a = b)) := by
  unfold big at hl
  unfold bureauref03_Same.f
  by_cases hab : a.length = b.length
  · refine Ev.pos (by omega) ?_
    have loop : ∀ (d i : Nat), i + d = a.length → Ev (fun k => bureauref03_Same.l0 k a b (i : Int)) (decide (a.drop i = b.drop i)) := by
      intro d
      induction d with
      | zero =>
        intro i hi
        refine Ev.step (fun k => by simp only [bureauref03_Same.l0]; rfl) ?_
        refine Ev.neg (by omega) ?_
        rw [List.drop_eq_nil_of_le (by omega), List.drop_eq_nil_of_le (by omega)]
        exact Ev.now _
      | succ d ih =>
        intro i hi
        have hlt : i < a.length := by omega
        refine Ev.step (fun k => by simp only [bureauref03_Same.l0]; rfl) ?_
        refine Ev.pos (by omega) (Ev.pos (by omega) (Ev.pos (by omega) ?_))
        rw [dropT hlt, dropT (show i < b.length by omega), rdT, rdT, w1 hlt (by omega)]
        by_cases he : a.getD i z100 = b.getD i z100
        · rw [he]
          refine Ev.neg (by simp) ?_
          exact ev_val (ih (i + 1) (by omega)) (by simp)
        · refine Ev.pos ?_ ?_
          · have : ¬ ((a.getD i z100).f0 = (b.getD i z100).f0 ∧ (a.getD i z100).f1 = (b.getD i z100).f1) := fun h => he (by
              cases hx : a.getD i z100; cases hy : b.getD i z100; rw [hx, hy] at h; simp at h; rw [h.1, h.2])
            simp only [Bool.or_eq_true, Bool.not_eq_true', beq_eq_false_iff_ne]
            by_cases h1 : (a.getD i z100).f0 = (b.getD i z100).f0
            · exact .inr (fun h2 => this ⟨h1, h2⟩)
            · exact .inl h1
          · exact ev_val (Ev.now _) (by simp; intro h; exact absurd h he)
    exact loop a.length 0 (by omega)
  · refine Ev.neg (by omega) ?_
    exact ev_val (Ev.now _) (by simp; intro h; exact hab (by rw [h]))
theorem pack_ev (b : List Int) (hb : b.length ≤ 1000000000000) : Ev (fun k => bureauref03_Pack.f k b) (pack b) := by
  have loop : ∀ (d i : Nat) (acc : List S100), i + d = b.length → acc.length ≤ i → (∀ r ∈ acc, r.f1 ≤ i) → (∀ r ∈ acc, 0 ≤ r.f1) → Ev (fun k => bureauref03_Pack.l0 k b acc (i : Int)) (packTo acc (b.drop i)) := by
    intro d
    induction d with
    | zero =>
      intro i acc hi _ _ _
      refine Ev.step (fun k => by simp only [bureauref03_Pack.l0]; rfl) ?_
      refine Ev.neg (by omega) ?_
      rw [List.drop_eq_nil_of_le (by omega)]
      exact Ev.now _
    | succ d ih =>
      intro i acc hi ha hc h0
      have hlt : i < b.length := by omega
      have hstep : step1 acc (b.getD i 0) = step1 acc (b.getD i 0) := rfl
      refine Ev.step (fun k => by simp only [bureauref03_Pack.l0]; rfl) ?_
      refine Ev.pos (by omega) ?_
      have hrd : rd b (i : Int) = b.getD i 0 := by unfold rd; rw [Int.toNat_natCast]
      rw [hrd, dropI hlt, w1 hlt (by omega)]
      have happ : ∀ x : Int, Ev (fun k => if acc.length < 8796093022208 then bureauref03_Pack.l0 k b (acc ++ [(⟨x, 1⟩ : S100)]) ((i + 1 : Nat) : Int) else none) (packTo (acc ++ [⟨x, 1⟩]) (b.drop (i + 1))) := fun x => by
        refine Ev.pos (by omega) (ih (i + 1) _ (by omega) (by simp; omega) ?_ ?_)
        · intro r hr
          rcases List.mem_append.1 hr with hr | hr
          · have := hc r hr; omega
          · obtain rfl := List.mem_singleton.1 hr; show (1 : Int) ≤ ((i + 1 : Nat) : Int); omega
        · intro r hr
          rcases List.mem_append.1 hr with hr | hr
          · exact h0 r hr
          · obtain rfl := List.mem_singleton.1 hr; show (0 : Int) ≤ 1; omega
      show Ev _ (packTo (step1 acc (b.getD i 0)) (b.drop (i + 1)))
      rcases snoc_cases acc with rfl | ⟨pre, q, rfl⟩
      · refine Ev.neg (by simp) (Ev.pos (by omega) ?_)
        rw [step1_nil]
        exact happ _
      · have hlen : (pre ++ [q]).length = pre.length + 1 := by simp
        have hidx : wrap64 (((pre ++ [q]).length : Int) - 1) = ((pre.length : Nat) : Int) := by rw [hlen]; unfold wrap64; omega
        have hget : rd_T100 (pre ++ [q]) ((pre.length : Nat) : Int) = q := by rw [rdT]; simp [List.getD_eq_getElem?_getD]
        refine Ev.pos (by omega) ?_
        rw [hidx, hget]
        refine Ev.pos (by omega) (Ev.pos (by omega) (Ev.pos (by omega) ?_))
        by_cases he : q.f0 = b.getD i 0
        · refine Ev.pos he ?_
          rw [← he, step1_same]
          have hq := hc q (by simp)
          have hq0 := h0 q (by simp)
          rw [Int.toNat_natCast, show (pre ++ [q]).set pre.length (⟨q.f0, wrap64 (q.f1 + 1)⟩ : S100) = pre ++ [⟨q.f0, q.f1 + 1⟩] by
            rw [show wrap64 (q.f1 + 1) = q.f1 + 1 by unfold wrap64; omega]; simp]
          refine ih (i + 1) _ (by omega) (by simp at ha ⊢; omega) ?_ ?_
          · intro r hr
            rcases List.mem_append.1 hr with hr | hr
            · have := hc r (List.mem_append_left _ hr); omega
            · obtain rfl := List.mem_singleton.1 hr; show q.f1 + 1 ≤ ((i + 1 : Nat) : Int); omega
          · intro r hr
            rcases List.mem_append.1 hr with hr | hr
            · exact h0 r (List.mem_append_left _ hr)
            · obtain rfl := List.mem_singleton.1 hr; show 0 ≤ q.f1 + 1; omega
        · refine Ev.neg he ?_
          rw [step1_other _ _ _ he]
          exact happ _
  exact loop b.length 0 [] (by omega) (by simp) (by intro r hr; cases hr) (by intro r hr; cases hr)
theorem bytes_ev (l : List S100) (hl : l.length ≤ big) (hb : (bytes l).length ≤ 1000000000000) : Ev (fun k => bureauref03_Bytes.f k l) (bytes l) := by
  unfold big at hl
  have loop : ∀ (d i : Nat) (acc : List Int), i + d = l.length → acc.length + (bytes (l.drop i)).length ≤ 1000000000000 → Ev (fun k => bureauref03_Bytes.l0 k l acc (i : Int)) (acc ++ bytes (l.drop i)) := by
    intro d
    induction d with
    | zero =>
      intro i acc hi _
      refine Ev.step (fun k => by simp only [bureauref03_Bytes.l0]; rfl) ?_
      refine Ev.neg (by omega) ?_
      rw [List.drop_eq_nil_of_le (by omega)]
      exact ev_val (Ev.now _) (by simp [bytes])
    | succ d ih =>
      intro i acc hi hlen
      have hlt : i < l.length := by omega
      rw [dropT hlt, bytes_cons] at hlen ⊢
      rw [List.length_append, List.length_replicate] at hlen
      refine Ev.step (fun k => by simp only [bureauref03_Bytes.l0]; rfl) ?_
      refine Ev.pos (by omega) ?_
      have inner : ∀ (e j : Nat) (acc' : List Int), j + e = (l.getD i z100).f1.toNat → acc' = acc ++ List.replicate j (l.getD i z100).f0 → Ev (fun k => bureauref03_Bytes.l1 k l acc' (i : Int) (j : Int)) (acc ++ (List.replicate (l.getD i z100).f1.toNat (l.getD i z100).f0 ++ bytes (l.drop (i + 1)))) := by
        intro e
        induction e with
        | zero =>
          intro j acc' hj ha
          refine Ev.step (fun k => by simp only [bureauref03_Bytes.l1]; rfl) ?_
          refine Ev.pos (by omega) (Ev.pos (by omega) ?_)
          rw [rdT, w1 hlt (by omega)]
          refine Ev.neg (by omega) ?_
          have := ih (i + 1) acc' (by omega) (by rw [ha, List.length_append, List.length_replicate]; omega)
          refine ev_val this ?_
          rw [ha, List.append_assoc]
          rw [Nat.add_zero] at hj
          rw [hj]
        | succ e ihe =>
          intro j acc' hj ha
          refine Ev.step (fun k => by simp only [bureauref03_Bytes.l1]; rfl) ?_
          refine Ev.pos (by omega) (Ev.pos (by omega) ?_)
          rw [rdT]
          refine Ev.pos (by omega) (Ev.pos (by have hz := congrArg List.length ha; rw [List.length_append, List.length_replicate] at hz; omega) ?_)
          rw [show wrap64 ((j : Int) + 1) = ((j + 1 : Nat) : Int) by unfold wrap64; omega]
          exact ihe (j + 1) _ (by omega) (by rw [ha, List.replicate_succ', List.append_assoc])
      exact inner (l.getD i z100).f1.toNat 0 acc (by omega) (by simp)
  exact ev_val (loop l.length 0 [] (by omega) (by simpa using hb)) (by simp)
theorem good_ev (l : List S100) (hl : l.length ≤ big) : Ev (fun k => runs_Good.f k l) (good l) := by
  have ht := total_ev l hl
  unfold big at hl
  have loop : ∀ (d i : Nat), i + d = l.length → ∀ b : Bool, (b = true ↔ ((0 < i → i < l.length → (l.getD (i - 1) z100).f0 ≠ (l.getD i z100).f0) ∧ nrm (l.drop i) ∧ tot l ≤ 4096)) → Ev (fun k => runs_Good.l0 k l l (l.length : Int) (i : Int)) b := by
    intro d
    induction d with
    | zero =>
      intro i hi b hb
      refine Ev.step (fun k => by simp only [runs_Good.l0]; rfl) ?_
      refine Ev.neg (by omega) ?_
      rw [List.drop_eq_nil_of_le (by omega)] at hb
      refine Ev.bind ht (ev_val (Ev.now _) ?_)
      rw [Bool.eq_iff_iff, hb, decide_eq_true_iff]
      exact ⟨fun h => ⟨fun _ h2 => absurd h2 (by omega), trivial, h⟩, fun h => h.2.2⟩
    | succ d ih =>
      intro i hi b hb
      have hlt : i < l.length := by omega
      have hn : nrm (l.drop i) ↔ 1 ≤ (l.getD i z100).f1 ∧ (i + 1 < l.length → (l.getD i z100).f0 ≠ (l.getD (i + 1) z100).f0) ∧ nrm (l.drop (i + 1)) := by
        rw [dropT hlt]
        by_cases h2 : i + 1 < l.length
        · rw [dropT h2]
          exact ⟨fun h => ⟨h.1, fun _ => h.2.1, h.2.2⟩, fun h => ⟨h.1, h.2.1 h2, h.2.2⟩⟩
        · rw [List.drop_eq_nil_of_le (show l.length ≤ i + 1 by omega)]
          exact ⟨fun h => ⟨h, fun h3 => absurd h3 h2, trivial⟩, fun h => h.1⟩
      refine Ev.step (fun k => by simp only [runs_Good.l0]; rfl) ?_
      refine Ev.pos (by omega) (Ev.pos (by omega) (Ev.pos (by omega) ?_))
      rw [rdT, w1 hlt (by omega)]
      by_cases h1 : (l.getD i z100).f1 < 1
      · refine Ev.pos h1 (ev_val (Ev.now _) ?_)
        rw [Bool.eq_iff_iff, hb, hn]
        exact ⟨fun h => (by cases h), fun h => (by have := h.2.1.1; omega)⟩
      · refine Ev.neg h1 ?_
        have hrest : ∀ b' : Bool, (b' = true ↔ (nrm (l.drop i) ∧ tot l ≤ 4096)) → Ev (fun k => runs_Good.l0 k l l (l.length : Int) ((i + 1 : Nat) : Int)) b' := fun b' hb' => ih (i + 1) (by omega) b' (by
          rw [hb', hn, show i + 1 - 1 = i by omega]
          exact ⟨fun h => ⟨fun _ => h.1.2.1, h.1.2.2, h.2⟩, fun h => ⟨⟨by omega, h.1 (by omega), h.2.1⟩, h.2.2⟩⟩)
        by_cases h0 : 0 < i
        · refine Ev.pos (by omega) ?_
          rw [show wrap64 ((i : Int) - 1) = ((i - 1 : Nat) : Int) by unfold wrap64; omega]
          refine Ev.pos (by omega) (Ev.pos (by omega) ?_)
          rw [rdT]
          by_cases he : (l.getD (i - 1) z100).f0 = (l.getD i z100).f0
          · refine Ev.pos he (ev_val (Ev.now _) ?_)
            rw [Bool.eq_iff_iff, hb]
            exact ⟨fun h => (by cases h), fun h => absurd he (h.1 h0 hlt)⟩
          · refine Ev.neg he (hrest b ?_)
            rw [hb]
            exact ⟨fun h => h.2, fun h => ⟨fun _ _ => he, h⟩⟩
        · refine Ev.neg (by omega) (hrest b ?_)
          rw [hb]
          exact ⟨fun h => h.2, fun h => ⟨fun h3 => absurd h3 h0, h⟩⟩
  refine loop l.length 0 (by omega) (good l) ?_
  simp [good]
theorem rgood_ev (l : List S100) (hl : l.length ≤ big) : Ev (fun k => bureauref03_Good.f k l) (good l) := by
  unfold bureauref03_Good.f
  refine Ev.bind (rtotal_ev l hl) ?_
  by_cases ht : tot l > 4096
  · exact Ev.pos ht (ev_val (Ev.now _) (by simp [good]; intro _; omega))
  · refine Ev.neg ht ?_
    have hb : (bytes l).length ≤ 4096 := by have := tot_bytes (l := l) (by omega); omega
    refine Ev.bind (bytes_ev l hl (by omega)) (Ev.bind (pack_ev _ (by omega)) (Ev.bind (same_ev _ _ hl) ?_))
    refine ev_val (Ev.now _) ?_
    rw [good, show decide (tot l ≤ 4096) = true by simp; omega, Bool.and_true]
    exact decide_eq_decide.2 nrm_iff.symm
end Go.Proofs.Ythpjagblnddjaaa.PB
end

section
namespace Go.Proofs.Ythpjagblnddjaaa.Opn
open Go.ChangeShapes Go.WideShapes Go.Deep Go.Proofs.YthpjagblnddjaaaW.PrintWords
set_option linter.unusedVariables false
def Opn {α : Type} (P : Program) (w : World) (t : TypeId) (d : Kd α) (wf : α → Prop) : Prop :=
  ∀ (H : Type) (enc : TypeId × Value → H) (base : Nat) (spare : Nat → Bool) (held : Bool) (fuel : Nat) (cs : List Value) (x : DataW H × List MemPlace),
    DataW.trod enc P w base spare held fuel t cs = some x → (∀ n ∈ x.1.weights P t, n ≤ reachBytes) → ∃ a : α, d.K w a cs ∧ wf a
section
variable {P : Program} {w : World}
theorem int {t : TypeId} {k : IntKind} (hu : P.underlying t = some (.int k)) : Opn P w t (Kd.int k) (fun n => (Lit.int k n).wf = true) := by
  intro H enc base spare held fuel cs x h _
  obtain ⟨n, rfl, _, hw⟩ := DataW.trod_int hu h
  exact ⟨n, rfl, hw⟩
theorem bool {t : TypeId} (hu : P.underlying t = some .bool) : Opn P w t Kd.bool (fun _ => True) := by
  intro H enc base spare held fuel cs x h _
  obtain ⟨b, rfl, _⟩ := DataW.trod_bool hu h
  exact ⟨b, rfl, trivial⟩
theorem string {t : TypeId} (hu : P.underlying t = some .string) : Opn P w t Kd.string (fun s => s.size ≤ 140737488351232) := by
  intro H enc base spare held fuel cs x h hz
  obtain ⟨s, rfl, rfl, _⟩ := DataW.trod_string hu h
  refine ⟨s, rfl, ?_⟩
  have := hz s.data.toList.length (by simp [DataW.weights])
  rw [data_length] at this
  exact this
theorem weightsAll_mem {H : Type} {e : TypeId} : ∀ {ds : List (DataW H)} {d : DataW H}, d ∈ ds → ∀ n ∈ d.weights P e, n ∈ DataW.weightsAll P e ds
  | d0 :: ds, d, hd, n, hn => by
    simp only [DataW.weightsAll, List.mem_append]
    rcases List.mem_cons.1 hd with rfl | hd
    · exact .inl hn
    · exact .inr (weightsAll_mem hd n hn)
theorem slice {α : Type} {t e : TypeId} {d : Kd α} {wf : α → Prop} (hu : P.underlying t = some (.slice e)) (hc : P.cellsOf e = d.sz) {B : Nat} (hB : P.bytesOf e = B) (ho : Opn P w e d wf) :
    Opn P w t (Kd.slice e d) (fun xs => xs.length * B ≤ 140737488351232 ∧ ∀ x ∈ xs, wf x) := by
  intro H enc base spare held fuel cs x h hz
  rcases open_slice hu h with ⟨rfl, rfl⟩ | ⟨a, len, cap, m, n, D, Pl, rfl, hb, hl, hm, hmm, rfl, hel⟩
  · exact ⟨[], ⟨none, 0, rfl, Nat.le_refl _, Kd.C_nil _ _⟩, by simp, by intro x hx; cases hx⟩
  · simp only [DataW.weights, hu, List.mem_cons, List.mem_append] at hz
    have hlm : len ≤ m := by rw [hmm]; split <;> omega
    have hall : ∀ i, i < len → ∃ a' : α, (∃ cs', w.cells? base (a.add (i * P.cellsOf e)) (P.cellsOf e) = some cs' ∧ d.K w a' cs') ∧ wf a' := fun i hi => by
      obtain ⟨cs', h1, h2⟩ := hel i (by omega)
      obtain ⟨a', h3, h4⟩ := ho H enc base spare held n cs' _ h2 (fun q hq => hz q (.inr (.inl (weightsAll_mem (List.mem_map.2 ⟨i, List.mem_range.2 hi, rfl⟩) q hq))))
      exact ⟨a', ⟨cs', h1, h3⟩, h4⟩
    obtain ⟨xs, hxs, hx⟩ : ∃ xs : List α, xs.length = len ∧ ∀ i, ∀ h : i < xs.length, (∃ cs', w.cells? base (a.add (i * P.cellsOf e)) (P.cellsOf e) = some cs' ∧ d.K w xs[i] cs') ∧ wf xs[i] := by
      clear hz hel hlm hmm hm hl h
      induction len with
      | zero => exact ⟨[], rfl, fun i h => absurd h (by simp)⟩
      | succ q ih =>
        obtain ⟨xs, h1, h2⟩ := ih (fun i hi => hall i (by omega))
        obtain ⟨a', h3⟩ := hall q (by omega)
        refine ⟨xs ++ [a'], by simp [h1], fun i h => ?_⟩
        by_cases hi : i < xs.length
        · rw [List.getElem_append_left hi]; exact h2 i hi
        · have : i = q := by simp at h; omega
          subst this
          rw [List.getElem_append_right (by omega)]
          simpa using h3
    refine ⟨xs, ⟨some a, cap, by rw [hxs], by omega, rfl, by have : cap ≤ 9223372036854775807 := hm; omega, fun hp => ⟨a, rfl, fun i p hp => ?_⟩⟩, ?_, ?_⟩
    · have hi : i < xs.length := (List.getElem?_eq_some_iff.1 hp).1
      have hpe : p = xs[i] := by rw [List.getElem?_eq_getElem hi] at hp; exact (Option.some.inj hp).symm
      obtain ⟨⟨cs', h1, h2⟩, _⟩ := hx i hi
      rw [hc] at h1
      obtain ⟨_, hcl, hat⟩ := World.cells?_some h1
      refine ⟨cs', by rw [hcl], by rw [hpe]; exact h2, fun j u hu => ?_⟩
      have hj : j < d.sz := by have := (List.getElem?_eq_some_iff.1 hu).1; omega
      have := hat j hj
      rw [← Go.Deep.add_add, this, hu]
    · have := hz _ (.inl rfl)
      rw [hB] at this
      simp only [List.length_map, List.length_range] at this
      rw [hxs]
      exact Nat.le_trans (Nat.mul_le_mul_right _ (by omega)) this
    · intro x hxm
      obtain ⟨i, hi, rfl⟩ := List.mem_iff_getElem.1 hxm
      exact (hx i hi).2
end
end Go.Proofs.Ythpjagblnddjaaa.Opn
end

section
namespace Go.Proofs.Ythpjagblnddjaaa.PB
open Go.ChangeShapes Go.WideShapes Go.Proofs.Ythpjagblnddjaaa Go.Proofs.YthpjagblnddjaaaW.PrintWords
set_option linter.unusedVariables false
def wf100 (x : S100) : Prop := ((Lit.int .u64 x.f0).wf = true) ∧ ((Lit.int .i64 x.f1).wf = true)
theorem opn100 {w : World} : Opn.Opn Try.prog w 100 k100 wf100 := by
  intro H enc base spare held fuel cs x h hz
  obtain ⟨xs, n, _, rfl, hlen, hyl, hf⟩ := DataW.trod_struct Try.underlying100 h
  have hcl : cs.length = 2 := hlen.trans (by kernel_rfl)
  obtain ⟨y0, y1, rfl⟩ : ∃ y0 y1, xs = [y0, y1] := by
    clear h hz hf hlen hcl; have hyl' : xs.length = 2 := hyl; clear hyl
    match xs, hyl' with | [y0, y1], _ => exact ⟨y0, y1, rfl⟩
  obtain ⟨c0, c1, rfl⟩ : ∃ c0 c1, cs = [c0, c1] := by
    clear h hz hf hlen hyl
    match cs, hcl with | [c0, c1], _ => exact ⟨c0, c1, rfl⟩
  simp only [DataW.weights, Try.underlying100] at hz
  have h0 : DataW.trod enc Try.prog w base spare held n 36 [c0] = some y0 := by have z := hf 0 _ rfl; rwa [show Try.prog.cellsOf _ = 1 from by kernel_rfl] at z
  obtain ⟨a0, k0_, w0⟩ := (Opn.int Try.underlying36) H enc base spare held n _ _ h0 (fun q hq => hz q (by simp [DataW.weightsEach, hq]))
  have h1 : DataW.trod enc Try.prog w base spare held n 3 [c1] = some y1 := by have z := hf 1 _ rfl; rwa [show Try.prog.cellsOf _ = 1 from by kernel_rfl] at z
  obtain ⟨a1, k1_, w1⟩ := (Opn.int Try.underlying3) H enc base spare held n _ _ h1 (fun q hq => hz q (by simp [DataW.weightsEach, hq]))
  exact ⟨⟨a0, a1⟩, ⟨_, _, rfl, k0_, k1_⟩, w0, w1⟩
def wf51 (x : S51) : Prop := (x.f0.size ≤ 140737488351232) ∧ (x.f1.length * 16 ≤ 140737488351232 ∧ ∀ x_ ∈ x.f1, wf100 x_)
theorem opn51 {w : World} : Opn.Opn Try.prog w 51 k51 wf51 := by
  intro H enc base spare held fuel cs x h hz
  obtain ⟨xs, n, _, rfl, hlen, hyl, hf⟩ := DataW.trod_struct Try.underlying51 h
  have hcl : cs.length = 2 := hlen.trans (by kernel_rfl)
  obtain ⟨y0, y1, rfl⟩ : ∃ y0 y1, xs = [y0, y1] := by
    clear h hz hf hlen hcl; have hyl' : xs.length = 2 := hyl; clear hyl
    match xs, hyl' with | [y0, y1], _ => exact ⟨y0, y1, rfl⟩
  obtain ⟨c0, c1, rfl⟩ : ∃ c0 c1, cs = [c0, c1] := by
    clear h hz hf hlen hyl
    match cs, hcl with | [c0, c1], _ => exact ⟨c0, c1, rfl⟩
  simp only [DataW.weights, Try.underlying51] at hz
  have h0 : DataW.trod enc Try.prog w base spare held n 9 [c0] = some y0 := by have z := hf 0 _ rfl; rwa [show Try.prog.cellsOf _ = 1 from by kernel_rfl] at z
  obtain ⟨a0, k0_, w0⟩ := (Opn.string Try.underlying9) H enc base spare held n _ _ h0 (fun q hq => hz q (by simp [DataW.weightsEach, hq]))
  have h1 : DataW.trod enc Try.prog w base spare held n 22 [c1] = some y1 := by have z := hf 1 _ rfl; rwa [show Try.prog.cellsOf _ = 1 from by kernel_rfl] at z
  obtain ⟨a1, k1_, w1⟩ := (Opn.slice Try.underlying22 (by kernel_rfl) (by kernel_rfl : Try.prog.bytesOf 100 = 16) opn100) H enc base spare held n _ _ h1 (fun q hq => hz q (by simp [DataW.weightsEach, hq]))
  exact ⟨⟨a0, a1⟩, ⟨_, _, rfl, k0_, k1_⟩, w0, w1⟩
structure S64 where
  f0 : Int
  f1 : S51
  f2 : S51
structure S77 where
  f0 : S51
  f1 : S51
  f2 : ByteArray
  f3 : Int
  f4 : Int
  f5 : Int
def k77 : Kd S77 := Kd.iso (Kd.pair k51 (Kd.pair k51 (Kd.pair Kd.string (Kd.pair (Kd.int .i64) (Kd.pair (Kd.int .i64) (Kd.int .u64)))))) (fun x : S77 => (x.f0, x.f1, x.f2, x.f3, x.f4, x.f5))
theorem k77_open {w : World} {x : S77} {cs : List Value} (h : k77.K w x cs) : ∃ A1 c1 A3 c3, cs = [.string x.f0.f0, .slice A1 x.f0.f1.length c1, .string x.f1.f0, .slice A3 x.f1.f1.length c3, .string x.f2, .int .i64 x.f3, .int .i64 x.f4, .int .u64 x.f5] ∧ x.f0.f1.length ≤ c1 ∧ k100.C w A1 x.f0.f1.length x.f0.f1 ∧ x.f1.f1.length ≤ c3 ∧ k100.C w A3 x.f1.f1.length x.f1.f1 := by
  obtain ⟨_, _, rfl, s0, ⟨_, _, rfl, s2, ⟨_, _, rfl, rfl, ⟨_, _, rfl, rfl, ⟨_, _, rfl, rfl, rfl⟩⟩⟩⟩⟩ := h
  obtain ⟨A1, c1, rfl, l1, g1⟩ := k51_open s0
  obtain ⟨A3, c3, rfl, l3, g3⟩ := k51_open s2
  exact ⟨A1, c1, A3, c3, rfl, l1, g1, l3, g3⟩
def wf77 (x : S77) : Prop := (wf51 x.f0) ∧ (wf51 x.f1) ∧ (x.f2.size ≤ 140737488351232) ∧ ((Lit.int .i64 x.f3).wf = true) ∧ ((Lit.int .i64 x.f4).wf = true) ∧ ((Lit.int .u64 x.f5).wf = true)
theorem opn77 {w : World} : Opn.Opn Try.prog w 77 k77 wf77 := by
  intro H enc base spare held fuel cs x h hz
  obtain ⟨xs, n, _, rfl, hlen, hyl, hf⟩ := DataW.trod_struct Try.underlying77 h
  have hcl : cs.length = 8 := hlen.trans (by kernel_rfl)
  obtain ⟨y0, y1, y2, y3, y4, y5, rfl⟩ : ∃ y0 y1 y2 y3 y4 y5, xs = [y0, y1, y2, y3, y4, y5] := by
    clear h hz hf hlen hcl; have hyl' : xs.length = 6 := hyl; clear hyl
    match xs, hyl' with | [y0, y1, y2, y3, y4, y5], _ => exact ⟨y0, y1, y2, y3, y4, y5, rfl⟩
  obtain ⟨c0, c1, c2, c3, c4, c5, c6, c7, rfl⟩ : ∃ c0 c1 c2 c3 c4 c5 c6 c7, cs = [c0, c1, c2, c3, c4, c5, c6, c7] := by
    clear h hz hf hlen hyl
    match cs, hcl with | [c0, c1, c2, c3, c4, c5, c6, c7], _ => exact ⟨c0, c1, c2, c3, c4, c5, c6, c7, rfl⟩
  simp only [DataW.weights, Try.underlying77] at hz
  have h0 : DataW.trod enc Try.prog w base spare held n 51 [c0, c1] = some y0 := by have z := hf 0 _ rfl; rwa [show Try.prog.cellsOf _ = 2 from by kernel_rfl] at z
  obtain ⟨a0, k0_, w0⟩ := opn51 H enc base spare held n _ _ h0 (fun q hq => hz q (by simp [DataW.weightsEach, hq]))
  have h1 : DataW.trod enc Try.prog w base spare held n 51 [c2, c3] = some y1 := by have z := hf 1 _ rfl; rwa [show Try.prog.cellsOf _ = 2 from by kernel_rfl] at z
  obtain ⟨a1, k1_, w1⟩ := opn51 H enc base spare held n _ _ h1 (fun q hq => hz q (by simp [DataW.weightsEach, hq]))
  have h2 : DataW.trod enc Try.prog w base spare held n 9 [c4] = some y2 := by have z := hf 2 _ rfl; rwa [show Try.prog.cellsOf _ = 1 from by kernel_rfl] at z
  obtain ⟨a2, k2_, w2⟩ := (Opn.string Try.underlying9) H enc base spare held n _ _ h2 (fun q hq => hz q (by simp [DataW.weightsEach, hq]))
  have h3 : DataW.trod enc Try.prog w base spare held n 3 [c5] = some y3 := by have z := hf 3 _ rfl; rwa [show Try.prog.cellsOf _ = 1 from by kernel_rfl] at z
  obtain ⟨a3, k3_, w3⟩ := (Opn.int Try.underlying3) H enc base spare held n _ _ h3 (fun q hq => hz q (by simp [DataW.weightsEach, hq]))
  have h4 : DataW.trod enc Try.prog w base spare held n 3 [c6] = some y4 := by have z := hf 4 _ rfl; rwa [show Try.prog.cellsOf _ = 1 from by kernel_rfl] at z
  obtain ⟨a4, k4_, w4⟩ := (Opn.int Try.underlying3) H enc base spare held n _ _ h4 (fun q hq => hz q (by simp [DataW.weightsEach, hq]))
  have h5 : DataW.trod enc Try.prog w base spare held n 36 [c7] = some y5 := by have z := hf 5 _ rfl; rwa [show Try.prog.cellsOf _ = 1 from by kernel_rfl] at z
  obtain ⟨a5, k5_, w5⟩ := (Opn.int Try.underlying36) H enc base spare held n _ _ h5 (fun q hq => hz q (by simp [DataW.weightsEach, hq]))
  exact ⟨⟨a0, a1, a2, a3, a4, a5⟩, ⟨_, _, rfl, k0_, ⟨_, _, rfl, k1_, ⟨_, _, rfl, k2_, ⟨_, _, rfl, k3_, ⟨_, _, rfl, k4_, k5_⟩⟩⟩⟩⟩, w0, w1, w2, w3, w4, w5⟩
end Go.Proofs.Ythpjagblnddjaaa.PB
end

section
namespace Go.Proofs.Ythpjagblnddjaaa.PB
open Go.RowKit Go.Proofs.YthpjagblnddjaaaW.PrintWords
set_option linter.unusedVariables false
theorem capped_nil : capped 0 [] := fun r hr => by cases hr
theorem gather0 (a b : Nat) (l : List S100) (h0 : ∀ r ∈ l, 0 ≤ r.f1) (hl : (bytes l).length ≤ 500000) (ha : a ≤ 500000) (hb : b ≤ 500000) :
    someTo addRun (a : Int) (b : Int) l 0 [] = pack (((bytes l).take b).drop a) := by
  have := someTo_pack a b l 0 [] 0 h0 capped_nil (by omega) (by omega) (by omega) (by omega) (by omega)
  simpa [pack] using this
theorem good_nrm {l : List S100} (h : good l = true) : nrm l ∧ tot l ≤ 4096 := by
  unfold good at h
  simpa using h
theorem nrm_nonneg {l : List S100} (h : nrm l) : ∀ r ∈ l, 0 ≤ r.f1 := fun r hr => by have := nrm_pos h r hr; omega
theorem step1_len (acc : List S100) (x : Int) : (step1 acc x).length ≤ acc.length + 1 := by
  unfold step1
  split
  · simp
  · simp
theorem packTo_len (b : List Int) : ∀ acc : List S100, (packTo acc b).length ≤ acc.length + b.length := by
  induction b with
  | nil => intro acc; simp [packTo]
  | cons x b ih => intro acc; have h1 := ih (step1 acc x); have h2 := step1_len acc x; show (packTo (step1 acc x) b).length ≤ _; rw [List.length_cons]; omega
theorem pack_len (b : List Int) : (pack b).length ≤ b.length := by have := packTo_len b []; simpa [pack] using this
end Go.Proofs.Ythpjagblnddjaaa.PB
end

section
namespace Go.Proofs.Ythpjagblnddjaaa.PB
open Go.RowKit Go.Proofs.YthpjagblnddjaaaW.PrintWords
set_option linter.unusedVariables false
def withinB (l : List S100) (a b : Int) : Bool := good l && (decide (0 ≤ a) && (decide (a ≤ b) && decide (b ≤ tot l)))
theorem withinB_iff {l : List S100} {a b : Int} : withinB l a b = true ↔ good l = true ∧ 0 ≤ a ∧ a ≤ b ∧ b ≤ tot l := by simp [withinB]
theorem within_ev (l : List S100) (hl : l.length ≤ big) (a b : Int) : Ev (fun k => runs_within.f k l a b) (withinB l a b) := by
  unfold runs_within.f
  refine Ev.bind (good_ev l hl) ?_
  by_cases hg : good l = true
  · refine Ev.pos hg ?_
    by_cases h0 : a ≥ 0
    · refine Ev.pos h0 ?_
      by_cases h1 : a ≤ b
      · refine Ev.pos h1 (Ev.bind (total_ev l hl) (ev_val (Ev.now _) ?_))
        simp [withinB, hg, h1, show 0 ≤ a from h0]
      · exact Ev.neg h1 (ev_val (Ev.now _) (by simp [withinB, h1]))
    · exact Ev.neg h0 (ev_val (Ev.now _) (by simp [withinB]; intro _ h; omega))
  · exact Ev.neg hg (ev_val (Ev.now _) (by simp [withinB, hg]))
theorem within_facts {l : List S100} {a b : Int} (h : withinB l a b = true) : ∃ i j : Nat, a = i ∧ b = j ∧ i ≤ j ∧ j ≤ (bytes l).length ∧ (bytes l).length ≤ 4096 ∧ nrm l ∧ tot l = (bytes l).length := by
  obtain ⟨hg, h0, h1, h2⟩ := withinB_iff.1 h
  obtain ⟨hn, ht⟩ := good_nrm hg
  have hb := tot_bytes ht
  obtain ⟨i, rfl⟩ := Int.eq_ofNat_of_zero_le h0
  obtain ⟨j, rfl⟩ := Int.eq_ofNat_of_zero_le (show 0 ≤ b by omega)
  exact ⟨i, j, rfl, rfl, by omega, by omega, by omega, hn, hb⟩
def sliceS (l : List S100) (a b : Int) : List S100 × Int := if withinB l a b = true then (pack (((bytes l).take b.toNat).drop a.toNat), 0) else ([], 2)
theorem slice_ev (l : List S100) (hl : l.length ≤ big) (a b : Int) : Ev (fun k => runs_Slice.f k l a b) (sliceS l a b) := by
  unfold runs_Slice.f sliceS
  refine Ev.bind (within_ev l hl a b) ?_
  refine Ev.ite (fun hw => ?_) (fun _ => Ev.now _)
  obtain ⟨i, j, rfl, rfl, hij, hj, h4, hn, _⟩ := within_facts hw
  unfold big at hl
  refine Ev.pos (by omega) (ev_val (Ev.now _) ?_)
  rw [gather0 i j l (nrm_nonneg hn) (by omega) (by omega) (by omega)]
  rfl
theorem wf_u64 {n : Int} (h : (Lit.int .u64 n).wf = true) : 0 ≤ n ∧ n < 18446744073709551616 := by
  have hmin : IntKind.u64.min = 0 := rfl
  have hmax : IntKind.u64.max = 18446744073709551615 := rfl
  simp only [Lit.wf, Bool.and_eq_true, decide_eq_true_eq, hmin, hmax] at h
  omega
theorem wf_labels {l : List S100} (h : ∀ x ∈ l, wf100 x) : ∀ r ∈ l, 0 ≤ r.f0 ∧ r.f0 < 18446744073709551616 := fun r hr => wf_u64 (h r hr).1
def spliceS (l : List S100) (a b : Int) (m : List S100) : List S100 × Int :=
  if withinB l a b = true then (if good m = true then (if tot l - (b - a) + tot m > 4096 then ([], 3) else (pack ((bytes l).take a.toNat ++ bytes m ++ (bytes l).drop b.toNat), 0)) else ([], 2)) else ([], 2)
theorem good_facts {m : List S100} (h : good m = true) : nrm m ∧ (bytes m).length ≤ 4096 ∧ tot m = (bytes m).length := by
  obtain ⟨hn, ht⟩ := good_nrm h
  have hb := tot_bytes ht
  exact ⟨hn, by omega, hb⟩
theorem spliceRuns_pack (l m : List S100) (i j : Nat) (hi : i ≤ 4096) (hj : j ≤ 4096) (hl : (bytes l).length ≤ 4096) (hm : (bytes m).length ≤ 4096) (hn : nrm l) (hnm : nrm m) :
    spliceRuns l i j m = pack ((bytes l).take i ++ bytes m ++ (bytes l).drop j) := by
  unfold spliceRuns
  have e1 := someTo_pack 0 i l 0 [] 0 (nrm_nonneg hn) capped_nil (by omega) (by omega) (by omega) (by omega) (by omega)
  rw [show ((0 : Nat) : Int) = 0 from rfl, Nat.sub_zero, Nat.sub_zero, List.drop_zero] at e1
  rw [e1]
  have c1 := packTo_capped ((bytes l).take i) (capped_nil) (show (0 : Int) ≤ 0 by omega)
  have hlen1 : ((bytes l).take i).length ≤ 4096 := by rw [List.length_take]; omega
  have e2 := someTo_pack 0 4096 m 0 _ _ (nrm_nonneg hnm) c1 (by omega) (by omega) (by omega) (by omega) (by omega)
  rw [show ((0 : Nat) : Int) = 0 from rfl, show ((4096 : Nat) : Int) = 4096 from rfl, Nat.sub_zero, Nat.sub_zero, List.drop_zero, List.take_of_length_le hm] at e2
  rw [e2]
  have c2 := packTo_capped (bytes m) c1 (by omega)
  have e3 := someTo_pack j 4096 l 0 _ _ (nrm_nonneg hn) c2 (by omega) (by omega) (by omega) (by omega) (by omega)
  rw [show ((0 : Nat) : Int) = 0 from rfl, show ((4096 : Nat) : Int) = 4096 from rfl, Nat.sub_zero, Nat.sub_zero, List.take_of_length_le hl] at e3
  rw [e3]
  unfold pack
  rw [packTo_append, packTo_append]
theorem splice_ev (l : List S100) (hl : l.length ≤ big) (a b : Int) (m : List S100) (hm : m.length ≤ big) : Ev (fun k => runs_Splice.f k l a b m) (spliceS l a b m) := by
  unfold runs_Splice.f spliceS
  refine Ev.bind (within_ev l hl a b) ?_
  refine Ev.ite (fun hw => ?_) (fun _ => Ev.now _)
  refine Ev.bind (good_ev m hm) ?_
  refine Ev.ite (fun hg => ?_) (fun _ => Ev.now _)
  refine Ev.bind (total_ev l hl) (Ev.bind (total_ev m hm) ?_)
  obtain ⟨i, j, rfl, rfl, hij, hj, h4, hn, ht⟩ := within_facts hw
  obtain ⟨hnm, h4m, htm⟩ := good_facts hg
  rw [show wrap64 (wrap64 (tot l - wrap64 ((j : Int) - (i : Int))) + tot m) = tot l - ((j : Int) - (i : Int)) + tot m by unfold wrap64; omega]
  refine Ev.ite (fun _ => Ev.now _) (fun _ => ?_)
  unfold big at hl hm
  refine Ev.pos (by omega) (ev_val (Ev.now _) ?_)
  rw [spliceRuns_pack l m i j (by omega) (by omega) h4 h4m hn hnm]
  rfl
theorem good_pack {b : List Int} (h : b.length ≤ 4096) : good (pack b) = true ∧ tot (pack b) = b.length := by
  have hn := pack_nrm b
  have ht : tot (pack b) = b.length := by
    rw [tot_of_bytes (nrm_nonneg hn) (by rw [pack_bytes]; exact h), pack_bytes]
  exact ⟨by unfold good; rw [Bool.and_eq_true, decide_eq_true_iff, decide_eq_true_iff]; exact ⟨hn, by omega⟩, ht⟩
end Go.Proofs.Ythpjagblnddjaaa.PB
end

section
namespace Go.Proofs.Ythpjagblnddjaaa.PB
open Go.RowKit Go.Proofs.YthpjagblnddjaaaW.PrintWords
set_option linter.unusedVariables false
def lift (y : Int) (b : List Int) : List Int := b.map (fun x => Go.bits .or .u64 x y)
def liftRuns (y : Int) (l : List S100) : List S100 := l.map (fun r => ⟨Go.bits .or .u64 r.f0 y, r.f1⟩)
theorem lift_bytes (y : Int) (l : List S100) : bytes (liftRuns y l) = lift y (bytes l) := by
  induction l with
  | nil => rfl
  | cons r l ih =>
    show bytes (_ :: liftRuns y l) = _
    rw [bytes_cons, bytes_cons, ih]
    unfold lift
    rw [List.map_append, List.map_replicate]
theorem someTo_join (y a b : Int) : ∀ (l : List S100) (p : Int) (acc : List S100), someTo (joinRun y) a b l p acc = someTo addRun a b (liftRuns y l) p acc
  | [], _, _ => rfl
  | r :: l, p, acc => by
    have := someTo_join y a b l (wrap64 (p + r.f1))
    simp only [liftRuns] at this
    simp only [someTo, liftRuns, List.map_cons, joinRun]
    exact this _
theorem liftRuns_nonneg {y : Int} {l : List S100} (h : ∀ r ∈ l, 0 ≤ r.f1) : ∀ r ∈ liftRuns y l, 0 ≤ r.f1 := by
  intro r hr
  obtain ⟨s, hs, rfl⟩ := List.mem_map.1 hr
  exact h s hs
theorem lift_len (y : Int) (b : List Int) : (lift y b).length = b.length := by simp [lift]
theorem raiseRuns_pack (l : List S100) (i j : Nat) (y : Int) (hij : i ≤ j) (hj : j ≤ 4096) (hl : (bytes l).length ≤ 4096) (hn : nrm l) :
    raiseRuns l i j y = pack ((bytes l).take i ++ lift y (((bytes l).take j).drop i) ++ (bytes l).drop j) := by
  unfold raiseRuns
  have e1 := someTo_pack 0 i l 0 [] 0 (nrm_nonneg hn) capped_nil (by omega) (by omega) (by omega) (by omega) (by omega)
  rw [show ((0 : Nat) : Int) = 0 from rfl, Nat.sub_zero, Nat.sub_zero, List.drop_zero] at e1
  rw [e1]
  have c1 := packTo_capped ((bytes l).take i) (capped_nil) (show (0 : Int) ≤ 0 by omega)
  have hlen1 : ((bytes l).take i).length ≤ 4096 := by rw [List.length_take]; omega
  have e2 := someTo_pack i j (liftRuns y l) 0 _ _ (liftRuns_nonneg (nrm_nonneg hn)) c1 (by omega) (by rw [lift_bytes, lift_len]; omega) (by rw [lift_bytes, lift_len]; omega) (by omega) (by omega)
  rw [show ((0 : Nat) : Int) = 0 from rfl, Nat.sub_zero, Nat.sub_zero, lift_bytes] at e2
  rw [someTo_join, e2]
  have c2 := packTo_capped (((lift y (bytes l)).take j).drop i) c1 (by omega)
  have hlen2 : (((lift y (bytes l)).take j).drop i).length ≤ 4096 := by rw [List.length_drop, List.length_take, lift_len]; omega
  have e3 := someTo_pack j 4096 l 0 _ _ (nrm_nonneg hn) c2 (by omega) (by omega) (by omega) (by omega) (by omega)
  rw [show ((0 : Nat) : Int) = 0 from rfl, show ((4096 : Nat) : Int) = 4096 from rfl, Nat.sub_zero, Nat.sub_zero, List.take_of_length_le hl] at e3
  rw [e3]
  unfold pack
  rw [packTo_append, packTo_append]
  unfold lift
  rw [List.map_drop, List.map_take]
def raiseS (l : List S100) (a b y : Int) : List S100 × Int := if withinB l a b = true then (pack ((bytes l).take a.toNat ++ lift y (((bytes l).take b.toNat).drop a.toNat) ++ (bytes l).drop b.toNat), 0) else ([], 2)
theorem raise_ev (l : List S100) (hl : l.length ≤ big) (a b y : Int) : Ev (fun k => runs_Raise.f k l a b y) (raiseS l a b y) := by
  unfold runs_Raise.f raiseS
  refine Ev.bind (within_ev l hl a b) ?_
  refine Ev.ite (fun hw => ?_) (fun _ => Ev.now _)
  unfold big at hl
  refine Ev.pos (by omega) (ev_val (Ev.now _) ?_)
  obtain ⟨i, j, rfl, rfl, hij, hj, h4, hn, ht⟩ := within_facts hw
  rw [raiseRuns_pack l i j y hij (by omega) h4 hn]
  rfl
theorem bytes_mem {l : List S100} {x : Int} (h : x ∈ bytes l) : ∃ r ∈ l, r.f0 = x := by
  obtain ⟨r, hr, hx⟩ := List.mem_flatMap.1 h
  exact ⟨r, hr, (List.eq_of_mem_replicate hx).symm⟩
end Go.Proofs.Ythpjagblnddjaaa.PB
end

section
namespace Go.Proofs.Ythpjagblnddjaaa.PB
open Go.RowKit Go.Proofs.YthpjagblnddjaaaW.PrintWords
set_option linter.unusedVariables false
theorem run_ev (a b : List S100) (hl : a.length ≤ big) : Ev (fun k => api_Run.f k a b) (decide (a = b)) := by
  unfold big at hl
  unfold api_Run.f
  by_cases hab : a.length = b.length
  · refine Ev.pos (by omega) ?_
    have loop : ∀ (d i : Nat), i + d = a.length → Ev (fun k => api_Run.l0 k a b (a.length : Int) (i : Int)) (decide (a.drop i = b.drop i)) := by
      intro d
      induction d with
      | zero =>
        intro i hi
        refine Ev.step (fun k => by simp only [api_Run.l0]; rfl) ?_
        refine Ev.neg (by omega) ?_
        rw [List.drop_eq_nil_of_le (by omega), List.drop_eq_nil_of_le (by omega)]
        exact Ev.now _
      | succ d ih =>
        intro i hi
        have hlt : i < a.length := by omega
        refine Ev.step (fun k => by simp only [api_Run.l0]; rfl) ?_
        refine Ev.pos (by omega) (Ev.pos (by omega) (Ev.pos (by omega) (Ev.pos (by omega) ?_)))
        rw [dropT hlt, dropT (show i < b.length by omega), rdT, rdT, w1 hlt (by omega)]
        by_cases he : a.getD i z100 = b.getD i z100
        · rw [he]
          refine Ev.neg (by simp) ?_
          exact ev_val (ih (i + 1) (by omega)) (by simp)
        · refine Ev.pos ?_ ?_
          · have : ¬ ((a.getD i z100).f0 = (b.getD i z100).f0 ∧ (a.getD i z100).f1 = (b.getD i z100).f1) := fun h => he (by
              cases hx : a.getD i z100; cases hy : b.getD i z100; rw [hx, hy] at h; simp at h; rw [h.1, h.2])
            simp only [Bool.or_eq_true, Bool.not_eq_true', beq_eq_false_iff_ne]
            by_cases h1 : (a.getD i z100).f0 = (b.getD i z100).f0
            · exact .inr (fun h2 => this ⟨h1, h2⟩)
            · exact .inl h1
          · exact ev_val (Ev.now _) (by simp; intro h; exact absurd h he)
    exact loop a.length 0 (by omega)
  · refine Ev.neg (by omega) ?_
    exact ev_val (Ev.now _) (by simp; intro h; exact hab (by rw [h]))
def goodT (s : ByteArray) (l : List S100) : Bool := good l && decide (tot l = (s.size : Int))
theorem goodT_iff {s : ByteArray} {l : List S100} : goodT s l = true ↔ good l = true ∧ tot l = (s.size : Int) := by simp [goodT]
theorem goodT_facts {s : ByteArray} {l : List S100} (h : goodT s l = true) : good l = true ∧ nrm l ∧ (bytes l).length = s.size ∧ s.size ≤ 4096 ∧ tot l = (s.size : Int) := by
  obtain ⟨h1, h2⟩ := goodT_iff.1 h
  obtain ⟨h3, h4, h5⟩ := good_facts h1
  exact ⟨h1, h3, by omega, by omega, h2⟩
theorem goodT_ev (s : ByteArray) (l : List S100) (hl : l.length ≤ big) : Ev (fun k => strip_Good.f k s l) (goodT s l) := by
  unfold strip_Good.f
  refine Ev.bind (good_ev l hl) ?_
  by_cases hg : good l = true
  · rw [hg]
    exact Ev.pos rfl (Ev.bind (total_ev l hl) (ev_val (Ev.now _) (by rw [Bool.eq_iff_iff]; simp [goodT, hg])))
  · exact Ev.neg hg (ev_val (Ev.now _) (by simp [goodT, hg]))
theorem rgoodT_ev (s : ByteArray) (l : List S100) (hl : l.length ≤ big) : Ev (fun k => bureauref04_Good.f k s l) (goodT s l) := by
  unfold bureauref04_Good.f
  refine Ev.bind (rgood_ev l hl) ?_
  by_cases hg : good l = true
  · rw [hg]
    exact Ev.pos rfl (Ev.bind (rtotal_ev l hl) (ev_val (Ev.now _) (by rw [Bool.eq_iff_iff]; simp [goodT, hg])))
  · exact Ev.neg hg (ev_val (Ev.now _) (by simp [goodT, hg]))
def withinT (s : ByteArray) (l : List S100) (a b : Int) : Bool := goodT s l && (decide (0 ≤ a) && (decide (a ≤ b) && decide (b ≤ (s.size : Int))))
theorem withinT_iff {s : ByteArray} {l : List S100} {a b : Int} : withinT s l a b = true ↔ goodT s l = true ∧ 0 ≤ a ∧ a ≤ b ∧ b ≤ (s.size : Int) := by simp [withinT]
theorem withinT_ev (s : ByteArray) (l : List S100) (hl : l.length ≤ big) (a b : Int) : Ev (fun k => strip_within.f k s l a b) (withinT s l a b) := by
  unfold strip_within.f
  refine Ev.bind (goodT_ev s l hl) ?_
  by_cases hg : goodT s l = true
  · refine Ev.pos hg ?_
    by_cases h0 : 0 ≤ a
    · refine Ev.pos h0 ?_
      by_cases h1 : a ≤ b
      · exact Ev.pos h1 (ev_val (Ev.now _) (by simp [withinT, hg, h0, h1]))
      · exact Ev.neg h1 (ev_val (Ev.now _) (by simp [withinT, h1]))
    · exact Ev.neg h0 (ev_val (Ev.now _) (by simp [withinT, h0]))
  · exact Ev.neg hg (ev_val (Ev.now _) (by simp [withinT, hg]))
theorem withinT_facts {s : ByteArray} {l : List S100} {a b : Int} (h : withinT s l a b = true) : ∃ i j : Nat, a = i ∧ b = j ∧ i ≤ j ∧ j ≤ s.size ∧ goodT s l = true ∧ withinB l a b = true := by
  obtain ⟨h1, h2, h3, h4⟩ := withinT_iff.1 h
  obtain ⟨g1, g2, g3, g4, g5⟩ := goodT_facts h1
  obtain ⟨i, rfl⟩ := Int.eq_ofNat_of_zero_le h2
  obtain ⟨j, rfl⟩ := Int.eq_ofNat_of_zero_le (show 0 ≤ b by omega)
  exact ⟨i, j, rfl, rfl, by omega, by omega, h1, withinB_iff.2 ⟨g1, by omega, by omega, by omega⟩⟩
abbrev TX := ByteArray × List S100 × Int
def cutS (s : ByteArray) (l : List S100) (a b : Int) : TX := if withinT s l a b = true then (s.extract a.toNat b.toNat, pack (((bytes l).take b.toNat).drop a.toNat), 0) else (⟨#[]⟩, [], 2)
theorem cut_ev (s : ByteArray) (l : List S100) (hl : l.length ≤ big) (a b : Int) : Ev (fun k => strip_Cut.f k s l a b) (cutS s l a b) := by
  unfold strip_Cut.f cutS
  refine Ev.bind (withinT_ev s l hl a b) ?_
  refine Ev.ite (fun hw => ?_) (fun _ => Ev.now _)
  obtain ⟨h1, h2, h3, h4⟩ := withinT_iff.1 hw
  obtain ⟨i, j, rfl, rfl, hij, hj, hg, hwb⟩ := withinT_facts hw
  refine Ev.bind (slice_ev l hl _ _) (Ev.pos h2 (Ev.pos h3 (Ev.pos h4 (ev_val (Ev.now _) ?_))))
  unfold sliceS
  rw [if_pos hwb]
def spliceT (s : ByteArray) (l : List S100) (a b : Int) (x : ByteArray) (m : List S100) : TX :=
  if withinT s l a b = true then (if goodT x m = true then (if (s.size : Int) - (b - a) + (x.size : Int) > 4096 then (⟨#[]⟩, [], 3) else
    (s.extract 0 a.toNat ++ x ++ s.extract b.toNat s.size, pack ((bytes l).take a.toNat ++ bytes m ++ (bytes l).drop b.toNat), 0)) else (⟨#[]⟩, [], 2)) else (⟨#[]⟩, [], 2)
theorem ext_size (s : ByteArray) (i j : Nat) : (s.extract i j).size ≤ s.size := by rw [ByteArray.size_extract]; omega
theorem splice4_ev (s : ByteArray) (l : List S100) (hl : l.length ≤ big) (a b : Int) (x : ByteArray) (m : List S100) (hm : m.length ≤ big) : Ev (fun k => strip_Splice.f k s l a b x m) (spliceT s l a b x m) := by
  unfold strip_Splice.f spliceT
  refine Ev.bind (withinT_ev s l hl a b) ?_
  have bad : Ev (fun k => strip_Splice.j0 k a b true s l x m) (⟨#[]⟩, [], 2) := by
    refine Ev.step (fun k => by simp only [strip_Splice.j0]; rfl) ?_
    exact Ev.pos (by simp) (Ev.now _)
  refine Ev.ite (fun hw => ?_) (fun _ => bad)
  refine Ev.bind (goodT_ev x m hm) ?_
  by_cases hg : goodT x m = true
  · rw [if_pos hg, hg]
    refine Ev.step (fun k => by simp only [strip_Splice.j0]; rfl) ?_
    refine Ev.neg (by simp) (Ev.bind (splice_ev l hl a b m hm) ?_)
    obtain ⟨h1, h2, h3, h4⟩ := withinT_iff.1 hw
    obtain ⟨i, j, rfl, rfl, hij, hj, hgl, hwb⟩ := withinT_facts hw
    obtain ⟨g1, g2, g3, g4, g5⟩ := goodT_facts hgl
    obtain ⟨q1, q2, q3, q4, q5⟩ := goodT_facts hg
    have he : spliceS l (i : Int) (j : Int) m = if (s.size : Int) - ((j : Int) - (i : Int)) + (x.size : Int) > 4096 then ([], 3) else (pack ((bytes l).take (i : Int).toNat ++ bytes m ++ (bytes l).drop (j : Int).toNat), 0) := by
      unfold spliceS
      rw [if_pos hwb, if_pos q1, g5, q5]
    rw [he]
    by_cases hb : (s.size : Int) - ((j : Int) - (i : Int)) + (x.size : Int) > 4096
    · rw [if_pos hb, if_pos hb]
      exact Ev.neg (by decide) (Ev.now _)
    · rw [if_neg hb, if_neg hb]
      have e1 := ext_size s 0 (i : Int).toNat
      have e2 := ext_size s (j : Int).toNat s.size
      refine Ev.pos rfl (Ev.pos h2 (Ev.pos (by omega) (Ev.pos (by omega) (Ev.pos (by omega) (Ev.pos h4 (Ev.pos ?_ (Ev.now _)))))))
      rw [ByteArray.size_append]
      omega
  · rw [if_neg hg, show goodT x m = false by simpa using hg]
    exact bad
theorem spliceT_len (s : ByteArray) (l : List S100) (a b : Int) (x : ByteArray) (m : List S100) : (spliceT s l a b x m).2.1.length ≤ 20000 := by
  unfold spliceT
  split
  · rename_i hw
    split
    · rename_i hg
      split
      · simp
      · obtain ⟨i, j, rfl, rfl, hij, hj, hgl, hwb⟩ := withinT_facts hw
        obtain ⟨g1, g2, g3, g4, g5⟩ := goodT_facts hgl
        obtain ⟨q1, q2, q3, q4, q5⟩ := goodT_facts hg
        have := pack_len ((bytes l).take (i : Int).toNat ++ bytes m ++ (bytes l).drop (j : Int).toNat)
        simp only [List.length_append, List.length_take, List.length_drop] at this
        show (pack _).length ≤ 20000
        omega
    · simp
  · simp
def catT (s : ByteArray) (l : List S100) (x : ByteArray) (m : List S100) : TX := spliceT s l (s.size : Int) (s.size : Int) x m
theorem cat4_ev (s : ByteArray) (l : List S100) (hl : l.length ≤ big) (x : ByteArray) (m : List S100) (hm : m.length ≤ big) : Ev (fun k => strip_Cat.f k s l x m) (catT s l x m) := by
  unfold strip_Cat.f catT
  exact Ev.bind (splice4_ev s l hl _ _ x m hm) (Ev.now _)
theorem catT_len (s : ByteArray) (l : List S100) (x : ByteArray) (m : List S100) : (catT s l x m).2.1.length ≤ 20000 := spliceT_len _ _ _ _ _ _
def raiseT (s : ByteArray) (l : List S100) (y : Int) : TX := if goodT s l = true then (s, pack (lift y (bytes l)), 0) else (⟨#[]⟩, [], 2)
theorem raise4_ev (s : ByteArray) (l : List S100) (hl : l.length ≤ big) (y : Int) : Ev (fun k => strip_Raise.f k s l y) (raiseT s l y) := by
  unfold strip_Raise.f raiseT
  refine Ev.bind (goodT_ev s l hl) ?_
  refine Ev.ite (fun hg => ?_) (fun _ => Ev.now _)
  obtain ⟨g1, g2, g3, g4, g5⟩ := goodT_facts hg
  refine Ev.bind (raise_ev l hl 0 _ y) (ev_val (Ev.now _) ?_)
  unfold raiseS
  rw [if_pos (withinB_iff.2 ⟨g1, by omega, by omega, by omega⟩), Int.toNat_natCast, ← g3]
  simp
theorem raiseT_len (s : ByteArray) (l : List S100) (y : Int) : (raiseT s l y).2.1.length ≤ 20000 := by
  unfold raiseT
  split
  · rename_i hg
    obtain ⟨g1, g2, g3, g4, g5⟩ := goodT_facts hg
    have := pack_len (lift y (bytes l))
    rw [lift_len] at this
    show (pack _).length ≤ 20000
    omega
  · simp
theorem cutS_len (s : ByteArray) (l : List S100) (a b : Int) : (cutS s l a b).2.1.length ≤ 20000 := by
  unfold cutS
  split
  · rename_i hw
    obtain ⟨i, j, rfl, rfl, hij, hj, hgl, hwb⟩ := withinT_facts hw
    obtain ⟨g1, g2, g3, g4, g5⟩ := goodT_facts hgl
    have := pack_len (((bytes l).take (j : Int).toNat).drop (i : Int).toNat)
    rw [List.length_drop, List.length_take] at this
    show (pack _).length ≤ 20000
    omega
  · simp
theorem toList_loop (a : ByteArray) : ∀ (n i : Nat) (r : List UInt8), i + n = a.size → ByteArray.toList.loop a i r = r.reverse ++ a.data.toList.drop i
  | 0, i, r, h => by
    unfold ByteArray.toList.loop
    rw [if_neg (by omega), List.drop_eq_nil_of_le (by rw [Array.length_toList]; show a.size ≤ i; omega), List.append_nil]
  | n + 1, i, r, h => by
    unfold ByteArray.toList.loop
    have hi : i < a.data.toList.length := by rw [Array.length_toList]; show i < a.size; omega
    rw [if_pos (by omega), toList_loop a n (i + 1) _ (by omega), List.reverse_cons, List.append_assoc, List.drop_eq_getElem_cons hi]
    congr 1
    show [a.get! i] ++ _ = _
    rw [List.singleton_append]
    congr 1
    show a.data[i]! = _
    rw [getElem!_pos a.data i (by rw [Array.length_toList] at hi; exact hi)]
    simp
theorem toList_data (a : ByteArray) : a.toList = a.data.toList := by
  unfold ByteArray.toList
  rw [toList_loop a a.size 0 [] (by omega)]
  rfl
theorem toList_inj {a b : ByteArray} (h : a.toList = b.toList) : a = b := by
  rw [toList_data, toList_data] at h
  exact ByteArray.ext (Array.toList_inj.1 h)
end Go.Proofs.Ythpjagblnddjaaa.PB
end

section
namespace Go.Proofs.Ythpjagblnddjaaa.PB
open Go.RowKit Go.Proofs.YthpjagblnddjaaaW.PrintWords
set_option linter.unusedVariables false
def seen (x y : Int) : Bool := Go.bits .andNot .u64 x y == 0
def hide (y x c : Int) : Int := if seen x y = true then c else 35
def hideAll (y : Int) (L B : List Int) : List Int := List.zipWith (hide y) L B
theorem paintN_app : ∀ (n : Nat) (P B : List Int), n ≤ B.length → paintN P.length n (P ++ B) = P ++ (List.replicate n 35 ++ B.drop n)
  | 0, P, B, _ => by simp [paintN]
  | n + 1, P, [], h => by simp at h
  | n + 1, P, b :: B, h => by
    have := paintN_app n (P ++ [35]) B (by simpa using h)
    rw [List.length_append, List.length_singleton] at this
    simp only [paintN]
    rw [show (P ++ b :: B).set P.length 35 = P ++ [35] ++ B by simp, this]
    simp [List.replicate_succ]
theorem hide_rep (y x : Int) : ∀ (n : Nat) (B : List Int), n ≤ B.length → List.zipWith (hide y) (List.replicate n x) (B.take n) = if seen x y = true then B.take n else List.replicate n 35
  | 0, B, _ => by simp
  | n + 1, [], h => by simp at h
  | n + 1, b :: B, h => by
    rw [List.replicate_succ, List.take_succ_cons, List.zipWith_cons_cons, hide_rep y x n B (by simpa using h)]
    unfold hide
    by_cases hs : seen x y = true
    · rw [if_pos hs, if_pos hs, if_pos hs]
    · rw [if_neg hs, if_neg hs, if_neg hs, List.replicate_succ]
theorem viewTo_app (y : Int) : ∀ (l : List S100) (P B : List Int), B.length = (bytes l).length → viewTo y l P.length (P ++ B) = P ++ hideAll y (bytes l) B
  | [], P, B, h => by
    have : B = [] := List.eq_nil_of_length_eq_zero (by simpa [bytes] using h)
    subst this
    simp [viewTo, hideAll, bytes]
  | r :: l, P, B, h => by
    rw [bytes_cons, List.length_append, List.length_replicate] at h
    have hn : r.f1.toNat ≤ B.length := by omega
    have hz : hideAll y (bytes (r :: l)) B = List.zipWith (hide y) (List.replicate r.f1.toNat r.f0) (B.take r.f1.toNat) ++ hideAll y (bytes l) (B.drop r.f1.toNat) := by
      unfold hideAll
      rw [bytes_cons]
      conv => lhs; rw [← List.take_append_drop r.f1.toNat B]
      rw [List.zipWith_append]
      rw [List.length_replicate, List.length_take]
      omega
    rw [hz, hide_rep _ _ _ _ hn]
    simp only [viewTo]
    by_cases hs : seen r.f0 y = true
    · rw [if_pos (show (Go.bits .andNot .u64 r.f0 y == 0) = true from hs), if_pos hs]
      have := viewTo_app y l (P ++ B.take r.f1.toNat) (B.drop r.f1.toNat) (by rw [List.length_drop]; omega)
      rw [List.length_append, List.length_take, show min r.f1.toNat B.length = r.f1.toNat by omega, List.append_assoc, List.take_append_drop, List.append_assoc] at this
      exact this
    · rw [if_neg (show ¬ (Go.bits .andNot .u64 r.f0 y == 0) = true from hs), if_neg hs, paintN_app _ _ _ hn]
      have := viewTo_app y l (P ++ List.replicate r.f1.toNat 35) (B.drop r.f1.toNat) (by rw [List.length_drop]; omega)
      rw [List.length_append, List.length_replicate, List.append_assoc, List.append_assoc] at this
      exact this
def viewS (s : ByteArray) (l : List S100) (y : Int) : ByteArray × Int := if goodT s l = true then (strOfNums (hideAll y (bytes l) (bytesOf s)), 0) else (⟨#[]⟩, 2)
theorem view_ev (s : ByteArray) (l : List S100) (hl : l.length ≤ big) (y : Int) : Ev (fun k => strip_View.f k s l y) (viewS s l y) := by
  unfold strip_View.f viewS
  refine Ev.bind (goodT_ev s l hl) ?_
  refine Ev.ite (fun hg => ?_) (fun _ => Ev.now _)
  obtain ⟨g1, g2, g3, g4, g5⟩ := goodT_facts hg
  refine Ev.pos ⟨nrm_nonneg g2, by omega, by omega⟩ (ev_val (Ev.now _) ?_)
  have := viewTo_app y l [] (bytesOf s) (by rw [bytesOf_len, g3])
  simp only [List.length_nil, List.nil_append] at this
  rw [this]
theorem bt_bytesOf (s : ByteArray) (i : Nat) (hi : i < s.size) : (bytesOf s).getD i 0 = bt s (i : Int) := by
  rw [bytesOf_getD s i hi]
  unfold bt
  rw [dif_pos (show ((i : Int).toNat) < s.size by rw [Int.toNat_natCast]; exact hi)]
  have hd : i < s.data.toList.length := by rw [Array.length_toList]; exact hi
  rw [List.getD_eq_getElem?_getD, List.getElem?_eq_getElem hd]
  rfl
def lowT (s : ByteArray) (l : List S100) (t : ByteArray) (m : List S100) (y : Int) : Bool :=
  if (viewS s l y).2 = 0 then (if (viewS t m y).2 = 0 then (if (viewS s l y).1.toList = (viewS t m y).1.toList then decide (l = m) else false) else false) else false
theorem low_ev (s : ByteArray) (l : List S100) (hl : l.length ≤ big) (t : ByteArray) (m : List S100) (hm : m.length ≤ big) (y : Int) : Ev (fun k => strip_Low.f k s l t m y) (lowT s l t m y) := by
  unfold strip_Low.f lowT
  refine Ev.bind (view_ev s l hl y) (Ev.bind (view_ev t m hm y) ?_)
  exact Ev.ite (fun _ => Ev.ite (fun _ => Ev.ite (fun _ => Ev.bind (run_ev l m hl) (Ev.now _)) (fun _ => Ev.now _)) (fun _ => Ev.now _)) (fun _ => Ev.now _)
theorem byte_range {s : ByteArray} {x : Int} (h : x ∈ bytesOf s) : 0 ≤ x ∧ x ≤ 255 := by
  obtain ⟨b, hb, rfl⟩ := List.mem_map.1 h
  have := b.toNat_lt
  omega
theorem strOf_bt (xs : List Int) (i : Nat) (hi : i < xs.length) (hr : 0 ≤ xs.getD i 0 ∧ xs.getD i 0 ≤ 255) : bt (strOfNums xs) (i : Int) = xs.getD i 0 := by
  have hs : i < (strOfNums xs).size := by rw [strOfNums_size]; exact hi
  rw [← bt_bytesOf _ _ hs, bytesOf_getD _ _ hs, strOfNums_data]
  have hg : xs.getD i 0 = xs[i] := by rw [List.getD_eq_getElem?_getD, List.getElem?_eq_getElem hi]; rfl
  rw [hg] at hr ⊢
  rw [List.getD_eq_getElem?_getD, List.getElem?_map, List.getElem?_eq_getElem hi]
  simp only [Option.map_some, Option.getD_some]
  rw [UInt8.toNat_ofNat']
  omega
end Go.Proofs.Ythpjagblnddjaaa.PB
end

section
namespace Go.Proofs.Ythpjagblnddjaaa.PB
open Go.RowKit Go.Proofs.YthpjagblnddjaaaW.PrintWords
set_option linter.unusedVariables false
theorem alive4 : bureaulaw04_alive.f 60 = some true := by decide +kernel
theorem alive4_ev : Ev (fun k => bureaulaw04_alive.f k) true := Ev.of (bureaulaw04_alive.mono) alive4
theorem fits_eq (s : ByteArray) (l : List S100) : bureaulaw04_Fits.f s l = some (decide (s.size ≤ 5000 ∧ l.length ≤ 5000)) := by
  unfold bureaulaw04_Fits.f
  by_cases h : s.size ≤ 5000
  · rw [if_pos (by omega)]
    congr 1
    rw [Bool.eq_iff_iff, decide_eq_true_iff, decide_eq_true_iff]
    omega
  · rw [if_neg (by omega)]
    simp [h]
theorem fits_big {s : ByteArray} {l : List S100} (h : s.size ≤ 5000 ∧ l.length ≤ 5000) : l.length ≤ big := by unfold big; omega
theorem wfT {x : S51} (h : wf51 x) : ∀ r ∈ x.f1, 0 ≤ r.f0 ∧ r.f0 < 18446744073709551616 := wf_labels h.2.2
theorem len_big {n : Nat} (h : n ≤ 20000) : n ≤ big := by unfold big; omega
theorem goodT_pack {s : ByteArray} {B : List Int} (h : B.length = s.size) (h4 : s.size ≤ 4096) : goodT s (pack B) = true := by
  obtain ⟨g1, t1⟩ := good_pack (show B.length ≤ 4096 by omega)
  exact goodT_iff.2 ⟨g1, by omega⟩
end Go.Proofs.Ythpjagblnddjaaa.PB
end

section
namespace Go.Proofs.Ythpjagblnddjaaa.PB
open Go.RowKit Go.Proofs.YthpjagblnddjaaaW.PrintWords
set_option linter.unusedVariables false
theorem ext_list (s : ByteArray) (i j : Nat) : (s.extract i j).data.toList = (s.data.toList.take j).drop i := by
  rw [ByteArray.data_extract, Array.toList_extract, List.extract_eq_take_drop, List.drop_take]
theorem app_list (s t : ByteArray) : (s ++ t).data.toList = s.data.toList ++ t.data.toList := by rw [ByteArray.data_append, Array.toList_append]
end Go.Proofs.Ythpjagblnddjaaa.PB
end

section
namespace Go.Proofs.Ythpjagblnddjaaa.PB
open Go.RowKit Go.Proofs.YthpjagblnddjaaaW.PrintWords
set_option linter.unusedVariables false
def fitE (o : ByteArray) (ol : List S100) (n : ByteArray) (nl : List S100) : Prop := (o.size ≤ 5000 ∧ ol.length ≤ 5000) ∧ (n.size ≤ 5000 ∧ nl.length ≤ 5000)
instance (o : ByteArray) (ol : List S100) (n : ByteArray) (nl : List S100) : Decidable (fitE o ol n nl) := inferInstanceAs (Decidable (_ ∧ _))
end Go.Proofs.Ythpjagblnddjaaa.PB
end

section
namespace Go.Proofs.Ythpjagblnddjaaa.PB
open Go.RowKit Go.Proofs.YthpjagblnddjaaaW.PrintWords
set_option linter.unusedVariables false
def otherAll (y : Int) (o : ByteArray) : Nat → List Int → List Int → List Int
  | i, x :: L, c :: B => (if seen x y = true then c else bt o ((i % o.size : Nat) : Int)) :: otherAll y o (i + 1) L B
  | _, _, _ => []
def otherS (s : ByteArray) (l : List S100) (y : Int) (o : ByteArray) : ByteArray × List S100 :=
  if goodT s l = true ∧ o.size ≠ 0 then (strOfNums (otherAll y o 0 (bytes l) (bytesOf s)), l) else (s, l)
theorem other_ev (s : ByteArray) (l : List S100) (hl : l.length ≤ big) (y : Int) (o : ByteArray) (hw : ∀ r ∈ l, 0 ≤ r.f0 ∧ r.f0 < 18446744073709551616) (hy : 0 ≤ y ∧ y < 18446744073709551616) : Ev (fun k => bureauref04_Other.f k s l y o) (otherS s l y o) := by
  unfold bureauref04_Other.f
  have out : ¬ (goodT s l = true ∧ o.size ≠ 0) → Ev (fun k => bureauref04_Other.j0 k y o true s l) (otherS s l y o) := fun h => by
    refine Ev.step (fun k => by simp only [bureauref04_Other.j0]; rfl) ?_
    refine Ev.pos (by simp) (ev_val (Ev.now _) ?_)
    unfold otherS
    rw [if_neg h]
  refine Ev.bind (rgoodT_ev s l hl) (Ev.ite' (fun hg => ?_) (fun hg => out (fun h => hg h.1)))
  by_cases h0 : o.size = 0
  · rw [show ((o.size : Int) == 0) = true by simpa using h0]
    exact out (fun h => h.2 h0)
  · rw [show ((o.size : Int) == 0) = false by simpa using h0]
    refine Ev.step (fun k => by simp only [bureauref04_Other.j0]; rfl) ?_
    refine Ev.neg (by simp) ?_
    obtain ⟨g1, g2, g3, g4, g5⟩ := goodT_facts hg
    refine Ev.bind (bytes_ev l hl (by omega)) ?_
    unfold otherS
    rw [if_pos ⟨hg, h0⟩]
    have hwb : ∀ x ∈ bytes l, 0 ≤ x ∧ x < 18446744073709551616 := fun x hx => by obtain ⟨r, hr, rfl⟩ := bytes_mem hx; exact hw r hr
    generalize bytes l = L at *
    have loop : ∀ (d i : Nat) (acc : List Int), i + d = L.length → acc.length = i → Ev (fun k => bureauref04_Other.l0 k y o L acc (i : Int) s l) (strOfNums (acc ++ otherAll y o i (L.drop i) ((bytesOf s).drop i)), l) := by
      intro d
      induction d with
      | zero =>
        intro i acc hi ha
        refine Ev.step (fun k => by simp only [bureauref04_Other.l0]; rfl) ?_
        refine Ev.neg (by omega) (ev_val (Ev.now _) ?_)
        rw [List.drop_eq_nil_of_le (show L.length ≤ i by omega)]
        simp [otherAll]
      | succ d ih =>
        intro i acc hi ha
        have hlt : i < L.length := by omega
        have hls : i < s.size := by omega
        have hrd : rd L (i : Int) = L.getD i 0 := by unfold rd; rw [Int.toNat_natCast]
        refine Ev.step (fun k => by simp only [bureauref04_Other.l0]; rfl) ?_
        refine Ev.pos (by omega) (Ev.pos (by omega) ?_)
        rw [hrd, w1 hlt (by omega)]
        have hx := hwb (L.getD i 0) (by rw [List.getD_eq_getElem?_getD, List.getElem?_eq_getElem hlt]; exact List.getElem_mem hlt)
        have hj : bureauref01_Below.f (L.getD i 0) y = some (seen (L.getD i 0) y) := by unfold bureauref01_Below.f; rw [if_pos ⟨hx.1, hx.2, hy.1, hy.2⟩]; rfl
        rw [hj, dropI hlt, dropI (show i < (bytesOf s).length by rw [bytesOf_len]; exact hls)]
        refine Ev.bind (Ev.now _) ?_
        have htm : Int.tmod (i : Int) (o.size : Int) = ((i % o.size : Nat) : Int) := by rw [Int.tmod_eq_emod_of_nonneg (by omega), Int.natCast_emod]
        have hml : i % o.size < o.size := Nat.mod_lt _ (by omega)
        rw [htm]
        by_cases hs : seen (L.getD i 0) y = true
        · refine Ev.pos hs (Ev.pos (by omega) (Ev.pos (by omega) ?_))
          refine ev_val (ih (i + 1) _ (by omega) (by simp [ha])) ?_
          rw [bt_bytesOf s i hls, List.append_assoc]
          generalize L.getD i 0 = xx at *
          simp [otherAll, hs]
        · refine Ev.neg hs (Ev.neg (by omega) (Ev.pos (by omega) (Ev.pos (by omega) (Ev.pos (by omega) ?_))))
          refine ev_val (ih (i + 1) _ (by omega) (by simp [ha])) ?_
          rw [List.append_assoc]
          generalize L.getD i 0 = xx at *
          simp [otherAll, hs]
    exact loop L.length 0 [] (by omega) rfl
theorem otherAll_len (y : Int) (o : ByteArray) : ∀ (L B : List Int) (i : Nat), L.length = B.length → (otherAll y o i L B).length = B.length
  | [], [], _, _ => rfl
  | [], _ :: _, _, h => by simp at h
  | _ :: _, [], _, h => by simp at h
  | x :: L, c :: B, i, h => by simp only [otherAll, List.length_cons]; rw [otherAll_len y o L B (i + 1) (by simpa using h)]
theorem otherAll_range (y : Int) (o : ByteArray) : ∀ (L B : List Int) (i : Nat), (∀ x ∈ B, 0 ≤ x ∧ x ≤ 255) → ∀ x ∈ otherAll y o i L B, 0 ≤ x ∧ x ≤ 255
  | [], _, _, _ => by intro x hx; simp [otherAll] at hx
  | _ :: _, [], _, _ => by intro x hx; simp [otherAll] at hx
  | z :: L, c :: B, i, h => by
    intro x hx
    simp only [otherAll, List.mem_cons] at hx
    rcases hx with rfl | hx
    · split
      · exact h c List.mem_cons_self
      · exact bt_range _ _
    · exact otherAll_range y o L B (i + 1) (fun x hx => h x (List.mem_cons_of_mem _ hx)) x hx
theorem hide_other (y : Int) (o : ByteArray) : ∀ (L B : List Int) (i : Nat), hideAll y L (otherAll y o i L B) = hideAll y L B
  | [], _, _ => by simp [hideAll]
  | _ :: _, [], _ => by simp [hideAll, otherAll]
  | x :: L, c :: B, i => by
    have := hide_other y o L B (i + 1)
    unfold hideAll at this ⊢
    simp only [otherAll, List.zipWith_cons_cons, this]
    congr 1
    unfold hide
    by_cases hs : seen x y = true
    · rw [if_pos hs, if_pos hs, if_pos hs]
    · rw [if_neg hs, if_neg hs]
theorem bytesOf_strOf (xs : List Int) (h : ∀ x ∈ xs, 0 ≤ x ∧ x ≤ 255) : bytesOf (strOfNums xs) = xs := by
  have hl : (bytesOf (strOfNums xs)).length = xs.length := by rw [bytesOf_len, strOfNums_size]
  apply List.ext_getElem?
  intro i
  by_cases hi : i < xs.length
  · have hg : ∀ (zs : List Int), i < zs.length → zs[i]? = some (zs.getD i 0) := fun zs hz => by rw [List.getD_eq_getElem?_getD, List.getElem?_eq_getElem hz]; rfl
    have hm : xs.getD i 0 ∈ xs := by rw [List.getD_eq_getElem?_getD, List.getElem?_eq_getElem hi]; exact List.getElem_mem hi
    rw [hg _ (by omega), hg _ hi, bt_bytesOf _ _ (by rw [strOfNums_size]; exact hi), strOf_bt xs i hi (h _ hm)]
  · rw [List.getElem?_eq_none (by omega), List.getElem?_eq_none (by omega)]
structure Alike (y : Int) (s : ByteArray) (l : List S100) (s' : ByteArray) (l' : List S100) : Prop where
  runs : l = l'
  size : s.size = s'.size
  view : goodT s l = true → hideAll y (bytes l) (bytesOf s) = hideAll y (bytes l) (bytesOf s')
theorem other_alike (s : ByteArray) (l : List S100) (y : Int) (o : ByteArray) : Alike y s l (otherS s l y o).1 (otherS s l y o).2 := by
  unfold otherS
  by_cases h : goodT s l = true ∧ o.size ≠ 0
  · rw [if_pos h]
    obtain ⟨g1, g2, g3, g4, g5⟩ := goodT_facts h.1
    have hr := otherAll_range y o (bytes l) (bytesOf s) 0 (fun x hx => byte_range hx)
    refine ⟨rfl, ?_, fun _ => ?_⟩
    · show s.size = (strOfNums _).size
      rw [strOfNums_size, otherAll_len y o _ _ 0 (by rw [bytesOf_len, g3]), bytesOf_len]
    · show _ = hideAll y (bytes l) (bytesOf (strOfNums _))
      rw [bytesOf_strOf _ hr, hide_other]
  · rw [if_neg h]
    exact ⟨rfl, rfl, fun _ => rfl⟩
theorem Alike.good {y : Int} {s s' : ByteArray} {l l' : List S100} (h : Alike y s l s' l') : goodT s l = goodT s' l' := by
  obtain ⟨rfl, h2, _⟩ := h
  unfold goodT
  rw [h2]
theorem low_of_alike {y : Int} {s s' : ByteArray} {l l' : List S100} (h : Alike y s l s' l') (hg : goodT s l = true) : lowT s l s' l' y = true := by
  have hg' := h.good.symm.trans hg
  obtain ⟨rfl, h2, h3⟩ := h
  unfold lowT viewS
  rw [if_pos hg, if_pos hg', if_pos rfl, if_pos rfl, h3 hg, if_pos rfl]
  exact decide_eq_true rfl
theorem bytesOf_app (s t : ByteArray) : bytesOf (s ++ t) = bytesOf s ++ bytesOf t := by unfold bytesOf; rw [app_list, List.map_append]
theorem bytesOf_ext (s : ByteArray) (i j : Nat) : bytesOf (s.extract i j) = ((bytesOf s).take j).drop i := by unfold bytesOf; rw [ext_list, List.map_drop, List.map_take]
theorem hideAll_app (y : Int) (L M B C : List Int) (h : L.length = B.length) : hideAll y (L ++ M) (B ++ C) = hideAll y L B ++ hideAll y M C := by unfold hideAll; exact List.zipWith_append h
theorem hideAll_take (y : Int) (L B : List Int) (i : Nat) : hideAll y (L.take i) (B.take i) = (hideAll y L B).take i := by unfold hideAll; rw [List.take_zipWith]
theorem hideAll_drop (y : Int) (L B : List Int) (i : Nat) : hideAll y (L.drop i) (B.drop i) = (hideAll y L B).drop i := by unfold hideAll; rw [List.drop_zipWith]
section
variable {y : Int} {s s' x x' : ByteArray} {l l' m m' : List S100}
theorem Alike.within (h : Alike y s l s' l') (a b : Int) : withinT s l a b = withinT s' l' a b := by
  unfold withinT
  rw [h.good, h.size]
theorem Alike.cut (h : Alike y s l s' l') (a b : Int) : (cutS s l a b).2.2 = (cutS s' l' a b).2.2 ∧ ((cutS s l a b).2.2 = 0 → goodT (cutS s l a b).1 (cutS s l a b).2.1 = true ∧ Alike y (cutS s l a b).1 (cutS s l a b).2.1 (cutS s' l' a b).1 (cutS s' l' a b).2.1) := by
  unfold cutS
  by_cases hw : withinT s l a b = true
  · rw [if_pos hw, if_pos (h.within a b ▸ hw)]
    refine ⟨rfl, fun _ => ?_⟩
    obtain ⟨i, j, rfl, rfl, hij, hj, hg, _⟩ := withinT_facts hw
    obtain ⟨g1, g2, g3, g4, g5⟩ := goodT_facts hg
    obtain ⟨rfl, h2, h3⟩ := h
    rw [Int.toNat_natCast, Int.toNat_natCast]
    have z1 : (s.extract i j).size = j - i := by rw [ByteArray.size_extract]; omega
    have z2 : (s'.extract i j).size = j - i := by rw [ByteArray.size_extract]; omega
    have y1 : (((bytes l).take j).drop i).length = j - i := by rw [List.length_drop, List.length_take]; omega
    show goodT (s.extract i j) (pack _) = true ∧ Alike y (s.extract i j) (pack _) (s'.extract i j) (pack _)
    refine ⟨goodT_pack (by omega) (by omega), rfl, by omega, fun _ => ?_⟩
    rw [pack_bytes, bytesOf_ext, bytesOf_ext, hideAll_drop, hideAll_drop, hideAll_take, hideAll_take, h3 hg]
  · rw [if_neg hw, if_neg (h.within a b ▸ hw)]
    exact ⟨rfl, fun h0 => by cases h0⟩
theorem Alike.splice (h : Alike y s l s' l') (hx : Alike y x m x' m') (a b : Int) : (spliceT s l a b x m).2.2 = (spliceT s' l' a b x' m').2.2 ∧
    ((spliceT s l a b x m).2.2 = 0 → goodT (spliceT s l a b x m).1 (spliceT s l a b x m).2.1 = true ∧ Alike y (spliceT s l a b x m).1 (spliceT s l a b x m).2.1 (spliceT s' l' a b x' m').1 (spliceT s' l' a b x' m').2.1) := by
  have bad : ∀ n : Int, n ≠ 0 → spliceT s l a b x m = (⟨#[]⟩, [], n) → spliceT s' l' a b x' m' = (⟨#[]⟩, [], n) → (spliceT s l a b x m).2.2 = (spliceT s' l' a b x' m').2.2 ∧
      ((spliceT s l a b x m).2.2 = 0 → goodT (spliceT s l a b x m).1 (spliceT s l a b x m).2.1 = true ∧ Alike y (spliceT s l a b x m).1 (spliceT s l a b x m).2.1 (spliceT s' l' a b x' m').1 (spliceT s' l' a b x' m').2.1) := fun n hn e1 e2 => by
    rw [e1, e2]
    exact ⟨rfl, fun h0 => absurd h0 hn⟩
  have hw2 := h.within a b
  have hx2 := hx.good
  by_cases hw : withinT s l a b = true
  case neg => exact bad 2 (by decide) (by unfold spliceT; rw [if_neg hw]) (by unfold spliceT; rw [if_neg (hw2 ▸ hw)])
  have hw' : withinT s' l' a b = true := hw2 ▸ hw
  by_cases hgx : goodT x m = true
  case neg => exact bad 2 (by decide) (by unfold spliceT; rw [if_pos hw, if_neg hgx]) (by unfold spliceT; rw [if_pos hw', if_neg (hx2 ▸ hgx)])
  have hgx' : goodT x' m' = true := hx2 ▸ hgx
  by_cases hb : (s.size : Int) - (b - a) + (x.size : Int) > 4096
  case pos => exact bad 3 (by decide) (by unfold spliceT; rw [if_pos hw, if_pos hgx, if_pos hb]) (by unfold spliceT; rw [if_pos hw', if_pos hgx', ← h.size, ← hx.size, if_pos hb])
  have e1 : spliceT s l a b x m = (s.extract 0 a.toNat ++ x ++ s.extract b.toNat s.size, pack ((bytes l).take a.toNat ++ bytes m ++ (bytes l).drop b.toNat), 0) := by unfold spliceT; rw [if_pos hw, if_pos hgx, if_neg hb]
  have e2 : spliceT s' l' a b x' m' = (s'.extract 0 a.toNat ++ x' ++ s'.extract b.toNat s.size, pack ((bytes l').take a.toNat ++ bytes m' ++ (bytes l').drop b.toNat), 0) := by unfold spliceT; rw [if_pos hw', if_pos hgx', ← h.size, ← hx.size, if_neg hb]
  rw [e1, e2]
  refine ⟨rfl, fun _ => ?_⟩
  obtain ⟨i, j, rfl, rfl, hij, hj, hg, _⟩ := withinT_facts hw
  obtain ⟨g1, g2, g3, g4, g5⟩ := goodT_facts hg
  obtain ⟨q1, q2, q3, q4, q5⟩ := goodT_facts hgx
  obtain ⟨rfl, h2, h3⟩ := h
  obtain ⟨rfl, k2, k3⟩ := hx
  rw [Int.toNat_natCast, Int.toNat_natCast]
  have z1 : (s.extract 0 i).size = i := by rw [ByteArray.size_extract]; omega
  have z2 : (s'.extract 0 i).size = i := by rw [ByteArray.size_extract]; omega
  have z3 : (s.extract j s.size).size = s.size - j := by rw [ByteArray.size_extract]; omega
  have z4 : (s'.extract j s.size).size = s.size - j := by rw [ByteArray.size_extract]; omega
  have y1 : ((bytes l).take i).length = i := by rw [List.length_take]; omega
  have y3 : ((bytes l).drop j).length = s.size - j := by rw [List.length_drop]; omega
  show goodT (s.extract 0 i ++ x ++ s.extract j s.size) (pack _) = true ∧ Alike y (s.extract 0 i ++ x ++ s.extract j s.size) (pack _) (s'.extract 0 i ++ x' ++ s'.extract j s.size) (pack _)
  refine ⟨goodT_pack (by simp only [List.length_append, ByteArray.size_append]; omega) (by simp only [ByteArray.size_append]; omega), rfl, by simp only [ByteArray.size_append]; omega, fun _ => ?_⟩
  have l1 := bytesOf_len (s.extract 0 i)
  have l2 := bytesOf_len (s'.extract 0 i)
  have l3 := bytesOf_len x
  have l4 := bytesOf_len x'
  have e1 : (bytesOf s).take s.size = bytesOf s := by rw [← bytesOf_len s, List.take_length]
  have e2 : (bytesOf s').take s.size = bytesOf s' := by rw [h2, ← bytesOf_len s', List.take_length]
  rw [pack_bytes, bytesOf_app, bytesOf_app, bytesOf_app, bytesOf_app, hideAll_app _ _ _ _ _ (by simp only [List.length_append]; omega), hideAll_app _ _ _ _ _ (by omega), hideAll_app _ _ _ _ _ (by simp only [List.length_append]; omega), hideAll_app _ _ _ _ _ (by omega)]
  rw [bytesOf_ext, bytesOf_ext, bytesOf_ext, bytesOf_ext, List.drop_zero, List.drop_zero, e1, e2, hideAll_take, hideAll_take, hideAll_drop, hideAll_drop, h3 hg, k3 hgx]
theorem hide_lift (y z : Int) (hup : ∀ x, 0 ≤ x → x < 18446744073709551616 → seen (Go.bits .or .u64 x z) y = true → seen x y = true) : ∀ (L B C : List Int), (∀ x ∈ L, 0 ≤ x ∧ x < 18446744073709551616) → L.length = B.length → L.length = C.length → hideAll y L B = hideAll y L C → hideAll y (lift z L) B = hideAll y (lift z L) C
  | [], _, _, _, _, _, _ => by simp [hideAll, lift]
  | _ :: _, [], _, _, h, _, _ => by simp at h
  | _ :: _, _ :: _, [], _, _, h, _ => by simp at h
  | x :: L, b :: B, c :: C, hL, h1, h2, h3 => by
    unfold hideAll at h3
    simp only [List.zipWith_cons_cons, List.cons.injEq] at h3
    have ih := hide_lift y z hup L B C (fun x hx => hL x (List.mem_cons_of_mem _ hx)) (by simpa using h1) (by simpa using h2) h3.2
    unfold hideAll lift at ih ⊢
    simp only [List.map_cons, List.zipWith_cons_cons, ih]
    congr 1
    have hx := hL x List.mem_cons_self
    have h4 := h3.1
    unfold hide at h4 ⊢
    by_cases hs : seen (Go.bits .or .u64 x z) y = true
    · rw [if_pos hs, if_pos hs]
      have := hup x hx.1 hx.2 hs
      rw [if_pos this, if_pos this] at h4
      exact h4
    · rw [if_neg hs, if_neg hs]
theorem seen_or {x z y : Int} (hx : 0 ≤ x ∧ x < 18446744073709551616) (hz : 0 ≤ z ∧ z < 18446744073709551616) (hy : 0 ≤ y ∧ y < 18446744073709551616) (h : seen (Go.bits .or .u64 x z) y = true) : seen x y = true := by
  obtain ⟨x, rfl⟩ := Int.eq_ofNat_of_zero_le hx.1
  obtain ⟨z, rfl⟩ := Int.eq_ofNat_of_zero_le hz.1
  obtain ⟨y, rfl⟩ := Int.eq_ofNat_of_zero_le hy.1
  have hx' : x < 2 ^ 64 := by omega
  have hy' : y < 2 ^ 64 := by omega
  have hz' : z < 2 ^ 64 := by omega
  unfold seen at h ⊢
  rw [u64_or_nat x z (by omega) (by omega), belowN_bits (x ||| z) y (Nat.or_lt_two_pow hx' hz') hy'] at h
  rw [belowN_bits x y hx' hy']
  unfold belowN at h
  refine belowN_yes (fun i hi ha => ?_)
  have := List.all_eq_true.1 h i (List.mem_range.2 hi)
  rw [Nat.testBit_or, ha] at this
  simpa using this
theorem Alike.raise (h : Alike y s l s' l') (z : Int) (hw : ∀ r ∈ l, 0 ≤ r.f0 ∧ r.f0 < 18446744073709551616) (hz : 0 ≤ z ∧ z < 18446744073709551616) (hy : 0 ≤ y ∧ y < 18446744073709551616) : (raiseT s l z).2.2 = (raiseT s' l' z).2.2 ∧
    ((raiseT s l z).2.2 = 0 → goodT (raiseT s l z).1 (raiseT s l z).2.1 = true ∧ Alike y (raiseT s l z).1 (raiseT s l z).2.1 (raiseT s' l' z).1 (raiseT s' l' z).2.1) := by
  have hg2 := h.good
  by_cases hg : goodT s l = true
  · have e1 : raiseT s l z = (s, pack (lift z (bytes l)), 0) := by unfold raiseT; rw [if_pos hg]
    have e2 : raiseT s' l' z = (s', pack (lift z (bytes l')), 0) := by unfold raiseT; rw [if_pos (hg2 ▸ hg)]
    rw [e1, e2]
    obtain ⟨g1, g2, g3, g4, g5⟩ := goodT_facts hg
    obtain ⟨rfl, h2, h3⟩ := h
    refine ⟨rfl, fun _ => ?_⟩
    show goodT s (pack _) = true ∧ Alike y s (pack _) s' (pack _)
    refine ⟨goodT_pack (by rw [lift_len]; omega) g4, rfl, h2, fun _ => ?_⟩
    rw [pack_bytes]
    have l1 := bytesOf_len s
    have l2 := bytesOf_len s'
    exact hide_lift y z (fun x h1 h2 h3 => seen_or ⟨h1, h2⟩ hz hy h3) _ _ _ (fun x hx => by obtain ⟨r, hr, rfl⟩ := bytes_mem hx; exact hw r hr) (by omega) (by omega) (h3 hg)
  · have e1 : raiseT s l z = (⟨#[]⟩, [], 2) := by unfold raiseT; rw [if_neg hg]
    have e2 : raiseT s' l' z = (⟨#[]⟩, [], 2) := by unfold raiseT; rw [if_neg (hg2 ▸ hg)]
    rw [e1, e2]
    exact ⟨rfl, fun h0 => by cases h0⟩
end
end Go.Proofs.Ythpjagblnddjaaa.PB
end

section
namespace Go.Proofs.Ythpjagblnddjaaa.PB
open Go.RowKit Go.Proofs.YthpjagblnddjaaaW.PrintWords
set_option linter.unusedVariables false
abbrev lab (l : List S100) : Prop := ∀ r ∈ l, 0 ≤ r.f0 ∧ r.f0 < 18446744073709551616
theorem other_runs (s : ByteArray) (l : List S100) (y : Int) (o : ByteArray) : (otherS s l y o).2 = l := by unfold otherS; split <;> rfl
end Go.Proofs.Ythpjagblnddjaaa.PB
end

section
namespace Go.Proofs.Ythpjagblnddjaaa.PB
open Go.RowKit Go.Proofs.YthpjagblnddjaaaW.PrintWords
set_option linter.unusedVariables false
theorem alike_ev {y : Int} {s s' : ByteArray} {l l' : List S100} {e e' : Int} (hl : l.length ≤ big) (hl' : l'.length ≤ big) (he : e = e') (h : e = 0 → goodT s l = true ∧ Alike y s l s' l') :
    Ev (fun k => bureaulaw04_alike.f k s l s' l' e e' y) true := by
  unfold bureaulaw04_alike.f
  subst he
  by_cases h0 : e = 0
  · obtain ⟨hg, ha⟩ := h h0
    exact Ev.pos h0 (Ev.pos h0 (Ev.bind (low_ev _ _ hl _ _ hl' y) (ev_val (Ev.now _) (low_of_alike ha hg))))
  · exact Ev.neg h0 (ev_val (Ev.now _) (by simp))
theorem StripHides_pure (h : S77) (y : Int) (wh : wf77 h) (wy : (Lit.int .u64 y).wf = true) : ∃ k, bureaulaw04_StripHides.f k h.f0.f0 h.f0.f1 h.f1.f0 h.f1.f1 h.f2 h.f3 h.f4 h.f5 y = some true := by
  refine Ev.rounds (g := fun k => bureaulaw04_StripHides.f k h.f0.f0 h.f0.f1 h.f1.f0 h.f1.f1 h.f2 h.f3 h.f4 h.f5 y) ?_
  have hlt : lab h.f0.f1 := wfT wh.1
  have hlx : lab h.f1.f1 := wfT wh.2.1
  have hy := wf_u64 wy
  have hz : 0 ≤ h.f5 ∧ h.f5 < 18446744073709551616 := wf_u64 (by obtain ⟨_, _, _, _, _, w⟩ := wh; exact w)
  generalize h.f0.f0 = s at *
  generalize h.f0.f1 = l at *
  generalize h.f1.f0 = x at *
  generalize h.f1.f1 = m at *
  generalize h.f2 = o at *
  generalize h.f3 = a at *
  generalize h.f4 = b at *
  generalize h.f5 = z at *
  unfold bureaulaw04_StripHides.f
  refine Ev.bind alive4_ev (Ev.pos rfl ?_)
  rw [fits_eq, fits_eq]
  have out : Ev (fun k => bureaulaw04_StripHides.j0 k y true s l x m o a b z) true := by
    refine Ev.step (fun k => by simp only [bureaulaw04_StripHides.j0]; rfl) ?_
    exact Ev.pos (by simp) (Ev.now _)
  refine Ev.bind (Ev.now _) (Ev.ite' (fun hfs => ?_) (fun _ => out))
  have hl := fits_big (of_decide_eq_true hfs)
  refine Ev.bind (Ev.now _) (Ev.ite' (fun hfx => ?_) (fun _ => out))
  have hm := fits_big (of_decide_eq_true hfx)
  by_cases ho : (o.size : Int) > 5000
  case pos => rw [decide_eq_true ho]; exact out
  rw [decide_eq_false ho]
  refine Ev.step (fun k => by simp only [bureaulaw04_StripHides.j0]; rfl) ?_
  have A1 := other_alike s l y o
  have A2 := other_alike x m y o
  have r1 := other_runs s l y o
  have r2 := other_runs x m y o
  have hl1 : (otherS s l y o).2.length ≤ big := by rw [r1]; exact hl
  have hm1 : (otherS x m y o).2.length ≤ big := by rw [r2]; exact hm
  refine Ev.neg (by simp) (Ev.bind (other_ev s l hl y o hlt hy) (Ev.bind (other_ev x m hm y o hlx hy) ?_))
  obtain ⟨c1, c2⟩ := A1.cut a b
  refine Ev.bind (cut_ev s l hl a b) (Ev.bind (cut_ev _ _ hl1 a b) (Ev.bind (alike_ev (len_big (cutS_len _ _ _ _)) (len_big (cutS_len _ _ _ _)) c1 c2) (Ev.pos rfl ?_)))
  have hcat : (catT s l x m).2.2 = (catT (otherS s l y o).1 (otherS s l y o).2 (otherS x m y o).1 (otherS x m y o).2).2.2 ∧ ((catT s l x m).2.2 = 0 → goodT (catT s l x m).1 (catT s l x m).2.1 = true ∧ Alike y (catT s l x m).1 (catT s l x m).2.1 (catT (otherS s l y o).1 (otherS s l y o).2 (otherS x m y o).1 (otherS x m y o).2).1 (catT (otherS s l y o).1 (otherS s l y o).2 (otherS x m y o).1 (otherS x m y o).2).2.1) := by
    unfold catT
    rw [← A1.size]
    exact A1.splice A2 _ _
  refine Ev.bind (cat4_ev s l hl x m hm) (Ev.bind (cat4_ev _ _ hl1 _ _ hm1) (Ev.bind (alike_ev (len_big (catT_len _ _ _ _)) (len_big (catT_len _ _ _ _)) hcat.1 hcat.2) (Ev.pos rfl ?_)))
  obtain ⟨s1, s2⟩ := A1.splice A2 a b
  refine Ev.bind (splice4_ev s l hl a b x m hm) (Ev.bind (splice4_ev _ _ hl1 a b _ _ hm1) (Ev.bind (alike_ev (len_big (spliceT_len _ _ _ _ _ _)) (len_big (spliceT_len _ _ _ _ _ _)) s1 s2) (Ev.pos rfl ?_)))
  obtain ⟨q1, q2⟩ := A1.raise z hlt hz hy
  exact Ev.bind (raise4_ev s l hl z) (Ev.bind (raise4_ev _ _ hl1 z) (Ev.bind (alike_ev (len_big (raiseT_len _ _ _)) (len_big (raiseT_len _ _ _)) q1 q2) (Ev.now _)))
end Go.Proofs.Ythpjagblnddjaaa.PB
end

section
namespace Go.Proofs.Ythpjagblnddjaaa.PB
open Go.ChangeShapes Go.WideShapes Go.ChangeAt Go.RowKit Go.Proofs.YthpjagblnddjaaaW.PrintWords
open Go.ChangeMaps (open_string shut_string)
set_option linter.unusedVariables false
namespace stripHides
open Go.Proofs.Ythpjagblnddjaaa
theorem own : ownKnob Try.prog.godebug = none := by kernel_rfl
theorem laidOut : laidOutB Try.prog = true := by kernel_rfl
set_option maxRecDepth 100000 in
theorem lifted (os : Os) (started : os.Started) (H : Type) (enc : TypeId × Value → H) :
    ReturnsInHanded {} Try.checked os 23 .any (Rows.stripHidesSpec.pre6 enc Try.prog Try.f23 Rows.stripHidesRow.domain false) (Rows.stripHidesSpec.post enc Try.prog Try.f23 false true false false) := by
  refine returnsInHanded_of_change_sized (C := Try.checked) own started (by kernel_rfl) Try.func23
    (ChangeSpec.witness6 (enc := enc) (C := Try.checked) false ⟨#[], #[.agg #[.string ByteArray.empty, .slice none 0 0, .string ByteArray.empty, .slice none 0 0, .string ByteArray.empty, .int .i64 0, .int .i64 0, .int .u64 0], .int .u64 0], []⟩ 8 (by kernel_rfl) (by kernel_rfl) (by kernel_rfl) (by kernel_rfl)) ?_
  intro W base args ds gs before hval0 hW hcnd hsz0 _
  have hsz : (DataW.weightsEach Try.prog (Try.f23.params.toList ++ Rows.stripHidesSpec.plain.varTypes Try.prog) (ds ++ gs)).all (· ≤ reachBytes) = true := hsz0
  have hval : ∀ (j : Nat) t v, Try.f23.params[j]? = some t → args[j]? = some v → Value.okWide Try.prog W .any base t v := hval0
  have hW' := hW
  obtain ⟨p, q, hA0, hV, rfl, hfz, hnd⟩ := hW
  have hA : DataW.TrodAll enc Try.prog W 0 (fun _ => true) true Try.f23.params.toList args.toList ds p := hA0
  rw [Try.params23] at hA hval hsz
  obtain ⟨v0, vs0, d0, ds0, p0, q0, hargs, rfl, rfl, h0, r0⟩ := trodAll_cons hA
  obtain ⟨v1, vs1, d1, ds1, p1, q1, rfl, rfl, rfl, h1, r1⟩ := trodAll_cons r0
  obtain ⟨rfl, rfl, rfl⟩ := trodAll_nil r1
  obtain rfl : args = #[v0, v1] := by cases args; simp_all
  obtain ⟨rfl, rfl⟩ := trodVars_none hV
  have hz0 : ∀ n ∈ d0.weights Try.prog 77, n ≤ reachBytes := fun n hn => by have z := List.all_eq_true.1 hsz n (DataW.weights_mem_each (j := 0) rfl rfl n hn); simpa using z
  have kk0 := h0
  have lt0 : ∀ x ∈ p0, x.block < W.heap.size := by obtain ⟨m, hm⟩ := kk0; exact DataW.trod_lt m _ _ _ hm
  obtain ⟨cs0, rfl, cz0⟩ := okWide_struct Try.underlying77 (hval 0 77 v0 rfl rfl)
  obtain ⟨x0, hK0, w0⟩ : ∃ x : S77, k77.K W x cs0.toList ∧ wf77 x := by
    obtain ⟨fuel, hf⟩ := h0
    exact opn77 H enc _ _ _ fuel _ _ hf hz0
  obtain ⟨A0_1, c0_1, A0_3, c0_3, hcs0, hc0_1, hr0_1, hc0_3, hr0_3⟩ := k77_open hK0
  obtain rfl : cs0 = #[.string x0.f0.f0, .slice A0_1 x0.f0.f1.length c0_1, .string x0.f1.f0, .slice A0_3 x0.f1.f1.length c0_3, .string x0.f2, .int .i64 x0.f3, .int .i64 x0.f4, .int .u64 x0.f5] := Array.toList_inj.1 hcs0
  obtain ⟨a1, rfl, rfl, rfl, w1⟩ := open_int Try.underlying36 (hval 1 36 v1 rfl rfl) h1
  clear hA0 hval0 hsz0 hsz
  obtain ⟨k, hk⟩ := StripHides_pure x0 a1 w0 w1
  refine (bureaulaw04_StripHides.calls k x0.f0.f0 _ _ x0.f0.f1 x0.f1.f0 _ _ x0.f1.f1 x0.f2 x0.f3 x0.f4 x0.f5 a1 true W hr0_1 hc0_1 hr0_3 hc0_3 hk).mono fun e W' ⟨he, bel⟩ => ?_
  subst he
  exact ⟨_, rfl, _, _, _, [], _, [], hW', trodAll_mk1 (shut_bool Try.underlying4 _), (trodAll_cons_mk (Below.trod laidOut (by kernel_rfl) (of_decide_eq_true (by kernel_rfl)) kk0 bel lt0) (trodAll_cons_mk (shut_int Try.underlying36 w1) trodAll_mk0)), rfl, bel.frame _, fun h => by cases h⟩
theorem over : Rows.stripHidesRow.holds Try.pinned (OpenSpec.ofChange Rows.stripHidesSpec) :=
  OpenClaim.holds_of_wide 23 Try.f23 rfl rfl rfl rfl rfl rfl rfl ⟨rfl, rfl, rfl, rfl, rfl⟩ rfl rfl rfl rfl rfl (by kernel_rfl) Try.func23 (by kernel_rfl)
    (of_decide_eq_true (by kernel_rfl)) (by unfold Func.isWrapper; first | (rw [if_pos (by decide +kernel)]; kernel_rfl) | (rw [if_neg (by decide +kernel)]; exact ⟨rfl, rfl⟩))
    (fun os started H enc _ => lifted os started H enc)
theorem proved : Rows.StripHidesSaid := over
end stripHides
end Go.Proofs.Ythpjagblnddjaaa.PB
namespace Go.Proofs.Ythpjagblnddjaaa
theorem stripHides_holds : Rows.StripHidesSaid := PB.stripHides.proved
#print axioms stripHides_holds
end Go.Proofs.Ythpjagblnddjaaa
end
