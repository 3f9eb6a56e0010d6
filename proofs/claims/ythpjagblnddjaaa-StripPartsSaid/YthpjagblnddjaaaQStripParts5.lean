/- The row of a law out of its contract and its pure theorem. No condition. -/
import Derived.OpenShut
import Derived.ChangeArms
import Derived.Deep.Slices
import Derived.SizedLaws
import Derived.Test.YthpjagblnddjaaaRows
import Derived.ProofKit
import Derived.OpenShut
import Derived.ShutString
import Derived.ChangeOld
import Derived.SizedLaws
import Derived.Carry
import Derived.Test.YthpjagblnddjaaaQStripParts4
section
namespace Go.Proofs.Ythpjagblnddjaaa.PB
open Go.RowKit Go.Proofs.YthpjagblnddjaaaW.PrintWords Go.Proofs.YthpjagblnddjaaaW.PrintLast Go.Proofs.YthpjagblnddjaaaW.PrintMore
attribute [local go_sem] max2_int min2_int max_two min_two max_three min_three max_four min_four   
set_option linter.unusedVariables false
set_option linter.unusedSimpArgs false
def bureaulaw04_StripParts.j0 : Nat → Int → Bool → ByteArray → List (S100) → ByteArray → List (S100) → ByteArray → List (S100) → Option (Bool)
  | 0, _, _, _, _, _, _, _, _ => none
  | k + 1, x1, x36, x862000, x862001, x870000, x870001, x876000, x876001 => if x36 = true then ((strip_Good.f k x862000 x862001).bind fun t876 => (if t876 = true then (if x1 < 0 then (some true) else (some (decide (x1 > (x862000.size : Int))))) else (some true))) else ((strip_Cat.f k x870000 x870001 x876000 x876001).bind fun bt877 => (if bt877.2.2 = 0 then ((bureauref04_Same.f k bt877.1 bt877.2.1 x862000 x862001).bind fun t883 => (if t883 = true then (some ((x870000.size : Int) == x1)) else (some false))) else (some false)))
def bureaulaw04_StripParts.f (k : Nat) (a0_0 : ByteArray) (l0_1 : List (S100)) (a1 : Int) : Option (Bool) := (bureaulaw04_alive.f k).bind fun t862 => (if t862 = true then ((bureaulaw04_Fits.f a0_0 l0_1).bind fun t863 => (if t863 = true then ((strip_Cut.f k a0_0 l0_1 0 a1).bind fun bt864 => ((strip_Cut.f k a0_0 l0_1 a1 (a0_0.size : Int)).bind fun bt870 => (if bt864.2.2 = 0 then (bureaulaw04_StripParts.j0 k a1 (bt870.2.2 != 0) a0_0 l0_1 bt864.1 bt864.2.1 bt870.1 bt870.2.1) else (bureaulaw04_StripParts.j0 k a1 true a0_0 l0_1 bt864.1 bt864.2.1 bt870.1 bt870.2.1)))) else (some true))) else (some false))
set_option maxHeartbeats 8000000 in
set_option maxRecDepth 100000 in
theorem bureaulaw04_StripParts.calls (k : Nat) (a0_0 : ByteArray) (A0_1 : Option Addr) (c0_1 : Nat) (l0_1 : List (S100)) (a1 : Int) (r : Bool) (w : World) (hr0_1 : Kd.C k100 w A0_1 l0_1.length l0_1) (hc0_1 : l0_1.length ≤ c0_1) (h : bureaulaw04_StripParts.f k a0_0 l0_1 a1 = some r) :
    Calls Try.prog 21 #[.agg #[.string a0_0, .slice A0_1 l0_1.length c0_1], .int .i64 a1] w fun e w' => e = .returned (.bool r) ∧ Below w.heap.size w w' := by
  have hu51 := Try.underlying51
  have HR0_1 := Aside0.mk hr0_1
  have HC0_1 := Aside0.mk hc0_1
  clear hr0_1 hc0_1
  have HB := Aside0.mk (Below.refl w.heap.size w)
  have H : ((bureaulaw04_alive.f k).bind fun t862 => (if t862 = true then ((bureaulaw04_Fits.f a0_0 l0_1).bind fun t863 => (if t863 = true then ((strip_Cut.f k a0_0 l0_1 0 a1).bind fun bt864 => ((strip_Cut.f k a0_0 l0_1 a1 (a0_0.size : Int)).bind fun bt870 => (if bt864.2.2 = 0 then (bureaulaw04_StripParts.j0 k a1 (bt870.2.2 != 0) a0_0 l0_1 bt864.1 bt864.2.1 bt870.1 bt870.2.1) else (bureaulaw04_StripParts.j0 k a1 true a0_0 l0_1 bt864.1 bt864.2.1 bt870.1 bt870.2.1)))) else (some true))) else (some false))) = some r := h
  clear h
  replace H := Option.bind_eq_some_iff.mp H
  obtain ⟨t862, A30, H⟩ := H
  replace H : (if t862 = true then ((bureaulaw04_Fits.f a0_0 l0_1).bind fun t863 => (if t863 = true then ((strip_Cut.f k a0_0 l0_1 0 a1).bind fun bt864 => ((strip_Cut.f k a0_0 l0_1 a1 (a0_0.size : Int)).bind fun bt870 => (if bt864.2.2 = 0 then (bureaulaw04_StripParts.j0 k a1 (bt870.2.2 != 0) a0_0 l0_1 bt864.1 bt864.2.1 bt870.1 bt870.2.1) else (bureaulaw04_StripParts.j0 k a1 true a0_0 l0_1 bt864.1 bt864.2.1 bt870.1 bt870.2.1)))) else (some true))) else (some false)) = some r := H
  have A3 := Aside0.mk A30
  clear A30
  by_cases c4 : t862 = true
  · subst c4
    have H1 : ((bureaulaw04_Fits.f a0_0 l0_1).bind fun t863 => (if t863 = true then ((strip_Cut.f k a0_0 l0_1 0 a1).bind fun bt864 => ((strip_Cut.f k a0_0 l0_1 a1 (a0_0.size : Int)).bind fun bt870 => (if bt864.2.2 = 0 then (bureaulaw04_StripParts.j0 k a1 (bt870.2.2 != 0) a0_0 l0_1 bt864.1 bt864.2.1 bt870.1 bt870.2.1) else (bureaulaw04_StripParts.j0 k a1 true a0_0 l0_1 bt864.1 bt864.2.1 bt870.1 bt870.2.1)))) else (some true))) = some r := by rw [if_pos rfl] at H; exact H
    clear H
    have H := H1
    clear H1
    replace H := Option.bind_eq_some_iff.mp H
    obtain ⟨t863, A50, H⟩ := H
    replace H : (if t863 = true then ((strip_Cut.f k a0_0 l0_1 0 a1).bind fun bt864 => ((strip_Cut.f k a0_0 l0_1 a1 (a0_0.size : Int)).bind fun bt870 => (if bt864.2.2 = 0 then (bureaulaw04_StripParts.j0 k a1 (bt870.2.2 != 0) a0_0 l0_1 bt864.1 bt864.2.1 bt870.1 bt870.2.1) else (bureaulaw04_StripParts.j0 k a1 true a0_0 l0_1 bt864.1 bt864.2.1 bt870.1 bt870.2.1)))) else (some true)) = some r := H
    have A5 := Aside0.mk A50
    clear A50
    by_cases c6 : t863 = true
    · subst c6
      have H1 : ((strip_Cut.f k a0_0 l0_1 0 a1).bind fun bt864 => ((strip_Cut.f k a0_0 l0_1 a1 (a0_0.size : Int)).bind fun bt870 => (if bt864.2.2 = 0 then (bureaulaw04_StripParts.j0 k a1 (bt870.2.2 != 0) a0_0 l0_1 bt864.1 bt864.2.1 bt870.1 bt870.2.1) else (bureaulaw04_StripParts.j0 k a1 true a0_0 l0_1 bt864.1 bt864.2.1 bt870.1 bt870.2.1)))) = some r := by rw [if_pos rfl] at H; exact H
      clear H
      have H := H1
      clear H1
      replace H := Option.bind_eq_some_iff.mp H
      obtain ⟨⟨t864, t865, t868⟩, A70, H⟩ := H
      replace H : ((strip_Cut.f k a0_0 l0_1 a1 (a0_0.size : Int)).bind fun bt870 => (if t868 = 0 then (bureaulaw04_StripParts.j0 k a1 (bt870.2.2 != 0) a0_0 l0_1 t864 t865 bt870.1 bt870.2.1) else (bureaulaw04_StripParts.j0 k a1 true a0_0 l0_1 t864 t865 bt870.1 bt870.2.1))) = some r := H
      have A7 := Aside0.mk A70
      clear A70
      replace H := Option.bind_eq_some_iff.mp H
      obtain ⟨⟨t870, t871, t874⟩, A80, H⟩ := H
      replace H : (if t868 = 0 then (bureaulaw04_StripParts.j0 k a1 (t874 != 0) a0_0 l0_1 t864 t865 t870 t871) else (bureaulaw04_StripParts.j0 k a1 true a0_0 l0_1 t864 t865 t870 t871)) = some r := H
      have A8 := Aside0.mk A80
      clear A80
      have HC9 := Aside0.mk H
      clear H
      go_enter Try.func21, Try.ntmps21
      go_upto_region 7 with (first | ((with_reducible refine gate_dst (N := 2) rfl ?_); (try (refine gate_guard (by rfl) ?_; dsimp only)); refine box_event ?hg (N := 2) ?hd (cs := #[.string a0_0, .slice A0_1 l0_1.length c0_1]) (t := 51) ?hr ?_; (case hd => rfl); (case hg => rfl); (case hr => first | (go_simp; done) | (go_simp; rfl)); intro gb861 hg w10 hbox hb; have n0_ := Aside0.mk (below_step (by repeat (first | (with_reducible first | exact HB.out | apply below_alloc | apply pw_below_drewN | apply below_drew1) | exact HB.out)) hb); have n1_ := Aside0.mk (hbox); have n2_ := Aside0.mk ((by rw [hg]; exact (below_size (by repeat (first | (with_reducible first | exact HB.out | apply below_alloc | apply pw_below_drewN | apply below_drew1) | exact HB.out))) : w.heap.size ≤ gb861)); have n3_ := Aside0.mk ((by rw [hg]; exact (below_size (by repeat (first | (with_reducible first | exact HB.out | apply below_alloc | apply pw_below_drewN | apply below_drew1) | exact HB.out))) : w.heap.size ≤ gb861)); clear HB; have HB := n0_; have BK861 := n1_; have GW861 := n2_; have GE861 := n3_; clear n0_ n1_ n2_ n3_; clear hb hbox hg) | ((with_reducible refine gate_callee (f := 44) rfl ?_); refine goesL_ (some 11) rfl rfl Try.func44 (by kernel_rfl) rfl #[] rfl (by (try simp only [List.map_toArray, List.map_cons, List.map_nil]); first | done | rfl | (simp only [List.length_drop, List.length_take]; rfl)) ?_; (with_reducible refine (bureaulaw04_alive.calls k  true _ A3.out).mono ?_); rintro e w11 ⟨rfl, hb⟩; refine ⟨_, rfl, ?_⟩; have n0_ := Aside0.mk (blk_below (g := gb861) (o := .cells #[.string a0_0, .slice A0_1 l0_1.length c0_1] 51 (0, 0)) (by (with_reducible repeat (first | refine blk_drewN ?_ _ | refine blk_drew ?_ | refine blk_alloc ?_ _)); exact BK861.out) hb); have n1_ := Aside0.mk (below_step (by repeat (first | (with_reducible first | exact HB.out | apply below_alloc | apply pw_below_drewN | apply below_drew1 | refine below_set ?_ GE861.out) | exact HB.out)) hb); clear BK861; clear HB; have BK861 := n0_; have HB := n1_; clear n0_ n1_; (try clear hb); (try clear hb2); (try clear hk); (try clear hi); have hcz12_0 : w11.cell? ⟨gb861, 0, none⟩ = some (.string a0_0) := (blk_cell BK861.out 0).trans rfl; have hcz12_1 : w11.cell? ⟨gb861, 1, none⟩ = some (.slice A0_1 l0_1.length c0_1) := (blk_cell BK861.out 1).trans rfl; have hfz12_0 := blk_frozen BK861.out 0; have hfz12_1 := blk_frozen BK861.out 1) | ((with_reducible refine gate_callee (f := 45) rfl ?_); refine goesL_ (some 14) rfl rfl Try.func45 (by kernel_rfl) rfl #[.agg #[.string a0_0, .slice A0_1 l0_1.length c0_1]] rfl (by (try simp only [List.map_toArray, List.map_cons, List.map_nil]); first | done | rfl | (simp only [List.length_drop, List.length_take]; rfl)) ?_; (with_reducible refine (bureaulaw04_Fits.calls a0_0 _ _ l0_1 true _ ?side1 ?side2 A5.out).mono ?_); (case side1 => repeat (first | exact (Kd.C_below HR0_1.out HB.out) | (with_reducible refine Kd.C_alloc ?_ _) | (with_reducible refine Kd.C_drewN ?_ _) | (with_reducible refine Kd.C_drew ?_))); (case side2 => exact HC0_1.out); rintro e w13 ⟨rfl, hb⟩; refine ⟨_, rfl, ?_⟩; have n0_ := Aside0.mk (blk_below (g := gb861) (o := .cells #[.string a0_0, .slice A0_1 l0_1.length c0_1] 51 (0, 0)) (by (with_reducible repeat (first | refine blk_drewN ?_ _ | refine blk_drew ?_ | refine blk_alloc ?_ _)); exact BK861.out) hb); have n1_ := Aside0.mk (below_step (by repeat (first | (with_reducible first | exact HB.out | apply below_alloc | apply pw_below_drewN | apply below_drew1 | refine below_set ?_ GE861.out) | exact HB.out)) hb); clear BK861; clear HB; have BK861 := n0_; have HB := n1_; clear n0_ n1_; (try clear hb); (try clear hb2); (try clear hk); (try clear hi); have hcz14_0 : w13.cell? ⟨gb861, 0, none⟩ = some (.string a0_0) := (blk_cell BK861.out 0).trans rfl; have hcz14_1 : w13.cell? ⟨gb861, 1, none⟩ = some (.slice A0_1 l0_1.length c0_1) := (blk_cell BK861.out 1).trans rfl; have hfz14_0 := blk_frozen BK861.out 0; have hfz14_1 := blk_frozen BK861.out 1) | ((with_reducible refine gate_callee (f := 73) rfl ?_); refine goesL_ (some 19) rfl rfl Try.func73 (by kernel_rfl) rfl #[.agg #[.string a0_0, .slice A0_1 l0_1.length c0_1], .int .i64 0, .int .i64 a1] rfl (by (try simp only [List.map_toArray, List.map_cons, List.map_nil]); first | done | rfl | (simp only [List.length_drop, List.length_take]; rfl)) ?_; (with_reducible refine (strip_Cut.calls k a0_0 _ _ l0_1 0 a1 t864 t865 t868 _ ?side1 ?side2 A7.out).mono ?_); (case side1 => repeat (first | exact (Kd.C_below HR0_1.out HB.out) | (with_reducible refine Kd.C_alloc ?_ _) | (with_reducible refine Kd.C_drewN ?_ _) | (with_reducible refine Kd.C_drew ?_))); (case side2 => exact HC0_1.out); rintro e w15 ⟨v866, rfl, ho0, hb⟩; refine ⟨_, rfl, ?_⟩; have n0_ := Aside0.mk (Kd.R_lower ho0 (below_size (by repeat (first | (with_reducible first | exact HB.out | apply below_alloc | apply pw_below_drewN | apply below_drew1 | refine below_set ?_ GE861.out) | exact HB.out)))); have n1_ := Aside0.mk (blk_below (g := gb861) (o := .cells #[.string a0_0, .slice A0_1 l0_1.length c0_1] 51 (0, 0)) (by (with_reducible repeat (first | refine blk_drewN ?_ _ | refine blk_drew ?_ | refine blk_alloc ?_ _)); exact BK861.out) hb); have n2_ := Aside0.mk (below_step (by repeat (first | (with_reducible first | exact HB.out | apply below_alloc | apply pw_below_drewN | apply below_drew1 | refine below_set ?_ GE861.out) | exact HB.out)) hb); clear BK861; clear HB; have HO867 := n0_; have BK861 := n1_; have HB := n2_; clear n0_ n1_ n2_; (try clear hb); (try clear hb2); (try clear hk); (try clear hi); (try clear ho0)) | ((with_reducible refine gate_dst (N := 5) rfl ?_); (try (refine gate_guard (by rfl) ?_; dsimp only)); refine box_event ?hg (N := 5) ?hd (cs := #[.string (⟨#[]⟩ : ByteArray), .slice none 0 0]) (t := 51) ?hr ?_; (case hd => rfl); (case hg => rfl); (case hr => first | (go_simp; done) | (go_simp; rfl)); intro gb869 hg w16 hbox hb; have n0_ := Aside0.mk (Kd.R_below (by (with_reducible repeat (first | apply Kd.R_alloc | apply Kd.R_drewN | apply Kd.R_drew)); exact HO867.out) hb); have n1_ := Aside0.mk (blk_below (g := gb861) (o := .cells #[.string a0_0, .slice A0_1 l0_1.length c0_1] 51 (0, 0)) (by (with_reducible repeat (first | refine blk_drewN ?_ _ | refine blk_drew ?_ | refine blk_alloc ?_ _)); exact BK861.out) hb); have n2_ := Aside0.mk (below_step (by repeat (first | (with_reducible first | exact HB.out | apply below_alloc | apply pw_below_drewN | apply below_drew1 | refine below_set ?_ GE861.out) | exact HB.out)) hb); have n3_ := Aside0.mk (hbox); have n4_ := Aside0.mk ((by rw [hg]; exact (below_size (by repeat (first | (with_reducible first | exact HB.out | apply below_alloc | apply pw_below_drewN | apply below_drew1 | refine below_set ?_ GE861.out) | exact HB.out))) : w.heap.size ≤ gb869)); have n5_ := Aside0.mk ((by rw [hg]; exact (below_size (by repeat (first | (with_reducible first | exact HB.out | apply below_alloc | apply pw_below_drewN | apply below_drew1 | refine below_set ?_ GE861.out) | exact HB.out))) : w.heap.size ≤ gb869)); have n6_ := Aside0.mk ((by rw [hg]; exact Nat.ne_of_lt (blk_lt (g := gb861) (o := .cells #[.string a0_0, .slice A0_1 l0_1.length c0_1] 51 (0, 0)) (by (with_reducible repeat (first | refine blk_drewN ?_ _ | refine blk_drew ?_ | refine blk_alloc ?_ _)); exact BK861.out)) : gb861 ≠ gb869)); have n7_ := Aside0.mk ((by rw [hg]; exact Nat.ne_of_gt (blk_lt (g := gb861) (o := .cells #[.string a0_0, .slice A0_1 l0_1.length c0_1] 51 (0, 0)) (by (with_reducible repeat (first | refine blk_drewN ?_ _ | refine blk_drew ?_ | refine blk_alloc ?_ _)); exact BK861.out)) : gb869 ≠ gb861)); clear HO867; clear BK861; clear HB; have HO867 := n0_; have BK861 := n1_; have HB := n2_; have BK869 := n3_; have GW869 := n4_; have GE869 := n5_; have NB861_869 := n6_; have NB869_861 := n7_; clear n0_ n1_ n2_ n3_ n4_ n5_ n6_ n7_; clear hb hbox hg; have hnb17 := NB869_861.out; have hnc17 := NB861_869.out; have hcz18_0 : w16.cell? ⟨gb869, 0, none⟩ = some (.string (⟨#[]⟩ : ByteArray)) := (blk_cell BK869.out 0).trans rfl; have hcz18_1 : w16.cell? ⟨gb869, 1, none⟩ = some (.slice none 0 0) := (blk_cell BK869.out 1).trans rfl; have hfz18_0 := blk_frozen BK869.out 0; have hfz18_1 := blk_frozen BK869.out 1; obtain ⟨Ao19, co19, eo19⟩ := Kd.R_slice HO867.out; subst eo19; have hcz20_0 : w16.cell? ⟨gb861, 0, none⟩ = some (.string a0_0) := (blk_cell BK861.out 0).trans rfl; have hcz20_1 : w16.cell? ⟨gb861, 1, none⟩ = some (.slice A0_1 l0_1.length c0_1) := (blk_cell BK861.out 1).trans rfl; have hfz20_0 := blk_frozen BK861.out 0; have hfz20_1 := blk_frozen BK861.out 1) | ((with_reducible refine gate_callee (f := 73) rfl ?_); refine goesL_ (some 28) rfl rfl Try.func73 (by kernel_rfl) rfl #[.agg #[.string a0_0, .slice A0_1 l0_1.length c0_1], .int .i64 a1, .int .i64 (a0_0.size : Int)] rfl (by (try simp only [List.map_toArray, List.map_cons, List.map_nil]); first | done | rfl | (simp only [List.length_drop, List.length_take]; rfl)) ?_; (with_reducible refine (strip_Cut.calls k a0_0 _ _ l0_1 a1 (a0_0.size : Int) t870 t871 t874 _ ?side1 ?side2 A8.out).mono ?_); (case side1 => exact Kd.C_below HR0_1.out (by repeat (first | (with_reducible first | exact HB.out | apply below_alloc | apply pw_below_drewN | apply below_drew1 | refine below_set ?_ GE861.out | refine below_set ?_ GE869.out) | exact HB.out))); (case side2 => exact HC0_1.out); rintro e w21 ⟨v872, rfl, ho0, hb⟩; refine ⟨_, rfl, ?_⟩; have n0_ := Aside0.mk (Kd.R_elder' (by (with_reducible repeat (first | apply Kd.R_alloc | apply Kd.R_drewN | apply Kd.R_drew)); exact (Kd.R_mono (Kd.R_far (p := ⟨gb869, 1, none⟩) (Kd.R_far (p := ⟨gb869, 0, none⟩) (Kd.R_types HO867.out BK869.out (by decide)) (fun _ hk => hk.2) (.string t864)) (fun _ hk => hk.2) (.slice Ao19 t865.length co19)) (fun _ h_ => h_.1))) (Kd.R_base ho0) hb); have n1_ := Aside0.mk (Kd.R_lower (Kd.R_new' ho0 (Kd.R_lt (by (with_reducible repeat (first | apply Kd.R_alloc | apply Kd.R_drewN | apply Kd.R_drew)); exact (Kd.R_mono (Kd.R_far (p := ⟨gb869, 1, none⟩) (Kd.R_far (p := ⟨gb869, 0, none⟩) (Kd.R_types HO867.out BK869.out (by decide)) (fun _ hk => hk.2) (.string t864)) (fun _ hk => hk.2) (.slice Ao19 t865.length co19)) (fun _ h_ => h_.1))))) (below_size (by repeat (first | (with_reducible first | exact HB.out | apply below_alloc | apply pw_below_drewN | apply below_drew1 | refine below_set ?_ GE861.out | refine below_set ?_ GE869.out) | exact HB.out)))); have n2_ := Aside0.mk (blk_below (g := gb861) (o := .cells #[.string a0_0, .slice A0_1 l0_1.length c0_1] 51 (0, 0)) (by (with_reducible repeat (first | refine blk_drewN ?_ _ | refine blk_drew ?_ | refine blk_alloc ?_ _)); refine blk_far ?_ NB861_869.out _; (with_reducible repeat (first | refine blk_drewN ?_ _ | refine blk_drew ?_ | refine blk_alloc ?_ _)); refine blk_far ?_ NB861_869.out _; (with_reducible repeat (first | refine blk_drewN ?_ _ | refine blk_drew ?_ | refine blk_alloc ?_ _)); exact BK861.out) hb); have n3_ := Aside0.mk (blk_below (g := gb869) (o := .cells #[.string t864, .slice Ao19 t865.length co19] 51 (0, 0)) (by (with_reducible repeat (first | refine blk_drewN ?_ _ | refine blk_drew ?_ | refine blk_alloc ?_ _)); refine blk_put (cs := #[.string t864, .slice none 0 0]) ?_ 1 _ rfl; (with_reducible repeat (first | refine blk_drewN ?_ _ | refine blk_drew ?_ | refine blk_alloc ?_ _)); refine blk_put (cs := #[.string (⟨#[]⟩ : ByteArray), .slice none 0 0]) ?_ 0 _ rfl; (with_reducible repeat (first | refine blk_drewN ?_ _ | refine blk_drew ?_ | refine blk_alloc ?_ _)); exact BK869.out) hb); have n4_ := Aside0.mk (below_step (by repeat (first | (with_reducible first | exact HB.out | apply below_alloc | apply pw_below_drewN | apply below_drew1 | refine below_set ?_ GE861.out | refine below_set ?_ GE869.out) | exact HB.out)) hb); clear HO867; clear BK861; clear BK869; clear HB; have HO867 := n0_; have HO873 := n1_; have BK861 := n2_; have BK869 := n3_; have HB := n4_; clear n0_ n1_ n2_ n3_ n4_; (try clear hb); (try clear hb2); (try clear hk); (try clear hi); (try clear ho0)) | ((with_reducible refine gate_dst (N := 7) rfl ?_); (try (refine gate_guard (by rfl) ?_; dsimp only)); refine box_event ?hg (N := 7) ?hd (cs := #[.string (⟨#[]⟩ : ByteArray), .slice none 0 0]) (t := 51) ?hr ?_; (case hd => rfl); (case hg => rfl); (case hr => first | (go_simp; done) | (go_simp; rfl)); intro gb875 hg w22 hbox hb; have n0_ := Aside0.mk (Kd.R_below (by (with_reducible repeat (first | apply Kd.R_alloc | apply Kd.R_drewN | apply Kd.R_drew)); exact HO867.out) hb); have n1_ := Aside0.mk (Kd.R_below (by (with_reducible repeat (first | apply Kd.R_alloc | apply Kd.R_drewN | apply Kd.R_drew)); exact HO873.out) hb); have n2_ := Aside0.mk (blk_below (g := gb861) (o := .cells #[.string a0_0, .slice A0_1 l0_1.length c0_1] 51 (0, 0)) (by (with_reducible repeat (first | refine blk_drewN ?_ _ | refine blk_drew ?_ | refine blk_alloc ?_ _)); exact BK861.out) hb); have n3_ := Aside0.mk (blk_below (g := gb869) (o := .cells #[.string t864, .slice Ao19 t865.length co19] 51 (0, 0)) (by (with_reducible repeat (first | refine blk_drewN ?_ _ | refine blk_drew ?_ | refine blk_alloc ?_ _)); exact BK869.out) hb); have n4_ := Aside0.mk (below_step (by repeat (first | (with_reducible first | exact HB.out | apply below_alloc | apply pw_below_drewN | apply below_drew1 | refine below_set ?_ GE861.out | refine below_set ?_ GE869.out) | exact HB.out)) hb); have n5_ := Aside0.mk (hbox); have n6_ := Aside0.mk ((by rw [hg]; exact (below_size (by repeat (first | (with_reducible first | exact HB.out | apply below_alloc | apply pw_below_drewN | apply below_drew1 | refine below_set ?_ GE861.out | refine below_set ?_ GE869.out) | exact HB.out))) : w.heap.size ≤ gb875)); have n7_ := Aside0.mk ((by rw [hg]; exact (below_size (by repeat (first | (with_reducible first | exact HB.out | apply below_alloc | apply pw_below_drewN | apply below_drew1 | refine below_set ?_ GE861.out | refine below_set ?_ GE869.out) | exact HB.out))) : w.heap.size ≤ gb875)); have n8_ := Aside0.mk ((by rw [hg]; exact Nat.ne_of_lt (blk_lt (g := gb861) (o := .cells #[.string a0_0, .slice A0_1 l0_1.length c0_1] 51 (0, 0)) (by (with_reducible repeat (first | refine blk_drewN ?_ _ | refine blk_drew ?_ | refine blk_alloc ?_ _)); exact BK861.out)) : gb861 ≠ gb875)); have n9_ := Aside0.mk ((by rw [hg]; exact Nat.ne_of_gt (blk_lt (g := gb861) (o := .cells #[.string a0_0, .slice A0_1 l0_1.length c0_1] 51 (0, 0)) (by (with_reducible repeat (first | refine blk_drewN ?_ _ | refine blk_drew ?_ | refine blk_alloc ?_ _)); exact BK861.out)) : gb875 ≠ gb861)); have n10_ := Aside0.mk ((by rw [hg]; exact Nat.ne_of_lt (blk_lt (g := gb869) (o := .cells #[.string t864, .slice Ao19 t865.length co19] 51 (0, 0)) (by (with_reducible repeat (first | refine blk_drewN ?_ _ | refine blk_drew ?_ | refine blk_alloc ?_ _)); exact BK869.out)) : gb869 ≠ gb875)); have n11_ := Aside0.mk ((by rw [hg]; exact Nat.ne_of_gt (blk_lt (g := gb869) (o := .cells #[.string t864, .slice Ao19 t865.length co19] 51 (0, 0)) (by (with_reducible repeat (first | refine blk_drewN ?_ _ | refine blk_drew ?_ | refine blk_alloc ?_ _)); exact BK869.out)) : gb875 ≠ gb869)); clear HO867; clear HO873; clear BK861; clear BK869; clear HB; have HO867 := n0_; have HO873 := n1_; have BK861 := n2_; have BK869 := n3_; have HB := n4_; have BK875 := n5_; have GW875 := n6_; have GE875 := n7_; have NB861_875 := n8_; have NB875_861 := n9_; have NB869_875 := n10_; have NB875_869 := n11_; clear n0_ n1_ n2_ n3_ n4_ n5_ n6_ n7_ n8_ n9_ n10_ n11_; clear hb hbox hg; have hnb23 := NB875_861.out; have hnc23 := NB861_875.out; have hnb24 := NB875_869.out; have hnc24 := NB869_875.out; have hcz25_0 : w22.cell? ⟨gb875, 0, none⟩ = some (.string (⟨#[]⟩ : ByteArray)) := (blk_cell BK875.out 0).trans rfl; have hcz25_1 : w22.cell? ⟨gb875, 1, none⟩ = some (.slice none 0 0) := (blk_cell BK875.out 1).trans rfl; have hfz25_0 := blk_frozen BK875.out 0; have hfz25_1 := blk_frozen BK875.out 1; obtain ⟨Ao26, co26, eo26⟩ := Kd.R_slice HO873.out; subst eo26))
      (try simp only [Act.put, List.setIfInBounds_toArray, List.set_cons_zero, List.set_cons_succ])
      go_cut [36] (fun v36 wc => ∃ (kq : Nat) (x36_8 : Bool), v36 = .bool x36_8 ∧ Aside0 (bureaulaw04_StripParts.j0 kq a1 x36_8 a0_0 l0_1 t864 t865 t870 t871 = some r) ∧ Aside0 (kq ≤ k) ∧ Aside0 (Kd.R k100 100 wc w.heap.size (fun k_ => some k_ ≠ ((.slice Ao26 t871.length co26) : Value).ownBlock) (.slice Ao19 t865.length co19) t865) ∧ Aside0 (Kd.R k100 100 wc w.heap.size (fun k_ => some k_ ≠ ((.slice Ao19 t865.length co19) : Value).ownBlock) (.slice Ao26 t871.length co26) t871) ∧ Aside0 (wc.heap[gb861]? = some (.cells #[.string a0_0, (.slice A0_1 l0_1.length c0_1)] 51 (0, 0))) ∧ Aside0 (wc.heap[gb869]? = some (.cells #[.string t864, (.slice Ao19 t865.length co19)] 51 (0, 0))) ∧ Aside0 (wc.heap[gb875]? = some (.cells #[.string t870, (.slice Ao26 t871.length co26)] 51 (0, 0))) ∧ Aside0 (Below w.heap.size w wc))
      case first =>
        have H := HC9.out
        clear HC9
        by_cases c27 : t868 = 0
        · rw [if_pos c27] at H
          have c27b0 : (t868 == 0) = true := beq_iff_eq.mpr c27
          have c27b1 : (t868 != 0) = false := bne_eq_false_iff_eq.mpr c27
          clear c27
          (first | rw [c27b0] | (simp only [i64_w, i32_w]; rw [c27b0]) | skip)
          have H' := Aside0.mk H
          clear H
          go_wp2
          go_meet
          case rel => exact ⟨_, ((t874 != 0)), (by first | rfl | (simp; done) | (simp [*]; done)), H', ⟨by first | omega | exact Nat.le_refl _⟩, ⟨by (with_reducible repeat (first | apply Kd.R_alloc | apply Kd.R_drewN | apply Kd.R_drew)); exact Kd.R_mono (Kd.R_far (p := ⟨gb875, 1, none⟩) (Kd.R_far (p := ⟨gb875, 0, none⟩) (Kd.R_types HO867.out BK875.out (by decide)) (fun _ hk => hk.2) (.string t870)) (fun _ hk => hk.2) (.slice Ao26 t871.length co26)) (fun _ hk => hk.1.2)⟩, ⟨by (with_reducible repeat (first | apply Kd.R_alloc | apply Kd.R_drewN | apply Kd.R_drew)); exact Kd.R_mono (Kd.R_far (p := ⟨gb875, 1, none⟩) (Kd.R_far (p := ⟨gb875, 0, none⟩) (Kd.R_types HO873.out BK875.out (by decide)) (fun _ hk => hk.2) (.string t870)) (fun _ hk => hk.2) (.slice Ao26 t871.length co26)) (fun _ hk => hk.1.2)⟩, ⟨by (with_reducible repeat (first | refine blk_drewN ?_ _ | refine blk_drew ?_ | refine blk_alloc ?_ _)); refine blk_far ?_ NB861_875.out _; (with_reducible repeat (first | refine blk_drewN ?_ _ | refine blk_drew ?_ | refine blk_alloc ?_ _)); refine blk_far ?_ NB861_875.out _; (with_reducible repeat (first | refine blk_drewN ?_ _ | refine blk_drew ?_ | refine blk_alloc ?_ _)); exact BK861.out⟩, ⟨by (with_reducible repeat (first | refine blk_drewN ?_ _ | refine blk_drew ?_ | refine blk_alloc ?_ _)); refine blk_far ?_ NB869_875.out _; (with_reducible repeat (first | refine blk_drewN ?_ _ | refine blk_drew ?_ | refine blk_alloc ?_ _)); refine blk_far ?_ NB869_875.out _; (with_reducible repeat (first | refine blk_drewN ?_ _ | refine blk_drew ?_ | refine blk_alloc ?_ _)); exact BK869.out⟩, ⟨by (with_reducible repeat (first | refine blk_drewN ?_ _ | refine blk_drew ?_ | refine blk_alloc ?_ _)); refine blk_put (cs := #[.string t870, .slice none 0 0]) ?_ 1 _ rfl; (with_reducible repeat (first | refine blk_drewN ?_ _ | refine blk_drew ?_ | refine blk_alloc ?_ _)); refine blk_put (cs := #[.string (⟨#[]⟩ : ByteArray), .slice none 0 0]) ?_ 0 _ rfl; (with_reducible repeat (first | refine blk_drewN ?_ _ | refine blk_drew ?_ | refine blk_alloc ?_ _)); exact BK875.out⟩, ⟨by repeat (first | (with_reducible first | exact HB.out | apply below_alloc | apply pw_below_drewN | apply below_drew1 | refine below_set ?_ GE861.out | refine below_set ?_ GE869.out | refine below_set ?_ GE875.out) | exact HB.out)⟩⟩
        · rw [if_neg c27] at H
          have c27b0 : (t868 == 0) = false := beq_eq_false_iff_ne.mpr c27
          have c27b1 : (t868 != 0) = true := bne_iff_ne.mpr c27
          (first | rw [c27b0] | (simp only [i64_w, i32_w]; rw [c27b0]) | skip)
          have H' := Aside0.mk H
          clear H
          go_wp2
          go_meet
          case rel => exact ⟨_, (true), (by first | rfl | (simp; done) | (simp [*]; done)), H', ⟨by first | omega | exact Nat.le_refl _⟩, ⟨by (with_reducible repeat (first | apply Kd.R_alloc | apply Kd.R_drewN | apply Kd.R_drew)); exact Kd.R_mono (Kd.R_far (p := ⟨gb875, 1, none⟩) (Kd.R_far (p := ⟨gb875, 0, none⟩) (Kd.R_types HO867.out BK875.out (by decide)) (fun _ hk => hk.2) (.string t870)) (fun _ hk => hk.2) (.slice Ao26 t871.length co26)) (fun _ hk => hk.1.2)⟩, ⟨by (with_reducible repeat (first | apply Kd.R_alloc | apply Kd.R_drewN | apply Kd.R_drew)); exact Kd.R_mono (Kd.R_far (p := ⟨gb875, 1, none⟩) (Kd.R_far (p := ⟨gb875, 0, none⟩) (Kd.R_types HO873.out BK875.out (by decide)) (fun _ hk => hk.2) (.string t870)) (fun _ hk => hk.2) (.slice Ao26 t871.length co26)) (fun _ hk => hk.1.2)⟩, ⟨by (with_reducible repeat (first | refine blk_drewN ?_ _ | refine blk_drew ?_ | refine blk_alloc ?_ _)); refine blk_far ?_ NB861_875.out _; (with_reducible repeat (first | refine blk_drewN ?_ _ | refine blk_drew ?_ | refine blk_alloc ?_ _)); refine blk_far ?_ NB861_875.out _; (with_reducible repeat (first | refine blk_drewN ?_ _ | refine blk_drew ?_ | refine blk_alloc ?_ _)); exact BK861.out⟩, ⟨by (with_reducible repeat (first | refine blk_drewN ?_ _ | refine blk_drew ?_ | refine blk_alloc ?_ _)); refine blk_far ?_ NB869_875.out _; (with_reducible repeat (first | refine blk_drewN ?_ _ | refine blk_drew ?_ | refine blk_alloc ?_ _)); refine blk_far ?_ NB869_875.out _; (with_reducible repeat (first | refine blk_drewN ?_ _ | refine blk_drew ?_ | refine blk_alloc ?_ _)); exact BK869.out⟩, ⟨by (with_reducible repeat (first | refine blk_drewN ?_ _ | refine blk_drew ?_ | refine blk_alloc ?_ _)); refine blk_put (cs := #[.string t870, .slice none 0 0]) ?_ 1 _ rfl; (with_reducible repeat (first | refine blk_drewN ?_ _ | refine blk_drew ?_ | refine blk_alloc ?_ _)); refine blk_put (cs := #[.string (⟨#[]⟩ : ByteArray), .slice none 0 0]) ?_ 0 _ rfl; (with_reducible repeat (first | refine blk_drewN ?_ _ | refine blk_drew ?_ | refine blk_alloc ?_ _)); exact BK875.out⟩, ⟨by repeat (first | (with_reducible first | exact HB.out | apply below_alloc | apply pw_below_drewN | apply below_drew1 | refine below_set ?_ GE861.out | refine below_set ?_ GE869.out | refine below_set ?_ GE875.out) | exact HB.out)⟩⟩
      case rest =>
        clear HC9
        try clear c1
        try clear c2
        try clear p2
        try clear c4
        try clear c6
        try clear c7
        try clear c17
        try clear c21
        try clear c23
        try clear c24
        try clear c27
        try clear c27b0
        try clear c27b1
        try clear hcz12_0
        try clear hcz12_1
        try clear hcz14_0
        try clear hcz14_1
        try clear hcz18_0
        try clear hcz18_1
        try clear hcz20_0
        try clear hcz20_1
        try clear hcz25_0
        try clear hcz25_1
        try clear hfz12_0
        try clear hfz12_1
        try clear hfz14_0
        try clear hfz14_1
        try clear hfz18_0
        try clear hfz18_1
        try clear hfz20_0
        try clear hfz20_1
        try clear hfz25_0
        try clear hfz25_1
        obtain ⟨kq, x36_8, rfl, HA, HJ8, HO_870001, HO_876001, BK861, BK869, BK875, HB⟩ := hcut
        cases kq with
        | zero => exact absurd HA.out (by simp [bureaulaw04_StripParts.j0])
        | succ kj8 =>
          have H := HA.out
          clear HA
          simp only [bureaulaw04_StripParts.j0] at H
          by_cases c28 : x36_8 = true
          · subst c28
            have H1 : ((strip_Good.f kj8 a0_0 l0_1).bind fun t876 => (if t876 = true then (if a1 < 0 then (some true) else (some (decide (a1 > (a0_0.size : Int))))) else (some true))) = some r := by rw [if_pos rfl] at H; exact H
            clear H
            have H := H1
            clear H1
            replace H := Option.bind_eq_some_iff.mp H
            obtain ⟨t876, A290, H⟩ := H
            replace H : (if t876 = true then (if a1 < 0 then (some true) else (some (decide (a1 > (a0_0.size : Int))))) else (some true)) = some r := H
            have A29 := Aside0.mk A290
            clear A290
            by_cases c30 : t876 = true
            · subst c30
              have H1 : (if a1 < 0 then (some true) else (some (decide (a1 > (a0_0.size : Int))))) = some r := by rw [if_pos rfl] at H; exact H
              clear H
              have H := H1
              clear H1
              by_cases c31 : a1 < 0
              · rw [if_pos c31] at H
                have c31b0 : decide (a1 < 0) = true := decide_eq_true c31
                clear c31
                obtain rfl := Option.some.inj H
                have hnb32 := NB861_869.out
                have hnc32 := NB869_861.out
                have hnb33 := NB861_875.out
                have hnc33 := NB875_861.out
                have hcz34_0 : wc.cell? ⟨gb861, 0, none⟩ = some (.string a0_0) := (blk_cell BK861.out 0).trans rfl
                have hcz34_1 : wc.cell? ⟨gb861, 1, none⟩ = some (.slice A0_1 l0_1.length c0_1) := (blk_cell BK861.out 1).trans rfl
                have hfz34_0 := blk_frozen BK861.out 0
                have hfz34_1 := blk_frozen BK861.out 1
                go_wp2_with (first | ((with_reducible refine gate_callee (f := 49) rfl ?_); refine goesL_ (some 38) rfl rfl Try.func49 (by kernel_rfl) rfl #[.agg #[.string a0_0, .slice A0_1 l0_1.length c0_1]] rfl (by (try simp only [List.map_toArray, List.map_cons, List.map_nil]); first | done | rfl | (simp only [List.length_drop, List.length_take]; rfl)) ?_; (with_reducible refine (strip_Good.calls kj8 a0_0 _ _ l0_1 true _ ?side1 ?side2 A29.out).mono ?_); (case side1 => repeat (first | exact (Kd.C_below HR0_1.out HB.out) | (with_reducible refine Kd.C_alloc ?_ _) | (with_reducible refine Kd.C_drewN ?_ _) | (with_reducible refine Kd.C_drew ?_))); (case side2 => exact HC0_1.out); rintro e w35 ⟨rfl, hb⟩; refine ⟨_, rfl, ?_⟩; have n0_ := Aside0.mk (Kd.R_below (by (with_reducible repeat (first | apply Kd.R_alloc | apply Kd.R_drewN | apply Kd.R_drew)); exact HO_870001.out) hb); have n1_ := Aside0.mk (Kd.R_below (by (with_reducible repeat (first | apply Kd.R_alloc | apply Kd.R_drewN | apply Kd.R_drew)); exact HO_876001.out) hb); have n2_ := Aside0.mk (blk_below (g := gb861) (o := .cells #[.string a0_0, .slice A0_1 l0_1.length c0_1] 51 (0, 0)) (by (with_reducible repeat (first | refine blk_drewN ?_ _ | refine blk_drew ?_ | refine blk_alloc ?_ _)); exact BK861.out) hb); have n3_ := Aside0.mk (blk_below (g := gb869) (o := .cells #[.string t864, .slice Ao19 t865.length co19] 51 (0, 0)) (by (with_reducible repeat (first | refine blk_drewN ?_ _ | refine blk_drew ?_ | refine blk_alloc ?_ _)); exact BK869.out) hb); have n4_ := Aside0.mk (blk_below (g := gb875) (o := .cells #[.string t870, .slice Ao26 t871.length co26] 51 (0, 0)) (by (with_reducible repeat (first | refine blk_drewN ?_ _ | refine blk_drew ?_ | refine blk_alloc ?_ _)); exact BK875.out) hb); have n5_ := Aside0.mk (below_step (by repeat (first | (with_reducible first | exact HB.out | apply below_alloc | apply pw_below_drewN | apply below_drew1 | refine below_set ?_ GE861.out | refine below_set ?_ GE869.out | refine below_set ?_ GE875.out) | exact HB.out)) hb); clear HO_870001; clear HO_876001; clear BK861; clear BK869; clear BK875; clear HB; have HO_870001 := n0_; have HO_876001 := n1_; have BK861 := n2_; have BK869 := n3_; have BK875 := n4_; have HB := n5_; clear n0_ n1_ n2_ n3_ n4_ n5_; (try clear hb); (try clear hb2); (try clear hk); (try clear hi)))
                go_ret
                exact ⟨by first | rfl | (simp [errW_none, errW_some] <;> rfl) | (simp [*, errW_none, errW_some] <;> rfl), by repeat (first | (with_reducible first | exact HB.out | apply below_alloc | apply pw_below_drewN | apply below_drew1 | refine below_set ?_ GE861.out | refine below_set ?_ GE869.out | refine below_set ?_ GE875.out) | exact HB.out)⟩
              · rw [if_neg c31] at H
                have c31b0 : decide (a1 < 0) = false := decide_eq_false c31
                clear c31
                obtain rfl := Option.some.inj H
                have hnb36 := NB861_869.out
                have hnc36 := NB869_861.out
                have hnb37 := NB861_875.out
                have hnc37 := NB875_861.out
                have hcz38_0 : wc.cell? ⟨gb861, 0, none⟩ = some (.string a0_0) := (blk_cell BK861.out 0).trans rfl
                have hcz38_1 : wc.cell? ⟨gb861, 1, none⟩ = some (.slice A0_1 l0_1.length c0_1) := (blk_cell BK861.out 1).trans rfl
                have hfz38_0 := blk_frozen BK861.out 0
                have hfz38_1 := blk_frozen BK861.out 1
                go_wp2_with (first | ((with_reducible refine gate_callee (f := 49) rfl ?_); refine goesL_ (some 38) rfl rfl Try.func49 (by kernel_rfl) rfl #[.agg #[.string a0_0, .slice A0_1 l0_1.length c0_1]] rfl (by (try simp only [List.map_toArray, List.map_cons, List.map_nil]); first | done | rfl | (simp only [List.length_drop, List.length_take]; rfl)) ?_; (with_reducible refine (strip_Good.calls kj8 a0_0 _ _ l0_1 true _ ?side1 ?side2 A29.out).mono ?_); (case side1 => repeat (first | exact (Kd.C_below HR0_1.out HB.out) | (with_reducible refine Kd.C_alloc ?_ _) | (with_reducible refine Kd.C_drewN ?_ _) | (with_reducible refine Kd.C_drew ?_))); (case side2 => exact HC0_1.out); rintro e w39 ⟨rfl, hb⟩; refine ⟨_, rfl, ?_⟩; have n0_ := Aside0.mk (Kd.R_below (by (with_reducible repeat (first | apply Kd.R_alloc | apply Kd.R_drewN | apply Kd.R_drew)); exact HO_870001.out) hb); have n1_ := Aside0.mk (Kd.R_below (by (with_reducible repeat (first | apply Kd.R_alloc | apply Kd.R_drewN | apply Kd.R_drew)); exact HO_876001.out) hb); have n2_ := Aside0.mk (blk_below (g := gb861) (o := .cells #[.string a0_0, .slice A0_1 l0_1.length c0_1] 51 (0, 0)) (by (with_reducible repeat (first | refine blk_drewN ?_ _ | refine blk_drew ?_ | refine blk_alloc ?_ _)); exact BK861.out) hb); have n3_ := Aside0.mk (blk_below (g := gb869) (o := .cells #[.string t864, .slice Ao19 t865.length co19] 51 (0, 0)) (by (with_reducible repeat (first | refine blk_drewN ?_ _ | refine blk_drew ?_ | refine blk_alloc ?_ _)); exact BK869.out) hb); have n4_ := Aside0.mk (blk_below (g := gb875) (o := .cells #[.string t870, .slice Ao26 t871.length co26] 51 (0, 0)) (by (with_reducible repeat (first | refine blk_drewN ?_ _ | refine blk_drew ?_ | refine blk_alloc ?_ _)); exact BK875.out) hb); have n5_ := Aside0.mk (below_step (by repeat (first | (with_reducible first | exact HB.out | apply below_alloc | apply pw_below_drewN | apply below_drew1 | refine below_set ?_ GE861.out | refine below_set ?_ GE869.out | refine below_set ?_ GE875.out) | exact HB.out)) hb); clear HO_870001; clear HO_876001; clear BK861; clear BK869; clear BK875; clear HB; have HO_870001 := n0_; have HO_876001 := n1_; have BK861 := n2_; have BK869 := n3_; have BK875 := n4_; have HB := n5_; clear n0_ n1_ n2_ n3_ n4_ n5_; (try clear hb); (try clear hb2); (try clear hk); (try clear hi); have hcz40_0 : w39.cell? ⟨gb861, 0, none⟩ = some (.string a0_0) := (blk_cell BK861.out 0).trans rfl; have hcz40_1 : w39.cell? ⟨gb861, 1, none⟩ = some (.slice A0_1 l0_1.length c0_1) := (blk_cell BK861.out 1).trans rfl; have hfz40_0 := blk_frozen BK861.out 0; have hfz40_1 := blk_frozen BK861.out 1))
                go_ret
                exact ⟨by first | rfl | (simp [errW_none, errW_some] <;> rfl) | (simp [*, errW_none, errW_some] <;> rfl), by repeat (first | (with_reducible first | exact HB.out | apply below_alloc | apply pw_below_drewN | apply below_drew1 | refine below_set ?_ GE861.out | refine below_set ?_ GE869.out | refine below_set ?_ GE875.out) | exact HB.out)⟩
            · replace c30 := Bool.eq_false_iff.mpr c30
              subst c30
              have H1 : (some true) = some r := by rw [if_neg (show ¬ (false = true) by decide)] at H; exact H
              clear H
              have H := H1
              clear H1
              obtain rfl := Option.some.inj H
              have hnb41 := NB861_869.out
              have hnc41 := NB869_861.out
              have hnb42 := NB861_875.out
              have hnc42 := NB875_861.out
              have hcz43_0 : wc.cell? ⟨gb861, 0, none⟩ = some (.string a0_0) := (blk_cell BK861.out 0).trans rfl
              have hcz43_1 : wc.cell? ⟨gb861, 1, none⟩ = some (.slice A0_1 l0_1.length c0_1) := (blk_cell BK861.out 1).trans rfl
              have hfz43_0 := blk_frozen BK861.out 0
              have hfz43_1 := blk_frozen BK861.out 1
              go_wp2_with (first | ((with_reducible refine gate_callee (f := 49) rfl ?_); refine goesL_ (some 38) rfl rfl Try.func49 (by kernel_rfl) rfl #[.agg #[.string a0_0, .slice A0_1 l0_1.length c0_1]] rfl (by (try simp only [List.map_toArray, List.map_cons, List.map_nil]); first | done | rfl | (simp only [List.length_drop, List.length_take]; rfl)) ?_; (with_reducible refine (strip_Good.calls kj8 a0_0 _ _ l0_1 false _ ?side1 ?side2 A29.out).mono ?_); (case side1 => repeat (first | exact (Kd.C_below HR0_1.out HB.out) | (with_reducible refine Kd.C_alloc ?_ _) | (with_reducible refine Kd.C_drewN ?_ _) | (with_reducible refine Kd.C_drew ?_))); (case side2 => exact HC0_1.out); rintro e w44 ⟨rfl, hb⟩; refine ⟨_, rfl, ?_⟩; have n0_ := Aside0.mk (Kd.R_below (by (with_reducible repeat (first | apply Kd.R_alloc | apply Kd.R_drewN | apply Kd.R_drew)); exact HO_870001.out) hb); have n1_ := Aside0.mk (Kd.R_below (by (with_reducible repeat (first | apply Kd.R_alloc | apply Kd.R_drewN | apply Kd.R_drew)); exact HO_876001.out) hb); have n2_ := Aside0.mk (blk_below (g := gb861) (o := .cells #[.string a0_0, .slice A0_1 l0_1.length c0_1] 51 (0, 0)) (by (with_reducible repeat (first | refine blk_drewN ?_ _ | refine blk_drew ?_ | refine blk_alloc ?_ _)); exact BK861.out) hb); have n3_ := Aside0.mk (blk_below (g := gb869) (o := .cells #[.string t864, .slice Ao19 t865.length co19] 51 (0, 0)) (by (with_reducible repeat (first | refine blk_drewN ?_ _ | refine blk_drew ?_ | refine blk_alloc ?_ _)); exact BK869.out) hb); have n4_ := Aside0.mk (blk_below (g := gb875) (o := .cells #[.string t870, .slice Ao26 t871.length co26] 51 (0, 0)) (by (with_reducible repeat (first | refine blk_drewN ?_ _ | refine blk_drew ?_ | refine blk_alloc ?_ _)); exact BK875.out) hb); have n5_ := Aside0.mk (below_step (by repeat (first | (with_reducible first | exact HB.out | apply below_alloc | apply pw_below_drewN | apply below_drew1 | refine below_set ?_ GE861.out | refine below_set ?_ GE869.out | refine below_set ?_ GE875.out) | exact HB.out)) hb); clear HO_870001; clear HO_876001; clear BK861; clear BK869; clear BK875; clear HB; have HO_870001 := n0_; have HO_876001 := n1_; have BK861 := n2_; have BK869 := n3_; have BK875 := n4_; have HB := n5_; clear n0_ n1_ n2_ n3_ n4_ n5_; (try clear hb); (try clear hb2); (try clear hk); (try clear hi)))
              go_ret
              exact ⟨by first | rfl | (simp [errW_none, errW_some] <;> rfl) | (simp [*, errW_none, errW_some] <;> rfl), by repeat (first | (with_reducible first | exact HB.out | apply below_alloc | apply pw_below_drewN | apply below_drew1 | refine below_set ?_ GE861.out | refine below_set ?_ GE869.out | refine below_set ?_ GE875.out) | exact HB.out)⟩
          · replace c28 := Bool.eq_false_iff.mpr c28
            subst c28
            have H1 : ((strip_Cat.f kj8 t864 t865 t870 t871).bind fun bt877 => (if bt877.2.2 = 0 then ((bureauref04_Same.f kj8 bt877.1 bt877.2.1 a0_0 l0_1).bind fun t883 => (if t883 = true then (some ((t864.size : Int) == a1)) else (some false))) else (some false))) = some r := by rw [if_neg (show ¬ (false = true) by decide)] at H; exact H
            clear H
            have H := H1
            clear H1
            replace H := Option.bind_eq_some_iff.mp H
            obtain ⟨⟨t877, t878, t881⟩, A450, H⟩ := H
            replace H : (if t881 = 0 then ((bureauref04_Same.f kj8 t877 t878 a0_0 l0_1).bind fun t883 => (if t883 = true then (some ((t864.size : Int) == a1)) else (some false))) else (some false)) = some r := H
            have A45 := Aside0.mk A450
            clear A450
            by_cases c46 : t881 = 0
            · rw [if_pos c46] at H
              have c46b0 : (t881 == 0) = true := beq_iff_eq.mpr c46
              have c46b1 : (t881 != 0) = false := bne_eq_false_iff_eq.mpr c46
              clear c46
              replace H := Option.bind_eq_some_iff.mp H
              obtain ⟨t883, A470, H⟩ := H
              replace H : (if t883 = true then (some ((t864.size : Int) == a1)) else (some false)) = some r := H
              have A47 := Aside0.mk A470
              clear A470
              by_cases c48 : t883 = true
              · subst c48
                have H1 : (some ((t864.size : Int) == a1)) = some r := by rw [if_pos rfl] at H; exact H
                clear H
                have H := H1
                clear H1
                obtain rfl := Option.some.inj H
                have hnb49 := NB869_861.out
                have hnc49 := NB861_869.out
                have hnb50 := NB869_875.out
                have hnc50 := NB875_869.out
                have hcz51_0 : wc.cell? ⟨gb869, 0, none⟩ = some (.string t864) := (blk_cell BK869.out 0).trans rfl
                have hcz51_1 : wc.cell? ⟨gb869, 1, none⟩ = some (.slice Ao19 t865.length co19) := (blk_cell BK869.out 1).trans rfl
                have hfz51_0 := blk_frozen BK869.out 0
                have hfz51_1 := blk_frozen BK869.out 1
                have hnb52 := NB875_861.out
                have hnc52 := NB861_875.out
                have hcz53_0 : wc.cell? ⟨gb875, 0, none⟩ = some (.string t870) := (blk_cell BK875.out 0).trans rfl
                have hcz53_1 : wc.cell? ⟨gb875, 1, none⟩ = some (.slice Ao26 t871.length co26) := (blk_cell BK875.out 1).trans rfl
                have hfz53_0 := blk_frozen BK875.out 0
                have hfz53_1 := blk_frozen BK875.out 1
                go_wp2_with (first | ((with_reducible refine gate_callee (f := 75) rfl ?_); refine goesL_ (some 54) rfl rfl Try.func75 (by kernel_rfl) rfl #[.agg #[.string t864, .slice Ao19 t865.length co19], .agg #[.string t870, .slice Ao26 t871.length co26]] rfl (by (try simp only [List.map_toArray, List.map_cons, List.map_nil]); first | done | rfl | (simp only [List.length_drop, List.length_take]; rfl)) ?_; (with_reducible refine (strip_Cat.calls kj8 t864 _ _ t865 t870 _ _ t871 t877 t878 t881 _ ?side1 ?side2 ?side3 ?side4 A45.out).mono ?_); (case side1 => repeat (first | exact (Kd.R_reads' HO_870001.out).2.2 | (with_reducible refine Kd.C_alloc ?_ _) | (with_reducible refine Kd.C_drewN ?_ _) | (with_reducible refine Kd.C_drew ?_))); (case side2 => exact (Kd.R_reads' HO_870001.out).2.1); (case side3 => repeat (first | exact (Kd.R_reads' HO_876001.out).2.2 | (with_reducible refine Kd.C_alloc ?_ _) | (with_reducible refine Kd.C_drewN ?_ _) | (with_reducible refine Kd.C_drew ?_))); (case side4 => exact (Kd.R_reads' HO_876001.out).2.1); rintro e w54 ⟨v879, rfl, ho0, hb⟩; refine ⟨_, rfl, ?_⟩; have n0_ := Aside0.mk (Kd.R_elder' (by (with_reducible repeat (first | apply Kd.R_alloc | apply Kd.R_drewN | apply Kd.R_drew)); exact HO_870001.out) (Kd.R_base ho0) hb); have n1_ := Aside0.mk (Kd.R_elder' (by (with_reducible repeat (first | apply Kd.R_alloc | apply Kd.R_drewN | apply Kd.R_drew)); exact HO_876001.out) (Kd.R_base ho0) hb); have n2_ := Aside0.mk (Kd.R_lower (Kd.R_new' (Kd.R_new' ho0 (Kd.R_lt (by (with_reducible repeat (first | apply Kd.R_alloc | apply Kd.R_drewN | apply Kd.R_drew)); exact HO_870001.out))) (Kd.R_lt (by (with_reducible repeat (first | apply Kd.R_alloc | apply Kd.R_drewN | apply Kd.R_drew)); exact HO_876001.out))) (below_size (by repeat (first | (with_reducible first | exact HB.out | apply below_alloc | apply pw_below_drewN | apply below_drew1 | refine below_set ?_ GE861.out | refine below_set ?_ GE869.out | refine below_set ?_ GE875.out) | exact HB.out)))); have n3_ := Aside0.mk (blk_below (g := gb861) (o := .cells #[.string a0_0, .slice A0_1 l0_1.length c0_1] 51 (0, 0)) (by (with_reducible repeat (first | refine blk_drewN ?_ _ | refine blk_drew ?_ | refine blk_alloc ?_ _)); exact BK861.out) hb); have n4_ := Aside0.mk (blk_below (g := gb869) (o := .cells #[.string t864, .slice Ao19 t865.length co19] 51 (0, 0)) (by (with_reducible repeat (first | refine blk_drewN ?_ _ | refine blk_drew ?_ | refine blk_alloc ?_ _)); exact BK869.out) hb); have n5_ := Aside0.mk (blk_below (g := gb875) (o := .cells #[.string t870, .slice Ao26 t871.length co26] 51 (0, 0)) (by (with_reducible repeat (first | refine blk_drewN ?_ _ | refine blk_drew ?_ | refine blk_alloc ?_ _)); exact BK875.out) hb); have n6_ := Aside0.mk (below_step (by repeat (first | (with_reducible first | exact HB.out | apply below_alloc | apply pw_below_drewN | apply below_drew1 | refine below_set ?_ GE861.out | refine below_set ?_ GE869.out | refine below_set ?_ GE875.out) | exact HB.out)) hb); clear HO_870001; clear HO_876001; clear BK861; clear BK869; clear BK875; clear HB; have HO_870001 := n0_; have HO_876001 := n1_; have HO880 := n2_; have BK861 := n3_; have BK869 := n4_; have BK875 := n5_; have HB := n6_; clear n0_ n1_ n2_ n3_ n4_ n5_ n6_; (try clear hb); (try clear hb2); (try clear hk); (try clear hi); (try clear ho0)) | ((with_reducible refine gate_dst (N := 9) rfl ?_); (try (refine gate_guard (by rfl) ?_; dsimp only)); refine box_event ?hg (N := 9) ?hd (cs := #[.string (⟨#[]⟩ : ByteArray), .slice none 0 0]) (t := 51) ?hr ?_; (case hd => rfl); (case hg => rfl); (case hr => first | (go_simp; done) | (go_simp; rfl)); intro gb882 hg w55 hbox hb; have n0_ := Aside0.mk (Kd.R_below (by (with_reducible repeat (first | apply Kd.R_alloc | apply Kd.R_drewN | apply Kd.R_drew)); exact HO_870001.out) hb); have n1_ := Aside0.mk (Kd.R_below (by (with_reducible repeat (first | apply Kd.R_alloc | apply Kd.R_drewN | apply Kd.R_drew)); exact HO_876001.out) hb); have n2_ := Aside0.mk (Kd.R_below (by (with_reducible repeat (first | apply Kd.R_alloc | apply Kd.R_drewN | apply Kd.R_drew)); exact HO880.out) hb); have n3_ := Aside0.mk (blk_below (g := gb861) (o := .cells #[.string a0_0, .slice A0_1 l0_1.length c0_1] 51 (0, 0)) (by (with_reducible repeat (first | refine blk_drewN ?_ _ | refine blk_drew ?_ | refine blk_alloc ?_ _)); exact BK861.out) hb); have n4_ := Aside0.mk (blk_below (g := gb869) (o := .cells #[.string t864, .slice Ao19 t865.length co19] 51 (0, 0)) (by (with_reducible repeat (first | refine blk_drewN ?_ _ | refine blk_drew ?_ | refine blk_alloc ?_ _)); exact BK869.out) hb); have n5_ := Aside0.mk (blk_below (g := gb875) (o := .cells #[.string t870, .slice Ao26 t871.length co26] 51 (0, 0)) (by (with_reducible repeat (first | refine blk_drewN ?_ _ | refine blk_drew ?_ | refine blk_alloc ?_ _)); exact BK875.out) hb); have n6_ := Aside0.mk (below_step (by repeat (first | (with_reducible first | exact HB.out | apply below_alloc | apply pw_below_drewN | apply below_drew1 | refine below_set ?_ GE861.out | refine below_set ?_ GE869.out | refine below_set ?_ GE875.out) | exact HB.out)) hb); have n7_ := Aside0.mk (hbox); have n8_ := Aside0.mk ((by rw [hg]; exact (below_size (by repeat (first | (with_reducible first | exact HB.out | apply below_alloc | apply pw_below_drewN | apply below_drew1 | refine below_set ?_ GE861.out | refine below_set ?_ GE869.out | refine below_set ?_ GE875.out) | exact HB.out))) : w.heap.size ≤ gb882)); have n9_ := Aside0.mk ((by rw [hg]; exact (below_size (by repeat (first | (with_reducible first | exact HB.out | apply below_alloc | apply pw_below_drewN | apply below_drew1 | refine below_set ?_ GE861.out | refine below_set ?_ GE869.out | refine below_set ?_ GE875.out) | exact HB.out))) : w.heap.size ≤ gb882)); have n10_ := Aside0.mk ((by rw [hg]; exact Nat.ne_of_lt (blk_lt (g := gb861) (o := .cells #[.string a0_0, .slice A0_1 l0_1.length c0_1] 51 (0, 0)) (by (with_reducible repeat (first | refine blk_drewN ?_ _ | refine blk_drew ?_ | refine blk_alloc ?_ _)); exact BK861.out)) : gb861 ≠ gb882)); have n11_ := Aside0.mk ((by rw [hg]; exact Nat.ne_of_gt (blk_lt (g := gb861) (o := .cells #[.string a0_0, .slice A0_1 l0_1.length c0_1] 51 (0, 0)) (by (with_reducible repeat (first | refine blk_drewN ?_ _ | refine blk_drew ?_ | refine blk_alloc ?_ _)); exact BK861.out)) : gb882 ≠ gb861)); have n12_ := Aside0.mk ((by rw [hg]; exact Nat.ne_of_lt (blk_lt (g := gb869) (o := .cells #[.string t864, .slice Ao19 t865.length co19] 51 (0, 0)) (by (with_reducible repeat (first | refine blk_drewN ?_ _ | refine blk_drew ?_ | refine blk_alloc ?_ _)); exact BK869.out)) : gb869 ≠ gb882)); have n13_ := Aside0.mk ((by rw [hg]; exact Nat.ne_of_gt (blk_lt (g := gb869) (o := .cells #[.string t864, .slice Ao19 t865.length co19] 51 (0, 0)) (by (with_reducible repeat (first | refine blk_drewN ?_ _ | refine blk_drew ?_ | refine blk_alloc ?_ _)); exact BK869.out)) : gb882 ≠ gb869)); have n14_ := Aside0.mk ((by rw [hg]; exact Nat.ne_of_lt (blk_lt (g := gb875) (o := .cells #[.string t870, .slice Ao26 t871.length co26] 51 (0, 0)) (by (with_reducible repeat (first | refine blk_drewN ?_ _ | refine blk_drew ?_ | refine blk_alloc ?_ _)); exact BK875.out)) : gb875 ≠ gb882)); have n15_ := Aside0.mk ((by rw [hg]; exact Nat.ne_of_gt (blk_lt (g := gb875) (o := .cells #[.string t870, .slice Ao26 t871.length co26] 51 (0, 0)) (by (with_reducible repeat (first | refine blk_drewN ?_ _ | refine blk_drew ?_ | refine blk_alloc ?_ _)); exact BK875.out)) : gb882 ≠ gb875)); clear HO_870001; clear HO_876001; clear HO880; clear BK861; clear BK869; clear BK875; clear HB; have HO_870001 := n0_; have HO_876001 := n1_; have HO880 := n2_; have BK861 := n3_; have BK869 := n4_; have BK875 := n5_; have HB := n6_; have BK882 := n7_; have GW882 := n8_; have GE882 := n9_; have NB861_882 := n10_; have NB882_861 := n11_; have NB869_882 := n12_; have NB882_869 := n13_; have NB875_882 := n14_; have NB882_875 := n15_; clear n0_ n1_ n2_ n3_ n4_ n5_ n6_ n7_ n8_ n9_ n10_ n11_ n12_ n13_ n14_ n15_; clear hb hbox hg; have hnb56 := NB882_861.out; have hnc56 := NB861_882.out; have hnb57 := NB882_869.out; have hnc57 := NB869_882.out; have hnb58 := NB882_875.out; have hnc58 := NB875_882.out; have hcz59_0 : w55.cell? ⟨gb882, 0, none⟩ = some (.string (⟨#[]⟩ : ByteArray)) := (blk_cell BK882.out 0).trans rfl; have hcz59_1 : w55.cell? ⟨gb882, 1, none⟩ = some (.slice none 0 0) := (blk_cell BK882.out 1).trans rfl; have hfz59_0 := blk_frozen BK882.out 0; have hfz59_1 := blk_frozen BK882.out 1; obtain ⟨Ao60, co60, eo60⟩ := Kd.R_slice HO880.out; subst eo60; have hcz61_0 : w55.cell? ⟨gb861, 0, none⟩ = some (.string a0_0) := (blk_cell BK861.out 0).trans rfl; have hcz61_1 : w55.cell? ⟨gb861, 1, none⟩ = some (.slice A0_1 l0_1.length c0_1) := (blk_cell BK861.out 1).trans rfl; have hfz61_0 := blk_frozen BK861.out 0; have hfz61_1 := blk_frozen BK861.out 1) | (go_at_call 48; (with_reducible refine (bureauref04_Same.calls kj8 t877 _ _ t878 a0_0 _ _ l0_1 true _ ?side1 ?side2 ?side3 ?side4 A47.out).mono ?_); (case side1 => refine (Kd.R_reads' (e := 100) (base := w.heap.size) (ok := fun k_ => ((True ∧ some k_ ≠ (.slice Ao19 t865.length co19 : Value).ownBlock) ∧ some k_ ≠ (.slice Ao26 t871.length co26 : Value).ownBlock)) (n := t878.length) (c := co60) ?_).2.2; exact (by (with_reducible repeat (first | apply Kd.R_alloc | apply Kd.R_drewN | apply Kd.R_drew)); exact (Kd.R_mono (Kd.R_far (p := ⟨gb882, 1, none⟩) (Kd.R_far (p := ⟨gb882, 0, none⟩) (Kd.R_types HO880.out BK882.out (by decide)) (fun _ hk => hk.2) (.string t877)) (fun _ hk => hk.2) (.slice Ao60 t878.length co60)) (fun _ h_ => h_.1)))); (case side2 => exact (Kd.R_reads' HO880.out).2.1); (case side3 => exact Kd.C_below HR0_1.out (by repeat (first | (with_reducible first | exact HB.out | apply below_alloc | apply pw_below_drewN | apply below_drew1 | refine below_set ?_ GE861.out | refine below_set ?_ GE869.out | refine below_set ?_ GE875.out | refine below_set ?_ GE882.out) | exact HB.out))); (case side4 => exact HC0_1.out); rintro e w62 ⟨rfl, hb⟩; have n0_ := Aside0.mk (Kd.R_below (by (with_reducible repeat (first | apply Kd.R_alloc | apply Kd.R_drewN | apply Kd.R_drew)); exact (Kd.R_mono (Kd.R_far (p := ⟨gb882, 1, none⟩) (Kd.R_far (p := ⟨gb882, 0, none⟩) (Kd.R_types HO_870001.out BK882.out (by decide)) (fun _ hk => hk.2) (.string t877)) (fun _ hk => hk.2) (.slice Ao60 t878.length co60)) (fun _ h_ => h_.1))) hb); have n1_ := Aside0.mk (Kd.R_below (by (with_reducible repeat (first | apply Kd.R_alloc | apply Kd.R_drewN | apply Kd.R_drew)); exact (Kd.R_mono (Kd.R_far (p := ⟨gb882, 1, none⟩) (Kd.R_far (p := ⟨gb882, 0, none⟩) (Kd.R_types HO_876001.out BK882.out (by decide)) (fun _ hk => hk.2) (.string t877)) (fun _ hk => hk.2) (.slice Ao60 t878.length co60)) (fun _ h_ => h_.1))) hb); have n2_ := Aside0.mk (Kd.R_below (by (with_reducible repeat (first | apply Kd.R_alloc | apply Kd.R_drewN | apply Kd.R_drew)); exact (Kd.R_mono (Kd.R_far (p := ⟨gb882, 1, none⟩) (Kd.R_far (p := ⟨gb882, 0, none⟩) (Kd.R_types HO880.out BK882.out (by decide)) (fun _ hk => hk.2) (.string t877)) (fun _ hk => hk.2) (.slice Ao60 t878.length co60)) (fun _ h_ => h_.1))) hb); have n3_ := Aside0.mk (blk_below (g := gb861) (o := .cells #[.string a0_0, .slice A0_1 l0_1.length c0_1] 51 (0, 0)) (by (with_reducible repeat (first | refine blk_drewN ?_ _ | refine blk_drew ?_ | refine blk_alloc ?_ _)); refine blk_far ?_ NB861_882.out _; (with_reducible repeat (first | refine blk_drewN ?_ _ | refine blk_drew ?_ | refine blk_alloc ?_ _)); refine blk_far ?_ NB861_882.out _; (with_reducible repeat (first | refine blk_drewN ?_ _ | refine blk_drew ?_ | refine blk_alloc ?_ _)); exact BK861.out) hb); have n4_ := Aside0.mk (blk_below (g := gb869) (o := .cells #[.string t864, .slice Ao19 t865.length co19] 51 (0, 0)) (by (with_reducible repeat (first | refine blk_drewN ?_ _ | refine blk_drew ?_ | refine blk_alloc ?_ _)); refine blk_far ?_ NB869_882.out _; (with_reducible repeat (first | refine blk_drewN ?_ _ | refine blk_drew ?_ | refine blk_alloc ?_ _)); refine blk_far ?_ NB869_882.out _; (with_reducible repeat (first | refine blk_drewN ?_ _ | refine blk_drew ?_ | refine blk_alloc ?_ _)); exact BK869.out) hb); have n5_ := Aside0.mk (blk_below (g := gb875) (o := .cells #[.string t870, .slice Ao26 t871.length co26] 51 (0, 0)) (by (with_reducible repeat (first | refine blk_drewN ?_ _ | refine blk_drew ?_ | refine blk_alloc ?_ _)); refine blk_far ?_ NB875_882.out _; (with_reducible repeat (first | refine blk_drewN ?_ _ | refine blk_drew ?_ | refine blk_alloc ?_ _)); refine blk_far ?_ NB875_882.out _; (with_reducible repeat (first | refine blk_drewN ?_ _ | refine blk_drew ?_ | refine blk_alloc ?_ _)); exact BK875.out) hb); have n6_ := Aside0.mk (blk_below (g := gb882) (o := .cells #[.string t877, .slice Ao60 t878.length co60] 51 (0, 0)) (by (with_reducible repeat (first | refine blk_drewN ?_ _ | refine blk_drew ?_ | refine blk_alloc ?_ _)); refine blk_put (cs := #[.string t877, .slice none 0 0]) ?_ 1 _ rfl; (with_reducible repeat (first | refine blk_drewN ?_ _ | refine blk_drew ?_ | refine blk_alloc ?_ _)); refine blk_put (cs := #[.string (⟨#[]⟩ : ByteArray), .slice none 0 0]) ?_ 0 _ rfl; (with_reducible repeat (first | refine blk_drewN ?_ _ | refine blk_drew ?_ | refine blk_alloc ?_ _)); exact BK882.out) hb); have n7_ := Aside0.mk (below_step (by repeat (first | (with_reducible first | exact HB.out | apply below_alloc | apply pw_below_drewN | apply below_drew1 | refine below_set ?_ GE861.out | refine below_set ?_ GE869.out | refine below_set ?_ GE875.out | refine below_set ?_ GE882.out) | exact HB.out)) hb); clear HO_870001; clear HO_876001; clear HO880; clear BK861; clear BK869; clear BK875; clear BK882; clear HB; have HO_870001 := n0_; have HO_876001 := n1_; have HO880 := n2_; have BK861 := n3_; have BK869 := n4_; have BK875 := n5_; have BK882 := n6_; have HB := n7_; clear n0_ n1_ n2_ n3_ n4_ n5_ n6_ n7_; (try clear hb); (try clear hb2); (try clear hk); (try clear hi); have hcz63_0 : w62.cell? ⟨gb869, 0, none⟩ = some (.string t864) := (blk_cell BK869.out 0).trans rfl; have hcz63_1 : w62.cell? ⟨gb869, 1, none⟩ = some (.slice Ao19 t865.length co19) := (blk_cell BK869.out 1).trans rfl; have hfz63_0 := blk_frozen BK869.out 0; have hfz63_1 := blk_frozen BK869.out 1))
                go_ret
                exact ⟨by first | rfl | (simp [errW_none, errW_some] <;> rfl) | (simp [*, errW_none, errW_some] <;> rfl), by repeat (first | (with_reducible first | exact HB.out | apply below_alloc | apply pw_below_drewN | apply below_drew1 | refine below_set ?_ GE861.out | refine below_set ?_ GE869.out | refine below_set ?_ GE875.out | refine below_set ?_ GE882.out) | exact HB.out)⟩
              · replace c48 := Bool.eq_false_iff.mpr c48
                subst c48
                have H1 : (some false) = some r := by rw [if_neg (show ¬ (false = true) by decide)] at H; exact H
                clear H
                have H := H1
                clear H1
                obtain rfl := Option.some.inj H
                have hnb64 := NB869_861.out
                have hnc64 := NB861_869.out
                have hnb65 := NB869_875.out
                have hnc65 := NB875_869.out
                have hcz66_0 : wc.cell? ⟨gb869, 0, none⟩ = some (.string t864) := (blk_cell BK869.out 0).trans rfl
                have hcz66_1 : wc.cell? ⟨gb869, 1, none⟩ = some (.slice Ao19 t865.length co19) := (blk_cell BK869.out 1).trans rfl
                have hfz66_0 := blk_frozen BK869.out 0
                have hfz66_1 := blk_frozen BK869.out 1
                have hnb67 := NB875_861.out
                have hnc67 := NB861_875.out
                have hcz68_0 : wc.cell? ⟨gb875, 0, none⟩ = some (.string t870) := (blk_cell BK875.out 0).trans rfl
                have hcz68_1 : wc.cell? ⟨gb875, 1, none⟩ = some (.slice Ao26 t871.length co26) := (blk_cell BK875.out 1).trans rfl
                have hfz68_0 := blk_frozen BK875.out 0
                have hfz68_1 := blk_frozen BK875.out 1
                go_wp2_with (first | ((with_reducible refine gate_callee (f := 75) rfl ?_); refine goesL_ (some 54) rfl rfl Try.func75 (by kernel_rfl) rfl #[.agg #[.string t864, .slice Ao19 t865.length co19], .agg #[.string t870, .slice Ao26 t871.length co26]] rfl (by (try simp only [List.map_toArray, List.map_cons, List.map_nil]); first | done | rfl | (simp only [List.length_drop, List.length_take]; rfl)) ?_; (with_reducible refine (strip_Cat.calls kj8 t864 _ _ t865 t870 _ _ t871 t877 t878 t881 _ ?side1 ?side2 ?side3 ?side4 A45.out).mono ?_); (case side1 => repeat (first | exact (Kd.R_reads' HO_870001.out).2.2 | (with_reducible refine Kd.C_alloc ?_ _) | (with_reducible refine Kd.C_drewN ?_ _) | (with_reducible refine Kd.C_drew ?_))); (case side2 => exact (Kd.R_reads' HO_870001.out).2.1); (case side3 => repeat (first | exact (Kd.R_reads' HO_876001.out).2.2 | (with_reducible refine Kd.C_alloc ?_ _) | (with_reducible refine Kd.C_drewN ?_ _) | (with_reducible refine Kd.C_drew ?_))); (case side4 => exact (Kd.R_reads' HO_876001.out).2.1); rintro e w69 ⟨v879, rfl, ho0, hb⟩; refine ⟨_, rfl, ?_⟩; have n0_ := Aside0.mk (Kd.R_elder' (by (with_reducible repeat (first | apply Kd.R_alloc | apply Kd.R_drewN | apply Kd.R_drew)); exact HO_870001.out) (Kd.R_base ho0) hb); have n1_ := Aside0.mk (Kd.R_elder' (by (with_reducible repeat (first | apply Kd.R_alloc | apply Kd.R_drewN | apply Kd.R_drew)); exact HO_876001.out) (Kd.R_base ho0) hb); have n2_ := Aside0.mk (Kd.R_lower (Kd.R_new' (Kd.R_new' ho0 (Kd.R_lt (by (with_reducible repeat (first | apply Kd.R_alloc | apply Kd.R_drewN | apply Kd.R_drew)); exact HO_870001.out))) (Kd.R_lt (by (with_reducible repeat (first | apply Kd.R_alloc | apply Kd.R_drewN | apply Kd.R_drew)); exact HO_876001.out))) (below_size (by repeat (first | (with_reducible first | exact HB.out | apply below_alloc | apply pw_below_drewN | apply below_drew1 | refine below_set ?_ GE861.out | refine below_set ?_ GE869.out | refine below_set ?_ GE875.out) | exact HB.out)))); have n3_ := Aside0.mk (blk_below (g := gb861) (o := .cells #[.string a0_0, .slice A0_1 l0_1.length c0_1] 51 (0, 0)) (by (with_reducible repeat (first | refine blk_drewN ?_ _ | refine blk_drew ?_ | refine blk_alloc ?_ _)); exact BK861.out) hb); have n4_ := Aside0.mk (blk_below (g := gb869) (o := .cells #[.string t864, .slice Ao19 t865.length co19] 51 (0, 0)) (by (with_reducible repeat (first | refine blk_drewN ?_ _ | refine blk_drew ?_ | refine blk_alloc ?_ _)); exact BK869.out) hb); have n5_ := Aside0.mk (blk_below (g := gb875) (o := .cells #[.string t870, .slice Ao26 t871.length co26] 51 (0, 0)) (by (with_reducible repeat (first | refine blk_drewN ?_ _ | refine blk_drew ?_ | refine blk_alloc ?_ _)); exact BK875.out) hb); have n6_ := Aside0.mk (below_step (by repeat (first | (with_reducible first | exact HB.out | apply below_alloc | apply pw_below_drewN | apply below_drew1 | refine below_set ?_ GE861.out | refine below_set ?_ GE869.out | refine below_set ?_ GE875.out) | exact HB.out)) hb); clear HO_870001; clear HO_876001; clear BK861; clear BK869; clear BK875; clear HB; have HO_870001 := n0_; have HO_876001 := n1_; have HO880 := n2_; have BK861 := n3_; have BK869 := n4_; have BK875 := n5_; have HB := n6_; clear n0_ n1_ n2_ n3_ n4_ n5_ n6_; (try clear hb); (try clear hb2); (try clear hk); (try clear hi); (try clear ho0)) | ((with_reducible refine gate_dst (N := 9) rfl ?_); (try (refine gate_guard (by rfl) ?_; dsimp only)); refine box_event ?hg (N := 9) ?hd (cs := #[.string (⟨#[]⟩ : ByteArray), .slice none 0 0]) (t := 51) ?hr ?_; (case hd => rfl); (case hg => rfl); (case hr => first | (go_simp; done) | (go_simp; rfl)); intro gb882 hg w70 hbox hb; have n0_ := Aside0.mk (Kd.R_below (by (with_reducible repeat (first | apply Kd.R_alloc | apply Kd.R_drewN | apply Kd.R_drew)); exact HO_870001.out) hb); have n1_ := Aside0.mk (Kd.R_below (by (with_reducible repeat (first | apply Kd.R_alloc | apply Kd.R_drewN | apply Kd.R_drew)); exact HO_876001.out) hb); have n2_ := Aside0.mk (Kd.R_below (by (with_reducible repeat (first | apply Kd.R_alloc | apply Kd.R_drewN | apply Kd.R_drew)); exact HO880.out) hb); have n3_ := Aside0.mk (blk_below (g := gb861) (o := .cells #[.string a0_0, .slice A0_1 l0_1.length c0_1] 51 (0, 0)) (by (with_reducible repeat (first | refine blk_drewN ?_ _ | refine blk_drew ?_ | refine blk_alloc ?_ _)); exact BK861.out) hb); have n4_ := Aside0.mk (blk_below (g := gb869) (o := .cells #[.string t864, .slice Ao19 t865.length co19] 51 (0, 0)) (by (with_reducible repeat (first | refine blk_drewN ?_ _ | refine blk_drew ?_ | refine blk_alloc ?_ _)); exact BK869.out) hb); have n5_ := Aside0.mk (blk_below (g := gb875) (o := .cells #[.string t870, .slice Ao26 t871.length co26] 51 (0, 0)) (by (with_reducible repeat (first | refine blk_drewN ?_ _ | refine blk_drew ?_ | refine blk_alloc ?_ _)); exact BK875.out) hb); have n6_ := Aside0.mk (below_step (by repeat (first | (with_reducible first | exact HB.out | apply below_alloc | apply pw_below_drewN | apply below_drew1 | refine below_set ?_ GE861.out | refine below_set ?_ GE869.out | refine below_set ?_ GE875.out) | exact HB.out)) hb); have n7_ := Aside0.mk (hbox); have n8_ := Aside0.mk ((by rw [hg]; exact (below_size (by repeat (first | (with_reducible first | exact HB.out | apply below_alloc | apply pw_below_drewN | apply below_drew1 | refine below_set ?_ GE861.out | refine below_set ?_ GE869.out | refine below_set ?_ GE875.out) | exact HB.out))) : w.heap.size ≤ gb882)); have n9_ := Aside0.mk ((by rw [hg]; exact (below_size (by repeat (first | (with_reducible first | exact HB.out | apply below_alloc | apply pw_below_drewN | apply below_drew1 | refine below_set ?_ GE861.out | refine below_set ?_ GE869.out | refine below_set ?_ GE875.out) | exact HB.out))) : w.heap.size ≤ gb882)); have n10_ := Aside0.mk ((by rw [hg]; exact Nat.ne_of_lt (blk_lt (g := gb861) (o := .cells #[.string a0_0, .slice A0_1 l0_1.length c0_1] 51 (0, 0)) (by (with_reducible repeat (first | refine blk_drewN ?_ _ | refine blk_drew ?_ | refine blk_alloc ?_ _)); exact BK861.out)) : gb861 ≠ gb882)); have n11_ := Aside0.mk ((by rw [hg]; exact Nat.ne_of_gt (blk_lt (g := gb861) (o := .cells #[.string a0_0, .slice A0_1 l0_1.length c0_1] 51 (0, 0)) (by (with_reducible repeat (first | refine blk_drewN ?_ _ | refine blk_drew ?_ | refine blk_alloc ?_ _)); exact BK861.out)) : gb882 ≠ gb861)); have n12_ := Aside0.mk ((by rw [hg]; exact Nat.ne_of_lt (blk_lt (g := gb869) (o := .cells #[.string t864, .slice Ao19 t865.length co19] 51 (0, 0)) (by (with_reducible repeat (first | refine blk_drewN ?_ _ | refine blk_drew ?_ | refine blk_alloc ?_ _)); exact BK869.out)) : gb869 ≠ gb882)); have n13_ := Aside0.mk ((by rw [hg]; exact Nat.ne_of_gt (blk_lt (g := gb869) (o := .cells #[.string t864, .slice Ao19 t865.length co19] 51 (0, 0)) (by (with_reducible repeat (first | refine blk_drewN ?_ _ | refine blk_drew ?_ | refine blk_alloc ?_ _)); exact BK869.out)) : gb882 ≠ gb869)); have n14_ := Aside0.mk ((by rw [hg]; exact Nat.ne_of_lt (blk_lt (g := gb875) (o := .cells #[.string t870, .slice Ao26 t871.length co26] 51 (0, 0)) (by (with_reducible repeat (first | refine blk_drewN ?_ _ | refine blk_drew ?_ | refine blk_alloc ?_ _)); exact BK875.out)) : gb875 ≠ gb882)); have n15_ := Aside0.mk ((by rw [hg]; exact Nat.ne_of_gt (blk_lt (g := gb875) (o := .cells #[.string t870, .slice Ao26 t871.length co26] 51 (0, 0)) (by (with_reducible repeat (first | refine blk_drewN ?_ _ | refine blk_drew ?_ | refine blk_alloc ?_ _)); exact BK875.out)) : gb882 ≠ gb875)); clear HO_870001; clear HO_876001; clear HO880; clear BK861; clear BK869; clear BK875; clear HB; have HO_870001 := n0_; have HO_876001 := n1_; have HO880 := n2_; have BK861 := n3_; have BK869 := n4_; have BK875 := n5_; have HB := n6_; have BK882 := n7_; have GW882 := n8_; have GE882 := n9_; have NB861_882 := n10_; have NB882_861 := n11_; have NB869_882 := n12_; have NB882_869 := n13_; have NB875_882 := n14_; have NB882_875 := n15_; clear n0_ n1_ n2_ n3_ n4_ n5_ n6_ n7_ n8_ n9_ n10_ n11_ n12_ n13_ n14_ n15_; clear hb hbox hg; have hnb71 := NB882_861.out; have hnc71 := NB861_882.out; have hnb72 := NB882_869.out; have hnc72 := NB869_882.out; have hnb73 := NB882_875.out; have hnc73 := NB875_882.out; have hcz74_0 : w70.cell? ⟨gb882, 0, none⟩ = some (.string (⟨#[]⟩ : ByteArray)) := (blk_cell BK882.out 0).trans rfl; have hcz74_1 : w70.cell? ⟨gb882, 1, none⟩ = some (.slice none 0 0) := (blk_cell BK882.out 1).trans rfl; have hfz74_0 := blk_frozen BK882.out 0; have hfz74_1 := blk_frozen BK882.out 1; obtain ⟨Ao75, co75, eo75⟩ := Kd.R_slice HO880.out; subst eo75; have hcz76_0 : w70.cell? ⟨gb861, 0, none⟩ = some (.string a0_0) := (blk_cell BK861.out 0).trans rfl; have hcz76_1 : w70.cell? ⟨gb861, 1, none⟩ = some (.slice A0_1 l0_1.length c0_1) := (blk_cell BK861.out 1).trans rfl; have hfz76_0 := blk_frozen BK861.out 0; have hfz76_1 := blk_frozen BK861.out 1) | (go_at_call 48; (with_reducible refine (bureauref04_Same.calls kj8 t877 _ _ t878 a0_0 _ _ l0_1 false _ ?side1 ?side2 ?side3 ?side4 A47.out).mono ?_); (case side1 => refine (Kd.R_reads' (e := 100) (base := w.heap.size) (ok := fun k_ => ((True ∧ some k_ ≠ (.slice Ao19 t865.length co19 : Value).ownBlock) ∧ some k_ ≠ (.slice Ao26 t871.length co26 : Value).ownBlock)) (n := t878.length) (c := co75) ?_).2.2; exact (by (with_reducible repeat (first | apply Kd.R_alloc | apply Kd.R_drewN | apply Kd.R_drew)); exact (Kd.R_mono (Kd.R_far (p := ⟨gb882, 1, none⟩) (Kd.R_far (p := ⟨gb882, 0, none⟩) (Kd.R_types HO880.out BK882.out (by decide)) (fun _ hk => hk.2) (.string t877)) (fun _ hk => hk.2) (.slice Ao75 t878.length co75)) (fun _ h_ => h_.1)))); (case side2 => exact (Kd.R_reads' HO880.out).2.1); (case side3 => exact Kd.C_below HR0_1.out (by repeat (first | (with_reducible first | exact HB.out | apply below_alloc | apply pw_below_drewN | apply below_drew1 | refine below_set ?_ GE861.out | refine below_set ?_ GE869.out | refine below_set ?_ GE875.out | refine below_set ?_ GE882.out) | exact HB.out))); (case side4 => exact HC0_1.out); rintro e w77 ⟨rfl, hb⟩; have n0_ := Aside0.mk (Kd.R_below (by (with_reducible repeat (first | apply Kd.R_alloc | apply Kd.R_drewN | apply Kd.R_drew)); exact (Kd.R_mono (Kd.R_far (p := ⟨gb882, 1, none⟩) (Kd.R_far (p := ⟨gb882, 0, none⟩) (Kd.R_types HO_870001.out BK882.out (by decide)) (fun _ hk => hk.2) (.string t877)) (fun _ hk => hk.2) (.slice Ao75 t878.length co75)) (fun _ h_ => h_.1))) hb); have n1_ := Aside0.mk (Kd.R_below (by (with_reducible repeat (first | apply Kd.R_alloc | apply Kd.R_drewN | apply Kd.R_drew)); exact (Kd.R_mono (Kd.R_far (p := ⟨gb882, 1, none⟩) (Kd.R_far (p := ⟨gb882, 0, none⟩) (Kd.R_types HO_876001.out BK882.out (by decide)) (fun _ hk => hk.2) (.string t877)) (fun _ hk => hk.2) (.slice Ao75 t878.length co75)) (fun _ h_ => h_.1))) hb); have n2_ := Aside0.mk (Kd.R_below (by (with_reducible repeat (first | apply Kd.R_alloc | apply Kd.R_drewN | apply Kd.R_drew)); exact (Kd.R_mono (Kd.R_far (p := ⟨gb882, 1, none⟩) (Kd.R_far (p := ⟨gb882, 0, none⟩) (Kd.R_types HO880.out BK882.out (by decide)) (fun _ hk => hk.2) (.string t877)) (fun _ hk => hk.2) (.slice Ao75 t878.length co75)) (fun _ h_ => h_.1))) hb); have n3_ := Aside0.mk (blk_below (g := gb861) (o := .cells #[.string a0_0, .slice A0_1 l0_1.length c0_1] 51 (0, 0)) (by (with_reducible repeat (first | refine blk_drewN ?_ _ | refine blk_drew ?_ | refine blk_alloc ?_ _)); refine blk_far ?_ NB861_882.out _; (with_reducible repeat (first | refine blk_drewN ?_ _ | refine blk_drew ?_ | refine blk_alloc ?_ _)); refine blk_far ?_ NB861_882.out _; (with_reducible repeat (first | refine blk_drewN ?_ _ | refine blk_drew ?_ | refine blk_alloc ?_ _)); exact BK861.out) hb); have n4_ := Aside0.mk (blk_below (g := gb869) (o := .cells #[.string t864, .slice Ao19 t865.length co19] 51 (0, 0)) (by (with_reducible repeat (first | refine blk_drewN ?_ _ | refine blk_drew ?_ | refine blk_alloc ?_ _)); refine blk_far ?_ NB869_882.out _; (with_reducible repeat (first | refine blk_drewN ?_ _ | refine blk_drew ?_ | refine blk_alloc ?_ _)); refine blk_far ?_ NB869_882.out _; (with_reducible repeat (first | refine blk_drewN ?_ _ | refine blk_drew ?_ | refine blk_alloc ?_ _)); exact BK869.out) hb); have n5_ := Aside0.mk (blk_below (g := gb875) (o := .cells #[.string t870, .slice Ao26 t871.length co26] 51 (0, 0)) (by (with_reducible repeat (first | refine blk_drewN ?_ _ | refine blk_drew ?_ | refine blk_alloc ?_ _)); refine blk_far ?_ NB875_882.out _; (with_reducible repeat (first | refine blk_drewN ?_ _ | refine blk_drew ?_ | refine blk_alloc ?_ _)); refine blk_far ?_ NB875_882.out _; (with_reducible repeat (first | refine blk_drewN ?_ _ | refine blk_drew ?_ | refine blk_alloc ?_ _)); exact BK875.out) hb); have n6_ := Aside0.mk (blk_below (g := gb882) (o := .cells #[.string t877, .slice Ao75 t878.length co75] 51 (0, 0)) (by (with_reducible repeat (first | refine blk_drewN ?_ _ | refine blk_drew ?_ | refine blk_alloc ?_ _)); refine blk_put (cs := #[.string t877, .slice none 0 0]) ?_ 1 _ rfl; (with_reducible repeat (first | refine blk_drewN ?_ _ | refine blk_drew ?_ | refine blk_alloc ?_ _)); refine blk_put (cs := #[.string (⟨#[]⟩ : ByteArray), .slice none 0 0]) ?_ 0 _ rfl; (with_reducible repeat (first | refine blk_drewN ?_ _ | refine blk_drew ?_ | refine blk_alloc ?_ _)); exact BK882.out) hb); have n7_ := Aside0.mk (below_step (by repeat (first | (with_reducible first | exact HB.out | apply below_alloc | apply pw_below_drewN | apply below_drew1 | refine below_set ?_ GE861.out | refine below_set ?_ GE869.out | refine below_set ?_ GE875.out | refine below_set ?_ GE882.out) | exact HB.out)) hb); clear HO_870001; clear HO_876001; clear HO880; clear BK861; clear BK869; clear BK875; clear BK882; clear HB; have HO_870001 := n0_; have HO_876001 := n1_; have HO880 := n2_; have BK861 := n3_; have BK869 := n4_; have BK875 := n5_; have BK882 := n6_; have HB := n7_; clear n0_ n1_ n2_ n3_ n4_ n5_ n6_ n7_; (try clear hb); (try clear hb2); (try clear hk); (try clear hi)))
                go_ret
                exact ⟨by first | rfl | (simp [errW_none, errW_some] <;> rfl) | (simp [*, errW_none, errW_some] <;> rfl), by repeat (first | (with_reducible first | exact HB.out | apply below_alloc | apply pw_below_drewN | apply below_drew1 | refine below_set ?_ GE861.out | refine below_set ?_ GE869.out | refine below_set ?_ GE875.out | refine below_set ?_ GE882.out) | exact HB.out)⟩
            · rw [if_neg c46] at H
              have c46b0 : (t881 == 0) = false := beq_eq_false_iff_ne.mpr c46
              have c46b1 : (t881 != 0) = true := bne_iff_ne.mpr c46
              obtain rfl := Option.some.inj H
              have hnb78 := NB869_861.out
              have hnc78 := NB861_869.out
              have hnb79 := NB869_875.out
              have hnc79 := NB875_869.out
              have hcz80_0 : wc.cell? ⟨gb869, 0, none⟩ = some (.string t864) := (blk_cell BK869.out 0).trans rfl
              have hcz80_1 : wc.cell? ⟨gb869, 1, none⟩ = some (.slice Ao19 t865.length co19) := (blk_cell BK869.out 1).trans rfl
              have hfz80_0 := blk_frozen BK869.out 0
              have hfz80_1 := blk_frozen BK869.out 1
              have hnb81 := NB875_861.out
              have hnc81 := NB861_875.out
              have hcz82_0 : wc.cell? ⟨gb875, 0, none⟩ = some (.string t870) := (blk_cell BK875.out 0).trans rfl
              have hcz82_1 : wc.cell? ⟨gb875, 1, none⟩ = some (.slice Ao26 t871.length co26) := (blk_cell BK875.out 1).trans rfl
              have hfz82_0 := blk_frozen BK875.out 0
              have hfz82_1 := blk_frozen BK875.out 1
              go_wp2_with (first | ((with_reducible refine gate_callee (f := 75) rfl ?_); refine goesL_ (some 54) rfl rfl Try.func75 (by kernel_rfl) rfl #[.agg #[.string t864, .slice Ao19 t865.length co19], .agg #[.string t870, .slice Ao26 t871.length co26]] rfl (by (try simp only [List.map_toArray, List.map_cons, List.map_nil]); first | done | rfl | (simp only [List.length_drop, List.length_take]; rfl)) ?_; (with_reducible refine (strip_Cat.calls kj8 t864 _ _ t865 t870 _ _ t871 t877 t878 t881 _ ?side1 ?side2 ?side3 ?side4 A45.out).mono ?_); (case side1 => repeat (first | exact (Kd.R_reads' HO_870001.out).2.2 | (with_reducible refine Kd.C_alloc ?_ _) | (with_reducible refine Kd.C_drewN ?_ _) | (with_reducible refine Kd.C_drew ?_))); (case side2 => exact (Kd.R_reads' HO_870001.out).2.1); (case side3 => repeat (first | exact (Kd.R_reads' HO_876001.out).2.2 | (with_reducible refine Kd.C_alloc ?_ _) | (with_reducible refine Kd.C_drewN ?_ _) | (with_reducible refine Kd.C_drew ?_))); (case side4 => exact (Kd.R_reads' HO_876001.out).2.1); rintro e w83 ⟨v879, rfl, ho0, hb⟩; refine ⟨_, rfl, ?_⟩; have n0_ := Aside0.mk (Kd.R_elder' (by (with_reducible repeat (first | apply Kd.R_alloc | apply Kd.R_drewN | apply Kd.R_drew)); exact HO_870001.out) (Kd.R_base ho0) hb); have n1_ := Aside0.mk (Kd.R_elder' (by (with_reducible repeat (first | apply Kd.R_alloc | apply Kd.R_drewN | apply Kd.R_drew)); exact HO_876001.out) (Kd.R_base ho0) hb); have n2_ := Aside0.mk (Kd.R_lower (Kd.R_new' (Kd.R_new' ho0 (Kd.R_lt (by (with_reducible repeat (first | apply Kd.R_alloc | apply Kd.R_drewN | apply Kd.R_drew)); exact HO_870001.out))) (Kd.R_lt (by (with_reducible repeat (first | apply Kd.R_alloc | apply Kd.R_drewN | apply Kd.R_drew)); exact HO_876001.out))) (below_size (by repeat (first | (with_reducible first | exact HB.out | apply below_alloc | apply pw_below_drewN | apply below_drew1 | refine below_set ?_ GE861.out | refine below_set ?_ GE869.out | refine below_set ?_ GE875.out) | exact HB.out)))); have n3_ := Aside0.mk (blk_below (g := gb861) (o := .cells #[.string a0_0, .slice A0_1 l0_1.length c0_1] 51 (0, 0)) (by (with_reducible repeat (first | refine blk_drewN ?_ _ | refine blk_drew ?_ | refine blk_alloc ?_ _)); exact BK861.out) hb); have n4_ := Aside0.mk (blk_below (g := gb869) (o := .cells #[.string t864, .slice Ao19 t865.length co19] 51 (0, 0)) (by (with_reducible repeat (first | refine blk_drewN ?_ _ | refine blk_drew ?_ | refine blk_alloc ?_ _)); exact BK869.out) hb); have n5_ := Aside0.mk (blk_below (g := gb875) (o := .cells #[.string t870, .slice Ao26 t871.length co26] 51 (0, 0)) (by (with_reducible repeat (first | refine blk_drewN ?_ _ | refine blk_drew ?_ | refine blk_alloc ?_ _)); exact BK875.out) hb); have n6_ := Aside0.mk (below_step (by repeat (first | (with_reducible first | exact HB.out | apply below_alloc | apply pw_below_drewN | apply below_drew1 | refine below_set ?_ GE861.out | refine below_set ?_ GE869.out | refine below_set ?_ GE875.out) | exact HB.out)) hb); clear HO_870001; clear HO_876001; clear BK861; clear BK869; clear BK875; clear HB; have HO_870001 := n0_; have HO_876001 := n1_; have HO880 := n2_; have BK861 := n3_; have BK869 := n4_; have BK875 := n5_; have HB := n6_; clear n0_ n1_ n2_ n3_ n4_ n5_ n6_; (try clear hb); (try clear hb2); (try clear hk); (try clear hi); (try clear ho0)) | ((with_reducible refine gate_dst (N := 9) rfl ?_); (try (refine gate_guard (by rfl) ?_; dsimp only)); refine box_event ?hg (N := 9) ?hd (cs := #[.string (⟨#[]⟩ : ByteArray), .slice none 0 0]) (t := 51) ?hr ?_; (case hd => rfl); (case hg => rfl); (case hr => first | (go_simp; done) | (go_simp; rfl)); intro gb882 hg w84 hbox hb; have n0_ := Aside0.mk (Kd.R_below (by (with_reducible repeat (first | apply Kd.R_alloc | apply Kd.R_drewN | apply Kd.R_drew)); exact HO_870001.out) hb); have n1_ := Aside0.mk (Kd.R_below (by (with_reducible repeat (first | apply Kd.R_alloc | apply Kd.R_drewN | apply Kd.R_drew)); exact HO_876001.out) hb); have n2_ := Aside0.mk (Kd.R_below (by (with_reducible repeat (first | apply Kd.R_alloc | apply Kd.R_drewN | apply Kd.R_drew)); exact HO880.out) hb); have n3_ := Aside0.mk (blk_below (g := gb861) (o := .cells #[.string a0_0, .slice A0_1 l0_1.length c0_1] 51 (0, 0)) (by (with_reducible repeat (first | refine blk_drewN ?_ _ | refine blk_drew ?_ | refine blk_alloc ?_ _)); exact BK861.out) hb); have n4_ := Aside0.mk (blk_below (g := gb869) (o := .cells #[.string t864, .slice Ao19 t865.length co19] 51 (0, 0)) (by (with_reducible repeat (first | refine blk_drewN ?_ _ | refine blk_drew ?_ | refine blk_alloc ?_ _)); exact BK869.out) hb); have n5_ := Aside0.mk (blk_below (g := gb875) (o := .cells #[.string t870, .slice Ao26 t871.length co26] 51 (0, 0)) (by (with_reducible repeat (first | refine blk_drewN ?_ _ | refine blk_drew ?_ | refine blk_alloc ?_ _)); exact BK875.out) hb); have n6_ := Aside0.mk (below_step (by repeat (first | (with_reducible first | exact HB.out | apply below_alloc | apply pw_below_drewN | apply below_drew1 | refine below_set ?_ GE861.out | refine below_set ?_ GE869.out | refine below_set ?_ GE875.out) | exact HB.out)) hb); have n7_ := Aside0.mk (hbox); have n8_ := Aside0.mk ((by rw [hg]; exact (below_size (by repeat (first | (with_reducible first | exact HB.out | apply below_alloc | apply pw_below_drewN | apply below_drew1 | refine below_set ?_ GE861.out | refine below_set ?_ GE869.out | refine below_set ?_ GE875.out) | exact HB.out))) : w.heap.size ≤ gb882)); have n9_ := Aside0.mk ((by rw [hg]; exact (below_size (by repeat (first | (with_reducible first | exact HB.out | apply below_alloc | apply pw_below_drewN | apply below_drew1 | refine below_set ?_ GE861.out | refine below_set ?_ GE869.out | refine below_set ?_ GE875.out) | exact HB.out))) : w.heap.size ≤ gb882)); have n10_ := Aside0.mk ((by rw [hg]; exact Nat.ne_of_lt (blk_lt (g := gb861) (o := .cells #[.string a0_0, .slice A0_1 l0_1.length c0_1] 51 (0, 0)) (by (with_reducible repeat (first | refine blk_drewN ?_ _ | refine blk_drew ?_ | refine blk_alloc ?_ _)); exact BK861.out)) : gb861 ≠ gb882)); have n11_ := Aside0.mk ((by rw [hg]; exact Nat.ne_of_gt (blk_lt (g := gb861) (o := .cells #[.string a0_0, .slice A0_1 l0_1.length c0_1] 51 (0, 0)) (by (with_reducible repeat (first | refine blk_drewN ?_ _ | refine blk_drew ?_ | refine blk_alloc ?_ _)); exact BK861.out)) : gb882 ≠ gb861)); have n12_ := Aside0.mk ((by rw [hg]; exact Nat.ne_of_lt (blk_lt (g := gb869) (o := .cells #[.string t864, .slice Ao19 t865.length co19] 51 (0, 0)) (by (with_reducible repeat (first | refine blk_drewN ?_ _ | refine blk_drew ?_ | refine blk_alloc ?_ _)); exact BK869.out)) : gb869 ≠ gb882)); have n13_ := Aside0.mk ((by rw [hg]; exact Nat.ne_of_gt (blk_lt (g := gb869) (o := .cells #[.string t864, .slice Ao19 t865.length co19] 51 (0, 0)) (by (with_reducible repeat (first | refine blk_drewN ?_ _ | refine blk_drew ?_ | refine blk_alloc ?_ _)); exact BK869.out)) : gb882 ≠ gb869)); have n14_ := Aside0.mk ((by rw [hg]; exact Nat.ne_of_lt (blk_lt (g := gb875) (o := .cells #[.string t870, .slice Ao26 t871.length co26] 51 (0, 0)) (by (with_reducible repeat (first | refine blk_drewN ?_ _ | refine blk_drew ?_ | refine blk_alloc ?_ _)); exact BK875.out)) : gb875 ≠ gb882)); have n15_ := Aside0.mk ((by rw [hg]; exact Nat.ne_of_gt (blk_lt (g := gb875) (o := .cells #[.string t870, .slice Ao26 t871.length co26] 51 (0, 0)) (by (with_reducible repeat (first | refine blk_drewN ?_ _ | refine blk_drew ?_ | refine blk_alloc ?_ _)); exact BK875.out)) : gb882 ≠ gb875)); clear HO_870001; clear HO_876001; clear HO880; clear BK861; clear BK869; clear BK875; clear HB; have HO_870001 := n0_; have HO_876001 := n1_; have HO880 := n2_; have BK861 := n3_; have BK869 := n4_; have BK875 := n5_; have HB := n6_; have BK882 := n7_; have GW882 := n8_; have GE882 := n9_; have NB861_882 := n10_; have NB882_861 := n11_; have NB869_882 := n12_; have NB882_869 := n13_; have NB875_882 := n14_; have NB882_875 := n15_; clear n0_ n1_ n2_ n3_ n4_ n5_ n6_ n7_ n8_ n9_ n10_ n11_ n12_ n13_ n14_ n15_; clear hb hbox hg; have hnb85 := NB882_861.out; have hnc85 := NB861_882.out; have hnb86 := NB882_869.out; have hnc86 := NB869_882.out; have hnb87 := NB882_875.out; have hnc87 := NB875_882.out; have hcz88_0 : w84.cell? ⟨gb882, 0, none⟩ = some (.string (⟨#[]⟩ : ByteArray)) := (blk_cell BK882.out 0).trans rfl; have hcz88_1 : w84.cell? ⟨gb882, 1, none⟩ = some (.slice none 0 0) := (blk_cell BK882.out 1).trans rfl; have hfz88_0 := blk_frozen BK882.out 0; have hfz88_1 := blk_frozen BK882.out 1; obtain ⟨Ao89, co89, eo89⟩ := Kd.R_slice HO880.out; subst eo89))
              go_ret
              exact ⟨by first | rfl | (simp [errW_none, errW_some] <;> rfl) | (simp [*, errW_none, errW_some] <;> rfl), by repeat (first | (with_reducible first | exact HB.out | apply below_alloc | apply pw_below_drewN | apply below_drew1 | refine below_set ?_ GE861.out | refine below_set ?_ GE869.out | refine below_set ?_ GE875.out | refine below_set ?_ GE882.out) | exact HB.out)⟩
    · replace c6 := Bool.eq_false_iff.mpr c6
      subst c6
      have H1 : (some true) = some r := by rw [if_neg (show ¬ (false = true) by decide)] at H; exact H
      clear H
      have H := H1
      clear H1
      obtain rfl := Option.some.inj H
      go_enter Try.func21, Try.ntmps21
      go_wp2_with (first | ((with_reducible refine gate_dst (N := 2) rfl ?_); (try (refine gate_guard (by rfl) ?_; dsimp only)); refine box_event ?hg (N := 2) ?hd (cs := #[.string a0_0, .slice A0_1 l0_1.length c0_1]) (t := 51) ?hr ?_; (case hd => rfl); (case hg => rfl); (case hr => first | (go_simp; done) | (go_simp; rfl)); intro gb861 hg w90 hbox hb; have n0_ := Aside0.mk (below_step (by repeat (first | (with_reducible first | exact HB.out | apply below_alloc | apply pw_below_drewN | apply below_drew1) | exact HB.out)) hb); have n1_ := Aside0.mk (hbox); have n2_ := Aside0.mk ((by rw [hg]; exact (below_size (by repeat (first | (with_reducible first | exact HB.out | apply below_alloc | apply pw_below_drewN | apply below_drew1) | exact HB.out))) : w.heap.size ≤ gb861)); have n3_ := Aside0.mk ((by rw [hg]; exact (below_size (by repeat (first | (with_reducible first | exact HB.out | apply below_alloc | apply pw_below_drewN | apply below_drew1) | exact HB.out))) : w.heap.size ≤ gb861)); clear HB; have HB := n0_; have BK861 := n1_; have GW861 := n2_; have GE861 := n3_; clear n0_ n1_ n2_ n3_; clear hb hbox hg) | ((with_reducible refine gate_callee (f := 44) rfl ?_); refine goesL_ (some 11) rfl rfl Try.func44 (by kernel_rfl) rfl #[] rfl (by (try simp only [List.map_toArray, List.map_cons, List.map_nil]); first | done | rfl | (simp only [List.length_drop, List.length_take]; rfl)) ?_; (with_reducible refine (bureaulaw04_alive.calls k  true _ A3.out).mono ?_); rintro e w91 ⟨rfl, hb⟩; refine ⟨_, rfl, ?_⟩; have n0_ := Aside0.mk (blk_below (g := gb861) (o := .cells #[.string a0_0, .slice A0_1 l0_1.length c0_1] 51 (0, 0)) (by (with_reducible repeat (first | refine blk_drewN ?_ _ | refine blk_drew ?_ | refine blk_alloc ?_ _)); exact BK861.out) hb); have n1_ := Aside0.mk (below_step (by repeat (first | (with_reducible first | exact HB.out | apply below_alloc | apply pw_below_drewN | apply below_drew1 | refine below_set ?_ GE861.out) | exact HB.out)) hb); clear BK861; clear HB; have BK861 := n0_; have HB := n1_; clear n0_ n1_; (try clear hb); (try clear hb2); (try clear hk); (try clear hi); have hcz92_0 : w91.cell? ⟨gb861, 0, none⟩ = some (.string a0_0) := (blk_cell BK861.out 0).trans rfl; have hcz92_1 : w91.cell? ⟨gb861, 1, none⟩ = some (.slice A0_1 l0_1.length c0_1) := (blk_cell BK861.out 1).trans rfl; have hfz92_0 := blk_frozen BK861.out 0; have hfz92_1 := blk_frozen BK861.out 1) | ((with_reducible refine gate_callee (f := 45) rfl ?_); refine goesL_ (some 14) rfl rfl Try.func45 (by kernel_rfl) rfl #[.agg #[.string a0_0, .slice A0_1 l0_1.length c0_1]] rfl (by (try simp only [List.map_toArray, List.map_cons, List.map_nil]); first | done | rfl | (simp only [List.length_drop, List.length_take]; rfl)) ?_; (with_reducible refine (bureaulaw04_Fits.calls a0_0 _ _ l0_1 false _ ?side1 ?side2 A5.out).mono ?_); (case side1 => repeat (first | exact (Kd.C_below HR0_1.out HB.out) | (with_reducible refine Kd.C_alloc ?_ _) | (with_reducible refine Kd.C_drewN ?_ _) | (with_reducible refine Kd.C_drew ?_))); (case side2 => exact HC0_1.out); rintro e w93 ⟨rfl, hb⟩; refine ⟨_, rfl, ?_⟩; have n0_ := Aside0.mk (blk_below (g := gb861) (o := .cells #[.string a0_0, .slice A0_1 l0_1.length c0_1] 51 (0, 0)) (by (with_reducible repeat (first | refine blk_drewN ?_ _ | refine blk_drew ?_ | refine blk_alloc ?_ _)); exact BK861.out) hb); have n1_ := Aside0.mk (below_step (by repeat (first | (with_reducible first | exact HB.out | apply below_alloc | apply pw_below_drewN | apply below_drew1 | refine below_set ?_ GE861.out) | exact HB.out)) hb); clear BK861; clear HB; have BK861 := n0_; have HB := n1_; clear n0_ n1_; (try clear hb); (try clear hb2); (try clear hk); (try clear hi)))
      go_ret
      exact ⟨by first | rfl | (simp [errW_none, errW_some] <;> rfl) | (simp [*, errW_none, errW_some] <;> rfl), by repeat (first | (with_reducible first | exact HB.out | apply below_alloc | apply pw_below_drewN | apply below_drew1 | refine below_set ?_ GE861.out) | exact HB.out)⟩
  · replace c4 := Bool.eq_false_iff.mpr c4
    subst c4
    have H1 : (some false) = some r := by rw [if_neg (show ¬ (false = true) by decide)] at H; exact H
    clear H
    have H := H1
    clear H1
    obtain rfl := Option.some.inj H
    go_enter Try.func21, Try.ntmps21
    go_wp2_with (first | ((with_reducible refine gate_dst (N := 2) rfl ?_); (try (refine gate_guard (by rfl) ?_; dsimp only)); refine box_event ?hg (N := 2) ?hd (cs := #[.string a0_0, .slice A0_1 l0_1.length c0_1]) (t := 51) ?hr ?_; (case hd => rfl); (case hg => rfl); (case hr => first | (go_simp; done) | (go_simp; rfl)); intro gb861 hg w94 hbox hb; have n0_ := Aside0.mk (below_step (by repeat (first | (with_reducible first | exact HB.out | apply below_alloc | apply pw_below_drewN | apply below_drew1) | exact HB.out)) hb); have n1_ := Aside0.mk (hbox); have n2_ := Aside0.mk ((by rw [hg]; exact (below_size (by repeat (first | (with_reducible first | exact HB.out | apply below_alloc | apply pw_below_drewN | apply below_drew1) | exact HB.out))) : w.heap.size ≤ gb861)); have n3_ := Aside0.mk ((by rw [hg]; exact (below_size (by repeat (first | (with_reducible first | exact HB.out | apply below_alloc | apply pw_below_drewN | apply below_drew1) | exact HB.out))) : w.heap.size ≤ gb861)); clear HB; have HB := n0_; have BK861 := n1_; have GW861 := n2_; have GE861 := n3_; clear n0_ n1_ n2_ n3_; clear hb hbox hg) | ((with_reducible refine gate_callee (f := 44) rfl ?_); refine goesL_ (some 11) rfl rfl Try.func44 (by kernel_rfl) rfl #[] rfl (by (try simp only [List.map_toArray, List.map_cons, List.map_nil]); first | done | rfl | (simp only [List.length_drop, List.length_take]; rfl)) ?_; (with_reducible refine (bureaulaw04_alive.calls k  false _ A3.out).mono ?_); rintro e w95 ⟨rfl, hb⟩; refine ⟨_, rfl, ?_⟩; have n0_ := Aside0.mk (blk_below (g := gb861) (o := .cells #[.string a0_0, .slice A0_1 l0_1.length c0_1] 51 (0, 0)) (by (with_reducible repeat (first | refine blk_drewN ?_ _ | refine blk_drew ?_ | refine blk_alloc ?_ _)); exact BK861.out) hb); have n1_ := Aside0.mk (below_step (by repeat (first | (with_reducible first | exact HB.out | apply below_alloc | apply pw_below_drewN | apply below_drew1 | refine below_set ?_ GE861.out) | exact HB.out)) hb); clear BK861; clear HB; have BK861 := n0_; have HB := n1_; clear n0_ n1_; (try clear hb); (try clear hb2); (try clear hk); (try clear hi)))
    go_ret
    exact ⟨by first | rfl | (simp [errW_none, errW_some] <;> rfl) | (simp [*, errW_none, errW_some] <;> rfl), by repeat (first | (with_reducible first | exact HB.out | apply below_alloc | apply pw_below_drewN | apply below_drew1 | refine below_set ?_ GE861.out) | exact HB.out)⟩
end Go.Proofs.Ythpjagblnddjaaa.PB
end

section
namespace Go.Proofs.Ythpjagblnddjaaa.PB
open Go.Proofs.YthpjagblnddjaaaW.PrintWords
theorem Ev.pos {α : Type} {c : Prop} [Decidable c] {A B : Nat → Option α} {r : α} (h : c) (k : Ev A r) : Ev (fun n => if c then A n else B n) r := by
  obtain ⟨K, hK⟩ := k
  exact ⟨K, fun n hn => by show (if c then A n else B n) = _; rw [if_pos h]; exact hK n hn⟩
theorem Ev.neg {α : Type} {c : Prop} [Decidable c] {A B : Nat → Option α} {r : α} (h : ¬ c) (k : Ev B r) : Ev (fun n => if c then A n else B n) r := by
  obtain ⟨K, hK⟩ := k
  exact ⟨K, fun n hn => by show (if c then A n else B n) = _; rw [if_neg h]; exact hK n hn⟩
theorem Ev.ite {α : Type} {c : Prop} [Decidable c] {A B : Nat → Option α} {r s : α} (h1 : c → Ev A r) (h2 : ¬ c → Ev B s) : Ev (fun n => if c then A n else B n) (if c then r else s) := by
  by_cases h : c
  · rw [if_pos h]; exact Ev.pos h (h1 h)
  · rw [if_neg h]; exact Ev.neg h (h2 h)
theorem ev_val {α : Type} {g : Nat → Option α} {a b : α} (h : Ev g a) (e : a = b) : Ev g b := e ▸ h
end Go.Proofs.Ythpjagblnddjaaa.PB
end

section
namespace Go.Proofs.Ythpjagblnddjaaa.PB
open Go.RowKit Go.Proofs.YthpjagblnddjaaaW.PrintWords
set_option linter.unusedVariables false
instance : DecidableEq S100 := fun a b => decidable_of_iff (a.f0 = b.f0 ∧ a.f1 = b.f1) (by cases a; cases b; simp)
theorem rdT (l : List S100) (i : Nat) : rd_T100 l (i : Int) = l.getD i z100 := by unfold rd_T100; rw [Int.toNat_natCast]
theorem dropT {l : List S100} {i : Nat} (h : i < l.length) : l.drop i = l.getD i z100 :: l.drop (i + 1) := by
  rw [List.drop_eq_getElem_cons h, List.getD_eq_getElem?_getD, List.getElem?_eq_getElem h]; rfl
theorem w1 {i n : Nat} (h : i < n) (hn : n ≤ 1000000000000000) : wrap64 ((i : Int) + 1) = ((i + 1 : Nat) : Int) := by unfold wrap64; omega
abbrev big : Nat := 1000000000000
theorem total_ev (l : List S100) (hl : l.length ≤ big) : Ev (fun k => runs_Total.f k l) (tot l) := by
  unfold big at hl
  have loop : ∀ (d i : Nat) (n : Int), i + d = l.length → 0 ≤ n → n ≤ 4096 → Ev (fun k => runs_Total.l0 k n l (l.length : Int) (i : Int)) (totF (l.drop i) n) := by
    intro d
    induction d with
    | zero =>
      intro i n hi h0 h1
      refine Ev.step (fun k => by simp only [runs_Total.l0]; rfl) ?_
      refine Ev.neg (by omega) ?_
      rw [List.drop_eq_nil_of_le (by omega)]
      exact Ev.now _
    | succ d ih =>
      intro i n hi h0 h1
      have hlt : i < l.length := by omega
      refine Ev.step (fun k => by simp only [runs_Total.l0]; rfl) ?_
      refine Ev.pos (by omega) (Ev.pos (by omega) (Ev.pos (by omega) ?_))
      rw [dropT hlt, rdT]
      simp only [totF]
      rw [show wrap64 (4096 - n) = 4096 - n by unfold wrap64; omega]
      refine Ev.ite (fun _ => Ev.now _) (fun hc => ?_)
      have hm : wrap64 (n + mx (l.getD i z100).f1 0) = n + (if (l.getD i z100).f1 < 0 then 0 else (l.getD i z100).f1) := by
        unfold mx wrap64
        split <;> omega
      rw [hm, w1 hlt (by omega)]
      exact ih (i + 1) _ (by omega) (by split <;> omega) (by split <;> omega)
  exact loop l.length 0 0 (by omega) (by omega) (by omega)
theorem same_ev (a b : List S100) (hl : a.length ≤ big) : Ev (fun k => bureauref03_Same.f k a b) (decide (a = b)) := by
  unfold big at hl
  unfold bureauref03_Same.f
  by_cases hab : a.length = b.length
  · refine Ev.pos (by omega) ?_
    have loop : ∀ (d i : Nat), i + d = a.length → Ev (fun k => bureauref03_Same.l0 k a b (i : Int)) (decide (a.drop i = b.drop i)) := by
      intro d
      induction d with
      | zero =>
        intro i hi
        refine Ev.step (fun k => by simp only [bureauref03_Same.l0]; rfl) ?_
        refine Ev.neg (by omega) ?_
        rw [List.drop_eq_nil_of_le (by omega), List.drop_eq_nil_of_le (by omega)]
        exact Ev.now _
      | succ d ih =>
        intro i hi
        have hlt : i < a.length := by omega
        refine Ev.step (fun k => by simp only [bureauref03_Same.l0]; rfl) ?_
        refine Ev.pos (by omega) (Ev.pos (by omega) (Ev.pos (by omega) ?_))
        rw [dropT hlt, dropT (show i < b.length by omega), rdT, rdT, w1 hlt (by omega)]
        by_cases he : a.getD i z100 = b.getD i z100
        · rw [he]
          refine Ev.neg (by simp) ?_
          exact ev_val (ih (i + 1) (by omega)) (by simp)
        · refine Ev.pos ?_ ?_
          · have : ¬ ((a.getD i z100).f0 = (b.getD i z100).f0 ∧ (a.getD i z100).f1 = (b.getD i z100).f1) := fun h => he (by
              cases hx : a.getD i z100; cases hy : b.getD i z100; rw [hx, hy] at h; simp at h; rw [h.1, h.2])
            simp only [Bool.or_eq_true, Bool.not_eq_true', beq_eq_false_iff_ne]
            by_cases h1 : (a.getD i z100).f0 = (b.getD i z100).f0
            · exact .inr (fun h2 => this ⟨h1, h2⟩)
            · exact .inl h1
          · exact ev_val (Ev.now _) (by simp; intro h; exact absurd h he)
    exact loop a.length 0 (by omega)
  · refine Ev.neg (by omega) ?_
    exact ev_val (Ev.now _) (by simp; intro h; exact hab (by rw [h]))
theorem good_ev (l : List S100) (hl : l.length ≤ big) : Ev (fun k => runs_Good.f k l) (good l) := by
  have ht := total_ev l hl
  unfold big at hl
  have loop : ∀ (d i : Nat), i + d = l.length → ∀ b : Bool, (b = true ↔ ((0 < i → i < l.length → (l.getD (i - 1) z100).f0 ≠ (l.getD i z100).f0) ∧ nrm (l.drop i) ∧ tot l ≤ 4096)) → Ev (fun k => runs_Good.l0 k l l (l.length : Int) (i : Int)) b := by
    intro d
    induction d with
    | zero =>
      intro i hi b hb
      refine Ev.step (fun k => by simp only [runs_Good.l0]; rfl) ?_
      refine Ev.neg (by omega) ?_
      rw [List.drop_eq_nil_of_le (by omega)] at hb
      refine Ev.bind ht (ev_val (Ev.now _) ?_)
      rw [Bool.eq_iff_iff, hb, decide_eq_true_iff]
      exact ⟨fun h => ⟨fun _ h2 => absurd h2 (by omega), trivial, h⟩, fun h => h.2.2⟩
    | succ d ih =>
      intro i hi b hb
      have hlt : i < l.length := by omega
      have hn : nrm (l.drop i) ↔ 1 ≤ (l.getD i z100).f1 ∧ (i + 1 < l.length → (l.getD i z100).f0 ≠ (l.getD (i + 1) z100).f0) ∧ nrm (l.drop (i + 1)) := by
        rw [dropT hlt]
        by_cases h2 : i + 1 < l.length
        · rw [dropT h2]
          exact ⟨fun h => ⟨h.1, fun _ => h.2.1, h.2.2⟩, fun h => ⟨h.1, h.2.1 h2, h.2.2⟩⟩
        · rw [List.drop_eq_nil_of_le (show l.length ≤ i + 1 by omega)]
          exact ⟨fun h => ⟨h, fun h3 => absurd h3 h2, trivial⟩, fun h => h.1⟩
      refine Ev.step (fun k => by simp only [runs_Good.l0]; rfl) ?_
      refine Ev.pos (by omega) (Ev.pos (by omega) (Ev.pos (by omega) ?_))
      rw [rdT, w1 hlt (by omega)]
      by_cases h1 : (l.getD i z100).f1 < 1
      · refine Ev.pos h1 (ev_val (Ev.now _) ?_)
        rw [Bool.eq_iff_iff, hb, hn]
        exact ⟨fun h => (by cases h), fun h => (by have := h.2.1.1; omega)⟩
      · refine Ev.neg h1 ?_
        have hrest : ∀ b' : Bool, (b' = true ↔ (nrm (l.drop i) ∧ tot l ≤ 4096)) → Ev (fun k => runs_Good.l0 k l l (l.length : Int) ((i + 1 : Nat) : Int)) b' := fun b' hb' => ih (i + 1) (by omega) b' (by
          rw [hb', hn, show i + 1 - 1 = i by omega]
          exact ⟨fun h => ⟨fun _ => h.1.2.1, h.1.2.2, h.2⟩, fun h => ⟨⟨by omega, h.1 (by omega), h.2.1⟩, h.2.2⟩⟩)
        by_cases h0 : 0 < i
        · refine Ev.pos (by omega) ?_
          rw [show wrap64 ((i : Int) - 1) = ((i - 1 : Nat) : Int) by unfold wrap64; omega]
          refine Ev.pos (by omega) (Ev.pos (by omega) ?_)
          rw [rdT]
          by_cases he : (l.getD (i - 1) z100).f0 = (l.getD i z100).f0
          · refine Ev.pos he (ev_val (Ev.now _) ?_)
            rw [Bool.eq_iff_iff, hb]
            exact ⟨fun h => (by cases h), fun h => absurd he (h.1 h0 hlt)⟩
          · refine Ev.neg he (hrest b ?_)
            rw [hb]
            exact ⟨fun h => h.2, fun h => ⟨fun _ _ => he, h⟩⟩
        · refine Ev.neg (by omega) (hrest b ?_)
          rw [hb]
          exact ⟨fun h => h.2, fun h => ⟨fun h3 => absurd h3 h0, h⟩⟩
  refine loop l.length 0 (by omega) (good l) ?_
  simp [good]
end Go.Proofs.Ythpjagblnddjaaa.PB
end

section
namespace Go.Proofs.Ythpjagblnddjaaa.Opn
open Go.ChangeShapes Go.WideShapes Go.Deep Go.Proofs.YthpjagblnddjaaaW.PrintWords
set_option linter.unusedVariables false
def Opn {α : Type} (P : Program) (w : World) (t : TypeId) (d : Kd α) (wf : α → Prop) : Prop :=
  ∀ (H : Type) (enc : TypeId × Value → H) (base : Nat) (spare : Nat → Bool) (held : Bool) (fuel : Nat) (cs : List Value) (x : DataW H × List MemPlace),
    DataW.trod enc P w base spare held fuel t cs = some x → (∀ n ∈ x.1.weights P t, n ≤ reachBytes) → ∃ a : α, d.K w a cs ∧ wf a
section
variable {P : Program} {w : World}
theorem int {t : TypeId} {k : IntKind} (hu : P.underlying t = some (.int k)) : Opn P w t (Kd.int k) (fun n => (Lit.int k n).wf = true) := by
  intro H enc base spare held fuel cs x h _
  obtain ⟨n, rfl, _, hw⟩ := DataW.trod_int hu h
  exact ⟨n, rfl, hw⟩
theorem bool {t : TypeId} (hu : P.underlying t = some .bool) : Opn P w t Kd.bool (fun _ => True) := by
  intro H enc base spare held fuel cs x h _
  obtain ⟨b, rfl, _⟩ := DataW.trod_bool hu h
  exact ⟨b, rfl, trivial⟩
theorem string {t : TypeId} (hu : P.underlying t = some .string) : Opn P w t Kd.string (fun s => s.size ≤ 140737488351232) := by
  intro H enc base spare held fuel cs x h hz
  obtain ⟨s, rfl, rfl, _⟩ := DataW.trod_string hu h
  refine ⟨s, rfl, ?_⟩
  have := hz s.data.toList.length (by simp [DataW.weights])
  rw [data_length] at this
  exact this
theorem weightsAll_mem {H : Type} {e : TypeId} : ∀ {ds : List (DataW H)} {d : DataW H}, d ∈ ds → ∀ n ∈ d.weights P e, n ∈ DataW.weightsAll P e ds
  | d0 :: ds, d, hd, n, hn => by
    simp only [DataW.weightsAll, List.mem_append]
    rcases List.mem_cons.1 hd with rfl | hd
    · exact .inl hn
    · exact .inr (weightsAll_mem hd n hn)
theorem slice {α : Type} {t e : TypeId} {d : Kd α} {wf : α → Prop} (hu : P.underlying t = some (.slice e)) (hc : P.cellsOf e = d.sz) {B : Nat} (hB : P.bytesOf e = B) (ho : Opn P w e d wf) :
    Opn P w t (Kd.slice e d) (fun xs => xs.length * B ≤ 140737488351232 ∧ ∀ x ∈ xs, wf x) := by
  intro H enc base spare held fuel cs x h hz
  rcases open_slice hu h with ⟨rfl, rfl⟩ | ⟨a, len, cap, m, n, D, Pl, rfl, hb, hl, hm, hmm, rfl, hel⟩
  · exact ⟨[], ⟨none, 0, rfl, Nat.le_refl _, Kd.C_nil _ _⟩, by simp, by intro x hx; cases hx⟩
  · simp only [DataW.weights, hu, List.mem_cons, List.mem_append] at hz
    have hlm : len ≤ m := by rw [hmm]; split <;> omega
    have hall : ∀ i, i < len → ∃ a' : α, (∃ cs', w.cells? base (a.add (i * P.cellsOf e)) (P.cellsOf e) = some cs' ∧ d.K w a' cs') ∧ wf a' := fun i hi => by
      obtain ⟨cs', h1, h2⟩ := hel i (by omega)
      obtain ⟨a', h3, h4⟩ := ho H enc base spare held n cs' _ h2 (fun q hq => hz q (.inr (.inl (weightsAll_mem (List.mem_map.2 ⟨i, List.mem_range.2 hi, rfl⟩) q hq))))
      exact ⟨a', ⟨cs', h1, h3⟩, h4⟩
    obtain ⟨xs, hxs, hx⟩ : ∃ xs : List α, xs.length = len ∧ ∀ i, ∀ h : i < xs.length, (∃ cs', w.cells? base (a.add (i * P.cellsOf e)) (P.cellsOf e) = some cs' ∧ d.K w xs[i] cs') ∧ wf xs[i] := by
      clear hz hel hlm hmm hm hl h
      induction len with
      | zero => exact ⟨[], rfl, fun i h => absurd h (by simp)⟩
      | succ q ih =>
        obtain ⟨xs, h1, h2⟩ := ih (fun i hi => hall i (by omega))
        obtain ⟨a', h3⟩ := hall q (by omega)
        refine ⟨xs ++ [a'], by simp [h1], fun i h => ?_⟩
        by_cases hi : i < xs.length
        · rw [List.getElem_append_left hi]; exact h2 i hi
        · have : i = q := by simp at h; omega
          subst this
          rw [List.getElem_append_right (by omega)]
          simpa using h3
    refine ⟨xs, ⟨some a, cap, by rw [hxs], by omega, rfl, by have : cap ≤ 9223372036854775807 := hm; omega, fun hp => ⟨a, rfl, fun i p hp => ?_⟩⟩, ?_, ?_⟩
    · have hi : i < xs.length := (List.getElem?_eq_some_iff.1 hp).1
      have hpe : p = xs[i] := by rw [List.getElem?_eq_getElem hi] at hp; exact (Option.some.inj hp).symm
      obtain ⟨⟨cs', h1, h2⟩, _⟩ := hx i hi
      rw [hc] at h1
      obtain ⟨_, hcl, hat⟩ := World.cells?_some h1
      refine ⟨cs', by rw [hcl], by rw [hpe]; exact h2, fun j u hu => ?_⟩
      have hj : j < d.sz := by have := (List.getElem?_eq_some_iff.1 hu).1; omega
      have := hat j hj
      rw [← Go.Deep.add_add, this, hu]
    · have := hz _ (.inl rfl)
      rw [hB] at this
      simp only [List.length_map, List.length_range] at this
      rw [hxs]
      exact Nat.le_trans (Nat.mul_le_mul_right _ (by omega)) this
    · intro x hxm
      obtain ⟨i, hi, rfl⟩ := List.mem_iff_getElem.1 hxm
      exact (hx i hi).2
end
end Go.Proofs.Ythpjagblnddjaaa.Opn
end

section
namespace Go.Proofs.Ythpjagblnddjaaa.PB
open Go.ChangeShapes Go.WideShapes Go.Proofs.Ythpjagblnddjaaa Go.Proofs.YthpjagblnddjaaaW.PrintWords
set_option linter.unusedVariables false
def wf100 (x : S100) : Prop := ((Lit.int .u64 x.f0).wf = true) ∧ ((Lit.int .i64 x.f1).wf = true)
theorem opn100 {w : World} : Opn.Opn Try.prog w 100 k100 wf100 := by
  intro H enc base spare held fuel cs x h hz
  obtain ⟨xs, n, _, rfl, hlen, hyl, hf⟩ := DataW.trod_struct Try.underlying100 h
  have hcl : cs.length = 2 := hlen.trans (by kernel_rfl)
  obtain ⟨y0, y1, rfl⟩ : ∃ y0 y1, xs = [y0, y1] := by
    clear h hz hf hlen hcl; have hyl' : xs.length = 2 := hyl; clear hyl
    match xs, hyl' with | [y0, y1], _ => exact ⟨y0, y1, rfl⟩
  obtain ⟨c0, c1, rfl⟩ : ∃ c0 c1, cs = [c0, c1] := by
    clear h hz hf hlen hyl
    match cs, hcl with | [c0, c1], _ => exact ⟨c0, c1, rfl⟩
  simp only [DataW.weights, Try.underlying100] at hz
  have h0 : DataW.trod enc Try.prog w base spare held n 36 [c0] = some y0 := by have z := hf 0 _ rfl; rwa [show Try.prog.cellsOf _ = 1 from by kernel_rfl] at z
  obtain ⟨a0, k0_, w0⟩ := (Opn.int Try.underlying36) H enc base spare held n _ _ h0 (fun q hq => hz q (by simp [DataW.weightsEach, hq]))
  have h1 : DataW.trod enc Try.prog w base spare held n 3 [c1] = some y1 := by have z := hf 1 _ rfl; rwa [show Try.prog.cellsOf _ = 1 from by kernel_rfl] at z
  obtain ⟨a1, k1_, w1⟩ := (Opn.int Try.underlying3) H enc base spare held n _ _ h1 (fun q hq => hz q (by simp [DataW.weightsEach, hq]))
  exact ⟨⟨a0, a1⟩, ⟨_, _, rfl, k0_, k1_⟩, w0, w1⟩
def wf51 (x : S51) : Prop := (x.f0.size ≤ 140737488351232) ∧ (x.f1.length * 16 ≤ 140737488351232 ∧ ∀ x_ ∈ x.f1, wf100 x_)
theorem opn51 {w : World} : Opn.Opn Try.prog w 51 k51 wf51 := by
  intro H enc base spare held fuel cs x h hz
  obtain ⟨xs, n, _, rfl, hlen, hyl, hf⟩ := DataW.trod_struct Try.underlying51 h
  have hcl : cs.length = 2 := hlen.trans (by kernel_rfl)
  obtain ⟨y0, y1, rfl⟩ : ∃ y0 y1, xs = [y0, y1] := by
    clear h hz hf hlen hcl; have hyl' : xs.length = 2 := hyl; clear hyl
    match xs, hyl' with | [y0, y1], _ => exact ⟨y0, y1, rfl⟩
  obtain ⟨c0, c1, rfl⟩ : ∃ c0 c1, cs = [c0, c1] := by
    clear h hz hf hlen hyl
    match cs, hcl with | [c0, c1], _ => exact ⟨c0, c1, rfl⟩
  simp only [DataW.weights, Try.underlying51] at hz
  have h0 : DataW.trod enc Try.prog w base spare held n 9 [c0] = some y0 := by have z := hf 0 _ rfl; rwa [show Try.prog.cellsOf _ = 1 from by kernel_rfl] at z
  obtain ⟨a0, k0_, w0⟩ := (Opn.string Try.underlying9) H enc base spare held n _ _ h0 (fun q hq => hz q (by simp [DataW.weightsEach, hq]))
  have h1 : DataW.trod enc Try.prog w base spare held n 22 [c1] = some y1 := by have z := hf 1 _ rfl; rwa [show Try.prog.cellsOf _ = 1 from by kernel_rfl] at z
  obtain ⟨a1, k1_, w1⟩ := (Opn.slice Try.underlying22 (by kernel_rfl) (by kernel_rfl : Try.prog.bytesOf 100 = 16) opn100) H enc base spare held n _ _ h1 (fun q hq => hz q (by simp [DataW.weightsEach, hq]))
  exact ⟨⟨a0, a1⟩, ⟨_, _, rfl, k0_, k1_⟩, w0, w1⟩
structure S64 where
  f0 : Int
  f1 : S51
  f2 : S51
end Go.Proofs.Ythpjagblnddjaaa.PB
end

section
namespace Go.Proofs.Ythpjagblnddjaaa.PB
open Go.RowKit Go.Proofs.YthpjagblnddjaaaW.PrintWords
set_option linter.unusedVariables false
theorem capped_nil : capped 0 [] := fun r hr => by cases hr
theorem gather0 (a b : Nat) (l : List S100) (h0 : ∀ r ∈ l, 0 ≤ r.f1) (hl : (bytes l).length ≤ 500000) (ha : a ≤ 500000) (hb : b ≤ 500000) :
    someTo addRun (a : Int) (b : Int) l 0 [] = pack (((bytes l).take b).drop a) := by
  have := someTo_pack a b l 0 [] 0 h0 capped_nil (by omega) (by omega) (by omega) (by omega) (by omega)
  simpa [pack] using this
theorem good_nrm {l : List S100} (h : good l = true) : nrm l ∧ tot l ≤ 4096 := by
  unfold good at h
  simpa using h
theorem nrm_nonneg {l : List S100} (h : nrm l) : ∀ r ∈ l, 0 ≤ r.f1 := fun r hr => by have := nrm_pos h r hr; omega
theorem step1_len (acc : List S100) (x : Int) : (step1 acc x).length ≤ acc.length + 1 := by
  unfold step1
  split
  · simp
  · simp
theorem packTo_len (b : List Int) : ∀ acc : List S100, (packTo acc b).length ≤ acc.length + b.length := by
  induction b with
  | nil => intro acc; simp [packTo]
  | cons x b ih => intro acc; have h1 := ih (step1 acc x); have h2 := step1_len acc x; show (packTo (step1 acc x) b).length ≤ _; rw [List.length_cons]; omega
theorem pack_len (b : List Int) : (pack b).length ≤ b.length := by have := packTo_len b []; simpa [pack] using this
end Go.Proofs.Ythpjagblnddjaaa.PB
end

section
namespace Go.Proofs.Ythpjagblnddjaaa.PB
open Go.RowKit Go.Proofs.YthpjagblnddjaaaW.PrintWords
set_option linter.unusedVariables false
def withinB (l : List S100) (a b : Int) : Bool := good l && (decide (0 ≤ a) && (decide (a ≤ b) && decide (b ≤ tot l)))
theorem withinB_iff {l : List S100} {a b : Int} : withinB l a b = true ↔ good l = true ∧ 0 ≤ a ∧ a ≤ b ∧ b ≤ tot l := by simp [withinB]
theorem within_ev (l : List S100) (hl : l.length ≤ big) (a b : Int) : Ev (fun k => runs_within.f k l a b) (withinB l a b) := by
  unfold runs_within.f
  refine Ev.bind (good_ev l hl) ?_
  by_cases hg : good l = true
  · refine Ev.pos hg ?_
    by_cases h0 : a ≥ 0
    · refine Ev.pos h0 ?_
      by_cases h1 : a ≤ b
      · refine Ev.pos h1 (Ev.bind (total_ev l hl) (ev_val (Ev.now _) ?_))
        simp [withinB, hg, h1, show 0 ≤ a from h0]
      · exact Ev.neg h1 (ev_val (Ev.now _) (by simp [withinB, h1]))
    · exact Ev.neg h0 (ev_val (Ev.now _) (by simp [withinB]; intro _ h; omega))
  · exact Ev.neg hg (ev_val (Ev.now _) (by simp [withinB, hg]))
theorem within_facts {l : List S100} {a b : Int} (h : withinB l a b = true) : ∃ i j : Nat, a = i ∧ b = j ∧ i ≤ j ∧ j ≤ (bytes l).length ∧ (bytes l).length ≤ 4096 ∧ nrm l ∧ tot l = (bytes l).length := by
  obtain ⟨hg, h0, h1, h2⟩ := withinB_iff.1 h
  obtain ⟨hn, ht⟩ := good_nrm hg
  have hb := tot_bytes ht
  obtain ⟨i, rfl⟩ := Int.eq_ofNat_of_zero_le h0
  obtain ⟨j, rfl⟩ := Int.eq_ofNat_of_zero_le (show 0 ≤ b by omega)
  exact ⟨i, j, rfl, rfl, by omega, by omega, by omega, hn, hb⟩
def sliceS (l : List S100) (a b : Int) : List S100 × Int := if withinB l a b = true then (pack (((bytes l).take b.toNat).drop a.toNat), 0) else ([], 2)
theorem slice_ev (l : List S100) (hl : l.length ≤ big) (a b : Int) : Ev (fun k => runs_Slice.f k l a b) (sliceS l a b) := by
  unfold runs_Slice.f sliceS
  refine Ev.bind (within_ev l hl a b) ?_
  refine Ev.ite (fun hw => ?_) (fun _ => Ev.now _)
  obtain ⟨i, j, rfl, rfl, hij, hj, h4, hn, _⟩ := within_facts hw
  unfold big at hl
  refine Ev.pos (by omega) (ev_val (Ev.now _) ?_)
  rw [gather0 i j l (nrm_nonneg hn) (by omega) (by omega) (by omega)]
  rfl
def spliceS (l : List S100) (a b : Int) (m : List S100) : List S100 × Int :=
  if withinB l a b = true then (if good m = true then (if tot l - (b - a) + tot m > 4096 then ([], 3) else (pack ((bytes l).take a.toNat ++ bytes m ++ (bytes l).drop b.toNat), 0)) else ([], 2)) else ([], 2)
theorem good_facts {m : List S100} (h : good m = true) : nrm m ∧ (bytes m).length ≤ 4096 ∧ tot m = (bytes m).length := by
  obtain ⟨hn, ht⟩ := good_nrm h
  have hb := tot_bytes ht
  exact ⟨hn, by omega, hb⟩
theorem spliceRuns_pack (l m : List S100) (i j : Nat) (hi : i ≤ 4096) (hj : j ≤ 4096) (hl : (bytes l).length ≤ 4096) (hm : (bytes m).length ≤ 4096) (hn : nrm l) (hnm : nrm m) :
    spliceRuns l i j m = pack ((bytes l).take i ++ bytes m ++ (bytes l).drop j) := by
  unfold spliceRuns
  have e1 := someTo_pack 0 i l 0 [] 0 (nrm_nonneg hn) capped_nil (by omega) (by omega) (by omega) (by omega) (by omega)
  rw [show ((0 : Nat) : Int) = 0 from rfl, Nat.sub_zero, Nat.sub_zero, List.drop_zero] at e1
  rw [e1]
  have c1 := packTo_capped ((bytes l).take i) (capped_nil) (show (0 : Int) ≤ 0 by omega)
  have hlen1 : ((bytes l).take i).length ≤ 4096 := by rw [List.length_take]; omega
  have e2 := someTo_pack 0 4096 m 0 _ _ (nrm_nonneg hnm) c1 (by omega) (by omega) (by omega) (by omega) (by omega)
  rw [show ((0 : Nat) : Int) = 0 from rfl, show ((4096 : Nat) : Int) = 4096 from rfl, Nat.sub_zero, Nat.sub_zero, List.drop_zero, List.take_of_length_le hm] at e2
  rw [e2]
  have c2 := packTo_capped (bytes m) c1 (by omega)
  have e3 := someTo_pack j 4096 l 0 _ _ (nrm_nonneg hn) c2 (by omega) (by omega) (by omega) (by omega) (by omega)
  rw [show ((0 : Nat) : Int) = 0 from rfl, show ((4096 : Nat) : Int) = 4096 from rfl, Nat.sub_zero, Nat.sub_zero, List.take_of_length_le hl] at e3
  rw [e3]
  unfold pack
  rw [packTo_append, packTo_append]
theorem splice_ev (l : List S100) (hl : l.length ≤ big) (a b : Int) (m : List S100) (hm : m.length ≤ big) : Ev (fun k => runs_Splice.f k l a b m) (spliceS l a b m) := by
  unfold runs_Splice.f spliceS
  refine Ev.bind (within_ev l hl a b) ?_
  refine Ev.ite (fun hw => ?_) (fun _ => Ev.now _)
  refine Ev.bind (good_ev m hm) ?_
  refine Ev.ite (fun hg => ?_) (fun _ => Ev.now _)
  refine Ev.bind (total_ev l hl) (Ev.bind (total_ev m hm) ?_)
  obtain ⟨i, j, rfl, rfl, hij, hj, h4, hn, ht⟩ := within_facts hw
  obtain ⟨hnm, h4m, htm⟩ := good_facts hg
  rw [show wrap64 (wrap64 (tot l - wrap64 ((j : Int) - (i : Int))) + tot m) = tot l - ((j : Int) - (i : Int)) + tot m by unfold wrap64; omega]
  refine Ev.ite (fun _ => Ev.now _) (fun _ => ?_)
  unfold big at hl hm
  refine Ev.pos (by omega) (ev_val (Ev.now _) ?_)
  rw [spliceRuns_pack l m i j (by omega) (by omega) h4 h4m hn hnm]
  rfl
theorem good_pack {b : List Int} (h : b.length ≤ 4096) : good (pack b) = true ∧ tot (pack b) = b.length := by
  have hn := pack_nrm b
  have ht : tot (pack b) = b.length := by
    rw [tot_of_bytes (nrm_nonneg hn) (by rw [pack_bytes]; exact h), pack_bytes]
  exact ⟨by unfold good; rw [Bool.and_eq_true, decide_eq_true_iff, decide_eq_true_iff]; exact ⟨hn, by omega⟩, ht⟩
end Go.Proofs.Ythpjagblnddjaaa.PB
end

section
namespace Go.Proofs.Ythpjagblnddjaaa.PB
open Go.RowKit Go.Proofs.YthpjagblnddjaaaW.PrintWords
set_option linter.unusedVariables false
def goodT (s : ByteArray) (l : List S100) : Bool := good l && decide (tot l = (s.size : Int))
theorem goodT_iff {s : ByteArray} {l : List S100} : goodT s l = true ↔ good l = true ∧ tot l = (s.size : Int) := by simp [goodT]
theorem goodT_facts {s : ByteArray} {l : List S100} (h : goodT s l = true) : good l = true ∧ nrm l ∧ (bytes l).length = s.size ∧ s.size ≤ 4096 ∧ tot l = (s.size : Int) := by
  obtain ⟨h1, h2⟩ := goodT_iff.1 h
  obtain ⟨h3, h4, h5⟩ := good_facts h1
  exact ⟨h1, h3, by omega, by omega, h2⟩
theorem goodT_ev (s : ByteArray) (l : List S100) (hl : l.length ≤ big) : Ev (fun k => strip_Good.f k s l) (goodT s l) := by
  unfold strip_Good.f
  refine Ev.bind (good_ev l hl) ?_
  by_cases hg : good l = true
  · rw [hg]
    exact Ev.pos rfl (Ev.bind (total_ev l hl) (ev_val (Ev.now _) (by rw [Bool.eq_iff_iff]; simp [goodT, hg])))
  · exact Ev.neg hg (ev_val (Ev.now _) (by simp [goodT, hg]))
def withinT (s : ByteArray) (l : List S100) (a b : Int) : Bool := goodT s l && (decide (0 ≤ a) && (decide (a ≤ b) && decide (b ≤ (s.size : Int))))
theorem withinT_iff {s : ByteArray} {l : List S100} {a b : Int} : withinT s l a b = true ↔ goodT s l = true ∧ 0 ≤ a ∧ a ≤ b ∧ b ≤ (s.size : Int) := by simp [withinT]
theorem withinT_ev (s : ByteArray) (l : List S100) (hl : l.length ≤ big) (a b : Int) : Ev (fun k => strip_within.f k s l a b) (withinT s l a b) := by
  unfold strip_within.f
  refine Ev.bind (goodT_ev s l hl) ?_
  by_cases hg : goodT s l = true
  · refine Ev.pos hg ?_
    by_cases h0 : 0 ≤ a
    · refine Ev.pos h0 ?_
      by_cases h1 : a ≤ b
      · exact Ev.pos h1 (ev_val (Ev.now _) (by simp [withinT, hg, h0, h1]))
      · exact Ev.neg h1 (ev_val (Ev.now _) (by simp [withinT, h1]))
    · exact Ev.neg h0 (ev_val (Ev.now _) (by simp [withinT, h0]))
  · exact Ev.neg hg (ev_val (Ev.now _) (by simp [withinT, hg]))
theorem withinT_facts {s : ByteArray} {l : List S100} {a b : Int} (h : withinT s l a b = true) : ∃ i j : Nat, a = i ∧ b = j ∧ i ≤ j ∧ j ≤ s.size ∧ goodT s l = true ∧ withinB l a b = true := by
  obtain ⟨h1, h2, h3, h4⟩ := withinT_iff.1 h
  obtain ⟨g1, g2, g3, g4, g5⟩ := goodT_facts h1
  obtain ⟨i, rfl⟩ := Int.eq_ofNat_of_zero_le h2
  obtain ⟨j, rfl⟩ := Int.eq_ofNat_of_zero_le (show 0 ≤ b by omega)
  exact ⟨i, j, rfl, rfl, by omega, by omega, h1, withinB_iff.2 ⟨g1, by omega, by omega, by omega⟩⟩
abbrev TX := ByteArray × List S100 × Int
def sameT (s : ByteArray) (l : List S100) (t : ByteArray) (m : List S100) : Bool := if s.toList = t.toList then decide (l = m) else false
theorem sameT_self (s : ByteArray) (l : List S100) : sameT s l s l = true := by simp [sameT]
theorem rsame4_ev (s : ByteArray) (l : List S100) (t : ByteArray) (m : List S100) (hl : l.length ≤ big) : Ev (fun k => bureauref04_Same.f k s l t m) (sameT s l t m) := by
  unfold bureauref04_Same.f sameT
  exact Ev.ite (fun _ => Ev.bind (same_ev l m hl) (Ev.now _)) (fun _ => Ev.now _)
def cutS (s : ByteArray) (l : List S100) (a b : Int) : TX := if withinT s l a b = true then (s.extract a.toNat b.toNat, pack (((bytes l).take b.toNat).drop a.toNat), 0) else (⟨#[]⟩, [], 2)
theorem cut_ev (s : ByteArray) (l : List S100) (hl : l.length ≤ big) (a b : Int) : Ev (fun k => strip_Cut.f k s l a b) (cutS s l a b) := by
  unfold strip_Cut.f cutS
  refine Ev.bind (withinT_ev s l hl a b) ?_
  refine Ev.ite (fun hw => ?_) (fun _ => Ev.now _)
  obtain ⟨h1, h2, h3, h4⟩ := withinT_iff.1 hw
  obtain ⟨i, j, rfl, rfl, hij, hj, hg, hwb⟩ := withinT_facts hw
  refine Ev.bind (slice_ev l hl _ _) (Ev.pos h2 (Ev.pos h3 (Ev.pos h4 (ev_val (Ev.now _) ?_))))
  unfold sliceS
  rw [if_pos hwb]
def spliceT (s : ByteArray) (l : List S100) (a b : Int) (x : ByteArray) (m : List S100) : TX :=
  if withinT s l a b = true then (if goodT x m = true then (if (s.size : Int) - (b - a) + (x.size : Int) > 4096 then (⟨#[]⟩, [], 3) else
    (s.extract 0 a.toNat ++ x ++ s.extract b.toNat s.size, pack ((bytes l).take a.toNat ++ bytes m ++ (bytes l).drop b.toNat), 0)) else (⟨#[]⟩, [], 2)) else (⟨#[]⟩, [], 2)
theorem ext_size (s : ByteArray) (i j : Nat) : (s.extract i j).size ≤ s.size := by rw [ByteArray.size_extract]; omega
theorem splice4_ev (s : ByteArray) (l : List S100) (hl : l.length ≤ big) (a b : Int) (x : ByteArray) (m : List S100) (hm : m.length ≤ big) : Ev (fun k => strip_Splice.f k s l a b x m) (spliceT s l a b x m) := by
  unfold strip_Splice.f spliceT
  refine Ev.bind (withinT_ev s l hl a b) ?_
  have bad : Ev (fun k => strip_Splice.j0 k a b true s l x m) (⟨#[]⟩, [], 2) := by
    refine Ev.step (fun k => by simp only [strip_Splice.j0]; rfl) ?_
    exact Ev.pos (by simp) (Ev.now _)
  refine Ev.ite (fun hw => ?_) (fun _ => bad)
  refine Ev.bind (goodT_ev x m hm) ?_
  by_cases hg : goodT x m = true
  · rw [if_pos hg, hg]
    refine Ev.step (fun k => by simp only [strip_Splice.j0]; rfl) ?_
    refine Ev.neg (by simp) (Ev.bind (splice_ev l hl a b m hm) ?_)
    obtain ⟨h1, h2, h3, h4⟩ := withinT_iff.1 hw
    obtain ⟨i, j, rfl, rfl, hij, hj, hgl, hwb⟩ := withinT_facts hw
    obtain ⟨g1, g2, g3, g4, g5⟩ := goodT_facts hgl
    obtain ⟨q1, q2, q3, q4, q5⟩ := goodT_facts hg
    have he : spliceS l (i : Int) (j : Int) m = if (s.size : Int) - ((j : Int) - (i : Int)) + (x.size : Int) > 4096 then ([], 3) else (pack ((bytes l).take (i : Int).toNat ++ bytes m ++ (bytes l).drop (j : Int).toNat), 0) := by
      unfold spliceS
      rw [if_pos hwb, if_pos q1, g5, q5]
    rw [he]
    by_cases hb : (s.size : Int) - ((j : Int) - (i : Int)) + (x.size : Int) > 4096
    · rw [if_pos hb, if_pos hb]
      exact Ev.neg (by decide) (Ev.now _)
    · rw [if_neg hb, if_neg hb]
      have e1 := ext_size s 0 (i : Int).toNat
      have e2 := ext_size s (j : Int).toNat s.size
      refine Ev.pos rfl (Ev.pos h2 (Ev.pos (by omega) (Ev.pos (by omega) (Ev.pos (by omega) (Ev.pos h4 (Ev.pos ?_ (Ev.now _)))))))
      rw [ByteArray.size_append]
      omega
  · rw [if_neg hg, show goodT x m = false by simpa using hg]
    exact bad
def catT (s : ByteArray) (l : List S100) (x : ByteArray) (m : List S100) : TX := spliceT s l (s.size : Int) (s.size : Int) x m
theorem cat4_ev (s : ByteArray) (l : List S100) (hl : l.length ≤ big) (x : ByteArray) (m : List S100) (hm : m.length ≤ big) : Ev (fun k => strip_Cat.f k s l x m) (catT s l x m) := by
  unfold strip_Cat.f catT
  exact Ev.bind (splice4_ev s l hl _ _ x m hm) (Ev.now _)
end Go.Proofs.Ythpjagblnddjaaa.PB
end

section
namespace Go.Proofs.Ythpjagblnddjaaa.PB
open Go.RowKit Go.Proofs.YthpjagblnddjaaaW.PrintWords
set_option linter.unusedVariables false
theorem alive4 : bureaulaw04_alive.f 60 = some true := by decide +kernel
theorem alive4_ev : Ev (fun k => bureaulaw04_alive.f k) true := Ev.of (bureaulaw04_alive.mono) alive4
theorem fits_eq (s : ByteArray) (l : List S100) : bureaulaw04_Fits.f s l = some (decide (s.size ≤ 5000 ∧ l.length ≤ 5000)) := by
  unfold bureaulaw04_Fits.f
  by_cases h : s.size ≤ 5000
  · rw [if_pos (by omega)]
    congr 1
    rw [Bool.eq_iff_iff, decide_eq_true_iff, decide_eq_true_iff]
    omega
  · rw [if_neg (by omega)]
    simp [h]
theorem fits_big {s : ByteArray} {l : List S100} (h : s.size ≤ 5000 ∧ l.length ≤ 5000) : l.length ≤ big := by unfold big; omega
theorem len_big {n : Nat} (h : n ≤ 20000) : n ≤ big := by unfold big; omega
theorem ext_all (s : ByteArray) : s.extract 0 s.size = s := by
  apply ByteArray.ext
  rw [ByteArray.data_extract]
  exact Array.extract_size
theorem ext_cat (s : ByteArray) (i : Nat) (h : i ≤ s.size) : s.extract 0 i ++ s.extract i s.size = s := by
  apply ByteArray.ext
  rw [ByteArray.data_append, ByteArray.data_extract, ByteArray.data_extract, Array.extract_append_extract]
  have : s.data.size = s.size := rfl
  rw [Nat.min_eq_left (Nat.zero_le _), Nat.max_eq_right h, ← this]
  exact Array.extract_size
theorem ext_none (s : ByteArray) : s.extract s.size s.size = ByteArray.empty := by
  apply ByteArray.ext
  rw [ByteArray.data_extract]
  simp
theorem goodT_pack {s : ByteArray} {B : List Int} (h : B.length = s.size) (h4 : s.size ≤ 4096) : goodT s (pack B) = true := by
  obtain ⟨g1, t1⟩ := good_pack (show B.length ≤ 4096 by omega)
  exact goodT_iff.2 ⟨g1, by omega⟩
theorem catT_pack (s x : ByteArray) (B C : List Int) (hB : B.length = s.size) (hC : C.length = x.size) (h : s.size + x.size ≤ 4096) : catT s (pack B) x (pack C) = (s ++ x, pack (B ++ C), 0) := by
  have g1 := goodT_pack hB (by omega)
  have g2 := goodT_pack hC (by omega)
  unfold catT spliceT
  rw [if_pos (withinT_iff.2 ⟨g1, by omega, by omega, by omega⟩), if_pos g2, if_neg (by omega), Int.toNat_natCast, pack_bytes, pack_bytes, ext_all, ext_none, ← hB, List.take_length, List.drop_length, List.append_nil, ByteArray.append_empty]
theorem StripParts_pure (t : S51) (a : Int) (wt : wf51 t) (wa : (Lit.int .i64 a).wf = true) : ∃ k, bureaulaw04_StripParts.f k t.f0 t.f1 a = some true := by
  refine Ev.rounds (g := fun k => bureaulaw04_StripParts.f k t.f0 t.f1 a) ?_
  unfold bureaulaw04_StripParts.f
  refine Ev.bind alive4_ev (Ev.pos rfl ?_)
  rw [fits_eq]
  refine Ev.bind (Ev.now _) ?_
  by_cases hf : t.f0.size ≤ 5000 ∧ t.f1.length ≤ 5000
  · refine Ev.pos (by simpa using hf) ?_
    have hl := fits_big hf
    refine Ev.bind (cut_ev _ _ hl 0 a) (Ev.bind (cut_ev _ _ hl a _) ?_)
    by_cases hok : goodT t.f0 t.f1 = true ∧ 0 ≤ a ∧ a ≤ (t.f0.size : Int)
    · obtain ⟨hg, h0, h1⟩ := hok
      obtain ⟨g1, g2, g3, g4, g5⟩ := goodT_facts hg
      obtain ⟨i, rfl⟩ := Int.eq_ofNat_of_zero_le h0
      have e1 : cutS t.f0 t.f1 0 (i : Int) = (t.f0.extract 0 i, pack ((bytes t.f1).take i), 0) := by
        unfold cutS
        rw [if_pos (withinT_iff.2 ⟨hg, by omega, h0, h1⟩)]
        rfl
      have e2 : cutS t.f0 t.f1 (i : Int) (t.f0.size : Int) = (t.f0.extract i t.f0.size, pack ((bytes t.f1).drop i), 0) := by
        unfold cutS
        rw [if_pos (withinT_iff.2 ⟨hg, h0, h1, by omega⟩), Int.toNat_natCast, Int.toNat_natCast, ← g3, List.take_length]
      rw [e1, e2]
      refine Ev.pos rfl ?_
      refine Ev.step (fun k => by simp only [bureaulaw04_StripParts.j0]; rfl) ?_
      refine Ev.neg (by simp) ?_
      have s1 : (t.f0.extract 0 i).size = i := by rw [ByteArray.size_extract]; omega
      have s2 : (t.f0.extract i t.f0.size).size = t.f0.size - i := by rw [ByteArray.size_extract]; omega
      have p1 := pack_len ((bytes t.f1).take i)
      have p2 := pack_len ((bytes t.f1).drop i)
      rw [List.length_take] at p1
      rw [List.length_drop] at p2
      refine Ev.bind (cat4_ev _ _ (len_big (by omega)) _ _ (len_big (by omega))) ?_
      rw [catT_pack _ _ _ _ (by rw [List.length_take, s1]; omega) (by rw [List.length_drop, s2]; omega) (by omega), List.take_append_drop, pack_of_nrm g2, ext_cat _ _ (by omega)]
      refine Ev.pos rfl (Ev.bind (rsame4_ev _ _ _ _ hl) (Ev.pos (sameT_self _ _) (ev_val (Ev.now _) ?_)))
      simp [s1]
    · have href : (cutS t.f0 t.f1 0 a).2.2 ≠ 0 := by
        unfold cutS
        rw [if_neg (fun h => hok (by obtain ⟨h1, h2, h3, h4⟩ := withinT_iff.1 h; exact ⟨h1, h3, h4⟩))]
        decide
      refine Ev.neg href ?_
      refine Ev.step (fun k => by simp only [bureaulaw04_StripParts.j0]; rfl) ?_
      refine Ev.pos (by simp) (Ev.bind (goodT_ev _ _ hl) ?_)
      by_cases hg : goodT t.f0 t.f1 = true
      · refine Ev.pos hg ?_
        by_cases h0 : a < 0
        · exact Ev.pos h0 (Ev.now _)
        · refine Ev.neg h0 (ev_val (Ev.now _) ?_)
          simp
          exact Int.not_le.1 (fun h => hok ⟨hg, by omega, h⟩)
      · exact Ev.neg hg (Ev.now _)
  · exact Ev.neg (by simpa using hf) (Ev.now _)
end Go.Proofs.Ythpjagblnddjaaa.PB
end

section
namespace Go.Proofs.Ythpjagblnddjaaa.PB
open Go.ChangeShapes Go.WideShapes Go.ChangeAt Go.RowKit Go.Proofs.YthpjagblnddjaaaW.PrintWords
open Go.ChangeMaps (open_string shut_string)
set_option linter.unusedVariables false
namespace stripParts
open Go.Proofs.Ythpjagblnddjaaa
theorem own : ownKnob Try.prog.godebug = none := by kernel_rfl
theorem laidOut : laidOutB Try.prog = true := by kernel_rfl
set_option maxRecDepth 100000 in
theorem lifted (os : Os) (started : os.Started) (H : Type) (enc : TypeId × Value → H) :
    ReturnsInHanded {} Try.checked os 21 .any (Rows.stripPartsSpec.pre6 enc Try.prog Try.f21 Rows.stripPartsRow.domain false) (Rows.stripPartsSpec.post enc Try.prog Try.f21 false true false false) := by
  refine returnsInHanded_of_change_sized (C := Try.checked) own started (by kernel_rfl) Try.func21
    (ChangeSpec.witness6 (enc := enc) (C := Try.checked) false ⟨#[], #[.agg #[.string ByteArray.empty, .slice none 0 0], .int .i64 0], []⟩ 8 (by kernel_rfl) (by kernel_rfl) (by kernel_rfl) (by kernel_rfl)) ?_
  intro W base args ds gs before hval0 hW hcnd hsz0 _
  have hsz : (DataW.weightsEach Try.prog (Try.f21.params.toList ++ Rows.stripPartsSpec.plain.varTypes Try.prog) (ds ++ gs)).all (· ≤ reachBytes) = true := hsz0
  have hval : ∀ (j : Nat) t v, Try.f21.params[j]? = some t → args[j]? = some v → Value.okWide Try.prog W .any base t v := hval0
  have hW' := hW
  obtain ⟨p, q, hA0, hV, rfl, hfz, hnd⟩ := hW
  have hA : DataW.TrodAll enc Try.prog W 0 (fun _ => true) true Try.f21.params.toList args.toList ds p := hA0
  rw [Try.params21] at hA hval hsz
  obtain ⟨v0, vs0, d0, ds0, p0, q0, hargs, rfl, rfl, h0, r0⟩ := trodAll_cons hA
  obtain ⟨v1, vs1, d1, ds1, p1, q1, rfl, rfl, rfl, h1, r1⟩ := trodAll_cons r0
  obtain ⟨rfl, rfl, rfl⟩ := trodAll_nil r1
  obtain rfl : args = #[v0, v1] := by cases args; simp_all
  obtain ⟨rfl, rfl⟩ := trodVars_none hV
  have hz0 : ∀ n ∈ d0.weights Try.prog 51, n ≤ reachBytes := fun n hn => by have z := List.all_eq_true.1 hsz n (DataW.weights_mem_each (j := 0) rfl rfl n hn); simpa using z
  have kk0 := h0
  have lt0 : ∀ x ∈ p0, x.block < W.heap.size := by obtain ⟨m, hm⟩ := kk0; exact DataW.trod_lt m _ _ _ hm
  obtain ⟨cs0, rfl, cz0⟩ := okWide_struct Try.underlying51 (hval 0 51 v0 rfl rfl)
  obtain ⟨x0, hK0, w0⟩ : ∃ x : S51, k51.K W x cs0.toList ∧ wf51 x := by
    obtain ⟨fuel, hf⟩ := h0
    exact opn51 H enc _ _ _ fuel _ _ hf hz0
  obtain ⟨A0_1, c0_1, hcs0, hc0_1, hr0_1⟩ := k51_open hK0
  obtain rfl : cs0 = #[.string x0.f0, .slice A0_1 x0.f1.length c0_1] := Array.toList_inj.1 hcs0
  obtain ⟨a1, rfl, rfl, rfl, w1⟩ := open_int Try.underlying3 (hval 1 3 v1 rfl rfl) h1
  clear hA0 hval0 hsz0 hsz
  obtain ⟨k, hk⟩ := StripParts_pure x0 a1 w0 w1
  refine (bureaulaw04_StripParts.calls k x0.f0 _ _ x0.f1 a1 true W hr0_1 hc0_1 hk).mono fun e W' ⟨he, bel⟩ => ?_
  subst he
  exact ⟨_, rfl, _, _, _, [], _, [], hW', trodAll_mk1 (shut_bool Try.underlying4 _), (trodAll_cons_mk (Below.trod laidOut (by kernel_rfl) (of_decide_eq_true (by kernel_rfl)) kk0 bel lt0) (trodAll_cons_mk (shut_int Try.underlying3 w1) trodAll_mk0)), rfl, bel.frame _, fun h => by cases h⟩
theorem over : Rows.stripPartsRow.holds Try.pinned (OpenSpec.ofChange Rows.stripPartsSpec) :=
  OpenClaim.holds_of_wide 21 Try.f21 rfl rfl rfl rfl rfl rfl rfl ⟨rfl, rfl, rfl, rfl, rfl⟩ rfl rfl rfl rfl rfl (by kernel_rfl) Try.func21 (by kernel_rfl)
    (of_decide_eq_true (by kernel_rfl)) (by unfold Func.isWrapper; first | (rw [if_pos (by decide +kernel)]; kernel_rfl) | (rw [if_neg (by decide +kernel)]; exact ⟨rfl, rfl⟩))
    (fun os started H enc _ => lifted os started H enc)
theorem proved : Rows.StripPartsSaid := over
end stripParts
end Go.Proofs.Ythpjagblnddjaaa.PB
namespace Go.Proofs.Ythpjagblnddjaaa
theorem stripParts_holds : Rows.StripPartsSaid := PB.stripParts.proved
#print axioms stripParts_holds
end Go.Proofs.Ythpjagblnddjaaa
end
