/- The row of a law out of its contract and its pure theorem. No condition. -/
import Derived.OpenShut
import Derived.ChangeArms
import Derived.Deep.Slices
import Derived.SizedLaws
import Derived.Deep.MidRow
import Derived.Laws.BitsAllLaws
import Derived.Laws.BitsAllLaws
import Derived.Test.YthpjagblnddjaaaRows
import Derived.ProofKit
import Derived.OpenShut
import Derived.ShutString
import Derived.ChangeOld
import Derived.SizedLaws
import Derived.Carry
import Derived.Test.YthpjagblnddjaaaQStripHigher4
section
namespace Go.Proofs.Ythpjagblnddjaaa.PB
open Go.RowKit Go.Proofs.YthpjagblnddjaaaW.PrintWords Go.Proofs.YthpjagblnddjaaaW.PrintLast Go.Proofs.YthpjagblnddjaaaW.PrintMore
attribute [local go_sem] max2_int min2_int max_two min_two max_three min_three max_four min_four   
set_option linter.unusedVariables false
set_option linter.unusedSimpArgs false
mutual
def bureaulaw04_StripHigher.j0 : Nat → Bool → ByteArray → List (S100) → ByteArray → List (S100) → Int → Int → Option (Bool)
  | 0, _, _, _, _, _, _, _ => none
  | k + 1, x23, x782000, x782001, x783000, x783001, x784000, x784001 => if x23 = true then (some true) else ((strip_View.f k x782000 x782001 (Go.bits .and .u64 x784000 x784001)).bind fun bt787 => ((strip_View.f k x782000 x782001 x784001).bind fun bt789 => (if bt787.2 = bt789.2 then (if (bt787.1.size : Int) = (bt789.1.size : Int) then (if bt787.2 = 0 then (bureaulaw04_StripHigher.j1 k (Go.bits .and .u64 x784000 x784001) x784001 bt787.1 bt789.1 ((bt787.1.size : Int) != (x782000.size : Int)) x782000 x782001 x783000 x783001) else (bureaulaw04_StripHigher.j1 k (Go.bits .and .u64 x784000 x784001) x784001 bt787.1 bt789.1 false x782000 x782001 x783000 x783001)) else (bureaulaw04_StripHigher.j1 k (Go.bits .and .u64 x784000 x784001) x784001 bt787.1 bt789.1 true x782000 x782001 x783000 x783001)) else (bureaulaw04_StripHigher.j1 k (Go.bits .and .u64 x784000 x784001) x784001 bt787.1 bt789.1 true x782000 x782001 x783000 x783001))))
def bureaulaw04_StripHigher.j1 : Nat → Int → Int → ByteArray → ByteArray → Bool → ByteArray → List (S100) → ByteArray → List (S100) → Option (Bool)
  | 0, _, _, _, _, _, _, _, _, _ => none
  | k + 1, x7, x8, x9, x11, x64, x782000, x782001, x783000, x783001 => if x64 = true then (some false) else (bureaulaw04_StripHigher.l0 k x7 x8 x9 x11 0 x782000 x782001 x783000 x783001)
def bureaulaw04_StripHigher.l0 : Nat → Int → Int → ByteArray → ByteArray → Int → ByteArray → List (S100) → ByteArray → List (S100) → Option (Bool)
  | 0, _, _, _, _, _, _, _, _, _ => none
  | k + 1, x7, x8, x9, x11, x13, x782000, x782001, x783000, x783001 => if x13 < (x9.size : Int) then (if 0 ≤ x13 then (if (bt x9 x13) = 35 then (if x13 < (x11.size : Int) then (if (bt x11 x13) = 35 then (bureaulaw04_StripHigher.l0 k x7 x8 x9 x11 (wrap64 (x13 + 1)) x782000 x782001 x783000 x783001) else (if x13 < (x782000.size : Int) then (if (bt x11 x13) = (bt x782000 x13) then (bureaulaw04_StripHigher.l0 k x7 x8 x9 x11 (wrap64 (x13 + 1)) x782000 x782001 x783000 x783001) else (some false)) else (none))) else (none)) else (if x13 < (x11.size : Int) then (if (bt x9 x13) = (bt x11 x13) then (if (bt x11 x13) = 35 then (bureaulaw04_StripHigher.l0 k x7 x8 x9 x11 (wrap64 (x13 + 1)) x782000 x782001 x783000 x783001) else (if x13 < (x782000.size : Int) then (if (bt x11 x13) = (bt x782000 x13) then (bureaulaw04_StripHigher.l0 k x7 x8 x9 x11 (wrap64 (x13 + 1)) x782000 x782001 x783000 x783001) else (some false)) else (none))) else (some false)) else (none))) else (none)) else ((strip_Low.f k x782000 x782001 x783000 x783001 x8).bind fun t791 => (if t791 = true then ((strip_Low.f k x782000 x782001 x783000 x783001 x7).bind fun t792 => (some t792)) else (some true)))
end
def bureaulaw04_StripHigher.f (k : Nat) (a0_0 : ByteArray) (l0_1 : List (S100)) (a1_0 : ByteArray) (l1_1 : List (S100)) (a2_0 : Int) (a2_1 : Int) : Option (Bool) := (bureaulaw04_alive.f k).bind fun t784 => (if t784 = true then ((bureaulaw04_Fits.f a0_0 l0_1).bind fun t785 => (if t785 = true then ((bureaulaw04_Fits.f a1_0 l1_1).bind fun t786 => (bureaulaw04_StripHigher.j0 k (!t786) a0_0 l0_1 a1_0 l1_1 a2_0 a2_1)) else (bureaulaw04_StripHigher.j0 k true a0_0 l0_1 a1_0 l1_1 a2_0 a2_1))) else (some false))
set_option maxHeartbeats 8000000 in
set_option maxRecDepth 100000 in
theorem bureaulaw04_StripHigher.calls (k : Nat) (a0_0 : ByteArray) (A0_1 : Option Addr) (c0_1 : Nat) (l0_1 : List (S100)) (a1_0 : ByteArray) (A1_1 : Option Addr) (c1_1 : Nat) (l1_1 : List (S100)) (a2_0 : Int) (a2_1 : Int) (r : Bool) (w : World) (hr0_1 : Kd.C k100 w A0_1 l0_1.length l0_1) (hc0_1 : l0_1.length ≤ c0_1) (hr1_1 : Kd.C k100 w A1_1 l1_1.length l1_1) (hc1_1 : l1_1.length ≤ c1_1) (h : bureaulaw04_StripHigher.f k a0_0 l0_1 a1_0 l1_1 a2_0 a2_1 = some r) :
    Calls Try.prog 18 #[.agg #[.string a0_0, .slice A0_1 l0_1.length c0_1], .agg #[.string a1_0, .slice A1_1 l1_1.length c1_1], .agg #[.int .u64 a2_0, .int .u64 a2_1]] w fun e w' => e = .returned (.bool r) ∧ Below w.heap.size w w' := by
  have hu51 := Try.underlying51
  have hu85 := Try.underlying85
  have HR0_1 := Aside0.mk hr0_1
  have HC0_1 := Aside0.mk hc0_1
  clear hr0_1 hc0_1
  have HR1_1 := Aside0.mk hr1_1
  have HC1_1 := Aside0.mk hc1_1
  clear hr1_1 hc1_1
  have HB := Aside0.mk (Below.refl w.heap.size w)
  have H : ((bureaulaw04_alive.f k).bind fun t784 => (if t784 = true then ((bureaulaw04_Fits.f a0_0 l0_1).bind fun t785 => (if t785 = true then ((bureaulaw04_Fits.f a1_0 l1_1).bind fun t786 => (bureaulaw04_StripHigher.j0 k (!t786) a0_0 l0_1 a1_0 l1_1 a2_0 a2_1)) else (bureaulaw04_StripHigher.j0 k true a0_0 l0_1 a1_0 l1_1 a2_0 a2_1))) else (some false))) = some r := h
  clear h
  replace H := Option.bind_eq_some_iff.mp H
  obtain ⟨t784, A40, H⟩ := H
  replace H : (if t784 = true then ((bureaulaw04_Fits.f a0_0 l0_1).bind fun t785 => (if t785 = true then ((bureaulaw04_Fits.f a1_0 l1_1).bind fun t786 => (bureaulaw04_StripHigher.j0 k (!t786) a0_0 l0_1 a1_0 l1_1 a2_0 a2_1)) else (bureaulaw04_StripHigher.j0 k true a0_0 l0_1 a1_0 l1_1 a2_0 a2_1))) else (some false)) = some r := H
  have A4 := Aside0.mk A40
  clear A40
  by_cases c5 : t784 = true
  · subst c5
    have H1 : ((bureaulaw04_Fits.f a0_0 l0_1).bind fun t785 => (if t785 = true then ((bureaulaw04_Fits.f a1_0 l1_1).bind fun t786 => (bureaulaw04_StripHigher.j0 k (!t786) a0_0 l0_1 a1_0 l1_1 a2_0 a2_1)) else (bureaulaw04_StripHigher.j0 k true a0_0 l0_1 a1_0 l1_1 a2_0 a2_1))) = some r := by rw [if_pos rfl] at H; exact H
    clear H
    have H := H1
    clear H1
    have HC6 := Aside0.mk H
    clear H
    go_enter Try.func18, Try.ntmps18
    go_upto_region 3 with (first | ((with_reducible refine gate_dst (N := 3) rfl ?_); (try (refine gate_guard (by rfl) ?_; dsimp only)); refine box_event ?hg (N := 3) ?hd (cs := #[.string a0_0, .slice A0_1 l0_1.length c0_1]) (t := 51) ?hr ?_; (case hd => rfl); (case hg => rfl); (case hr => first | (go_simp; done) | (go_simp; rfl)); intro gb781 hg w7 hbox hb; have n0_ := Aside0.mk (below_step (by repeat (first | (with_reducible first | exact HB.out | apply below_alloc | apply pw_below_drewN | apply below_drew1) | exact HB.out)) hb); have n1_ := Aside0.mk (hbox); have n2_ := Aside0.mk ((by rw [hg]; exact (below_size (by repeat (first | (with_reducible first | exact HB.out | apply below_alloc | apply pw_below_drewN | apply below_drew1) | exact HB.out))) : w.heap.size ≤ gb781)); have n3_ := Aside0.mk ((by rw [hg]; exact (below_size (by repeat (first | (with_reducible first | exact HB.out | apply below_alloc | apply pw_below_drewN | apply below_drew1) | exact HB.out))) : w.heap.size ≤ gb781)); clear HB; have HB := n0_; have BK781 := n1_; have GW781 := n2_; have GE781 := n3_; clear n0_ n1_ n2_ n3_; clear hb hbox hg) | ((with_reducible refine gate_dst (N := 4) rfl ?_); (try (refine gate_guard (by rfl) ?_; dsimp only)); refine box_event ?hg (N := 4) ?hd (cs := #[.string a1_0, .slice A1_1 l1_1.length c1_1]) (t := 51) ?hr ?_; (case hd => rfl); (case hg => rfl); (case hr => first | (go_simp; done) | (go_simp; rfl)); intro gb782 hg w8 hbox hb; have n0_ := Aside0.mk (blk_below (g := gb781) (o := .cells #[.string a0_0, .slice A0_1 l0_1.length c0_1] 51 (0, 0)) (by (with_reducible repeat (first | refine blk_drewN ?_ _ | refine blk_drew ?_ | refine blk_alloc ?_ _)); exact BK781.out) hb); have n1_ := Aside0.mk (below_step (by repeat (first | (with_reducible first | exact HB.out | apply below_alloc | apply pw_below_drewN | apply below_drew1 | refine below_set ?_ GE781.out) | exact HB.out)) hb); have n2_ := Aside0.mk (hbox); have n3_ := Aside0.mk ((by rw [hg]; exact (below_size (by repeat (first | (with_reducible first | exact HB.out | apply below_alloc | apply pw_below_drewN | apply below_drew1 | refine below_set ?_ GE781.out) | exact HB.out))) : w.heap.size ≤ gb782)); have n4_ := Aside0.mk ((by rw [hg]; exact (below_size (by repeat (first | (with_reducible first | exact HB.out | apply below_alloc | apply pw_below_drewN | apply below_drew1 | refine below_set ?_ GE781.out) | exact HB.out))) : w.heap.size ≤ gb782)); have n5_ := Aside0.mk ((by rw [hg]; exact Nat.ne_of_lt (blk_lt (g := gb781) (o := .cells #[.string a0_0, .slice A0_1 l0_1.length c0_1] 51 (0, 0)) (by (with_reducible repeat (first | refine blk_drewN ?_ _ | refine blk_drew ?_ | refine blk_alloc ?_ _)); exact BK781.out)) : gb781 ≠ gb782)); have n6_ := Aside0.mk ((by rw [hg]; exact Nat.ne_of_gt (blk_lt (g := gb781) (o := .cells #[.string a0_0, .slice A0_1 l0_1.length c0_1] 51 (0, 0)) (by (with_reducible repeat (first | refine blk_drewN ?_ _ | refine blk_drew ?_ | refine blk_alloc ?_ _)); exact BK781.out)) : gb782 ≠ gb781)); clear BK781; clear HB; have BK781 := n0_; have HB := n1_; have BK782 := n2_; have GW782 := n3_; have GE782 := n4_; have NB781_782 := n5_; have NB782_781 := n6_; clear n0_ n1_ n2_ n3_ n4_ n5_ n6_; clear hb hbox hg) | ((with_reducible refine gate_dst (N := 5) rfl ?_); (try (refine gate_guard (by rfl) ?_; dsimp only)); refine box_event ?hg (N := 5) ?hd (cs := #[.int .u64 a2_0, .int .u64 a2_1]) (t := 85) ?hr ?_; (case hd => rfl); (case hg => rfl); (case hr => first | (go_simp; done) | (go_simp; rfl)); intro gb783 hg w9 hbox hb; have n0_ := Aside0.mk (blk_below (g := gb781) (o := .cells #[.string a0_0, .slice A0_1 l0_1.length c0_1] 51 (0, 0)) (by (with_reducible repeat (first | refine blk_drewN ?_ _ | refine blk_drew ?_ | refine blk_alloc ?_ _)); exact BK781.out) hb); have n1_ := Aside0.mk (blk_below (g := gb782) (o := .cells #[.string a1_0, .slice A1_1 l1_1.length c1_1] 51 (0, 0)) (by (with_reducible repeat (first | refine blk_drewN ?_ _ | refine blk_drew ?_ | refine blk_alloc ?_ _)); exact BK782.out) hb); have n2_ := Aside0.mk (below_step (by repeat (first | (with_reducible first | exact HB.out | apply below_alloc | apply pw_below_drewN | apply below_drew1 | refine below_set ?_ GE781.out | refine below_set ?_ GE782.out) | exact HB.out)) hb); have n3_ := Aside0.mk (hbox); have n4_ := Aside0.mk ((by rw [hg]; exact (below_size (by repeat (first | (with_reducible first | exact HB.out | apply below_alloc | apply pw_below_drewN | apply below_drew1 | refine below_set ?_ GE781.out | refine below_set ?_ GE782.out) | exact HB.out))) : w.heap.size ≤ gb783)); have n5_ := Aside0.mk ((by rw [hg]; exact (below_size (by repeat (first | (with_reducible first | exact HB.out | apply below_alloc | apply pw_below_drewN | apply below_drew1 | refine below_set ?_ GE781.out | refine below_set ?_ GE782.out) | exact HB.out))) : w.heap.size ≤ gb783)); have n6_ := Aside0.mk ((by rw [hg]; exact Nat.ne_of_lt (blk_lt (g := gb781) (o := .cells #[.string a0_0, .slice A0_1 l0_1.length c0_1] 51 (0, 0)) (by (with_reducible repeat (first | refine blk_drewN ?_ _ | refine blk_drew ?_ | refine blk_alloc ?_ _)); exact BK781.out)) : gb781 ≠ gb783)); have n7_ := Aside0.mk ((by rw [hg]; exact Nat.ne_of_gt (blk_lt (g := gb781) (o := .cells #[.string a0_0, .slice A0_1 l0_1.length c0_1] 51 (0, 0)) (by (with_reducible repeat (first | refine blk_drewN ?_ _ | refine blk_drew ?_ | refine blk_alloc ?_ _)); exact BK781.out)) : gb783 ≠ gb781)); have n8_ := Aside0.mk ((by rw [hg]; exact Nat.ne_of_lt (blk_lt (g := gb782) (o := .cells #[.string a1_0, .slice A1_1 l1_1.length c1_1] 51 (0, 0)) (by (with_reducible repeat (first | refine blk_drewN ?_ _ | refine blk_drew ?_ | refine blk_alloc ?_ _)); exact BK782.out)) : gb782 ≠ gb783)); have n9_ := Aside0.mk ((by rw [hg]; exact Nat.ne_of_gt (blk_lt (g := gb782) (o := .cells #[.string a1_0, .slice A1_1 l1_1.length c1_1] 51 (0, 0)) (by (with_reducible repeat (first | refine blk_drewN ?_ _ | refine blk_drew ?_ | refine blk_alloc ?_ _)); exact BK782.out)) : gb783 ≠ gb782)); clear BK781; clear BK782; clear HB; have BK781 := n0_; have BK782 := n1_; have HB := n2_; have BK783 := n3_; have GW783 := n4_; have GE783 := n5_; have NB781_783 := n6_; have NB783_781 := n7_; have NB782_783 := n8_; have NB783_782 := n9_; clear n0_ n1_ n2_ n3_ n4_ n5_ n6_ n7_ n8_ n9_; clear hb hbox hg) | (go_at_call 44; (with_reducible refine (bureaulaw04_alive.calls k  true _ A4.out).mono ?_); rintro e w10 ⟨rfl, hb⟩; have n0_ := Aside0.mk (blk_below (g := gb781) (o := .cells #[.string a0_0, .slice A0_1 l0_1.length c0_1] 51 (0, 0)) (by (with_reducible repeat (first | refine blk_drewN ?_ _ | refine blk_drew ?_ | refine blk_alloc ?_ _)); exact BK781.out) hb); have n1_ := Aside0.mk (blk_below (g := gb782) (o := .cells #[.string a1_0, .slice A1_1 l1_1.length c1_1] 51 (0, 0)) (by (with_reducible repeat (first | refine blk_drewN ?_ _ | refine blk_drew ?_ | refine blk_alloc ?_ _)); exact BK782.out) hb); have n2_ := Aside0.mk (blk_below (g := gb783) (o := .cells #[.int .u64 a2_0, .int .u64 a2_1] 85 (0, 0)) (by (with_reducible repeat (first | refine blk_drewN ?_ _ | refine blk_drew ?_ | refine blk_alloc ?_ _)); exact BK783.out) hb); have n3_ := Aside0.mk (below_step (by repeat (first | (with_reducible first | exact HB.out | apply below_alloc | apply pw_below_drewN | apply below_drew1 | refine below_set ?_ GE781.out | refine below_set ?_ GE782.out | refine below_set ?_ GE783.out) | exact HB.out)) hb); clear BK781; clear BK782; clear BK783; clear HB; have BK781 := n0_; have BK782 := n1_; have BK783 := n2_; have HB := n3_; clear n0_ n1_ n2_ n3_; (try clear hb); (try clear hb2); (try clear hk); (try clear hi)))
    repeat (go_quiet (first | ((with_reducible refine gate_dst (N := 3) rfl ?_); (try (refine gate_guard (by rfl) ?_; dsimp only)); refine box_event ?hg (N := 3) ?hd (cs := #[.string a0_0, .slice A0_1 l0_1.length c0_1]) (t := 51) ?hr ?_; (case hd => rfl); (case hg => rfl); (case hr => first | (go_simp; done) | (go_simp; rfl)); intro gb781 hg w7 hbox hb; have n0_ := Aside0.mk (below_step (by repeat (first | (with_reducible first | exact HB.out | apply below_alloc | apply pw_below_drewN | apply below_drew1) | exact HB.out)) hb); have n1_ := Aside0.mk (hbox); have n2_ := Aside0.mk ((by rw [hg]; exact (below_size (by repeat (first | (with_reducible first | exact HB.out | apply below_alloc | apply pw_below_drewN | apply below_drew1) | exact HB.out))) : w.heap.size ≤ gb781)); have n3_ := Aside0.mk ((by rw [hg]; exact (below_size (by repeat (first | (with_reducible first | exact HB.out | apply below_alloc | apply pw_below_drewN | apply below_drew1) | exact HB.out))) : w.heap.size ≤ gb781)); clear HB; have HB := n0_; have BK781 := n1_; have GW781 := n2_; have GE781 := n3_; clear n0_ n1_ n2_ n3_; clear hb hbox hg) | ((with_reducible refine gate_dst (N := 4) rfl ?_); (try (refine gate_guard (by rfl) ?_; dsimp only)); refine box_event ?hg (N := 4) ?hd (cs := #[.string a1_0, .slice A1_1 l1_1.length c1_1]) (t := 51) ?hr ?_; (case hd => rfl); (case hg => rfl); (case hr => first | (go_simp; done) | (go_simp; rfl)); intro gb782 hg w8 hbox hb; have n0_ := Aside0.mk (blk_below (g := gb781) (o := .cells #[.string a0_0, .slice A0_1 l0_1.length c0_1] 51 (0, 0)) (by (with_reducible repeat (first | refine blk_drewN ?_ _ | refine blk_drew ?_ | refine blk_alloc ?_ _)); exact BK781.out) hb); have n1_ := Aside0.mk (below_step (by repeat (first | (with_reducible first | exact HB.out | apply below_alloc | apply pw_below_drewN | apply below_drew1 | refine below_set ?_ GE781.out) | exact HB.out)) hb); have n2_ := Aside0.mk (hbox); have n3_ := Aside0.mk ((by rw [hg]; exact (below_size (by repeat (first | (with_reducible first | exact HB.out | apply below_alloc | apply pw_below_drewN | apply below_drew1 | refine below_set ?_ GE781.out) | exact HB.out))) : w.heap.size ≤ gb782)); have n4_ := Aside0.mk ((by rw [hg]; exact (below_size (by repeat (first | (with_reducible first | exact HB.out | apply below_alloc | apply pw_below_drewN | apply below_drew1 | refine below_set ?_ GE781.out) | exact HB.out))) : w.heap.size ≤ gb782)); have n5_ := Aside0.mk ((by rw [hg]; exact Nat.ne_of_lt (blk_lt (g := gb781) (o := .cells #[.string a0_0, .slice A0_1 l0_1.length c0_1] 51 (0, 0)) (by (with_reducible repeat (first | refine blk_drewN ?_ _ | refine blk_drew ?_ | refine blk_alloc ?_ _)); exact BK781.out)) : gb781 ≠ gb782)); have n6_ := Aside0.mk ((by rw [hg]; exact Nat.ne_of_gt (blk_lt (g := gb781) (o := .cells #[.string a0_0, .slice A0_1 l0_1.length c0_1] 51 (0, 0)) (by (with_reducible repeat (first | refine blk_drewN ?_ _ | refine blk_drew ?_ | refine blk_alloc ?_ _)); exact BK781.out)) : gb782 ≠ gb781)); clear BK781; clear HB; have BK781 := n0_; have HB := n1_; have BK782 := n2_; have GW782 := n3_; have GE782 := n4_; have NB781_782 := n5_; have NB782_781 := n6_; clear n0_ n1_ n2_ n3_ n4_ n5_ n6_; clear hb hbox hg) | ((with_reducible refine gate_dst (N := 5) rfl ?_); (try (refine gate_guard (by rfl) ?_; dsimp only)); refine box_event ?hg (N := 5) ?hd (cs := #[.int .u64 a2_0, .int .u64 a2_1]) (t := 85) ?hr ?_; (case hd => rfl); (case hg => rfl); (case hr => first | (go_simp; done) | (go_simp; rfl)); intro gb783 hg w9 hbox hb; have n0_ := Aside0.mk (blk_below (g := gb781) (o := .cells #[.string a0_0, .slice A0_1 l0_1.length c0_1] 51 (0, 0)) (by (with_reducible repeat (first | refine blk_drewN ?_ _ | refine blk_drew ?_ | refine blk_alloc ?_ _)); exact BK781.out) hb); have n1_ := Aside0.mk (blk_below (g := gb782) (o := .cells #[.string a1_0, .slice A1_1 l1_1.length c1_1] 51 (0, 0)) (by (with_reducible repeat (first | refine blk_drewN ?_ _ | refine blk_drew ?_ | refine blk_alloc ?_ _)); exact BK782.out) hb); have n2_ := Aside0.mk (below_step (by repeat (first | (with_reducible first | exact HB.out | apply below_alloc | apply pw_below_drewN | apply below_drew1 | refine below_set ?_ GE781.out | refine below_set ?_ GE782.out) | exact HB.out)) hb); have n3_ := Aside0.mk (hbox); have n4_ := Aside0.mk ((by rw [hg]; exact (below_size (by repeat (first | (with_reducible first | exact HB.out | apply below_alloc | apply pw_below_drewN | apply below_drew1 | refine below_set ?_ GE781.out | refine below_set ?_ GE782.out) | exact HB.out))) : w.heap.size ≤ gb783)); have n5_ := Aside0.mk ((by rw [hg]; exact (below_size (by repeat (first | (with_reducible first | exact HB.out | apply below_alloc | apply pw_below_drewN | apply below_drew1 | refine below_set ?_ GE781.out | refine below_set ?_ GE782.out) | exact HB.out))) : w.heap.size ≤ gb783)); have n6_ := Aside0.mk ((by rw [hg]; exact Nat.ne_of_lt (blk_lt (g := gb781) (o := .cells #[.string a0_0, .slice A0_1 l0_1.length c0_1] 51 (0, 0)) (by (with_reducible repeat (first | refine blk_drewN ?_ _ | refine blk_drew ?_ | refine blk_alloc ?_ _)); exact BK781.out)) : gb781 ≠ gb783)); have n7_ := Aside0.mk ((by rw [hg]; exact Nat.ne_of_gt (blk_lt (g := gb781) (o := .cells #[.string a0_0, .slice A0_1 l0_1.length c0_1] 51 (0, 0)) (by (with_reducible repeat (first | refine blk_drewN ?_ _ | refine blk_drew ?_ | refine blk_alloc ?_ _)); exact BK781.out)) : gb783 ≠ gb781)); have n8_ := Aside0.mk ((by rw [hg]; exact Nat.ne_of_lt (blk_lt (g := gb782) (o := .cells #[.string a1_0, .slice A1_1 l1_1.length c1_1] 51 (0, 0)) (by (with_reducible repeat (first | refine blk_drewN ?_ _ | refine blk_drew ?_ | refine blk_alloc ?_ _)); exact BK782.out)) : gb782 ≠ gb783)); have n9_ := Aside0.mk ((by rw [hg]; exact Nat.ne_of_gt (blk_lt (g := gb782) (o := .cells #[.string a1_0, .slice A1_1 l1_1.length c1_1] 51 (0, 0)) (by (with_reducible repeat (first | refine blk_drewN ?_ _ | refine blk_drew ?_ | refine blk_alloc ?_ _)); exact BK782.out)) : gb783 ≠ gb782)); clear BK781; clear BK782; clear HB; have BK781 := n0_; have BK782 := n1_; have HB := n2_; have BK783 := n3_; have GW783 := n4_; have GE783 := n5_; have NB781_783 := n6_; have NB783_781 := n7_; have NB782_783 := n8_; have NB783_782 := n9_; clear n0_ n1_ n2_ n3_ n4_ n5_ n6_ n7_ n8_ n9_; clear hb hbox hg) | (go_at_call 44; (with_reducible refine (bureaulaw04_alive.calls k  true _ A4.out).mono ?_); rintro e w10 ⟨rfl, hb⟩; have n0_ := Aside0.mk (blk_below (g := gb781) (o := .cells #[.string a0_0, .slice A0_1 l0_1.length c0_1] 51 (0, 0)) (by (with_reducible repeat (first | refine blk_drewN ?_ _ | refine blk_drew ?_ | refine blk_alloc ?_ _)); exact BK781.out) hb); have n1_ := Aside0.mk (blk_below (g := gb782) (o := .cells #[.string a1_0, .slice A1_1 l1_1.length c1_1] 51 (0, 0)) (by (with_reducible repeat (first | refine blk_drewN ?_ _ | refine blk_drew ?_ | refine blk_alloc ?_ _)); exact BK782.out) hb); have n2_ := Aside0.mk (blk_below (g := gb783) (o := .cells #[.int .u64 a2_0, .int .u64 a2_1] 85 (0, 0)) (by (with_reducible repeat (first | refine blk_drewN ?_ _ | refine blk_drew ?_ | refine blk_alloc ?_ _)); exact BK783.out) hb); have n3_ := Aside0.mk (below_step (by repeat (first | (with_reducible first | exact HB.out | apply below_alloc | apply pw_below_drewN | apply below_drew1 | refine below_set ?_ GE781.out | refine below_set ?_ GE782.out | refine below_set ?_ GE783.out) | exact HB.out)) hb); clear BK781; clear BK782; clear BK783; clear HB; have BK781 := n0_; have BK782 := n1_; have BK783 := n2_; have HB := n3_; clear n0_ n1_ n2_ n3_; (try clear hb); (try clear hb2); (try clear hk); (try clear hi))); go_upto_region 3 with (first | ((with_reducible refine gate_dst (N := 3) rfl ?_); (try (refine gate_guard (by rfl) ?_; dsimp only)); refine box_event ?hg (N := 3) ?hd (cs := #[.string a0_0, .slice A0_1 l0_1.length c0_1]) (t := 51) ?hr ?_; (case hd => rfl); (case hg => rfl); (case hr => first | (go_simp; done) | (go_simp; rfl)); intro gb781 hg w7 hbox hb; have n0_ := Aside0.mk (below_step (by repeat (first | (with_reducible first | exact HB.out | apply below_alloc | apply pw_below_drewN | apply below_drew1) | exact HB.out)) hb); have n1_ := Aside0.mk (hbox); have n2_ := Aside0.mk ((by rw [hg]; exact (below_size (by repeat (first | (with_reducible first | exact HB.out | apply below_alloc | apply pw_below_drewN | apply below_drew1) | exact HB.out))) : w.heap.size ≤ gb781)); have n3_ := Aside0.mk ((by rw [hg]; exact (below_size (by repeat (first | (with_reducible first | exact HB.out | apply below_alloc | apply pw_below_drewN | apply below_drew1) | exact HB.out))) : w.heap.size ≤ gb781)); clear HB; have HB := n0_; have BK781 := n1_; have GW781 := n2_; have GE781 := n3_; clear n0_ n1_ n2_ n3_; clear hb hbox hg) | ((with_reducible refine gate_dst (N := 4) rfl ?_); (try (refine gate_guard (by rfl) ?_; dsimp only)); refine box_event ?hg (N := 4) ?hd (cs := #[.string a1_0, .slice A1_1 l1_1.length c1_1]) (t := 51) ?hr ?_; (case hd => rfl); (case hg => rfl); (case hr => first | (go_simp; done) | (go_simp; rfl)); intro gb782 hg w8 hbox hb; have n0_ := Aside0.mk (blk_below (g := gb781) (o := .cells #[.string a0_0, .slice A0_1 l0_1.length c0_1] 51 (0, 0)) (by (with_reducible repeat (first | refine blk_drewN ?_ _ | refine blk_drew ?_ | refine blk_alloc ?_ _)); exact BK781.out) hb); have n1_ := Aside0.mk (below_step (by repeat (first | (with_reducible first | exact HB.out | apply below_alloc | apply pw_below_drewN | apply below_drew1 | refine below_set ?_ GE781.out) | exact HB.out)) hb); have n2_ := Aside0.mk (hbox); have n3_ := Aside0.mk ((by rw [hg]; exact (below_size (by repeat (first | (with_reducible first | exact HB.out | apply below_alloc | apply pw_below_drewN | apply below_drew1 | refine below_set ?_ GE781.out) | exact HB.out))) : w.heap.size ≤ gb782)); have n4_ := Aside0.mk ((by rw [hg]; exact (below_size (by repeat (first | (with_reducible first | exact HB.out | apply below_alloc | apply pw_below_drewN | apply below_drew1 | refine below_set ?_ GE781.out) | exact HB.out))) : w.heap.size ≤ gb782)); have n5_ := Aside0.mk ((by rw [hg]; exact Nat.ne_of_lt (blk_lt (g := gb781) (o := .cells #[.string a0_0, .slice A0_1 l0_1.length c0_1] 51 (0, 0)) (by (with_reducible repeat (first | refine blk_drewN ?_ _ | refine blk_drew ?_ | refine blk_alloc ?_ _)); exact BK781.out)) : gb781 ≠ gb782)); have n6_ := Aside0.mk ((by rw [hg]; exact Nat.ne_of_gt (blk_lt (g := gb781) (o := .cells #[.string a0_0, .slice A0_1 l0_1.length c0_1] 51 (0, 0)) (by (with_reducible repeat (first | refine blk_drewN ?_ _ | refine blk_drew ?_ | refine blk_alloc ?_ _)); exact BK781.out)) : gb782 ≠ gb781)); clear BK781; clear HB; have BK781 := n0_; have HB := n1_; have BK782 := n2_; have GW782 := n3_; have GE782 := n4_; have NB781_782 := n5_; have NB782_781 := n6_; clear n0_ n1_ n2_ n3_ n4_ n5_ n6_; clear hb hbox hg) | ((with_reducible refine gate_dst (N := 5) rfl ?_); (try (refine gate_guard (by rfl) ?_; dsimp only)); refine box_event ?hg (N := 5) ?hd (cs := #[.int .u64 a2_0, .int .u64 a2_1]) (t := 85) ?hr ?_; (case hd => rfl); (case hg => rfl); (case hr => first | (go_simp; done) | (go_simp; rfl)); intro gb783 hg w9 hbox hb; have n0_ := Aside0.mk (blk_below (g := gb781) (o := .cells #[.string a0_0, .slice A0_1 l0_1.length c0_1] 51 (0, 0)) (by (with_reducible repeat (first | refine blk_drewN ?_ _ | refine blk_drew ?_ | refine blk_alloc ?_ _)); exact BK781.out) hb); have n1_ := Aside0.mk (blk_below (g := gb782) (o := .cells #[.string a1_0, .slice A1_1 l1_1.length c1_1] 51 (0, 0)) (by (with_reducible repeat (first | refine blk_drewN ?_ _ | refine blk_drew ?_ | refine blk_alloc ?_ _)); exact BK782.out) hb); have n2_ := Aside0.mk (below_step (by repeat (first | (with_reducible first | exact HB.out | apply below_alloc | apply pw_below_drewN | apply below_drew1 | refine below_set ?_ GE781.out | refine below_set ?_ GE782.out) | exact HB.out)) hb); have n3_ := Aside0.mk (hbox); have n4_ := Aside0.mk ((by rw [hg]; exact (below_size (by repeat (first | (with_reducible first | exact HB.out | apply below_alloc | apply pw_below_drewN | apply below_drew1 | refine below_set ?_ GE781.out | refine below_set ?_ GE782.out) | exact HB.out))) : w.heap.size ≤ gb783)); have n5_ := Aside0.mk ((by rw [hg]; exact (below_size (by repeat (first | (with_reducible first | exact HB.out | apply below_alloc | apply pw_below_drewN | apply below_drew1 | refine below_set ?_ GE781.out | refine below_set ?_ GE782.out) | exact HB.out))) : w.heap.size ≤ gb783)); have n6_ := Aside0.mk ((by rw [hg]; exact Nat.ne_of_lt (blk_lt (g := gb781) (o := .cells #[.string a0_0, .slice A0_1 l0_1.length c0_1] 51 (0, 0)) (by (with_reducible repeat (first | refine blk_drewN ?_ _ | refine blk_drew ?_ | refine blk_alloc ?_ _)); exact BK781.out)) : gb781 ≠ gb783)); have n7_ := Aside0.mk ((by rw [hg]; exact Nat.ne_of_gt (blk_lt (g := gb781) (o := .cells #[.string a0_0, .slice A0_1 l0_1.length c0_1] 51 (0, 0)) (by (with_reducible repeat (first | refine blk_drewN ?_ _ | refine blk_drew ?_ | refine blk_alloc ?_ _)); exact BK781.out)) : gb783 ≠ gb781)); have n8_ := Aside0.mk ((by rw [hg]; exact Nat.ne_of_lt (blk_lt (g := gb782) (o := .cells #[.string a1_0, .slice A1_1 l1_1.length c1_1] 51 (0, 0)) (by (with_reducible repeat (first | refine blk_drewN ?_ _ | refine blk_drew ?_ | refine blk_alloc ?_ _)); exact BK782.out)) : gb782 ≠ gb783)); have n9_ := Aside0.mk ((by rw [hg]; exact Nat.ne_of_gt (blk_lt (g := gb782) (o := .cells #[.string a1_0, .slice A1_1 l1_1.length c1_1] 51 (0, 0)) (by (with_reducible repeat (first | refine blk_drewN ?_ _ | refine blk_drew ?_ | refine blk_alloc ?_ _)); exact BK782.out)) : gb783 ≠ gb782)); clear BK781; clear BK782; clear HB; have BK781 := n0_; have BK782 := n1_; have HB := n2_; have BK783 := n3_; have GW783 := n4_; have GE783 := n5_; have NB781_783 := n6_; have NB783_781 := n7_; have NB782_783 := n8_; have NB783_782 := n9_; clear n0_ n1_ n2_ n3_ n4_ n5_ n6_ n7_ n8_ n9_; clear hb hbox hg) | (go_at_call 44; (with_reducible refine (bureaulaw04_alive.calls k  true _ A4.out).mono ?_); rintro e w10 ⟨rfl, hb⟩; have n0_ := Aside0.mk (blk_below (g := gb781) (o := .cells #[.string a0_0, .slice A0_1 l0_1.length c0_1] 51 (0, 0)) (by (with_reducible repeat (first | refine blk_drewN ?_ _ | refine blk_drew ?_ | refine blk_alloc ?_ _)); exact BK781.out) hb); have n1_ := Aside0.mk (blk_below (g := gb782) (o := .cells #[.string a1_0, .slice A1_1 l1_1.length c1_1] 51 (0, 0)) (by (with_reducible repeat (first | refine blk_drewN ?_ _ | refine blk_drew ?_ | refine blk_alloc ?_ _)); exact BK782.out) hb); have n2_ := Aside0.mk (blk_below (g := gb783) (o := .cells #[.int .u64 a2_0, .int .u64 a2_1] 85 (0, 0)) (by (with_reducible repeat (first | refine blk_drewN ?_ _ | refine blk_drew ?_ | refine blk_alloc ?_ _)); exact BK783.out) hb); have n3_ := Aside0.mk (below_step (by repeat (first | (with_reducible first | exact HB.out | apply below_alloc | apply pw_below_drewN | apply below_drew1 | refine below_set ?_ GE781.out | refine below_set ?_ GE782.out | refine below_set ?_ GE783.out) | exact HB.out)) hb); clear BK781; clear BK782; clear BK783; clear HB; have BK781 := n0_; have BK782 := n1_; have BK783 := n2_; have HB := n3_; clear n0_ n1_ n2_ n3_; (try clear hb); (try clear hb2); (try clear hk); (try clear hi))))
    (try simp only [Act.put, List.setIfInBounds_toArray, List.set_cons_zero, List.set_cons_succ])
    go_cut [23] (fun v23 wc => ∃ (kq : Nat) (x23_5 : Bool), v23 = .bool x23_5 ∧ Aside0 (bureaulaw04_StripHigher.j0 kq x23_5 a0_0 l0_1 a1_0 l1_1 a2_0 a2_1 = some r) ∧ Aside0 (kq ≤ k) ∧ Aside0 (wc.heap[gb781]? = some (.cells #[.string a0_0, (.slice A0_1 l0_1.length c0_1)] 51 (0, 0))) ∧ Aside0 (wc.heap[gb782]? = some (.cells #[.string a1_0, (.slice A1_1 l1_1.length c1_1)] 51 (0, 0))) ∧ Aside0 (wc.heap[gb783]? = some (.cells #[.int .u64 a2_0, .int .u64 a2_1] 85 (0, 0))) ∧ Aside0 (Below w.heap.size w wc))
    case first =>
      have H := HC6.out
      clear HC6
      replace H := Option.bind_eq_some_iff.mp H
      obtain ⟨t785, A110, H⟩ := H
      replace H : (if t785 = true then ((bureaulaw04_Fits.f a1_0 l1_1).bind fun t786 => (bureaulaw04_StripHigher.j0 k (!t786) a0_0 l0_1 a1_0 l1_1 a2_0 a2_1)) else (bureaulaw04_StripHigher.j0 k true a0_0 l0_1 a1_0 l1_1 a2_0 a2_1)) = some r := H
      have A11 := Aside0.mk A110
      clear A110
      by_cases c12 : t785 = true
      · subst c12
        have H1 : ((bureaulaw04_Fits.f a1_0 l1_1).bind fun t786 => (bureaulaw04_StripHigher.j0 k (!t786) a0_0 l0_1 a1_0 l1_1 a2_0 a2_1)) = some r := by rw [if_pos rfl] at H; exact H
        clear H
        have H := H1
        clear H1
        replace H := Option.bind_eq_some_iff.mp H
        obtain ⟨t786, A130, H⟩ := H
        replace H : (bureaulaw04_StripHigher.j0 k (!t786) a0_0 l0_1 a1_0 l1_1 a2_0 a2_1) = some r := H
        have A13 := Aside0.mk A130
        clear A130
        have H' := Aside0.mk H
        clear H
        have hnb14 := NB781_782.out
        have hnc14 := NB782_781.out
        have hnb15 := NB781_783.out
        have hnc15 := NB783_781.out
        have hcz16_0 : w10.cell? ⟨gb781, 0, none⟩ = some (.string a0_0) := (blk_cell BK781.out 0).trans rfl
        have hcz16_1 : w10.cell? ⟨gb781, 1, none⟩ = some (.slice A0_1 l0_1.length c0_1) := (blk_cell BK781.out 1).trans rfl
        have hfz16_0 := blk_frozen BK781.out 0
        have hfz16_1 := blk_frozen BK781.out 1
        go_wp2_with (first | (go_at_call 45; (with_reducible refine (bureaulaw04_Fits.calls a0_0 _ _ l0_1 true _ ?side1 ?side2 A11.out).mono ?_); (case side1 => repeat (first | exact (Kd.C_below HR0_1.out HB.out) | (with_reducible refine Kd.C_alloc ?_ _) | (with_reducible refine Kd.C_drewN ?_ _) | (with_reducible refine Kd.C_drew ?_))); (case side2 => exact HC0_1.out); rintro e w17 ⟨rfl, hb⟩; have n0_ := Aside0.mk (blk_below (g := gb781) (o := .cells #[.string a0_0, .slice A0_1 l0_1.length c0_1] 51 (0, 0)) (by (with_reducible repeat (first | refine blk_drewN ?_ _ | refine blk_drew ?_ | refine blk_alloc ?_ _)); exact BK781.out) hb); have n1_ := Aside0.mk (blk_below (g := gb782) (o := .cells #[.string a1_0, .slice A1_1 l1_1.length c1_1] 51 (0, 0)) (by (with_reducible repeat (first | refine blk_drewN ?_ _ | refine blk_drew ?_ | refine blk_alloc ?_ _)); exact BK782.out) hb); have n2_ := Aside0.mk (blk_below (g := gb783) (o := .cells #[.int .u64 a2_0, .int .u64 a2_1] 85 (0, 0)) (by (with_reducible repeat (first | refine blk_drewN ?_ _ | refine blk_drew ?_ | refine blk_alloc ?_ _)); exact BK783.out) hb); have n3_ := Aside0.mk (below_step (by repeat (first | (with_reducible first | exact HB.out | apply below_alloc | apply pw_below_drewN | apply below_drew1 | refine below_set ?_ GE781.out | refine below_set ?_ GE782.out | refine below_set ?_ GE783.out) | exact HB.out)) hb); clear BK781; clear BK782; clear BK783; clear HB; have BK781 := n0_; have BK782 := n1_; have BK783 := n2_; have HB := n3_; clear n0_ n1_ n2_ n3_; (try clear hb); (try clear hb2); (try clear hk); (try clear hi); have hnb18 := NB782_783.out; have hnc18 := NB783_782.out; have hcz19_0 : w17.cell? ⟨gb782, 0, none⟩ = some (.string a1_0) := (blk_cell BK782.out 0).trans rfl; have hcz19_1 : w17.cell? ⟨gb782, 1, none⟩ = some (.slice A1_1 l1_1.length c1_1) := (blk_cell BK782.out 1).trans rfl; have hfz19_0 := blk_frozen BK782.out 0; have hfz19_1 := blk_frozen BK782.out 1) | (go_at_call 45; (with_reducible refine (bureaulaw04_Fits.calls a1_0 _ _ l1_1 t786 _ ?side1 ?side2 A13.out).mono ?_); (case side1 => repeat (first | exact (Kd.C_below HR1_1.out HB.out) | (with_reducible refine Kd.C_alloc ?_ _) | (with_reducible refine Kd.C_drewN ?_ _) | (with_reducible refine Kd.C_drew ?_))); (case side2 => exact HC1_1.out); rintro e w20 ⟨rfl, hb⟩; have n0_ := Aside0.mk (blk_below (g := gb781) (o := .cells #[.string a0_0, .slice A0_1 l0_1.length c0_1] 51 (0, 0)) (by (with_reducible repeat (first | refine blk_drewN ?_ _ | refine blk_drew ?_ | refine blk_alloc ?_ _)); exact BK781.out) hb); have n1_ := Aside0.mk (blk_below (g := gb782) (o := .cells #[.string a1_0, .slice A1_1 l1_1.length c1_1] 51 (0, 0)) (by (with_reducible repeat (first | refine blk_drewN ?_ _ | refine blk_drew ?_ | refine blk_alloc ?_ _)); exact BK782.out) hb); have n2_ := Aside0.mk (blk_below (g := gb783) (o := .cells #[.int .u64 a2_0, .int .u64 a2_1] 85 (0, 0)) (by (with_reducible repeat (first | refine blk_drewN ?_ _ | refine blk_drew ?_ | refine blk_alloc ?_ _)); exact BK783.out) hb); have n3_ := Aside0.mk (below_step (by repeat (first | (with_reducible first | exact HB.out | apply below_alloc | apply pw_below_drewN | apply below_drew1 | refine below_set ?_ GE781.out | refine below_set ?_ GE782.out | refine below_set ?_ GE783.out) | exact HB.out)) hb); clear BK781; clear BK782; clear BK783; clear HB; have BK781 := n0_; have BK782 := n1_; have BK783 := n2_; have HB := n3_; clear n0_ n1_ n2_ n3_; (try clear hb); (try clear hb2); (try clear hk); (try clear hi)))
        repeat (go_quiet (first | (go_at_call 45; (with_reducible refine (bureaulaw04_Fits.calls a0_0 _ _ l0_1 true _ ?side1 ?side2 A11.out).mono ?_); (case side1 => repeat (first | exact (Kd.C_below HR0_1.out HB.out) | (with_reducible refine Kd.C_alloc ?_ _) | (with_reducible refine Kd.C_drewN ?_ _) | (with_reducible refine Kd.C_drew ?_))); (case side2 => exact HC0_1.out); rintro e w17 ⟨rfl, hb⟩; have n0_ := Aside0.mk (blk_below (g := gb781) (o := .cells #[.string a0_0, .slice A0_1 l0_1.length c0_1] 51 (0, 0)) (by (with_reducible repeat (first | refine blk_drewN ?_ _ | refine blk_drew ?_ | refine blk_alloc ?_ _)); exact BK781.out) hb); have n1_ := Aside0.mk (blk_below (g := gb782) (o := .cells #[.string a1_0, .slice A1_1 l1_1.length c1_1] 51 (0, 0)) (by (with_reducible repeat (first | refine blk_drewN ?_ _ | refine blk_drew ?_ | refine blk_alloc ?_ _)); exact BK782.out) hb); have n2_ := Aside0.mk (blk_below (g := gb783) (o := .cells #[.int .u64 a2_0, .int .u64 a2_1] 85 (0, 0)) (by (with_reducible repeat (first | refine blk_drewN ?_ _ | refine blk_drew ?_ | refine blk_alloc ?_ _)); exact BK783.out) hb); have n3_ := Aside0.mk (below_step (by repeat (first | (with_reducible first | exact HB.out | apply below_alloc | apply pw_below_drewN | apply below_drew1 | refine below_set ?_ GE781.out | refine below_set ?_ GE782.out | refine below_set ?_ GE783.out) | exact HB.out)) hb); clear BK781; clear BK782; clear BK783; clear HB; have BK781 := n0_; have BK782 := n1_; have BK783 := n2_; have HB := n3_; clear n0_ n1_ n2_ n3_; (try clear hb); (try clear hb2); (try clear hk); (try clear hi); have hnb18 := NB782_783.out; have hnc18 := NB783_782.out; have hcz19_0 : w17.cell? ⟨gb782, 0, none⟩ = some (.string a1_0) := (blk_cell BK782.out 0).trans rfl; have hcz19_1 : w17.cell? ⟨gb782, 1, none⟩ = some (.slice A1_1 l1_1.length c1_1) := (blk_cell BK782.out 1).trans rfl; have hfz19_0 := blk_frozen BK782.out 0; have hfz19_1 := blk_frozen BK782.out 1) | (go_at_call 45; (with_reducible refine (bureaulaw04_Fits.calls a1_0 _ _ l1_1 t786 _ ?side1 ?side2 A13.out).mono ?_); (case side1 => repeat (first | exact (Kd.C_below HR1_1.out HB.out) | (with_reducible refine Kd.C_alloc ?_ _) | (with_reducible refine Kd.C_drewN ?_ _) | (with_reducible refine Kd.C_drew ?_))); (case side2 => exact HC1_1.out); rintro e w20 ⟨rfl, hb⟩; have n0_ := Aside0.mk (blk_below (g := gb781) (o := .cells #[.string a0_0, .slice A0_1 l0_1.length c0_1] 51 (0, 0)) (by (with_reducible repeat (first | refine blk_drewN ?_ _ | refine blk_drew ?_ | refine blk_alloc ?_ _)); exact BK781.out) hb); have n1_ := Aside0.mk (blk_below (g := gb782) (o := .cells #[.string a1_0, .slice A1_1 l1_1.length c1_1] 51 (0, 0)) (by (with_reducible repeat (first | refine blk_drewN ?_ _ | refine blk_drew ?_ | refine blk_alloc ?_ _)); exact BK782.out) hb); have n2_ := Aside0.mk (blk_below (g := gb783) (o := .cells #[.int .u64 a2_0, .int .u64 a2_1] 85 (0, 0)) (by (with_reducible repeat (first | refine blk_drewN ?_ _ | refine blk_drew ?_ | refine blk_alloc ?_ _)); exact BK783.out) hb); have n3_ := Aside0.mk (below_step (by repeat (first | (with_reducible first | exact HB.out | apply below_alloc | apply pw_below_drewN | apply below_drew1 | refine below_set ?_ GE781.out | refine below_set ?_ GE782.out | refine below_set ?_ GE783.out) | exact HB.out)) hb); clear BK781; clear BK782; clear BK783; clear HB; have BK781 := n0_; have BK782 := n1_; have BK783 := n2_; have HB := n3_; clear n0_ n1_ n2_ n3_; (try clear hb); (try clear hb2); (try clear hk); (try clear hi))); try go_wp2_with (first | (go_at_call 45; (with_reducible refine (bureaulaw04_Fits.calls a0_0 _ _ l0_1 true _ ?side1 ?side2 A11.out).mono ?_); (case side1 => repeat (first | exact (Kd.C_below HR0_1.out HB.out) | (with_reducible refine Kd.C_alloc ?_ _) | (with_reducible refine Kd.C_drewN ?_ _) | (with_reducible refine Kd.C_drew ?_))); (case side2 => exact HC0_1.out); rintro e w17 ⟨rfl, hb⟩; have n0_ := Aside0.mk (blk_below (g := gb781) (o := .cells #[.string a0_0, .slice A0_1 l0_1.length c0_1] 51 (0, 0)) (by (with_reducible repeat (first | refine blk_drewN ?_ _ | refine blk_drew ?_ | refine blk_alloc ?_ _)); exact BK781.out) hb); have n1_ := Aside0.mk (blk_below (g := gb782) (o := .cells #[.string a1_0, .slice A1_1 l1_1.length c1_1] 51 (0, 0)) (by (with_reducible repeat (first | refine blk_drewN ?_ _ | refine blk_drew ?_ | refine blk_alloc ?_ _)); exact BK782.out) hb); have n2_ := Aside0.mk (blk_below (g := gb783) (o := .cells #[.int .u64 a2_0, .int .u64 a2_1] 85 (0, 0)) (by (with_reducible repeat (first | refine blk_drewN ?_ _ | refine blk_drew ?_ | refine blk_alloc ?_ _)); exact BK783.out) hb); have n3_ := Aside0.mk (below_step (by repeat (first | (with_reducible first | exact HB.out | apply below_alloc | apply pw_below_drewN | apply below_drew1 | refine below_set ?_ GE781.out | refine below_set ?_ GE782.out | refine below_set ?_ GE783.out) | exact HB.out)) hb); clear BK781; clear BK782; clear BK783; clear HB; have BK781 := n0_; have BK782 := n1_; have BK783 := n2_; have HB := n3_; clear n0_ n1_ n2_ n3_; (try clear hb); (try clear hb2); (try clear hk); (try clear hi); have hnb18 := NB782_783.out; have hnc18 := NB783_782.out; have hcz19_0 : w17.cell? ⟨gb782, 0, none⟩ = some (.string a1_0) := (blk_cell BK782.out 0).trans rfl; have hcz19_1 : w17.cell? ⟨gb782, 1, none⟩ = some (.slice A1_1 l1_1.length c1_1) := (blk_cell BK782.out 1).trans rfl; have hfz19_0 := blk_frozen BK782.out 0; have hfz19_1 := blk_frozen BK782.out 1) | (go_at_call 45; (with_reducible refine (bureaulaw04_Fits.calls a1_0 _ _ l1_1 t786 _ ?side1 ?side2 A13.out).mono ?_); (case side1 => repeat (first | exact (Kd.C_below HR1_1.out HB.out) | (with_reducible refine Kd.C_alloc ?_ _) | (with_reducible refine Kd.C_drewN ?_ _) | (with_reducible refine Kd.C_drew ?_))); (case side2 => exact HC1_1.out); rintro e w20 ⟨rfl, hb⟩; have n0_ := Aside0.mk (blk_below (g := gb781) (o := .cells #[.string a0_0, .slice A0_1 l0_1.length c0_1] 51 (0, 0)) (by (with_reducible repeat (first | refine blk_drewN ?_ _ | refine blk_drew ?_ | refine blk_alloc ?_ _)); exact BK781.out) hb); have n1_ := Aside0.mk (blk_below (g := gb782) (o := .cells #[.string a1_0, .slice A1_1 l1_1.length c1_1] 51 (0, 0)) (by (with_reducible repeat (first | refine blk_drewN ?_ _ | refine blk_drew ?_ | refine blk_alloc ?_ _)); exact BK782.out) hb); have n2_ := Aside0.mk (blk_below (g := gb783) (o := .cells #[.int .u64 a2_0, .int .u64 a2_1] 85 (0, 0)) (by (with_reducible repeat (first | refine blk_drewN ?_ _ | refine blk_drew ?_ | refine blk_alloc ?_ _)); exact BK783.out) hb); have n3_ := Aside0.mk (below_step (by repeat (first | (with_reducible first | exact HB.out | apply below_alloc | apply pw_below_drewN | apply below_drew1 | refine below_set ?_ GE781.out | refine below_set ?_ GE782.out | refine below_set ?_ GE783.out) | exact HB.out)) hb); clear BK781; clear BK782; clear BK783; clear HB; have BK781 := n0_; have BK782 := n1_; have BK783 := n2_; have HB := n3_; clear n0_ n1_ n2_ n3_; (try clear hb); (try clear hb2); (try clear hk); (try clear hi))))
        go_meet
        case rel => exact ⟨_, (!t786), (by first | rfl | (simp; done) | (simp [*]; done)), H', ⟨by first | omega | exact Nat.le_refl _⟩, ⟨by (with_reducible repeat (first | refine blk_drewN ?_ _ | refine blk_drew ?_ | refine blk_alloc ?_ _)); exact BK781.out⟩, ⟨by (with_reducible repeat (first | refine blk_drewN ?_ _ | refine blk_drew ?_ | refine blk_alloc ?_ _)); exact BK782.out⟩, ⟨by (with_reducible repeat (first | refine blk_drewN ?_ _ | refine blk_drew ?_ | refine blk_alloc ?_ _)); exact BK783.out⟩, ⟨by repeat (first | (with_reducible first | exact HB.out | apply below_alloc | apply pw_below_drewN | apply below_drew1 | refine below_set ?_ GE781.out | refine below_set ?_ GE782.out | refine below_set ?_ GE783.out) | exact HB.out)⟩⟩
      · replace c12 := Bool.eq_false_iff.mpr c12
        subst c12
        have H1 : (bureaulaw04_StripHigher.j0 k true a0_0 l0_1 a1_0 l1_1 a2_0 a2_1) = some r := by rw [if_neg (show ¬ (false = true) by decide)] at H; exact H
        clear H
        have H := H1
        clear H1
        have H' := Aside0.mk H
        clear H
        have hnb21 := NB781_782.out
        have hnc21 := NB782_781.out
        have hnb22 := NB781_783.out
        have hnc22 := NB783_781.out
        have hcz23_0 : w10.cell? ⟨gb781, 0, none⟩ = some (.string a0_0) := (blk_cell BK781.out 0).trans rfl
        have hcz23_1 : w10.cell? ⟨gb781, 1, none⟩ = some (.slice A0_1 l0_1.length c0_1) := (blk_cell BK781.out 1).trans rfl
        have hfz23_0 := blk_frozen BK781.out 0
        have hfz23_1 := blk_frozen BK781.out 1
        go_wp2_with (first | (go_at_call 45; (with_reducible refine (bureaulaw04_Fits.calls a0_0 _ _ l0_1 false _ ?side1 ?side2 A11.out).mono ?_); (case side1 => repeat (first | exact (Kd.C_below HR0_1.out HB.out) | (with_reducible refine Kd.C_alloc ?_ _) | (with_reducible refine Kd.C_drewN ?_ _) | (with_reducible refine Kd.C_drew ?_))); (case side2 => exact HC0_1.out); rintro e w24 ⟨rfl, hb⟩; have n0_ := Aside0.mk (blk_below (g := gb781) (o := .cells #[.string a0_0, .slice A0_1 l0_1.length c0_1] 51 (0, 0)) (by (with_reducible repeat (first | refine blk_drewN ?_ _ | refine blk_drew ?_ | refine blk_alloc ?_ _)); exact BK781.out) hb); have n1_ := Aside0.mk (blk_below (g := gb782) (o := .cells #[.string a1_0, .slice A1_1 l1_1.length c1_1] 51 (0, 0)) (by (with_reducible repeat (first | refine blk_drewN ?_ _ | refine blk_drew ?_ | refine blk_alloc ?_ _)); exact BK782.out) hb); have n2_ := Aside0.mk (blk_below (g := gb783) (o := .cells #[.int .u64 a2_0, .int .u64 a2_1] 85 (0, 0)) (by (with_reducible repeat (first | refine blk_drewN ?_ _ | refine blk_drew ?_ | refine blk_alloc ?_ _)); exact BK783.out) hb); have n3_ := Aside0.mk (below_step (by repeat (first | (with_reducible first | exact HB.out | apply below_alloc | apply pw_below_drewN | apply below_drew1 | refine below_set ?_ GE781.out | refine below_set ?_ GE782.out | refine below_set ?_ GE783.out) | exact HB.out)) hb); clear BK781; clear BK782; clear BK783; clear HB; have BK781 := n0_; have BK782 := n1_; have BK783 := n2_; have HB := n3_; clear n0_ n1_ n2_ n3_; (try clear hb); (try clear hb2); (try clear hk); (try clear hi)))
        repeat (go_quiet (first | (go_at_call 45; (with_reducible refine (bureaulaw04_Fits.calls a0_0 _ _ l0_1 false _ ?side1 ?side2 A11.out).mono ?_); (case side1 => repeat (first | exact (Kd.C_below HR0_1.out HB.out) | (with_reducible refine Kd.C_alloc ?_ _) | (with_reducible refine Kd.C_drewN ?_ _) | (with_reducible refine Kd.C_drew ?_))); (case side2 => exact HC0_1.out); rintro e w24 ⟨rfl, hb⟩; have n0_ := Aside0.mk (blk_below (g := gb781) (o := .cells #[.string a0_0, .slice A0_1 l0_1.length c0_1] 51 (0, 0)) (by (with_reducible repeat (first | refine blk_drewN ?_ _ | refine blk_drew ?_ | refine blk_alloc ?_ _)); exact BK781.out) hb); have n1_ := Aside0.mk (blk_below (g := gb782) (o := .cells #[.string a1_0, .slice A1_1 l1_1.length c1_1] 51 (0, 0)) (by (with_reducible repeat (first | refine blk_drewN ?_ _ | refine blk_drew ?_ | refine blk_alloc ?_ _)); exact BK782.out) hb); have n2_ := Aside0.mk (blk_below (g := gb783) (o := .cells #[.int .u64 a2_0, .int .u64 a2_1] 85 (0, 0)) (by (with_reducible repeat (first | refine blk_drewN ?_ _ | refine blk_drew ?_ | refine blk_alloc ?_ _)); exact BK783.out) hb); have n3_ := Aside0.mk (below_step (by repeat (first | (with_reducible first | exact HB.out | apply below_alloc | apply pw_below_drewN | apply below_drew1 | refine below_set ?_ GE781.out | refine below_set ?_ GE782.out | refine below_set ?_ GE783.out) | exact HB.out)) hb); clear BK781; clear BK782; clear BK783; clear HB; have BK781 := n0_; have BK782 := n1_; have BK783 := n2_; have HB := n3_; clear n0_ n1_ n2_ n3_; (try clear hb); (try clear hb2); (try clear hk); (try clear hi))); try go_wp2_with (first | (go_at_call 45; (with_reducible refine (bureaulaw04_Fits.calls a0_0 _ _ l0_1 false _ ?side1 ?side2 A11.out).mono ?_); (case side1 => repeat (first | exact (Kd.C_below HR0_1.out HB.out) | (with_reducible refine Kd.C_alloc ?_ _) | (with_reducible refine Kd.C_drewN ?_ _) | (with_reducible refine Kd.C_drew ?_))); (case side2 => exact HC0_1.out); rintro e w24 ⟨rfl, hb⟩; have n0_ := Aside0.mk (blk_below (g := gb781) (o := .cells #[.string a0_0, .slice A0_1 l0_1.length c0_1] 51 (0, 0)) (by (with_reducible repeat (first | refine blk_drewN ?_ _ | refine blk_drew ?_ | refine blk_alloc ?_ _)); exact BK781.out) hb); have n1_ := Aside0.mk (blk_below (g := gb782) (o := .cells #[.string a1_0, .slice A1_1 l1_1.length c1_1] 51 (0, 0)) (by (with_reducible repeat (first | refine blk_drewN ?_ _ | refine blk_drew ?_ | refine blk_alloc ?_ _)); exact BK782.out) hb); have n2_ := Aside0.mk (blk_below (g := gb783) (o := .cells #[.int .u64 a2_0, .int .u64 a2_1] 85 (0, 0)) (by (with_reducible repeat (first | refine blk_drewN ?_ _ | refine blk_drew ?_ | refine blk_alloc ?_ _)); exact BK783.out) hb); have n3_ := Aside0.mk (below_step (by repeat (first | (with_reducible first | exact HB.out | apply below_alloc | apply pw_below_drewN | apply below_drew1 | refine below_set ?_ GE781.out | refine below_set ?_ GE782.out | refine below_set ?_ GE783.out) | exact HB.out)) hb); clear BK781; clear BK782; clear BK783; clear HB; have BK781 := n0_; have BK782 := n1_; have BK783 := n2_; have HB := n3_; clear n0_ n1_ n2_ n3_; (try clear hb); (try clear hb2); (try clear hk); (try clear hi))))
        go_meet
        case rel => exact ⟨_, (true), (by first | rfl | (simp; done) | (simp [*]; done)), H', ⟨by first | omega | exact Nat.le_refl _⟩, ⟨by (with_reducible repeat (first | refine blk_drewN ?_ _ | refine blk_drew ?_ | refine blk_alloc ?_ _)); exact BK781.out⟩, ⟨by (with_reducible repeat (first | refine blk_drewN ?_ _ | refine blk_drew ?_ | refine blk_alloc ?_ _)); exact BK782.out⟩, ⟨by (with_reducible repeat (first | refine blk_drewN ?_ _ | refine blk_drew ?_ | refine blk_alloc ?_ _)); exact BK783.out⟩, ⟨by repeat (first | (with_reducible first | exact HB.out | apply below_alloc | apply pw_below_drewN | apply below_drew1 | refine below_set ?_ GE781.out | refine below_set ?_ GE782.out | refine below_set ?_ GE783.out) | exact HB.out)⟩⟩
    case rest =>
      clear HC6
      try clear c1
      try clear c2
      try clear p2
      try clear c5
      try clear c12
      try clear c14
      try clear c15
      try clear c18
      try clear c21
      try clear c22
      try clear hcz16_0
      try clear hcz16_1
      try clear hcz19_0
      try clear hcz19_1
      try clear hcz23_0
      try clear hcz23_1
      try clear hfz16_0
      try clear hfz16_1
      try clear hfz19_0
      try clear hfz19_1
      try clear hfz23_0
      try clear hfz23_1
      obtain ⟨kq, x23_5, rfl, HA, HJ5, BK781, BK782, BK783, HB⟩ := hcut
      cases kq with
      | zero => exact absurd HA.out (by simp [bureaulaw04_StripHigher.j0])
      | succ kj5 =>
        have H := HA.out
        clear HA
        simp only [bureaulaw04_StripHigher.j0] at H
        by_cases c25 : x23_5 = true
        · subst c25
          have H1 : (some true) = some r := by rw [if_pos rfl] at H; exact H
          clear H
          have H := H1
          clear H1
          obtain rfl := Option.some.inj H
          go_wp2
          repeat (go_quiet (fail); try go_wp2)
          go_ret
          exact ⟨by first | rfl | (simp [errW_none, errW_some] <;> rfl) | (simp [*, errW_none, errW_some] <;> rfl), by repeat (first | (with_reducible first | exact HB.out | apply below_alloc | apply pw_below_drewN | apply below_drew1 | refine below_set ?_ GE781.out | refine below_set ?_ GE782.out | refine below_set ?_ GE783.out) | exact HB.out)⟩
        · replace c25 := Bool.eq_false_iff.mpr c25
          subst c25
          have H1 : ((strip_View.f kj5 a0_0 l0_1 (Go.bits .and .u64 a2_0 a2_1)).bind fun bt787 => ((strip_View.f kj5 a0_0 l0_1 a2_1).bind fun bt789 => (if bt787.2 = bt789.2 then (if (bt787.1.size : Int) = (bt789.1.size : Int) then (if bt787.2 = 0 then (bureaulaw04_StripHigher.j1 kj5 (Go.bits .and .u64 a2_0 a2_1) a2_1 bt787.1 bt789.1 ((bt787.1.size : Int) != (a0_0.size : Int)) a0_0 l0_1 a1_0 l1_1) else (bureaulaw04_StripHigher.j1 kj5 (Go.bits .and .u64 a2_0 a2_1) a2_1 bt787.1 bt789.1 false a0_0 l0_1 a1_0 l1_1)) else (bureaulaw04_StripHigher.j1 kj5 (Go.bits .and .u64 a2_0 a2_1) a2_1 bt787.1 bt789.1 true a0_0 l0_1 a1_0 l1_1)) else (bureaulaw04_StripHigher.j1 kj5 (Go.bits .and .u64 a2_0 a2_1) a2_1 bt787.1 bt789.1 true a0_0 l0_1 a1_0 l1_1)))) = some r := by rw [if_neg (show ¬ (false = true) by decide)] at H; exact H
          clear H
          have H := H1
          clear H1
          replace H := Option.bind_eq_some_iff.mp H
          obtain ⟨⟨t787, t788⟩, A260, H⟩ := H
          replace H : ((strip_View.f kj5 a0_0 l0_1 a2_1).bind fun bt789 => (if t788 = bt789.2 then (if (t787.size : Int) = (bt789.1.size : Int) then (if t788 = 0 then (bureaulaw04_StripHigher.j1 kj5 (Go.bits .and .u64 a2_0 a2_1) a2_1 t787 bt789.1 ((t787.size : Int) != (a0_0.size : Int)) a0_0 l0_1 a1_0 l1_1) else (bureaulaw04_StripHigher.j1 kj5 (Go.bits .and .u64 a2_0 a2_1) a2_1 t787 bt789.1 false a0_0 l0_1 a1_0 l1_1)) else (bureaulaw04_StripHigher.j1 kj5 (Go.bits .and .u64 a2_0 a2_1) a2_1 t787 bt789.1 true a0_0 l0_1 a1_0 l1_1)) else (bureaulaw04_StripHigher.j1 kj5 (Go.bits .and .u64 a2_0 a2_1) a2_1 t787 bt789.1 true a0_0 l0_1 a1_0 l1_1))) = some r := H
          have A26 := Aside0.mk A260
          clear A260
          replace H := Option.bind_eq_some_iff.mp H
          obtain ⟨⟨t789, t790⟩, A270, H⟩ := H
          replace H : (if t788 = t790 then (if (t787.size : Int) = (t789.size : Int) then (if t788 = 0 then (bureaulaw04_StripHigher.j1 kj5 (Go.bits .and .u64 a2_0 a2_1) a2_1 t787 t789 ((t787.size : Int) != (a0_0.size : Int)) a0_0 l0_1 a1_0 l1_1) else (bureaulaw04_StripHigher.j1 kj5 (Go.bits .and .u64 a2_0 a2_1) a2_1 t787 t789 false a0_0 l0_1 a1_0 l1_1)) else (bureaulaw04_StripHigher.j1 kj5 (Go.bits .and .u64 a2_0 a2_1) a2_1 t787 t789 true a0_0 l0_1 a1_0 l1_1)) else (bureaulaw04_StripHigher.j1 kj5 (Go.bits .and .u64 a2_0 a2_1) a2_1 t787 t789 true a0_0 l0_1 a1_0 l1_1)) = some r := H
          have A27 := Aside0.mk A270
          clear A270
          have HC28 := Aside0.mk H
          clear H
          have hnb29 := NB783_781.out
          have hnc29 := NB781_783.out
          have hnb30 := NB783_782.out
          have hnc30 := NB782_783.out
          have hcz31_0 : wc.cell? ⟨gb783, 0, none⟩ = some (.int .u64 a2_0) := (blk_cell BK783.out 0).trans rfl
          have hcz31_1 : wc.cell? ⟨gb783, 1, none⟩ = some (.int .u64 a2_1) := (blk_cell BK783.out 1).trans rfl
          have hfz31_0 := blk_frozen BK783.out 0
          have hfz31_1 := blk_frozen BK783.out 1
          have hnb32 := NB781_782.out
          have hnc32 := NB782_781.out
          have hcz33_0 : wc.cell? ⟨gb781, 0, none⟩ = some (.string a0_0) := (blk_cell BK781.out 0).trans rfl
          have hcz33_1 : wc.cell? ⟨gb781, 1, none⟩ = some (.slice A0_1 l0_1.length c0_1) := (blk_cell BK781.out 1).trans rfl
          have hfz33_0 := blk_frozen BK781.out 0
          have hfz33_1 := blk_frozen BK781.out 1
          go_upto_region 8 with (first | (go_at_call 68; (with_reducible refine (strip_View.calls kj5 a0_0 _ _ l0_1 (Go.bits .and .u64 a2_0 a2_1) t787 t788 _ ?side1 ?side2 A26.out).mono ?_); (case side1 => repeat (first | exact (Kd.C_below HR0_1.out HB.out) | (with_reducible refine Kd.C_alloc ?_ _) | (with_reducible refine Kd.C_drewN ?_ _) | (with_reducible refine Kd.C_drew ?_))); (case side2 => exact HC0_1.out); rintro e w34 ⟨rfl, hb⟩; have n0_ := Aside0.mk (blk_below (g := gb781) (o := .cells #[.string a0_0, .slice A0_1 l0_1.length c0_1] 51 (0, 0)) (by (with_reducible repeat (first | refine blk_drewN ?_ _ | refine blk_drew ?_ | refine blk_alloc ?_ _)); exact BK781.out) hb); have n1_ := Aside0.mk (blk_below (g := gb782) (o := .cells #[.string a1_0, .slice A1_1 l1_1.length c1_1] 51 (0, 0)) (by (with_reducible repeat (first | refine blk_drewN ?_ _ | refine blk_drew ?_ | refine blk_alloc ?_ _)); exact BK782.out) hb); have n2_ := Aside0.mk (blk_below (g := gb783) (o := .cells #[.int .u64 a2_0, .int .u64 a2_1] 85 (0, 0)) (by (with_reducible repeat (first | refine blk_drewN ?_ _ | refine blk_drew ?_ | refine blk_alloc ?_ _)); exact BK783.out) hb); have n3_ := Aside0.mk (below_step (by repeat (first | (with_reducible first | exact HB.out | apply below_alloc | apply pw_below_drewN | apply below_drew1 | refine below_set ?_ GE781.out | refine below_set ?_ GE782.out | refine below_set ?_ GE783.out) | exact HB.out)) hb); clear BK781; clear BK782; clear BK783; clear HB; have BK781 := n0_; have BK782 := n1_; have BK783 := n2_; have HB := n3_; clear n0_ n1_ n2_ n3_; (try clear hb); (try clear hb2); (try clear hk); (try clear hi); have hcz35_0 : w34.cell? ⟨gb781, 0, none⟩ = some (.string a0_0) := (blk_cell BK781.out 0).trans rfl; have hcz35_1 : w34.cell? ⟨gb781, 1, none⟩ = some (.slice A0_1 l0_1.length c0_1) := (blk_cell BK781.out 1).trans rfl; have hfz35_0 := blk_frozen BK781.out 0; have hfz35_1 := blk_frozen BK781.out 1) | (go_at_call 68; (with_reducible refine (strip_View.calls kj5 a0_0 _ _ l0_1 a2_1 t789 t790 _ ?side1 ?side2 A27.out).mono ?_); (case side1 => repeat (first | exact (Kd.C_below HR0_1.out HB.out) | (with_reducible refine Kd.C_alloc ?_ _) | (with_reducible refine Kd.C_drewN ?_ _) | (with_reducible refine Kd.C_drew ?_))); (case side2 => exact HC0_1.out); rintro e w36 ⟨rfl, hb⟩; have n0_ := Aside0.mk (blk_below (g := gb781) (o := .cells #[.string a0_0, .slice A0_1 l0_1.length c0_1] 51 (0, 0)) (by (with_reducible repeat (first | refine blk_drewN ?_ _ | refine blk_drew ?_ | refine blk_alloc ?_ _)); exact BK781.out) hb); have n1_ := Aside0.mk (blk_below (g := gb782) (o := .cells #[.string a1_0, .slice A1_1 l1_1.length c1_1] 51 (0, 0)) (by (with_reducible repeat (first | refine blk_drewN ?_ _ | refine blk_drew ?_ | refine blk_alloc ?_ _)); exact BK782.out) hb); have n2_ := Aside0.mk (blk_below (g := gb783) (o := .cells #[.int .u64 a2_0, .int .u64 a2_1] 85 (0, 0)) (by (with_reducible repeat (first | refine blk_drewN ?_ _ | refine blk_drew ?_ | refine blk_alloc ?_ _)); exact BK783.out) hb); have n3_ := Aside0.mk (below_step (by repeat (first | (with_reducible first | exact HB.out | apply below_alloc | apply pw_below_drewN | apply below_drew1 | refine below_set ?_ GE781.out | refine below_set ?_ GE782.out | refine below_set ?_ GE783.out) | exact HB.out)) hb); clear BK781; clear BK782; clear BK783; clear HB; have BK781 := n0_; have BK782 := n1_; have BK783 := n2_; have HB := n3_; clear n0_ n1_ n2_ n3_; (try clear hb); (try clear hb2); (try clear hk); (try clear hi)))
          repeat (go_quiet (first | (go_at_call 68; (with_reducible refine (strip_View.calls kj5 a0_0 _ _ l0_1 (Go.bits .and .u64 a2_0 a2_1) t787 t788 _ ?side1 ?side2 A26.out).mono ?_); (case side1 => repeat (first | exact (Kd.C_below HR0_1.out HB.out) | (with_reducible refine Kd.C_alloc ?_ _) | (with_reducible refine Kd.C_drewN ?_ _) | (with_reducible refine Kd.C_drew ?_))); (case side2 => exact HC0_1.out); rintro e w34 ⟨rfl, hb⟩; have n0_ := Aside0.mk (blk_below (g := gb781) (o := .cells #[.string a0_0, .slice A0_1 l0_1.length c0_1] 51 (0, 0)) (by (with_reducible repeat (first | refine blk_drewN ?_ _ | refine blk_drew ?_ | refine blk_alloc ?_ _)); exact BK781.out) hb); have n1_ := Aside0.mk (blk_below (g := gb782) (o := .cells #[.string a1_0, .slice A1_1 l1_1.length c1_1] 51 (0, 0)) (by (with_reducible repeat (first | refine blk_drewN ?_ _ | refine blk_drew ?_ | refine blk_alloc ?_ _)); exact BK782.out) hb); have n2_ := Aside0.mk (blk_below (g := gb783) (o := .cells #[.int .u64 a2_0, .int .u64 a2_1] 85 (0, 0)) (by (with_reducible repeat (first | refine blk_drewN ?_ _ | refine blk_drew ?_ | refine blk_alloc ?_ _)); exact BK783.out) hb); have n3_ := Aside0.mk (below_step (by repeat (first | (with_reducible first | exact HB.out | apply below_alloc | apply pw_below_drewN | apply below_drew1 | refine below_set ?_ GE781.out | refine below_set ?_ GE782.out | refine below_set ?_ GE783.out) | exact HB.out)) hb); clear BK781; clear BK782; clear BK783; clear HB; have BK781 := n0_; have BK782 := n1_; have BK783 := n2_; have HB := n3_; clear n0_ n1_ n2_ n3_; (try clear hb); (try clear hb2); (try clear hk); (try clear hi); have hcz35_0 : w34.cell? ⟨gb781, 0, none⟩ = some (.string a0_0) := (blk_cell BK781.out 0).trans rfl; have hcz35_1 : w34.cell? ⟨gb781, 1, none⟩ = some (.slice A0_1 l0_1.length c0_1) := (blk_cell BK781.out 1).trans rfl; have hfz35_0 := blk_frozen BK781.out 0; have hfz35_1 := blk_frozen BK781.out 1) | (go_at_call 68; (with_reducible refine (strip_View.calls kj5 a0_0 _ _ l0_1 a2_1 t789 t790 _ ?side1 ?side2 A27.out).mono ?_); (case side1 => repeat (first | exact (Kd.C_below HR0_1.out HB.out) | (with_reducible refine Kd.C_alloc ?_ _) | (with_reducible refine Kd.C_drewN ?_ _) | (with_reducible refine Kd.C_drew ?_))); (case side2 => exact HC0_1.out); rintro e w36 ⟨rfl, hb⟩; have n0_ := Aside0.mk (blk_below (g := gb781) (o := .cells #[.string a0_0, .slice A0_1 l0_1.length c0_1] 51 (0, 0)) (by (with_reducible repeat (first | refine blk_drewN ?_ _ | refine blk_drew ?_ | refine blk_alloc ?_ _)); exact BK781.out) hb); have n1_ := Aside0.mk (blk_below (g := gb782) (o := .cells #[.string a1_0, .slice A1_1 l1_1.length c1_1] 51 (0, 0)) (by (with_reducible repeat (first | refine blk_drewN ?_ _ | refine blk_drew ?_ | refine blk_alloc ?_ _)); exact BK782.out) hb); have n2_ := Aside0.mk (blk_below (g := gb783) (o := .cells #[.int .u64 a2_0, .int .u64 a2_1] 85 (0, 0)) (by (with_reducible repeat (first | refine blk_drewN ?_ _ | refine blk_drew ?_ | refine blk_alloc ?_ _)); exact BK783.out) hb); have n3_ := Aside0.mk (below_step (by repeat (first | (with_reducible first | exact HB.out | apply below_alloc | apply pw_below_drewN | apply below_drew1 | refine below_set ?_ GE781.out | refine below_set ?_ GE782.out | refine below_set ?_ GE783.out) | exact HB.out)) hb); clear BK781; clear BK782; clear BK783; clear HB; have BK781 := n0_; have BK782 := n1_; have BK783 := n2_; have HB := n3_; clear n0_ n1_ n2_ n3_; (try clear hb); (try clear hb2); (try clear hk); (try clear hi))); go_upto_region 8 with (first | (go_at_call 68; (with_reducible refine (strip_View.calls kj5 a0_0 _ _ l0_1 (Go.bits .and .u64 a2_0 a2_1) t787 t788 _ ?side1 ?side2 A26.out).mono ?_); (case side1 => repeat (first | exact (Kd.C_below HR0_1.out HB.out) | (with_reducible refine Kd.C_alloc ?_ _) | (with_reducible refine Kd.C_drewN ?_ _) | (with_reducible refine Kd.C_drew ?_))); (case side2 => exact HC0_1.out); rintro e w34 ⟨rfl, hb⟩; have n0_ := Aside0.mk (blk_below (g := gb781) (o := .cells #[.string a0_0, .slice A0_1 l0_1.length c0_1] 51 (0, 0)) (by (with_reducible repeat (first | refine blk_drewN ?_ _ | refine blk_drew ?_ | refine blk_alloc ?_ _)); exact BK781.out) hb); have n1_ := Aside0.mk (blk_below (g := gb782) (o := .cells #[.string a1_0, .slice A1_1 l1_1.length c1_1] 51 (0, 0)) (by (with_reducible repeat (first | refine blk_drewN ?_ _ | refine blk_drew ?_ | refine blk_alloc ?_ _)); exact BK782.out) hb); have n2_ := Aside0.mk (blk_below (g := gb783) (o := .cells #[.int .u64 a2_0, .int .u64 a2_1] 85 (0, 0)) (by (with_reducible repeat (first | refine blk_drewN ?_ _ | refine blk_drew ?_ | refine blk_alloc ?_ _)); exact BK783.out) hb); have n3_ := Aside0.mk (below_step (by repeat (first | (with_reducible first | exact HB.out | apply below_alloc | apply pw_below_drewN | apply below_drew1 | refine below_set ?_ GE781.out | refine below_set ?_ GE782.out | refine below_set ?_ GE783.out) | exact HB.out)) hb); clear BK781; clear BK782; clear BK783; clear HB; have BK781 := n0_; have BK782 := n1_; have BK783 := n2_; have HB := n3_; clear n0_ n1_ n2_ n3_; (try clear hb); (try clear hb2); (try clear hk); (try clear hi); have hcz35_0 : w34.cell? ⟨gb781, 0, none⟩ = some (.string a0_0) := (blk_cell BK781.out 0).trans rfl; have hcz35_1 : w34.cell? ⟨gb781, 1, none⟩ = some (.slice A0_1 l0_1.length c0_1) := (blk_cell BK781.out 1).trans rfl; have hfz35_0 := blk_frozen BK781.out 0; have hfz35_1 := blk_frozen BK781.out 1) | (go_at_call 68; (with_reducible refine (strip_View.calls kj5 a0_0 _ _ l0_1 a2_1 t789 t790 _ ?side1 ?side2 A27.out).mono ?_); (case side1 => repeat (first | exact (Kd.C_below HR0_1.out HB.out) | (with_reducible refine Kd.C_alloc ?_ _) | (with_reducible refine Kd.C_drewN ?_ _) | (with_reducible refine Kd.C_drew ?_))); (case side2 => exact HC0_1.out); rintro e w36 ⟨rfl, hb⟩; have n0_ := Aside0.mk (blk_below (g := gb781) (o := .cells #[.string a0_0, .slice A0_1 l0_1.length c0_1] 51 (0, 0)) (by (with_reducible repeat (first | refine blk_drewN ?_ _ | refine blk_drew ?_ | refine blk_alloc ?_ _)); exact BK781.out) hb); have n1_ := Aside0.mk (blk_below (g := gb782) (o := .cells #[.string a1_0, .slice A1_1 l1_1.length c1_1] 51 (0, 0)) (by (with_reducible repeat (first | refine blk_drewN ?_ _ | refine blk_drew ?_ | refine blk_alloc ?_ _)); exact BK782.out) hb); have n2_ := Aside0.mk (blk_below (g := gb783) (o := .cells #[.int .u64 a2_0, .int .u64 a2_1] 85 (0, 0)) (by (with_reducible repeat (first | refine blk_drewN ?_ _ | refine blk_drew ?_ | refine blk_alloc ?_ _)); exact BK783.out) hb); have n3_ := Aside0.mk (below_step (by repeat (first | (with_reducible first | exact HB.out | apply below_alloc | apply pw_below_drewN | apply below_drew1 | refine below_set ?_ GE781.out | refine below_set ?_ GE782.out | refine below_set ?_ GE783.out) | exact HB.out)) hb); clear BK781; clear BK782; clear BK783; clear HB; have BK781 := n0_; have BK782 := n1_; have BK783 := n2_; have HB := n3_; clear n0_ n1_ n2_ n3_; (try clear hb); (try clear hb2); (try clear hk); (try clear hi))))
          (try simp only [Act.put, List.setIfInBounds_toArray, List.set_cons_zero, List.set_cons_succ])
          go_cut [64] (fun v64 wc => ∃ (kq : Nat) (x64_27 : Bool), v64 = .bool x64_27 ∧ Aside0 (bureaulaw04_StripHigher.j1 kq (Go.bits .and .u64 a2_0 a2_1) a2_1 t787 t789 x64_27 a0_0 l0_1 a1_0 l1_1 = some r) ∧ Aside0 (kq ≤ kj5) ∧ Aside0 (wc.heap[gb781]? = some (.cells #[.string a0_0, (.slice A0_1 l0_1.length c0_1)] 51 (0, 0))) ∧ Aside0 (wc.heap[gb782]? = some (.cells #[.string a1_0, (.slice A1_1 l1_1.length c1_1)] 51 (0, 0))) ∧ Aside0 (wc.heap[gb783]? = some (.cells #[.int .u64 a2_0, .int .u64 a2_1] 85 (0, 0))) ∧ Aside0 (Below w.heap.size w wc))
          case first =>
            have H := HC28.out
            clear HC28
            by_cases c37 : t788 = t790
            · rw [if_pos c37] at H
              have c37b0 : (t788 == t790) = true := beq_iff_eq.mpr c37
              have c37b1 : (t788 != t790) = false := bne_eq_false_iff_eq.mpr c37
              clear c37
              (first | rw [c37b0] | (simp only [i64_w, i32_w]; rw [c37b0]) | skip)
              by_cases c38 : (t787.size : Int) = (t789.size : Int)
              · rw [if_pos c38] at H
                have c38b0 : ((t787.size : Int) == (t789.size : Int)) = true := beq_iff_eq.mpr c38
                have c38b1 : ((t787.size : Int) != (t789.size : Int)) = false := bne_eq_false_iff_eq.mpr c38
                have c38b2 : (t787.size == t789.size) = true := by first | simpa using c38 | (simp at c38 ⊢; omega)
                clear c38
                by_cases c39 : t788 = 0
                · rw [if_pos c39] at H
                  have c39b0 : (t788 == 0) = true := beq_iff_eq.mpr c39
                  have c39b1 : (t788 != 0) = false := bne_eq_false_iff_eq.mpr c39
                  clear c39
                  have H' := Aside0.mk H
                  clear H
                  have hnb40 := NB781_782.out
                  have hnc40 := NB782_781.out
                  have hnb41 := NB781_783.out
                  have hnc41 := NB783_781.out
                  have hcz42_0 : w36.cell? ⟨gb781, 0, none⟩ = some (.string a0_0) := (blk_cell BK781.out 0).trans rfl
                  have hcz42_1 : w36.cell? ⟨gb781, 1, none⟩ = some (.slice A0_1 l0_1.length c0_1) := (blk_cell BK781.out 1).trans rfl
                  have hfz42_0 := blk_frozen BK781.out 0
                  have hfz42_1 := blk_frozen BK781.out 1
                  go_wp2
                  repeat (go_quiet (fail); try go_wp2)
                  go_meet
                  case rel => exact ⟨_, (((t787.size : Int) != (a0_0.size : Int))), (by first | rfl | (simp; done) | (simp [*]; done)), H', ⟨by have := HJ5.out; first | omega | exact Nat.le_refl _⟩, ⟨by (with_reducible repeat (first | refine blk_drewN ?_ _ | refine blk_drew ?_ | refine blk_alloc ?_ _)); exact BK781.out⟩, ⟨by (with_reducible repeat (first | refine blk_drewN ?_ _ | refine blk_drew ?_ | refine blk_alloc ?_ _)); exact BK782.out⟩, ⟨by (with_reducible repeat (first | refine blk_drewN ?_ _ | refine blk_drew ?_ | refine blk_alloc ?_ _)); exact BK783.out⟩, ⟨by repeat (first | (with_reducible first | exact HB.out | apply below_alloc | apply pw_below_drewN | apply below_drew1 | refine below_set ?_ GE781.out | refine below_set ?_ GE782.out | refine below_set ?_ GE783.out) | exact HB.out)⟩⟩
                · rw [if_neg c39] at H
                  have c39b0 : (t788 == 0) = false := beq_eq_false_iff_ne.mpr c39
                  have c39b1 : (t788 != 0) = true := bne_iff_ne.mpr c39
                  have H' := Aside0.mk H
                  clear H
                  go_wp2
                  repeat (go_quiet (fail); try go_wp2)
                  go_meet
                  case rel => exact ⟨_, (false), (by first | rfl | (simp; done) | (simp [*]; done)), H', ⟨by have := HJ5.out; first | omega | exact Nat.le_refl _⟩, ⟨by (with_reducible repeat (first | refine blk_drewN ?_ _ | refine blk_drew ?_ | refine blk_alloc ?_ _)); exact BK781.out⟩, ⟨by (with_reducible repeat (first | refine blk_drewN ?_ _ | refine blk_drew ?_ | refine blk_alloc ?_ _)); exact BK782.out⟩, ⟨by (with_reducible repeat (first | refine blk_drewN ?_ _ | refine blk_drew ?_ | refine blk_alloc ?_ _)); exact BK783.out⟩, ⟨by repeat (first | (with_reducible first | exact HB.out | apply below_alloc | apply pw_below_drewN | apply below_drew1 | refine below_set ?_ GE781.out | refine below_set ?_ GE782.out | refine below_set ?_ GE783.out) | exact HB.out)⟩⟩
              · rw [if_neg c38] at H
                have c38b0 : ((t787.size : Int) == (t789.size : Int)) = false := beq_eq_false_iff_ne.mpr c38
                have c38b1 : ((t787.size : Int) != (t789.size : Int)) = true := bne_iff_ne.mpr c38
                have c38b2 : (t787.size == t789.size) = false := by first | simpa using c38 | (simp at c38 ⊢; omega)
                have H' := Aside0.mk H
                clear H
                go_wp2
                repeat (go_quiet (fail); try go_wp2)
                go_meet
                case rel => exact ⟨_, (true), (by first | rfl | (simp; done) | (simp [*]; done)), H', ⟨by have := HJ5.out; first | omega | exact Nat.le_refl _⟩, ⟨by (with_reducible repeat (first | refine blk_drewN ?_ _ | refine blk_drew ?_ | refine blk_alloc ?_ _)); exact BK781.out⟩, ⟨by (with_reducible repeat (first | refine blk_drewN ?_ _ | refine blk_drew ?_ | refine blk_alloc ?_ _)); exact BK782.out⟩, ⟨by (with_reducible repeat (first | refine blk_drewN ?_ _ | refine blk_drew ?_ | refine blk_alloc ?_ _)); exact BK783.out⟩, ⟨by repeat (first | (with_reducible first | exact HB.out | apply below_alloc | apply pw_below_drewN | apply below_drew1 | refine below_set ?_ GE781.out | refine below_set ?_ GE782.out | refine below_set ?_ GE783.out) | exact HB.out)⟩⟩
            · rw [if_neg c37] at H
              have c37b0 : (t788 == t790) = false := beq_eq_false_iff_ne.mpr c37
              have c37b1 : (t788 != t790) = true := bne_iff_ne.mpr c37
              (first | rw [c37b0] | (simp only [i64_w, i32_w]; rw [c37b0]) | skip)
              have H' := Aside0.mk H
              clear H
              go_wp2
              repeat (go_quiet (fail); try go_wp2)
              go_meet
              case rel => exact ⟨_, (true), (by first | rfl | (simp; done) | (simp [*]; done)), H', ⟨by have := HJ5.out; first | omega | exact Nat.le_refl _⟩, ⟨by (with_reducible repeat (first | refine blk_drewN ?_ _ | refine blk_drew ?_ | refine blk_alloc ?_ _)); exact BK781.out⟩, ⟨by (with_reducible repeat (first | refine blk_drewN ?_ _ | refine blk_drew ?_ | refine blk_alloc ?_ _)); exact BK782.out⟩, ⟨by (with_reducible repeat (first | refine blk_drewN ?_ _ | refine blk_drew ?_ | refine blk_alloc ?_ _)); exact BK783.out⟩, ⟨by repeat (first | (with_reducible first | exact HB.out | apply below_alloc | apply pw_below_drewN | apply below_drew1 | refine below_set ?_ GE781.out | refine below_set ?_ GE782.out | refine below_set ?_ GE783.out) | exact HB.out)⟩⟩
          case rest =>
            clear HC28
            try clear c1
            try clear c2
            try clear p2
            try clear c3
            try clear c4
            try clear c5
            try clear c12
            try clear c14
            try clear c15
            try clear c18
            try clear c21
            try clear c22
            try clear c25
            try clear c29
            try clear c30
            try clear c32
            try clear c37
            try clear c37b0
            try clear c37b1
            try clear c38
            try clear c38b0
            try clear c38b1
            try clear c38b2
            try clear c39
            try clear c39b0
            try clear c39b1
            try clear c40
            try clear c41
            try clear hcz16_0
            try clear hcz16_1
            try clear hcz19_0
            try clear hcz19_1
            try clear hcz23_0
            try clear hcz23_1
            try clear hcz31_0
            try clear hcz31_1
            try clear hcz33_0
            try clear hcz33_1
            try clear hcz35_0
            try clear hcz35_1
            try clear hcz42_0
            try clear hcz42_1
            try clear hfz16_0
            try clear hfz16_1
            try clear hfz19_0
            try clear hfz19_1
            try clear hfz23_0
            try clear hfz23_1
            try clear hfz31_0
            try clear hfz31_1
            try clear hfz33_0
            try clear hfz33_1
            try clear hfz35_0
            try clear hfz35_1
            try clear hfz42_0
            try clear hfz42_1
            try clear p2
            obtain ⟨kq, x64_27, rfl, HA, HJ27, BK781, BK782, BK783, HB⟩ := hcut
            cases kq with
            | zero => exact absurd HA.out (by simp [bureaulaw04_StripHigher.j1])
            | succ kj27 =>
              have H := HA.out
              clear HA
              simp only [bureaulaw04_StripHigher.j1] at H
              by_cases c43 : x64_27 = true
              · subst c43
                have H1 : (some false) = some r := by rw [if_pos rfl] at H; exact H
                clear H
                have H := H1
                clear H1
                obtain rfl := Option.some.inj H
                go_wp2
                repeat (go_quiet (fail); try go_wp2)
                go_ret
                exact ⟨by first | rfl | (simp [errW_none, errW_some] <;> rfl) | (simp [*, errW_none, errW_some] <;> rfl), by repeat (first | (with_reducible first | exact HB.out | apply below_alloc | apply pw_below_drewN | apply below_drew1 | refine below_set ?_ GE781.out | refine below_set ?_ GE782.out | refine below_set ?_ GE783.out) | exact HB.out)⟩
              · replace c43 := Bool.eq_false_iff.mpr c43
                subst c43
                have H1 : (bureaulaw04_StripHigher.l0 kj27 (Go.bits .and .u64 a2_0 a2_1) a2_1 t787 t789 0 a0_0 l0_1 a1_0 l1_1) = some r := by rw [if_neg (show ¬ (false = true) by decide)] at H; exact H
                clear H
                have H := H1
                clear H1
                have H' := Aside0.mk H
                clear H
                go_wp2
                repeat (go_quiet (fail); try go_wp2)
                go_loopg [13] kj27 (fun kq v13 w' => ∃ (x13_3 : Int), v13 = .int .i64 x13_3 ∧ Aside0 (bureaulaw04_StripHigher.l0 kq (Go.bits .and .u64 a2_0 a2_1) a2_1 t787 t789 x13_3 a0_0 l0_1 a1_0 l1_1 = some r) ∧ Aside0 (kq ≤ kj27) ∧ Aside0 (w'.heap[gb781]? = some (.cells #[.string a0_0, (.slice A0_1 l0_1.length c0_1)] 51 (0, 0))) ∧ Aside0 (w'.heap[gb782]? = some (.cells #[.string a1_0, (.slice A1_1 l1_1.length c1_1)] 51 (0, 0))) ∧ Aside0 (w'.heap[gb783]? = some (.cells #[.int .u64 a2_0, .int .u64 a2_1] 85 (0, 0))) ∧ Aside0 (Below w.heap.size w w'))
                case atStart => exact ⟨(0), (by first | rfl | (simp; done) | (simp [*]; done)), H', ⟨Nat.le_refl _⟩, ⟨by (with_reducible repeat (first | refine blk_drewN ?_ _ | refine blk_drew ?_ | refine blk_alloc ?_ _)); exact BK781.out⟩, ⟨by (with_reducible repeat (first | refine blk_drewN ?_ _ | refine blk_drew ?_ | refine blk_alloc ?_ _)); exact BK782.out⟩, ⟨by (with_reducible repeat (first | refine blk_drewN ?_ _ | refine blk_drew ?_ | refine blk_alloc ?_ _)); exact BK783.out⟩, ⟨by repeat (first | (with_reducible first | exact HB.out | apply below_alloc | apply pw_below_drewN | apply below_drew1 | refine below_set ?_ GE781.out | refine below_set ?_ GE782.out | refine below_set ?_ GE783.out) | exact HB.out)⟩⟩
                case round =>
                  clear H'
                  try clear c1
                  try clear c2
                  try clear p2
                  try clear c3
                  try clear c4
                  try clear c5
                  try clear c12
                  try clear c14
                  try clear c15
                  try clear c18
                  try clear c21
                  try clear c22
                  try clear c25
                  try clear c29
                  try clear c30
                  try clear c32
                  try clear c37
                  try clear c37b0
                  try clear c37b1
                  try clear c38
                  try clear c38b0
                  try clear c38b1
                  try clear c38b2
                  try clear c39
                  try clear c39b0
                  try clear c39b1
                  try clear c40
                  try clear c41
                  try clear c43
                  try clear hcz16_0
                  try clear hcz16_1
                  try clear hcz19_0
                  try clear hcz19_1
                  try clear hcz23_0
                  try clear hcz23_1
                  try clear hcz31_0
                  try clear hcz31_1
                  try clear hcz33_0
                  try clear hcz33_1
                  try clear hcz35_0
                  try clear hcz35_1
                  try clear hcz42_0
                  try clear hcz42_1
                  try clear hfz16_0
                  try clear hfz16_1
                  try clear hfz19_0
                  try clear hfz19_1
                  try clear hfz23_0
                  try clear hfz23_1
                  try clear hfz31_0
                  try clear hfz31_1
                  try clear hfz33_0
                  try clear hfz33_1
                  try clear hfz35_0
                  try clear hfz35_1
                  try clear hfz42_0
                  try clear hfz42_1
                  try clear p2
                  obtain ⟨x13_3, rfl, HA, HK3, BK781, BK782, BK783, HB⟩ := hrel
                  cases gk with
                  | zero => exact absurd HA.out (by simp [bureaulaw04_StripHigher.l0])
                  | succ k3 =>
                    have H := HA.out
                    clear HA
                    simp only [bureaulaw04_StripHigher.l0] at H
                    by_cases c44 : x13_3 < (t787.size : Int)
                    · rw [if_pos c44] at H
                      have c44b0 : decide (x13_3 < (t787.size : Int)) = true := decide_eq_true c44
                      clear c44
                      by_cases c45 : 0 ≤ x13_3
                      · rw [if_pos c45] at H
                        have c45b0 : decide (0 ≤ x13_3) = true := decide_eq_true c45
                        clear c45
                        by_cases c47 : (bt t787 x13_3) = 35
                        · rw [if_pos c47] at H
                          have c47b0 : ((bt t787 x13_3) == 35) = true := beq_iff_eq.mpr c47
                          have c47b1 : ((bt t787 x13_3) != 35) = false := bne_eq_false_iff_eq.mpr c47
                          clear c47
                          by_cases c48 : x13_3 < (t789.size : Int)
                          · rw [if_pos c48] at H
                            have c48b0 : decide (x13_3 < (t789.size : Int)) = true := decide_eq_true c48
                            clear c48
                            by_cases c50 : (bt t789 x13_3) = 35
                            · rw [if_pos c50] at H
                              have c50b0 : ((bt t789 x13_3) == 35) = true := beq_iff_eq.mpr c50
                              have c50b1 : ((bt t789 x13_3) != 35) = false := bne_eq_false_iff_eq.mpr c50
                              clear c50
                              have H' := Aside0.mk H
                              clear H
                              have p46 : 0 ≤ (x13_3 : Int) := of_decide_eq_true (by first | (with_reducible assumption) | assumption)
                              have q46 : x13_3 < (t787.size : Int) := of_decide_eq_true (by first | (with_reducible assumption) | assumption)
                              have hx46 := bt_at t787 x13_3
                              replace p46 := eq_true p46
                              replace q46 := eq_true q46
                              have p49 : 0 ≤ (x13_3 : Int) := of_decide_eq_true (by first | (with_reducible assumption) | assumption)
                              have q49 : x13_3 < (t789.size : Int) := of_decide_eq_true (by first | (with_reducible assumption) | assumption)
                              have hx49 := bt_at t789 x13_3
                              replace p49 := eq_true p49
                              replace q49 := eq_true q49
                              go_wp2
                              repeat (go_quiet (fail); try go_wp2)
                              go_roundg k3
                              case measure => have := HJ5.out; have := HJ27.out; have := HK3.out; omega
                              case rel => exact ⟨(wrap64 (x13_3 + 1)), (by first | rfl | (simp; done) | (simp [*]; done)), H', ⟨by have := HJ5.out; have := HJ27.out; have := HK3.out; omega⟩, ⟨by (with_reducible repeat (first | refine blk_drewN ?_ _ | refine blk_drew ?_ | refine blk_alloc ?_ _)); exact BK781.out⟩, ⟨by (with_reducible repeat (first | refine blk_drewN ?_ _ | refine blk_drew ?_ | refine blk_alloc ?_ _)); exact BK782.out⟩, ⟨by (with_reducible repeat (first | refine blk_drewN ?_ _ | refine blk_drew ?_ | refine blk_alloc ?_ _)); exact BK783.out⟩, ⟨by repeat (first | (with_reducible first | exact HB.out | apply below_alloc | apply pw_below_drewN | apply below_drew1 | refine below_set ?_ GE781.out | refine below_set ?_ GE782.out | refine below_set ?_ GE783.out) | exact HB.out)⟩⟩
                            · rw [if_neg c50] at H
                              have c50b0 : ((bt t789 x13_3) == 35) = false := beq_eq_false_iff_ne.mpr c50
                              have c50b1 : ((bt t789 x13_3) != 35) = true := bne_iff_ne.mpr c50
                              by_cases c52 : x13_3 < (a0_0.size : Int)
                              · rw [if_pos c52] at H
                                have c52b0 : decide (x13_3 < (a0_0.size : Int)) = true := decide_eq_true c52
                                clear c52
                                by_cases c54 : (bt t789 x13_3) = (bt a0_0 x13_3)
                                · rw [if_pos c54] at H
                                  have c54b0 : ((bt t789 x13_3) == (bt a0_0 x13_3)) = true := beq_iff_eq.mpr c54
                                  have c54b1 : ((bt t789 x13_3) != (bt a0_0 x13_3)) = false := bne_eq_false_iff_eq.mpr c54
                                  clear c54
                                  have H' := Aside0.mk H
                                  clear H
                                  have p46 : 0 ≤ (x13_3 : Int) := of_decide_eq_true (by first | (with_reducible assumption) | assumption)
                                  have q46 : x13_3 < (t787.size : Int) := of_decide_eq_true (by first | (with_reducible assumption) | assumption)
                                  have hx46 := bt_at t787 x13_3
                                  replace p46 := eq_true p46
                                  replace q46 := eq_true q46
                                  have p49 : 0 ≤ (x13_3 : Int) := of_decide_eq_true (by first | (with_reducible assumption) | assumption)
                                  have q49 : x13_3 < (t789.size : Int) := of_decide_eq_true (by first | (with_reducible assumption) | assumption)
                                  have hx49 := bt_at t789 x13_3
                                  replace p49 := eq_true p49
                                  replace q49 := eq_true q49
                                  have p51 : 0 ≤ (x13_3 : Int) := of_decide_eq_true (by first | (with_reducible assumption) | assumption)
                                  have q51 : x13_3 < (t789.size : Int) := of_decide_eq_true (by first | (with_reducible assumption) | assumption)
                                  have hx51 := bt_at t789 x13_3
                                  replace p51 := eq_true p51
                                  replace q51 := eq_true q51
                                  have hnb55 := NB781_782.out
                                  have hnc55 := NB782_781.out
                                  have hnb56 := NB781_783.out
                                  have hnc56 := NB783_781.out
                                  have hcz57_0 : wr.cell? ⟨gb781, 0, none⟩ = some (.string a0_0) := (blk_cell BK781.out 0).trans rfl
                                  have hcz57_1 : wr.cell? ⟨gb781, 1, none⟩ = some (.slice A0_1 l0_1.length c0_1) := (blk_cell BK781.out 1).trans rfl
                                  have hfz57_0 := blk_frozen BK781.out 0
                                  have hfz57_1 := blk_frozen BK781.out 1
                                  have p53 : 0 ≤ (x13_3 : Int) := of_decide_eq_true (by first | (with_reducible assumption) | assumption)
                                  have q53 : x13_3 < (a0_0.size : Int) := of_decide_eq_true (by first | (with_reducible assumption) | assumption)
                                  have hx53 := bt_at a0_0 x13_3
                                  replace p53 := eq_true p53
                                  replace q53 := eq_true q53
                                  go_wp2
                                  repeat (go_quiet (fail); try go_wp2)
                                  go_roundg k3
                                  case measure => have := HJ5.out; have := HJ27.out; have := HK3.out; omega
                                  case rel => exact ⟨(wrap64 (x13_3 + 1)), (by first | rfl | (simp; done) | (simp [*]; done)), H', ⟨by have := HJ5.out; have := HJ27.out; have := HK3.out; omega⟩, ⟨by (with_reducible repeat (first | refine blk_drewN ?_ _ | refine blk_drew ?_ | refine blk_alloc ?_ _)); exact BK781.out⟩, ⟨by (with_reducible repeat (first | refine blk_drewN ?_ _ | refine blk_drew ?_ | refine blk_alloc ?_ _)); exact BK782.out⟩, ⟨by (with_reducible repeat (first | refine blk_drewN ?_ _ | refine blk_drew ?_ | refine blk_alloc ?_ _)); exact BK783.out⟩, ⟨by repeat (first | (with_reducible first | exact HB.out | apply below_alloc | apply pw_below_drewN | apply below_drew1 | refine below_set ?_ GE781.out | refine below_set ?_ GE782.out | refine below_set ?_ GE783.out) | exact HB.out)⟩⟩
                                · rw [if_neg c54] at H
                                  have c54b0 : ((bt t789 x13_3) == (bt a0_0 x13_3)) = false := beq_eq_false_iff_ne.mpr c54
                                  have c54b1 : ((bt t789 x13_3) != (bt a0_0 x13_3)) = true := bne_iff_ne.mpr c54
                                  obtain rfl := Option.some.inj H
                                  have p46 : 0 ≤ (x13_3 : Int) := of_decide_eq_true (by first | (with_reducible assumption) | assumption)
                                  have q46 : x13_3 < (t787.size : Int) := of_decide_eq_true (by first | (with_reducible assumption) | assumption)
                                  have hx46 := bt_at t787 x13_3
                                  replace p46 := eq_true p46
                                  replace q46 := eq_true q46
                                  have p49 : 0 ≤ (x13_3 : Int) := of_decide_eq_true (by first | (with_reducible assumption) | assumption)
                                  have q49 : x13_3 < (t789.size : Int) := of_decide_eq_true (by first | (with_reducible assumption) | assumption)
                                  have hx49 := bt_at t789 x13_3
                                  replace p49 := eq_true p49
                                  replace q49 := eq_true q49
                                  have p51 : 0 ≤ (x13_3 : Int) := of_decide_eq_true (by first | (with_reducible assumption) | assumption)
                                  have q51 : x13_3 < (t789.size : Int) := of_decide_eq_true (by first | (with_reducible assumption) | assumption)
                                  have hx51 := bt_at t789 x13_3
                                  replace p51 := eq_true p51
                                  replace q51 := eq_true q51
                                  have hnb58 := NB781_782.out
                                  have hnc58 := NB782_781.out
                                  have hnb59 := NB781_783.out
                                  have hnc59 := NB783_781.out
                                  have hcz60_0 : wr.cell? ⟨gb781, 0, none⟩ = some (.string a0_0) := (blk_cell BK781.out 0).trans rfl
                                  have hcz60_1 : wr.cell? ⟨gb781, 1, none⟩ = some (.slice A0_1 l0_1.length c0_1) := (blk_cell BK781.out 1).trans rfl
                                  have hfz60_0 := blk_frozen BK781.out 0
                                  have hfz60_1 := blk_frozen BK781.out 1
                                  have p53 : 0 ≤ (x13_3 : Int) := of_decide_eq_true (by first | (with_reducible assumption) | assumption)
                                  have q53 : x13_3 < (a0_0.size : Int) := of_decide_eq_true (by first | (with_reducible assumption) | assumption)
                                  have hx53 := bt_at a0_0 x13_3
                                  replace p53 := eq_true p53
                                  replace q53 := eq_true q53
                                  go_wp2
                                  repeat (go_quiet (fail); try go_wp2)
                                  go_ret
                                  exact ⟨by first | rfl | (simp [errW_none, errW_some] <;> rfl) | (simp [*, errW_none, errW_some] <;> rfl), by repeat (first | (with_reducible first | exact HB.out | apply below_alloc | apply pw_below_drewN | apply below_drew1 | refine below_set ?_ GE781.out | refine below_set ?_ GE782.out | refine below_set ?_ GE783.out) | exact HB.out)⟩
                              · rw [if_neg c52] at H
                                exact absurd H (by simp)
                          · rw [if_neg c48] at H
                            exact absurd H (by simp)
                        · rw [if_neg c47] at H
                          have c47b0 : ((bt t787 x13_3) == 35) = false := beq_eq_false_iff_ne.mpr c47
                          have c47b1 : ((bt t787 x13_3) != 35) = true := bne_iff_ne.mpr c47
                          by_cases c62 : x13_3 < (t789.size : Int)
                          · rw [if_pos c62] at H
                            have c62b0 : decide (x13_3 < (t789.size : Int)) = true := decide_eq_true c62
                            clear c62
                            by_cases c64 : (bt t787 x13_3) = (bt t789 x13_3)
                            · rw [if_pos c64] at H
                              have c64b0 : ((bt t787 x13_3) == (bt t789 x13_3)) = true := beq_iff_eq.mpr c64
                              have c64b1 : ((bt t787 x13_3) != (bt t789 x13_3)) = false := bne_eq_false_iff_eq.mpr c64
                              clear c64
                              by_cases c66 : (bt t789 x13_3) = 35
                              · rw [if_pos c66] at H
                                have c66b0 : ((bt t789 x13_3) == 35) = true := beq_iff_eq.mpr c66
                                have c66b1 : ((bt t789 x13_3) != 35) = false := bne_eq_false_iff_eq.mpr c66
                                clear c66
                                have H' := Aside0.mk H
                                clear H
                                have p46 : 0 ≤ (x13_3 : Int) := of_decide_eq_true (by first | (with_reducible assumption) | assumption)
                                have q46 : x13_3 < (t787.size : Int) := of_decide_eq_true (by first | (with_reducible assumption) | assumption)
                                have hx46 := bt_at t787 x13_3
                                replace p46 := eq_true p46
                                replace q46 := eq_true q46
                                have p61 : 0 ≤ (x13_3 : Int) := of_decide_eq_true (by first | (with_reducible assumption) | assumption)
                                have q61 : x13_3 < (t787.size : Int) := of_decide_eq_true (by first | (with_reducible assumption) | assumption)
                                have hx61 := bt_at t787 x13_3
                                replace p61 := eq_true p61
                                replace q61 := eq_true q61
                                have p63 : 0 ≤ (x13_3 : Int) := of_decide_eq_true (by first | (with_reducible assumption) | assumption)
                                have q63 : x13_3 < (t789.size : Int) := of_decide_eq_true (by first | (with_reducible assumption) | assumption)
                                have hx63 := bt_at t789 x13_3
                                replace p63 := eq_true p63
                                replace q63 := eq_true q63
                                have p65 : 0 ≤ (x13_3 : Int) := of_decide_eq_true (by first | (with_reducible assumption) | assumption)
                                have q65 : x13_3 < (t789.size : Int) := of_decide_eq_true (by first | (with_reducible assumption) | assumption)
                                have hx65 := bt_at t789 x13_3
                                replace p65 := eq_true p65
                                replace q65 := eq_true q65
                                go_wp2
                                repeat (go_quiet (fail); try go_wp2)
                                go_roundg k3
                                case measure => have := HJ5.out; have := HJ27.out; have := HK3.out; omega
                                case rel => exact ⟨(wrap64 (x13_3 + 1)), (by first | rfl | (simp; done) | (simp [*]; done)), H', ⟨by have := HJ5.out; have := HJ27.out; have := HK3.out; omega⟩, ⟨by (with_reducible repeat (first | refine blk_drewN ?_ _ | refine blk_drew ?_ | refine blk_alloc ?_ _)); exact BK781.out⟩, ⟨by (with_reducible repeat (first | refine blk_drewN ?_ _ | refine blk_drew ?_ | refine blk_alloc ?_ _)); exact BK782.out⟩, ⟨by (with_reducible repeat (first | refine blk_drewN ?_ _ | refine blk_drew ?_ | refine blk_alloc ?_ _)); exact BK783.out⟩, ⟨by repeat (first | (with_reducible first | exact HB.out | apply below_alloc | apply pw_below_drewN | apply below_drew1 | refine below_set ?_ GE781.out | refine below_set ?_ GE782.out | refine below_set ?_ GE783.out) | exact HB.out)⟩⟩
                              · rw [if_neg c66] at H
                                have c66b0 : ((bt t789 x13_3) == 35) = false := beq_eq_false_iff_ne.mpr c66
                                have c66b1 : ((bt t789 x13_3) != 35) = true := bne_iff_ne.mpr c66
                                by_cases c68 : x13_3 < (a0_0.size : Int)
                                · rw [if_pos c68] at H
                                  have c68b0 : decide (x13_3 < (a0_0.size : Int)) = true := decide_eq_true c68
                                  clear c68
                                  by_cases c70 : (bt t789 x13_3) = (bt a0_0 x13_3)
                                  · rw [if_pos c70] at H
                                    have c70b0 : ((bt t789 x13_3) == (bt a0_0 x13_3)) = true := beq_iff_eq.mpr c70
                                    have c70b1 : ((bt t789 x13_3) != (bt a0_0 x13_3)) = false := bne_eq_false_iff_eq.mpr c70
                                    clear c70
                                    have H' := Aside0.mk H
                                    clear H
                                    have p46 : 0 ≤ (x13_3 : Int) := of_decide_eq_true (by first | (with_reducible assumption) | assumption)
                                    have q46 : x13_3 < (t787.size : Int) := of_decide_eq_true (by first | (with_reducible assumption) | assumption)
                                    have hx46 := bt_at t787 x13_3
                                    replace p46 := eq_true p46
                                    replace q46 := eq_true q46
                                    have p61 : 0 ≤ (x13_3 : Int) := of_decide_eq_true (by first | (with_reducible assumption) | assumption)
                                    have q61 : x13_3 < (t787.size : Int) := of_decide_eq_true (by first | (with_reducible assumption) | assumption)
                                    have hx61 := bt_at t787 x13_3
                                    replace p61 := eq_true p61
                                    replace q61 := eq_true q61
                                    have p63 : 0 ≤ (x13_3 : Int) := of_decide_eq_true (by first | (with_reducible assumption) | assumption)
                                    have q63 : x13_3 < (t789.size : Int) := of_decide_eq_true (by first | (with_reducible assumption) | assumption)
                                    have hx63 := bt_at t789 x13_3
                                    replace p63 := eq_true p63
                                    replace q63 := eq_true q63
                                    have p65 : 0 ≤ (x13_3 : Int) := of_decide_eq_true (by first | (with_reducible assumption) | assumption)
                                    have q65 : x13_3 < (t789.size : Int) := of_decide_eq_true (by first | (with_reducible assumption) | assumption)
                                    have hx65 := bt_at t789 x13_3
                                    replace p65 := eq_true p65
                                    replace q65 := eq_true q65
                                    have p67 : 0 ≤ (x13_3 : Int) := of_decide_eq_true (by first | (with_reducible assumption) | assumption)
                                    have q67 : x13_3 < (t789.size : Int) := of_decide_eq_true (by first | (with_reducible assumption) | assumption)
                                    have hx67 := bt_at t789 x13_3
                                    replace p67 := eq_true p67
                                    replace q67 := eq_true q67
                                    have hnb71 := NB781_782.out
                                    have hnc71 := NB782_781.out
                                    have hnb72 := NB781_783.out
                                    have hnc72 := NB783_781.out
                                    have hcz73_0 : wr.cell? ⟨gb781, 0, none⟩ = some (.string a0_0) := (blk_cell BK781.out 0).trans rfl
                                    have hcz73_1 : wr.cell? ⟨gb781, 1, none⟩ = some (.slice A0_1 l0_1.length c0_1) := (blk_cell BK781.out 1).trans rfl
                                    have hfz73_0 := blk_frozen BK781.out 0
                                    have hfz73_1 := blk_frozen BK781.out 1
                                    have p69 : 0 ≤ (x13_3 : Int) := of_decide_eq_true (by first | (with_reducible assumption) | assumption)
                                    have q69 : x13_3 < (a0_0.size : Int) := of_decide_eq_true (by first | (with_reducible assumption) | assumption)
                                    have hx69 := bt_at a0_0 x13_3
                                    replace p69 := eq_true p69
                                    replace q69 := eq_true q69
                                    go_wp2
                                    repeat (go_quiet (fail); try go_wp2)
                                    go_roundg k3
                                    case measure => have := HJ5.out; have := HJ27.out; have := HK3.out; omega
                                    case rel => exact ⟨(wrap64 (x13_3 + 1)), (by first | rfl | (simp; done) | (simp [*]; done)), H', ⟨by have := HJ5.out; have := HJ27.out; have := HK3.out; omega⟩, ⟨by (with_reducible repeat (first | refine blk_drewN ?_ _ | refine blk_drew ?_ | refine blk_alloc ?_ _)); exact BK781.out⟩, ⟨by (with_reducible repeat (first | refine blk_drewN ?_ _ | refine blk_drew ?_ | refine blk_alloc ?_ _)); exact BK782.out⟩, ⟨by (with_reducible repeat (first | refine blk_drewN ?_ _ | refine blk_drew ?_ | refine blk_alloc ?_ _)); exact BK783.out⟩, ⟨by repeat (first | (with_reducible first | exact HB.out | apply below_alloc | apply pw_below_drewN | apply below_drew1 | refine below_set ?_ GE781.out | refine below_set ?_ GE782.out | refine below_set ?_ GE783.out) | exact HB.out)⟩⟩
                                  · rw [if_neg c70] at H
                                    have c70b0 : ((bt t789 x13_3) == (bt a0_0 x13_3)) = false := beq_eq_false_iff_ne.mpr c70
                                    have c70b1 : ((bt t789 x13_3) != (bt a0_0 x13_3)) = true := bne_iff_ne.mpr c70
                                    obtain rfl := Option.some.inj H
                                    have p46 : 0 ≤ (x13_3 : Int) := of_decide_eq_true (by first | (with_reducible assumption) | assumption)
                                    have q46 : x13_3 < (t787.size : Int) := of_decide_eq_true (by first | (with_reducible assumption) | assumption)
                                    have hx46 := bt_at t787 x13_3
                                    replace p46 := eq_true p46
                                    replace q46 := eq_true q46
                                    have p61 : 0 ≤ (x13_3 : Int) := of_decide_eq_true (by first | (with_reducible assumption) | assumption)
                                    have q61 : x13_3 < (t787.size : Int) := of_decide_eq_true (by first | (with_reducible assumption) | assumption)
                                    have hx61 := bt_at t787 x13_3
                                    replace p61 := eq_true p61
                                    replace q61 := eq_true q61
                                    have p63 : 0 ≤ (x13_3 : Int) := of_decide_eq_true (by first | (with_reducible assumption) | assumption)
                                    have q63 : x13_3 < (t789.size : Int) := of_decide_eq_true (by first | (with_reducible assumption) | assumption)
                                    have hx63 := bt_at t789 x13_3
                                    replace p63 := eq_true p63
                                    replace q63 := eq_true q63
                                    have p65 : 0 ≤ (x13_3 : Int) := of_decide_eq_true (by first | (with_reducible assumption) | assumption)
                                    have q65 : x13_3 < (t789.size : Int) := of_decide_eq_true (by first | (with_reducible assumption) | assumption)
                                    have hx65 := bt_at t789 x13_3
                                    replace p65 := eq_true p65
                                    replace q65 := eq_true q65
                                    have p67 : 0 ≤ (x13_3 : Int) := of_decide_eq_true (by first | (with_reducible assumption) | assumption)
                                    have q67 : x13_3 < (t789.size : Int) := of_decide_eq_true (by first | (with_reducible assumption) | assumption)
                                    have hx67 := bt_at t789 x13_3
                                    replace p67 := eq_true p67
                                    replace q67 := eq_true q67
                                    have hnb74 := NB781_782.out
                                    have hnc74 := NB782_781.out
                                    have hnb75 := NB781_783.out
                                    have hnc75 := NB783_781.out
                                    have hcz76_0 : wr.cell? ⟨gb781, 0, none⟩ = some (.string a0_0) := (blk_cell BK781.out 0).trans rfl
                                    have hcz76_1 : wr.cell? ⟨gb781, 1, none⟩ = some (.slice A0_1 l0_1.length c0_1) := (blk_cell BK781.out 1).trans rfl
                                    have hfz76_0 := blk_frozen BK781.out 0
                                    have hfz76_1 := blk_frozen BK781.out 1
                                    have p69 : 0 ≤ (x13_3 : Int) := of_decide_eq_true (by first | (with_reducible assumption) | assumption)
                                    have q69 : x13_3 < (a0_0.size : Int) := of_decide_eq_true (by first | (with_reducible assumption) | assumption)
                                    have hx69 := bt_at a0_0 x13_3
                                    replace p69 := eq_true p69
                                    replace q69 := eq_true q69
                                    go_wp2
                                    repeat (go_quiet (fail); try go_wp2)
                                    go_ret
                                    exact ⟨by first | rfl | (simp [errW_none, errW_some] <;> rfl) | (simp [*, errW_none, errW_some] <;> rfl), by repeat (first | (with_reducible first | exact HB.out | apply below_alloc | apply pw_below_drewN | apply below_drew1 | refine below_set ?_ GE781.out | refine below_set ?_ GE782.out | refine below_set ?_ GE783.out) | exact HB.out)⟩
                                · rw [if_neg c68] at H
                                  exact absurd H (by simp)
                            · rw [if_neg c64] at H
                              have c64b0 : ((bt t787 x13_3) == (bt t789 x13_3)) = false := beq_eq_false_iff_ne.mpr c64
                              have c64b1 : ((bt t787 x13_3) != (bt t789 x13_3)) = true := bne_iff_ne.mpr c64
                              obtain rfl := Option.some.inj H
                              have p46 : 0 ≤ (x13_3 : Int) := of_decide_eq_true (by first | (with_reducible assumption) | assumption)
                              have q46 : x13_3 < (t787.size : Int) := of_decide_eq_true (by first | (with_reducible assumption) | assumption)
                              have hx46 := bt_at t787 x13_3
                              replace p46 := eq_true p46
                              replace q46 := eq_true q46
                              have p61 : 0 ≤ (x13_3 : Int) := of_decide_eq_true (by first | (with_reducible assumption) | assumption)
                              have q61 : x13_3 < (t787.size : Int) := of_decide_eq_true (by first | (with_reducible assumption) | assumption)
                              have hx61 := bt_at t787 x13_3
                              replace p61 := eq_true p61
                              replace q61 := eq_true q61
                              have p63 : 0 ≤ (x13_3 : Int) := of_decide_eq_true (by first | (with_reducible assumption) | assumption)
                              have q63 : x13_3 < (t789.size : Int) := of_decide_eq_true (by first | (with_reducible assumption) | assumption)
                              have hx63 := bt_at t789 x13_3
                              replace p63 := eq_true p63
                              replace q63 := eq_true q63
                              go_wp2
                              repeat (go_quiet (fail); try go_wp2)
                              go_ret
                              exact ⟨by first | rfl | (simp [errW_none, errW_some] <;> rfl) | (simp [*, errW_none, errW_some] <;> rfl), by repeat (first | (with_reducible first | exact HB.out | apply below_alloc | apply pw_below_drewN | apply below_drew1 | refine below_set ?_ GE781.out | refine below_set ?_ GE782.out | refine below_set ?_ GE783.out) | exact HB.out)⟩
                          · rw [if_neg c62] at H
                            exact absurd H (by simp)
                      · rw [if_neg c45] at H
                        exact absurd H (by simp)
                    · rw [if_neg c44] at H
                      have c44b0 : decide (x13_3 < (t787.size : Int)) = false := decide_eq_false c44
                      clear c44
                      replace H := Option.bind_eq_some_iff.mp H
                      obtain ⟨t791, A770, H⟩ := H
                      replace H : (if t791 = true then ((strip_Low.f k3 a0_0 l0_1 a1_0 l1_1 (Go.bits .and .u64 a2_0 a2_1)).bind fun t792 => (some t792)) else (some true)) = some r := H
                      have A77 := Aside0.mk A770
                      clear A770
                      by_cases c78 : t791 = true
                      · subst c78
                        have H1 : ((strip_Low.f k3 a0_0 l0_1 a1_0 l1_1 (Go.bits .and .u64 a2_0 a2_1)).bind fun t792 => (some t792)) = some r := by rw [if_pos rfl] at H; exact H
                        clear H
                        have H := H1
                        clear H1
                        replace H := Option.bind_eq_some_iff.mp H
                        obtain ⟨t792, A790, H⟩ := H
                        replace H : (some t792) = some r := H
                        have A79 := Aside0.mk A790
                        clear A790
                        obtain rfl := Option.some.inj H
                        have hnb80 := NB781_782.out
                        have hnc80 := NB782_781.out
                        have hnb81 := NB781_783.out
                        have hnc81 := NB783_781.out
                        have hcz82_0 : wr.cell? ⟨gb781, 0, none⟩ = some (.string a0_0) := (blk_cell BK781.out 0).trans rfl
                        have hcz82_1 : wr.cell? ⟨gb781, 1, none⟩ = some (.slice A0_1 l0_1.length c0_1) := (blk_cell BK781.out 1).trans rfl
                        have hfz82_0 := blk_frozen BK781.out 0
                        have hfz82_1 := blk_frozen BK781.out 1
                        have hnb83 := NB782_783.out
                        have hnc83 := NB783_782.out
                        have hcz84_0 : wr.cell? ⟨gb782, 0, none⟩ = some (.string a1_0) := (blk_cell BK782.out 0).trans rfl
                        have hcz84_1 : wr.cell? ⟨gb782, 1, none⟩ = some (.slice A1_1 l1_1.length c1_1) := (blk_cell BK782.out 1).trans rfl
                        have hfz84_0 := blk_frozen BK782.out 0
                        have hfz84_1 := blk_frozen BK782.out 1
                        go_wp2_with (first | (go_at_call 70; (with_reducible refine (strip_Low.calls k3 a0_0 _ _ l0_1 a1_0 _ _ l1_1 a2_1 true _ ?side1 ?side2 ?side3 ?side4 A77.out).mono ?_); (case side1 => repeat (first | exact (Kd.C_below HR0_1.out HB.out) | (with_reducible refine Kd.C_alloc ?_ _) | (with_reducible refine Kd.C_drewN ?_ _) | (with_reducible refine Kd.C_drew ?_))); (case side2 => exact HC0_1.out); (case side3 => repeat (first | exact (Kd.C_below HR1_1.out HB.out) | (with_reducible refine Kd.C_alloc ?_ _) | (with_reducible refine Kd.C_drewN ?_ _) | (with_reducible refine Kd.C_drew ?_))); (case side4 => exact HC1_1.out); rintro e w85 ⟨rfl, hb⟩; have n0_ := Aside0.mk (blk_below (g := gb781) (o := .cells #[.string a0_0, .slice A0_1 l0_1.length c0_1] 51 (0, 0)) (by (with_reducible repeat (first | refine blk_drewN ?_ _ | refine blk_drew ?_ | refine blk_alloc ?_ _)); exact BK781.out) hb); have n1_ := Aside0.mk (blk_below (g := gb782) (o := .cells #[.string a1_0, .slice A1_1 l1_1.length c1_1] 51 (0, 0)) (by (with_reducible repeat (first | refine blk_drewN ?_ _ | refine blk_drew ?_ | refine blk_alloc ?_ _)); exact BK782.out) hb); have n2_ := Aside0.mk (blk_below (g := gb783) (o := .cells #[.int .u64 a2_0, .int .u64 a2_1] 85 (0, 0)) (by (with_reducible repeat (first | refine blk_drewN ?_ _ | refine blk_drew ?_ | refine blk_alloc ?_ _)); exact BK783.out) hb); have n3_ := Aside0.mk (below_step (by repeat (first | (with_reducible first | exact HB.out | apply below_alloc | apply pw_below_drewN | apply below_drew1 | refine below_set ?_ GE781.out | refine below_set ?_ GE782.out | refine below_set ?_ GE783.out) | exact HB.out)) hb); clear BK781; clear BK782; clear BK783; clear HB; have BK781 := n0_; have BK782 := n1_; have BK783 := n2_; have HB := n3_; clear n0_ n1_ n2_ n3_; (try clear hb); (try clear hb2); (try clear hk); (try clear hi); have hcz86_0 : w85.cell? ⟨gb781, 0, none⟩ = some (.string a0_0) := (blk_cell BK781.out 0).trans rfl; have hcz86_1 : w85.cell? ⟨gb781, 1, none⟩ = some (.slice A0_1 l0_1.length c0_1) := (blk_cell BK781.out 1).trans rfl; have hfz86_0 := blk_frozen BK781.out 0; have hfz86_1 := blk_frozen BK781.out 1; have hcz87_0 : w85.cell? ⟨gb782, 0, none⟩ = some (.string a1_0) := (blk_cell BK782.out 0).trans rfl; have hcz87_1 : w85.cell? ⟨gb782, 1, none⟩ = some (.slice A1_1 l1_1.length c1_1) := (blk_cell BK782.out 1).trans rfl; have hfz87_0 := blk_frozen BK782.out 0; have hfz87_1 := blk_frozen BK782.out 1) | (go_at_call 70; (with_reducible refine (strip_Low.calls k3 a0_0 _ _ l0_1 a1_0 _ _ l1_1 (Go.bits .and .u64 a2_0 a2_1) t792 _ ?side1 ?side2 ?side3 ?side4 A79.out).mono ?_); (case side1 => repeat (first | exact (Kd.C_below HR0_1.out HB.out) | (with_reducible refine Kd.C_alloc ?_ _) | (with_reducible refine Kd.C_drewN ?_ _) | (with_reducible refine Kd.C_drew ?_))); (case side2 => exact HC0_1.out); (case side3 => repeat (first | exact (Kd.C_below HR1_1.out HB.out) | (with_reducible refine Kd.C_alloc ?_ _) | (with_reducible refine Kd.C_drewN ?_ _) | (with_reducible refine Kd.C_drew ?_))); (case side4 => exact HC1_1.out); rintro e w88 ⟨rfl, hb⟩; have n0_ := Aside0.mk (blk_below (g := gb781) (o := .cells #[.string a0_0, .slice A0_1 l0_1.length c0_1] 51 (0, 0)) (by (with_reducible repeat (first | refine blk_drewN ?_ _ | refine blk_drew ?_ | refine blk_alloc ?_ _)); exact BK781.out) hb); have n1_ := Aside0.mk (blk_below (g := gb782) (o := .cells #[.string a1_0, .slice A1_1 l1_1.length c1_1] 51 (0, 0)) (by (with_reducible repeat (first | refine blk_drewN ?_ _ | refine blk_drew ?_ | refine blk_alloc ?_ _)); exact BK782.out) hb); have n2_ := Aside0.mk (blk_below (g := gb783) (o := .cells #[.int .u64 a2_0, .int .u64 a2_1] 85 (0, 0)) (by (with_reducible repeat (first | refine blk_drewN ?_ _ | refine blk_drew ?_ | refine blk_alloc ?_ _)); exact BK783.out) hb); have n3_ := Aside0.mk (below_step (by repeat (first | (with_reducible first | exact HB.out | apply below_alloc | apply pw_below_drewN | apply below_drew1 | refine below_set ?_ GE781.out | refine below_set ?_ GE782.out | refine below_set ?_ GE783.out) | exact HB.out)) hb); clear BK781; clear BK782; clear BK783; clear HB; have BK781 := n0_; have BK782 := n1_; have BK783 := n2_; have HB := n3_; clear n0_ n1_ n2_ n3_; (try clear hb); (try clear hb2); (try clear hk); (try clear hi)))
                        repeat (go_quiet (first | (go_at_call 70; (with_reducible refine (strip_Low.calls k3 a0_0 _ _ l0_1 a1_0 _ _ l1_1 a2_1 true _ ?side1 ?side2 ?side3 ?side4 A77.out).mono ?_); (case side1 => repeat (first | exact (Kd.C_below HR0_1.out HB.out) | (with_reducible refine Kd.C_alloc ?_ _) | (with_reducible refine Kd.C_drewN ?_ _) | (with_reducible refine Kd.C_drew ?_))); (case side2 => exact HC0_1.out); (case side3 => repeat (first | exact (Kd.C_below HR1_1.out HB.out) | (with_reducible refine Kd.C_alloc ?_ _) | (with_reducible refine Kd.C_drewN ?_ _) | (with_reducible refine Kd.C_drew ?_))); (case side4 => exact HC1_1.out); rintro e w85 ⟨rfl, hb⟩; have n0_ := Aside0.mk (blk_below (g := gb781) (o := .cells #[.string a0_0, .slice A0_1 l0_1.length c0_1] 51 (0, 0)) (by (with_reducible repeat (first | refine blk_drewN ?_ _ | refine blk_drew ?_ | refine blk_alloc ?_ _)); exact BK781.out) hb); have n1_ := Aside0.mk (blk_below (g := gb782) (o := .cells #[.string a1_0, .slice A1_1 l1_1.length c1_1] 51 (0, 0)) (by (with_reducible repeat (first | refine blk_drewN ?_ _ | refine blk_drew ?_ | refine blk_alloc ?_ _)); exact BK782.out) hb); have n2_ := Aside0.mk (blk_below (g := gb783) (o := .cells #[.int .u64 a2_0, .int .u64 a2_1] 85 (0, 0)) (by (with_reducible repeat (first | refine blk_drewN ?_ _ | refine blk_drew ?_ | refine blk_alloc ?_ _)); exact BK783.out) hb); have n3_ := Aside0.mk (below_step (by repeat (first | (with_reducible first | exact HB.out | apply below_alloc | apply pw_below_drewN | apply below_drew1 | refine below_set ?_ GE781.out | refine below_set ?_ GE782.out | refine below_set ?_ GE783.out) | exact HB.out)) hb); clear BK781; clear BK782; clear BK783; clear HB; have BK781 := n0_; have BK782 := n1_; have BK783 := n2_; have HB := n3_; clear n0_ n1_ n2_ n3_; (try clear hb); (try clear hb2); (try clear hk); (try clear hi); have hcz86_0 : w85.cell? ⟨gb781, 0, none⟩ = some (.string a0_0) := (blk_cell BK781.out 0).trans rfl; have hcz86_1 : w85.cell? ⟨gb781, 1, none⟩ = some (.slice A0_1 l0_1.length c0_1) := (blk_cell BK781.out 1).trans rfl; have hfz86_0 := blk_frozen BK781.out 0; have hfz86_1 := blk_frozen BK781.out 1; have hcz87_0 : w85.cell? ⟨gb782, 0, none⟩ = some (.string a1_0) := (blk_cell BK782.out 0).trans rfl; have hcz87_1 : w85.cell? ⟨gb782, 1, none⟩ = some (.slice A1_1 l1_1.length c1_1) := (blk_cell BK782.out 1).trans rfl; have hfz87_0 := blk_frozen BK782.out 0; have hfz87_1 := blk_frozen BK782.out 1) | (go_at_call 70; (with_reducible refine (strip_Low.calls k3 a0_0 _ _ l0_1 a1_0 _ _ l1_1 (Go.bits .and .u64 a2_0 a2_1) t792 _ ?side1 ?side2 ?side3 ?side4 A79.out).mono ?_); (case side1 => repeat (first | exact (Kd.C_below HR0_1.out HB.out) | (with_reducible refine Kd.C_alloc ?_ _) | (with_reducible refine Kd.C_drewN ?_ _) | (with_reducible refine Kd.C_drew ?_))); (case side2 => exact HC0_1.out); (case side3 => repeat (first | exact (Kd.C_below HR1_1.out HB.out) | (with_reducible refine Kd.C_alloc ?_ _) | (with_reducible refine Kd.C_drewN ?_ _) | (with_reducible refine Kd.C_drew ?_))); (case side4 => exact HC1_1.out); rintro e w88 ⟨rfl, hb⟩; have n0_ := Aside0.mk (blk_below (g := gb781) (o := .cells #[.string a0_0, .slice A0_1 l0_1.length c0_1] 51 (0, 0)) (by (with_reducible repeat (first | refine blk_drewN ?_ _ | refine blk_drew ?_ | refine blk_alloc ?_ _)); exact BK781.out) hb); have n1_ := Aside0.mk (blk_below (g := gb782) (o := .cells #[.string a1_0, .slice A1_1 l1_1.length c1_1] 51 (0, 0)) (by (with_reducible repeat (first | refine blk_drewN ?_ _ | refine blk_drew ?_ | refine blk_alloc ?_ _)); exact BK782.out) hb); have n2_ := Aside0.mk (blk_below (g := gb783) (o := .cells #[.int .u64 a2_0, .int .u64 a2_1] 85 (0, 0)) (by (with_reducible repeat (first | refine blk_drewN ?_ _ | refine blk_drew ?_ | refine blk_alloc ?_ _)); exact BK783.out) hb); have n3_ := Aside0.mk (below_step (by repeat (first | (with_reducible first | exact HB.out | apply below_alloc | apply pw_below_drewN | apply below_drew1 | refine below_set ?_ GE781.out | refine below_set ?_ GE782.out | refine below_set ?_ GE783.out) | exact HB.out)) hb); clear BK781; clear BK782; clear BK783; clear HB; have BK781 := n0_; have BK782 := n1_; have BK783 := n2_; have HB := n3_; clear n0_ n1_ n2_ n3_; (try clear hb); (try clear hb2); (try clear hk); (try clear hi))); try go_wp2_with (first | (go_at_call 70; (with_reducible refine (strip_Low.calls k3 a0_0 _ _ l0_1 a1_0 _ _ l1_1 a2_1 true _ ?side1 ?side2 ?side3 ?side4 A77.out).mono ?_); (case side1 => repeat (first | exact (Kd.C_below HR0_1.out HB.out) | (with_reducible refine Kd.C_alloc ?_ _) | (with_reducible refine Kd.C_drewN ?_ _) | (with_reducible refine Kd.C_drew ?_))); (case side2 => exact HC0_1.out); (case side3 => repeat (first | exact (Kd.C_below HR1_1.out HB.out) | (with_reducible refine Kd.C_alloc ?_ _) | (with_reducible refine Kd.C_drewN ?_ _) | (with_reducible refine Kd.C_drew ?_))); (case side4 => exact HC1_1.out); rintro e w85 ⟨rfl, hb⟩; have n0_ := Aside0.mk (blk_below (g := gb781) (o := .cells #[.string a0_0, .slice A0_1 l0_1.length c0_1] 51 (0, 0)) (by (with_reducible repeat (first | refine blk_drewN ?_ _ | refine blk_drew ?_ | refine blk_alloc ?_ _)); exact BK781.out) hb); have n1_ := Aside0.mk (blk_below (g := gb782) (o := .cells #[.string a1_0, .slice A1_1 l1_1.length c1_1] 51 (0, 0)) (by (with_reducible repeat (first | refine blk_drewN ?_ _ | refine blk_drew ?_ | refine blk_alloc ?_ _)); exact BK782.out) hb); have n2_ := Aside0.mk (blk_below (g := gb783) (o := .cells #[.int .u64 a2_0, .int .u64 a2_1] 85 (0, 0)) (by (with_reducible repeat (first | refine blk_drewN ?_ _ | refine blk_drew ?_ | refine blk_alloc ?_ _)); exact BK783.out) hb); have n3_ := Aside0.mk (below_step (by repeat (first | (with_reducible first | exact HB.out | apply below_alloc | apply pw_below_drewN | apply below_drew1 | refine below_set ?_ GE781.out | refine below_set ?_ GE782.out | refine below_set ?_ GE783.out) | exact HB.out)) hb); clear BK781; clear BK782; clear BK783; clear HB; have BK781 := n0_; have BK782 := n1_; have BK783 := n2_; have HB := n3_; clear n0_ n1_ n2_ n3_; (try clear hb); (try clear hb2); (try clear hk); (try clear hi); have hcz86_0 : w85.cell? ⟨gb781, 0, none⟩ = some (.string a0_0) := (blk_cell BK781.out 0).trans rfl; have hcz86_1 : w85.cell? ⟨gb781, 1, none⟩ = some (.slice A0_1 l0_1.length c0_1) := (blk_cell BK781.out 1).trans rfl; have hfz86_0 := blk_frozen BK781.out 0; have hfz86_1 := blk_frozen BK781.out 1; have hcz87_0 : w85.cell? ⟨gb782, 0, none⟩ = some (.string a1_0) := (blk_cell BK782.out 0).trans rfl; have hcz87_1 : w85.cell? ⟨gb782, 1, none⟩ = some (.slice A1_1 l1_1.length c1_1) := (blk_cell BK782.out 1).trans rfl; have hfz87_0 := blk_frozen BK782.out 0; have hfz87_1 := blk_frozen BK782.out 1) | (go_at_call 70; (with_reducible refine (strip_Low.calls k3 a0_0 _ _ l0_1 a1_0 _ _ l1_1 (Go.bits .and .u64 a2_0 a2_1) t792 _ ?side1 ?side2 ?side3 ?side4 A79.out).mono ?_); (case side1 => repeat (first | exact (Kd.C_below HR0_1.out HB.out) | (with_reducible refine Kd.C_alloc ?_ _) | (with_reducible refine Kd.C_drewN ?_ _) | (with_reducible refine Kd.C_drew ?_))); (case side2 => exact HC0_1.out); (case side3 => repeat (first | exact (Kd.C_below HR1_1.out HB.out) | (with_reducible refine Kd.C_alloc ?_ _) | (with_reducible refine Kd.C_drewN ?_ _) | (with_reducible refine Kd.C_drew ?_))); (case side4 => exact HC1_1.out); rintro e w88 ⟨rfl, hb⟩; have n0_ := Aside0.mk (blk_below (g := gb781) (o := .cells #[.string a0_0, .slice A0_1 l0_1.length c0_1] 51 (0, 0)) (by (with_reducible repeat (first | refine blk_drewN ?_ _ | refine blk_drew ?_ | refine blk_alloc ?_ _)); exact BK781.out) hb); have n1_ := Aside0.mk (blk_below (g := gb782) (o := .cells #[.string a1_0, .slice A1_1 l1_1.length c1_1] 51 (0, 0)) (by (with_reducible repeat (first | refine blk_drewN ?_ _ | refine blk_drew ?_ | refine blk_alloc ?_ _)); exact BK782.out) hb); have n2_ := Aside0.mk (blk_below (g := gb783) (o := .cells #[.int .u64 a2_0, .int .u64 a2_1] 85 (0, 0)) (by (with_reducible repeat (first | refine blk_drewN ?_ _ | refine blk_drew ?_ | refine blk_alloc ?_ _)); exact BK783.out) hb); have n3_ := Aside0.mk (below_step (by repeat (first | (with_reducible first | exact HB.out | apply below_alloc | apply pw_below_drewN | apply below_drew1 | refine below_set ?_ GE781.out | refine below_set ?_ GE782.out | refine below_set ?_ GE783.out) | exact HB.out)) hb); clear BK781; clear BK782; clear BK783; clear HB; have BK781 := n0_; have BK782 := n1_; have BK783 := n2_; have HB := n3_; clear n0_ n1_ n2_ n3_; (try clear hb); (try clear hb2); (try clear hk); (try clear hi))))
                        go_ret
                        exact ⟨by first | rfl | (simp [errW_none, errW_some] <;> rfl) | (simp [*, errW_none, errW_some] <;> rfl), by repeat (first | (with_reducible first | exact HB.out | apply below_alloc | apply pw_below_drewN | apply below_drew1 | refine below_set ?_ GE781.out | refine below_set ?_ GE782.out | refine below_set ?_ GE783.out) | exact HB.out)⟩
                      · replace c78 := Bool.eq_false_iff.mpr c78
                        subst c78
                        have H1 : (some true) = some r := by rw [if_neg (show ¬ (false = true) by decide)] at H; exact H
                        clear H
                        have H := H1
                        clear H1
                        obtain rfl := Option.some.inj H
                        have hnb89 := NB781_782.out
                        have hnc89 := NB782_781.out
                        have hnb90 := NB781_783.out
                        have hnc90 := NB783_781.out
                        have hcz91_0 : wr.cell? ⟨gb781, 0, none⟩ = some (.string a0_0) := (blk_cell BK781.out 0).trans rfl
                        have hcz91_1 : wr.cell? ⟨gb781, 1, none⟩ = some (.slice A0_1 l0_1.length c0_1) := (blk_cell BK781.out 1).trans rfl
                        have hfz91_0 := blk_frozen BK781.out 0
                        have hfz91_1 := blk_frozen BK781.out 1
                        have hnb92 := NB782_783.out
                        have hnc92 := NB783_782.out
                        have hcz93_0 : wr.cell? ⟨gb782, 0, none⟩ = some (.string a1_0) := (blk_cell BK782.out 0).trans rfl
                        have hcz93_1 : wr.cell? ⟨gb782, 1, none⟩ = some (.slice A1_1 l1_1.length c1_1) := (blk_cell BK782.out 1).trans rfl
                        have hfz93_0 := blk_frozen BK782.out 0
                        have hfz93_1 := blk_frozen BK782.out 1
                        go_wp2_with (first | (go_at_call 70; (with_reducible refine (strip_Low.calls k3 a0_0 _ _ l0_1 a1_0 _ _ l1_1 a2_1 false _ ?side1 ?side2 ?side3 ?side4 A77.out).mono ?_); (case side1 => repeat (first | exact (Kd.C_below HR0_1.out HB.out) | (with_reducible refine Kd.C_alloc ?_ _) | (with_reducible refine Kd.C_drewN ?_ _) | (with_reducible refine Kd.C_drew ?_))); (case side2 => exact HC0_1.out); (case side3 => repeat (first | exact (Kd.C_below HR1_1.out HB.out) | (with_reducible refine Kd.C_alloc ?_ _) | (with_reducible refine Kd.C_drewN ?_ _) | (with_reducible refine Kd.C_drew ?_))); (case side4 => exact HC1_1.out); rintro e w94 ⟨rfl, hb⟩; have n0_ := Aside0.mk (blk_below (g := gb781) (o := .cells #[.string a0_0, .slice A0_1 l0_1.length c0_1] 51 (0, 0)) (by (with_reducible repeat (first | refine blk_drewN ?_ _ | refine blk_drew ?_ | refine blk_alloc ?_ _)); exact BK781.out) hb); have n1_ := Aside0.mk (blk_below (g := gb782) (o := .cells #[.string a1_0, .slice A1_1 l1_1.length c1_1] 51 (0, 0)) (by (with_reducible repeat (first | refine blk_drewN ?_ _ | refine blk_drew ?_ | refine blk_alloc ?_ _)); exact BK782.out) hb); have n2_ := Aside0.mk (blk_below (g := gb783) (o := .cells #[.int .u64 a2_0, .int .u64 a2_1] 85 (0, 0)) (by (with_reducible repeat (first | refine blk_drewN ?_ _ | refine blk_drew ?_ | refine blk_alloc ?_ _)); exact BK783.out) hb); have n3_ := Aside0.mk (below_step (by repeat (first | (with_reducible first | exact HB.out | apply below_alloc | apply pw_below_drewN | apply below_drew1 | refine below_set ?_ GE781.out | refine below_set ?_ GE782.out | refine below_set ?_ GE783.out) | exact HB.out)) hb); clear BK781; clear BK782; clear BK783; clear HB; have BK781 := n0_; have BK782 := n1_; have BK783 := n2_; have HB := n3_; clear n0_ n1_ n2_ n3_; (try clear hb); (try clear hb2); (try clear hk); (try clear hi)))
                        repeat (go_quiet (first | (go_at_call 70; (with_reducible refine (strip_Low.calls k3 a0_0 _ _ l0_1 a1_0 _ _ l1_1 a2_1 false _ ?side1 ?side2 ?side3 ?side4 A77.out).mono ?_); (case side1 => repeat (first | exact (Kd.C_below HR0_1.out HB.out) | (with_reducible refine Kd.C_alloc ?_ _) | (with_reducible refine Kd.C_drewN ?_ _) | (with_reducible refine Kd.C_drew ?_))); (case side2 => exact HC0_1.out); (case side3 => repeat (first | exact (Kd.C_below HR1_1.out HB.out) | (with_reducible refine Kd.C_alloc ?_ _) | (with_reducible refine Kd.C_drewN ?_ _) | (with_reducible refine Kd.C_drew ?_))); (case side4 => exact HC1_1.out); rintro e w94 ⟨rfl, hb⟩; have n0_ := Aside0.mk (blk_below (g := gb781) (o := .cells #[.string a0_0, .slice A0_1 l0_1.length c0_1] 51 (0, 0)) (by (with_reducible repeat (first | refine blk_drewN ?_ _ | refine blk_drew ?_ | refine blk_alloc ?_ _)); exact BK781.out) hb); have n1_ := Aside0.mk (blk_below (g := gb782) (o := .cells #[.string a1_0, .slice A1_1 l1_1.length c1_1] 51 (0, 0)) (by (with_reducible repeat (first | refine blk_drewN ?_ _ | refine blk_drew ?_ | refine blk_alloc ?_ _)); exact BK782.out) hb); have n2_ := Aside0.mk (blk_below (g := gb783) (o := .cells #[.int .u64 a2_0, .int .u64 a2_1] 85 (0, 0)) (by (with_reducible repeat (first | refine blk_drewN ?_ _ | refine blk_drew ?_ | refine blk_alloc ?_ _)); exact BK783.out) hb); have n3_ := Aside0.mk (below_step (by repeat (first | (with_reducible first | exact HB.out | apply below_alloc | apply pw_below_drewN | apply below_drew1 | refine below_set ?_ GE781.out | refine below_set ?_ GE782.out | refine below_set ?_ GE783.out) | exact HB.out)) hb); clear BK781; clear BK782; clear BK783; clear HB; have BK781 := n0_; have BK782 := n1_; have BK783 := n2_; have HB := n3_; clear n0_ n1_ n2_ n3_; (try clear hb); (try clear hb2); (try clear hk); (try clear hi))); try go_wp2_with (first | (go_at_call 70; (with_reducible refine (strip_Low.calls k3 a0_0 _ _ l0_1 a1_0 _ _ l1_1 a2_1 false _ ?side1 ?side2 ?side3 ?side4 A77.out).mono ?_); (case side1 => repeat (first | exact (Kd.C_below HR0_1.out HB.out) | (with_reducible refine Kd.C_alloc ?_ _) | (with_reducible refine Kd.C_drewN ?_ _) | (with_reducible refine Kd.C_drew ?_))); (case side2 => exact HC0_1.out); (case side3 => repeat (first | exact (Kd.C_below HR1_1.out HB.out) | (with_reducible refine Kd.C_alloc ?_ _) | (with_reducible refine Kd.C_drewN ?_ _) | (with_reducible refine Kd.C_drew ?_))); (case side4 => exact HC1_1.out); rintro e w94 ⟨rfl, hb⟩; have n0_ := Aside0.mk (blk_below (g := gb781) (o := .cells #[.string a0_0, .slice A0_1 l0_1.length c0_1] 51 (0, 0)) (by (with_reducible repeat (first | refine blk_drewN ?_ _ | refine blk_drew ?_ | refine blk_alloc ?_ _)); exact BK781.out) hb); have n1_ := Aside0.mk (blk_below (g := gb782) (o := .cells #[.string a1_0, .slice A1_1 l1_1.length c1_1] 51 (0, 0)) (by (with_reducible repeat (first | refine blk_drewN ?_ _ | refine blk_drew ?_ | refine blk_alloc ?_ _)); exact BK782.out) hb); have n2_ := Aside0.mk (blk_below (g := gb783) (o := .cells #[.int .u64 a2_0, .int .u64 a2_1] 85 (0, 0)) (by (with_reducible repeat (first | refine blk_drewN ?_ _ | refine blk_drew ?_ | refine blk_alloc ?_ _)); exact BK783.out) hb); have n3_ := Aside0.mk (below_step (by repeat (first | (with_reducible first | exact HB.out | apply below_alloc | apply pw_below_drewN | apply below_drew1 | refine below_set ?_ GE781.out | refine below_set ?_ GE782.out | refine below_set ?_ GE783.out) | exact HB.out)) hb); clear BK781; clear BK782; clear BK783; clear HB; have BK781 := n0_; have BK782 := n1_; have BK783 := n2_; have HB := n3_; clear n0_ n1_ n2_ n3_; (try clear hb); (try clear hb2); (try clear hk); (try clear hi))))
                        go_ret
                        exact ⟨by first | rfl | (simp [errW_none, errW_some] <;> rfl) | (simp [*, errW_none, errW_some] <;> rfl), by repeat (first | (with_reducible first | exact HB.out | apply below_alloc | apply pw_below_drewN | apply below_drew1 | refine below_set ?_ GE781.out | refine below_set ?_ GE782.out | refine below_set ?_ GE783.out) | exact HB.out)⟩
  · replace c5 := Bool.eq_false_iff.mpr c5
    subst c5
    have H1 : (some false) = some r := by rw [if_neg (show ¬ (false = true) by decide)] at H; exact H
    clear H
    have H := H1
    clear H1
    obtain rfl := Option.some.inj H
    go_enter Try.func18, Try.ntmps18
    go_wp2_with (first | ((with_reducible refine gate_dst (N := 3) rfl ?_); (try (refine gate_guard (by rfl) ?_; dsimp only)); refine box_event ?hg (N := 3) ?hd (cs := #[.string a0_0, .slice A0_1 l0_1.length c0_1]) (t := 51) ?hr ?_; (case hd => rfl); (case hg => rfl); (case hr => first | (go_simp; done) | (go_simp; rfl)); intro gb781 hg w95 hbox hb; have n0_ := Aside0.mk (below_step (by repeat (first | (with_reducible first | exact HB.out | apply below_alloc | apply pw_below_drewN | apply below_drew1) | exact HB.out)) hb); have n1_ := Aside0.mk (hbox); have n2_ := Aside0.mk ((by rw [hg]; exact (below_size (by repeat (first | (with_reducible first | exact HB.out | apply below_alloc | apply pw_below_drewN | apply below_drew1) | exact HB.out))) : w.heap.size ≤ gb781)); have n3_ := Aside0.mk ((by rw [hg]; exact (below_size (by repeat (first | (with_reducible first | exact HB.out | apply below_alloc | apply pw_below_drewN | apply below_drew1) | exact HB.out))) : w.heap.size ≤ gb781)); clear HB; have HB := n0_; have BK781 := n1_; have GW781 := n2_; have GE781 := n3_; clear n0_ n1_ n2_ n3_; clear hb hbox hg) | ((with_reducible refine gate_dst (N := 4) rfl ?_); (try (refine gate_guard (by rfl) ?_; dsimp only)); refine box_event ?hg (N := 4) ?hd (cs := #[.string a1_0, .slice A1_1 l1_1.length c1_1]) (t := 51) ?hr ?_; (case hd => rfl); (case hg => rfl); (case hr => first | (go_simp; done) | (go_simp; rfl)); intro gb782 hg w96 hbox hb; have n0_ := Aside0.mk (blk_below (g := gb781) (o := .cells #[.string a0_0, .slice A0_1 l0_1.length c0_1] 51 (0, 0)) (by (with_reducible repeat (first | refine blk_drewN ?_ _ | refine blk_drew ?_ | refine blk_alloc ?_ _)); exact BK781.out) hb); have n1_ := Aside0.mk (below_step (by repeat (first | (with_reducible first | exact HB.out | apply below_alloc | apply pw_below_drewN | apply below_drew1 | refine below_set ?_ GE781.out) | exact HB.out)) hb); have n2_ := Aside0.mk (hbox); have n3_ := Aside0.mk ((by rw [hg]; exact (below_size (by repeat (first | (with_reducible first | exact HB.out | apply below_alloc | apply pw_below_drewN | apply below_drew1 | refine below_set ?_ GE781.out) | exact HB.out))) : w.heap.size ≤ gb782)); have n4_ := Aside0.mk ((by rw [hg]; exact (below_size (by repeat (first | (with_reducible first | exact HB.out | apply below_alloc | apply pw_below_drewN | apply below_drew1 | refine below_set ?_ GE781.out) | exact HB.out))) : w.heap.size ≤ gb782)); have n5_ := Aside0.mk ((by rw [hg]; exact Nat.ne_of_lt (blk_lt (g := gb781) (o := .cells #[.string a0_0, .slice A0_1 l0_1.length c0_1] 51 (0, 0)) (by (with_reducible repeat (first | refine blk_drewN ?_ _ | refine blk_drew ?_ | refine blk_alloc ?_ _)); exact BK781.out)) : gb781 ≠ gb782)); have n6_ := Aside0.mk ((by rw [hg]; exact Nat.ne_of_gt (blk_lt (g := gb781) (o := .cells #[.string a0_0, .slice A0_1 l0_1.length c0_1] 51 (0, 0)) (by (with_reducible repeat (first | refine blk_drewN ?_ _ | refine blk_drew ?_ | refine blk_alloc ?_ _)); exact BK781.out)) : gb782 ≠ gb781)); clear BK781; clear HB; have BK781 := n0_; have HB := n1_; have BK782 := n2_; have GW782 := n3_; have GE782 := n4_; have NB781_782 := n5_; have NB782_781 := n6_; clear n0_ n1_ n2_ n3_ n4_ n5_ n6_; clear hb hbox hg) | ((with_reducible refine gate_dst (N := 5) rfl ?_); (try (refine gate_guard (by rfl) ?_; dsimp only)); refine box_event ?hg (N := 5) ?hd (cs := #[.int .u64 a2_0, .int .u64 a2_1]) (t := 85) ?hr ?_; (case hd => rfl); (case hg => rfl); (case hr => first | (go_simp; done) | (go_simp; rfl)); intro gb783 hg w97 hbox hb; have n0_ := Aside0.mk (blk_below (g := gb781) (o := .cells #[.string a0_0, .slice A0_1 l0_1.length c0_1] 51 (0, 0)) (by (with_reducible repeat (first | refine blk_drewN ?_ _ | refine blk_drew ?_ | refine blk_alloc ?_ _)); exact BK781.out) hb); have n1_ := Aside0.mk (blk_below (g := gb782) (o := .cells #[.string a1_0, .slice A1_1 l1_1.length c1_1] 51 (0, 0)) (by (with_reducible repeat (first | refine blk_drewN ?_ _ | refine blk_drew ?_ | refine blk_alloc ?_ _)); exact BK782.out) hb); have n2_ := Aside0.mk (below_step (by repeat (first | (with_reducible first | exact HB.out | apply below_alloc | apply pw_below_drewN | apply below_drew1 | refine below_set ?_ GE781.out | refine below_set ?_ GE782.out) | exact HB.out)) hb); have n3_ := Aside0.mk (hbox); have n4_ := Aside0.mk ((by rw [hg]; exact (below_size (by repeat (first | (with_reducible first | exact HB.out | apply below_alloc | apply pw_below_drewN | apply below_drew1 | refine below_set ?_ GE781.out | refine below_set ?_ GE782.out) | exact HB.out))) : w.heap.size ≤ gb783)); have n5_ := Aside0.mk ((by rw [hg]; exact (below_size (by repeat (first | (with_reducible first | exact HB.out | apply below_alloc | apply pw_below_drewN | apply below_drew1 | refine below_set ?_ GE781.out | refine below_set ?_ GE782.out) | exact HB.out))) : w.heap.size ≤ gb783)); have n6_ := Aside0.mk ((by rw [hg]; exact Nat.ne_of_lt (blk_lt (g := gb781) (o := .cells #[.string a0_0, .slice A0_1 l0_1.length c0_1] 51 (0, 0)) (by (with_reducible repeat (first | refine blk_drewN ?_ _ | refine blk_drew ?_ | refine blk_alloc ?_ _)); exact BK781.out)) : gb781 ≠ gb783)); have n7_ := Aside0.mk ((by rw [hg]; exact Nat.ne_of_gt (blk_lt (g := gb781) (o := .cells #[.string a0_0, .slice A0_1 l0_1.length c0_1] 51 (0, 0)) (by (with_reducible repeat (first | refine blk_drewN ?_ _ | refine blk_drew ?_ | refine blk_alloc ?_ _)); exact BK781.out)) : gb783 ≠ gb781)); have n8_ := Aside0.mk ((by rw [hg]; exact Nat.ne_of_lt (blk_lt (g := gb782) (o := .cells #[.string a1_0, .slice A1_1 l1_1.length c1_1] 51 (0, 0)) (by (with_reducible repeat (first | refine blk_drewN ?_ _ | refine blk_drew ?_ | refine blk_alloc ?_ _)); exact BK782.out)) : gb782 ≠ gb783)); have n9_ := Aside0.mk ((by rw [hg]; exact Nat.ne_of_gt (blk_lt (g := gb782) (o := .cells #[.string a1_0, .slice A1_1 l1_1.length c1_1] 51 (0, 0)) (by (with_reducible repeat (first | refine blk_drewN ?_ _ | refine blk_drew ?_ | refine blk_alloc ?_ _)); exact BK782.out)) : gb783 ≠ gb782)); clear BK781; clear BK782; clear HB; have BK781 := n0_; have BK782 := n1_; have HB := n2_; have BK783 := n3_; have GW783 := n4_; have GE783 := n5_; have NB781_783 := n6_; have NB783_781 := n7_; have NB782_783 := n8_; have NB783_782 := n9_; clear n0_ n1_ n2_ n3_ n4_ n5_ n6_ n7_ n8_ n9_; clear hb hbox hg) | (go_at_call 44; (with_reducible refine (bureaulaw04_alive.calls k  false _ A4.out).mono ?_); rintro e w98 ⟨rfl, hb⟩; have n0_ := Aside0.mk (blk_below (g := gb781) (o := .cells #[.string a0_0, .slice A0_1 l0_1.length c0_1] 51 (0, 0)) (by (with_reducible repeat (first | refine blk_drewN ?_ _ | refine blk_drew ?_ | refine blk_alloc ?_ _)); exact BK781.out) hb); have n1_ := Aside0.mk (blk_below (g := gb782) (o := .cells #[.string a1_0, .slice A1_1 l1_1.length c1_1] 51 (0, 0)) (by (with_reducible repeat (first | refine blk_drewN ?_ _ | refine blk_drew ?_ | refine blk_alloc ?_ _)); exact BK782.out) hb); have n2_ := Aside0.mk (blk_below (g := gb783) (o := .cells #[.int .u64 a2_0, .int .u64 a2_1] 85 (0, 0)) (by (with_reducible repeat (first | refine blk_drewN ?_ _ | refine blk_drew ?_ | refine blk_alloc ?_ _)); exact BK783.out) hb); have n3_ := Aside0.mk (below_step (by repeat (first | (with_reducible first | exact HB.out | apply below_alloc | apply pw_below_drewN | apply below_drew1 | refine below_set ?_ GE781.out | refine below_set ?_ GE782.out | refine below_set ?_ GE783.out) | exact HB.out)) hb); clear BK781; clear BK782; clear BK783; clear HB; have BK781 := n0_; have BK782 := n1_; have BK783 := n2_; have HB := n3_; clear n0_ n1_ n2_ n3_; (try clear hb); (try clear hb2); (try clear hk); (try clear hi)))
    repeat (go_quiet (first | ((with_reducible refine gate_dst (N := 3) rfl ?_); (try (refine gate_guard (by rfl) ?_; dsimp only)); refine box_event ?hg (N := 3) ?hd (cs := #[.string a0_0, .slice A0_1 l0_1.length c0_1]) (t := 51) ?hr ?_; (case hd => rfl); (case hg => rfl); (case hr => first | (go_simp; done) | (go_simp; rfl)); intro gb781 hg w95 hbox hb; have n0_ := Aside0.mk (below_step (by repeat (first | (with_reducible first | exact HB.out | apply below_alloc | apply pw_below_drewN | apply below_drew1) | exact HB.out)) hb); have n1_ := Aside0.mk (hbox); have n2_ := Aside0.mk ((by rw [hg]; exact (below_size (by repeat (first | (with_reducible first | exact HB.out | apply below_alloc | apply pw_below_drewN | apply below_drew1) | exact HB.out))) : w.heap.size ≤ gb781)); have n3_ := Aside0.mk ((by rw [hg]; exact (below_size (by repeat (first | (with_reducible first | exact HB.out | apply below_alloc | apply pw_below_drewN | apply below_drew1) | exact HB.out))) : w.heap.size ≤ gb781)); clear HB; have HB := n0_; have BK781 := n1_; have GW781 := n2_; have GE781 := n3_; clear n0_ n1_ n2_ n3_; clear hb hbox hg) | ((with_reducible refine gate_dst (N := 4) rfl ?_); (try (refine gate_guard (by rfl) ?_; dsimp only)); refine box_event ?hg (N := 4) ?hd (cs := #[.string a1_0, .slice A1_1 l1_1.length c1_1]) (t := 51) ?hr ?_; (case hd => rfl); (case hg => rfl); (case hr => first | (go_simp; done) | (go_simp; rfl)); intro gb782 hg w96 hbox hb; have n0_ := Aside0.mk (blk_below (g := gb781) (o := .cells #[.string a0_0, .slice A0_1 l0_1.length c0_1] 51 (0, 0)) (by (with_reducible repeat (first | refine blk_drewN ?_ _ | refine blk_drew ?_ | refine blk_alloc ?_ _)); exact BK781.out) hb); have n1_ := Aside0.mk (below_step (by repeat (first | (with_reducible first | exact HB.out | apply below_alloc | apply pw_below_drewN | apply below_drew1 | refine below_set ?_ GE781.out) | exact HB.out)) hb); have n2_ := Aside0.mk (hbox); have n3_ := Aside0.mk ((by rw [hg]; exact (below_size (by repeat (first | (with_reducible first | exact HB.out | apply below_alloc | apply pw_below_drewN | apply below_drew1 | refine below_set ?_ GE781.out) | exact HB.out))) : w.heap.size ≤ gb782)); have n4_ := Aside0.mk ((by rw [hg]; exact (below_size (by repeat (first | (with_reducible first | exact HB.out | apply below_alloc | apply pw_below_drewN | apply below_drew1 | refine below_set ?_ GE781.out) | exact HB.out))) : w.heap.size ≤ gb782)); have n5_ := Aside0.mk ((by rw [hg]; exact Nat.ne_of_lt (blk_lt (g := gb781) (o := .cells #[.string a0_0, .slice A0_1 l0_1.length c0_1] 51 (0, 0)) (by (with_reducible repeat (first | refine blk_drewN ?_ _ | refine blk_drew ?_ | refine blk_alloc ?_ _)); exact BK781.out)) : gb781 ≠ gb782)); have n6_ := Aside0.mk ((by rw [hg]; exact Nat.ne_of_gt (blk_lt (g := gb781) (o := .cells #[.string a0_0, .slice A0_1 l0_1.length c0_1] 51 (0, 0)) (by (with_reducible repeat (first | refine blk_drewN ?_ _ | refine blk_drew ?_ | refine blk_alloc ?_ _)); exact BK781.out)) : gb782 ≠ gb781)); clear BK781; clear HB; have BK781 := n0_; have HB := n1_; have BK782 := n2_; have GW782 := n3_; have GE782 := n4_; have NB781_782 := n5_; have NB782_781 := n6_; clear n0_ n1_ n2_ n3_ n4_ n5_ n6_; clear hb hbox hg) | ((with_reducible refine gate_dst (N := 5) rfl ?_); (try (refine gate_guard (by rfl) ?_; dsimp only)); refine box_event ?hg (N := 5) ?hd (cs := #[.int .u64 a2_0, .int .u64 a2_1]) (t := 85) ?hr ?_; (case hd => rfl); (case hg => rfl); (case hr => first | (go_simp; done) | (go_simp; rfl)); intro gb783 hg w97 hbox hb; have n0_ := Aside0.mk (blk_below (g := gb781) (o := .cells #[.string a0_0, .slice A0_1 l0_1.length c0_1] 51 (0, 0)) (by (with_reducible repeat (first | refine blk_drewN ?_ _ | refine blk_drew ?_ | refine blk_alloc ?_ _)); exact BK781.out) hb); have n1_ := Aside0.mk (blk_below (g := gb782) (o := .cells #[.string a1_0, .slice A1_1 l1_1.length c1_1] 51 (0, 0)) (by (with_reducible repeat (first | refine blk_drewN ?_ _ | refine blk_drew ?_ | refine blk_alloc ?_ _)); exact BK782.out) hb); have n2_ := Aside0.mk (below_step (by repeat (first | (with_reducible first | exact HB.out | apply below_alloc | apply pw_below_drewN | apply below_drew1 | refine below_set ?_ GE781.out | refine below_set ?_ GE782.out) | exact HB.out)) hb); have n3_ := Aside0.mk (hbox); have n4_ := Aside0.mk ((by rw [hg]; exact (below_size (by repeat (first | (with_reducible first | exact HB.out | apply below_alloc | apply pw_below_drewN | apply below_drew1 | refine below_set ?_ GE781.out | refine below_set ?_ GE782.out) | exact HB.out))) : w.heap.size ≤ gb783)); have n5_ := Aside0.mk ((by rw [hg]; exact (below_size (by repeat (first | (with_reducible first | exact HB.out | apply below_alloc | apply pw_below_drewN | apply below_drew1 | refine below_set ?_ GE781.out | refine below_set ?_ GE782.out) | exact HB.out))) : w.heap.size ≤ gb783)); have n6_ := Aside0.mk ((by rw [hg]; exact Nat.ne_of_lt (blk_lt (g := gb781) (o := .cells #[.string a0_0, .slice A0_1 l0_1.length c0_1] 51 (0, 0)) (by (with_reducible repeat (first | refine blk_drewN ?_ _ | refine blk_drew ?_ | refine blk_alloc ?_ _)); exact BK781.out)) : gb781 ≠ gb783)); have n7_ := Aside0.mk ((by rw [hg]; exact Nat.ne_of_gt (blk_lt (g := gb781) (o := .cells #[.string a0_0, .slice A0_1 l0_1.length c0_1] 51 (0, 0)) (by (with_reducible repeat (first | refine blk_drewN ?_ _ | refine blk_drew ?_ | refine blk_alloc ?_ _)); exact BK781.out)) : gb783 ≠ gb781)); have n8_ := Aside0.mk ((by rw [hg]; exact Nat.ne_of_lt (blk_lt (g := gb782) (o := .cells #[.string a1_0, .slice A1_1 l1_1.length c1_1] 51 (0, 0)) (by (with_reducible repeat (first | refine blk_drewN ?_ _ | refine blk_drew ?_ | refine blk_alloc ?_ _)); exact BK782.out)) : gb782 ≠ gb783)); have n9_ := Aside0.mk ((by rw [hg]; exact Nat.ne_of_gt (blk_lt (g := gb782) (o := .cells #[.string a1_0, .slice A1_1 l1_1.length c1_1] 51 (0, 0)) (by (with_reducible repeat (first | refine blk_drewN ?_ _ | refine blk_drew ?_ | refine blk_alloc ?_ _)); exact BK782.out)) : gb783 ≠ gb782)); clear BK781; clear BK782; clear HB; have BK781 := n0_; have BK782 := n1_; have HB := n2_; have BK783 := n3_; have GW783 := n4_; have GE783 := n5_; have NB781_783 := n6_; have NB783_781 := n7_; have NB782_783 := n8_; have NB783_782 := n9_; clear n0_ n1_ n2_ n3_ n4_ n5_ n6_ n7_ n8_ n9_; clear hb hbox hg) | (go_at_call 44; (with_reducible refine (bureaulaw04_alive.calls k  false _ A4.out).mono ?_); rintro e w98 ⟨rfl, hb⟩; have n0_ := Aside0.mk (blk_below (g := gb781) (o := .cells #[.string a0_0, .slice A0_1 l0_1.length c0_1] 51 (0, 0)) (by (with_reducible repeat (first | refine blk_drewN ?_ _ | refine blk_drew ?_ | refine blk_alloc ?_ _)); exact BK781.out) hb); have n1_ := Aside0.mk (blk_below (g := gb782) (o := .cells #[.string a1_0, .slice A1_1 l1_1.length c1_1] 51 (0, 0)) (by (with_reducible repeat (first | refine blk_drewN ?_ _ | refine blk_drew ?_ | refine blk_alloc ?_ _)); exact BK782.out) hb); have n2_ := Aside0.mk (blk_below (g := gb783) (o := .cells #[.int .u64 a2_0, .int .u64 a2_1] 85 (0, 0)) (by (with_reducible repeat (first | refine blk_drewN ?_ _ | refine blk_drew ?_ | refine blk_alloc ?_ _)); exact BK783.out) hb); have n3_ := Aside0.mk (below_step (by repeat (first | (with_reducible first | exact HB.out | apply below_alloc | apply pw_below_drewN | apply below_drew1 | refine below_set ?_ GE781.out | refine below_set ?_ GE782.out | refine below_set ?_ GE783.out) | exact HB.out)) hb); clear BK781; clear BK782; clear BK783; clear HB; have BK781 := n0_; have BK782 := n1_; have BK783 := n2_; have HB := n3_; clear n0_ n1_ n2_ n3_; (try clear hb); (try clear hb2); (try clear hk); (try clear hi))); try go_wp2_with (first | ((with_reducible refine gate_dst (N := 3) rfl ?_); (try (refine gate_guard (by rfl) ?_; dsimp only)); refine box_event ?hg (N := 3) ?hd (cs := #[.string a0_0, .slice A0_1 l0_1.length c0_1]) (t := 51) ?hr ?_; (case hd => rfl); (case hg => rfl); (case hr => first | (go_simp; done) | (go_simp; rfl)); intro gb781 hg w95 hbox hb; have n0_ := Aside0.mk (below_step (by repeat (first | (with_reducible first | exact HB.out | apply below_alloc | apply pw_below_drewN | apply below_drew1) | exact HB.out)) hb); have n1_ := Aside0.mk (hbox); have n2_ := Aside0.mk ((by rw [hg]; exact (below_size (by repeat (first | (with_reducible first | exact HB.out | apply below_alloc | apply pw_below_drewN | apply below_drew1) | exact HB.out))) : w.heap.size ≤ gb781)); have n3_ := Aside0.mk ((by rw [hg]; exact (below_size (by repeat (first | (with_reducible first | exact HB.out | apply below_alloc | apply pw_below_drewN | apply below_drew1) | exact HB.out))) : w.heap.size ≤ gb781)); clear HB; have HB := n0_; have BK781 := n1_; have GW781 := n2_; have GE781 := n3_; clear n0_ n1_ n2_ n3_; clear hb hbox hg) | ((with_reducible refine gate_dst (N := 4) rfl ?_); (try (refine gate_guard (by rfl) ?_; dsimp only)); refine box_event ?hg (N := 4) ?hd (cs := #[.string a1_0, .slice A1_1 l1_1.length c1_1]) (t := 51) ?hr ?_; (case hd => rfl); (case hg => rfl); (case hr => first | (go_simp; done) | (go_simp; rfl)); intro gb782 hg w96 hbox hb; have n0_ := Aside0.mk (blk_below (g := gb781) (o := .cells #[.string a0_0, .slice A0_1 l0_1.length c0_1] 51 (0, 0)) (by (with_reducible repeat (first | refine blk_drewN ?_ _ | refine blk_drew ?_ | refine blk_alloc ?_ _)); exact BK781.out) hb); have n1_ := Aside0.mk (below_step (by repeat (first | (with_reducible first | exact HB.out | apply below_alloc | apply pw_below_drewN | apply below_drew1 | refine below_set ?_ GE781.out) | exact HB.out)) hb); have n2_ := Aside0.mk (hbox); have n3_ := Aside0.mk ((by rw [hg]; exact (below_size (by repeat (first | (with_reducible first | exact HB.out | apply below_alloc | apply pw_below_drewN | apply below_drew1 | refine below_set ?_ GE781.out) | exact HB.out))) : w.heap.size ≤ gb782)); have n4_ := Aside0.mk ((by rw [hg]; exact (below_size (by repeat (first | (with_reducible first | exact HB.out | apply below_alloc | apply pw_below_drewN | apply below_drew1 | refine below_set ?_ GE781.out) | exact HB.out))) : w.heap.size ≤ gb782)); have n5_ := Aside0.mk ((by rw [hg]; exact Nat.ne_of_lt (blk_lt (g := gb781) (o := .cells #[.string a0_0, .slice A0_1 l0_1.length c0_1] 51 (0, 0)) (by (with_reducible repeat (first | refine blk_drewN ?_ _ | refine blk_drew ?_ | refine blk_alloc ?_ _)); exact BK781.out)) : gb781 ≠ gb782)); have n6_ := Aside0.mk ((by rw [hg]; exact Nat.ne_of_gt (blk_lt (g := gb781) (o := .cells #[.string a0_0, .slice A0_1 l0_1.length c0_1] 51 (0, 0)) (by (with_reducible repeat (first | refine blk_drewN ?_ _ | refine blk_drew ?_ | refine blk_alloc ?_ _)); exact BK781.out)) : gb782 ≠ gb781)); clear BK781; clear HB; have BK781 := n0_; have HB := n1_; have BK782 := n2_; have GW782 := n3_; have GE782 := n4_; have NB781_782 := n5_; have NB782_781 := n6_; clear n0_ n1_ n2_ n3_ n4_ n5_ n6_; clear hb hbox hg) | ((with_reducible refine gate_dst (N := 5) rfl ?_); (try (refine gate_guard (by rfl) ?_; dsimp only)); refine box_event ?hg (N := 5) ?hd (cs := #[.int .u64 a2_0, .int .u64 a2_1]) (t := 85) ?hr ?_; (case hd => rfl); (case hg => rfl); (case hr => first | (go_simp; done) | (go_simp; rfl)); intro gb783 hg w97 hbox hb; have n0_ := Aside0.mk (blk_below (g := gb781) (o := .cells #[.string a0_0, .slice A0_1 l0_1.length c0_1] 51 (0, 0)) (by (with_reducible repeat (first | refine blk_drewN ?_ _ | refine blk_drew ?_ | refine blk_alloc ?_ _)); exact BK781.out) hb); have n1_ := Aside0.mk (blk_below (g := gb782) (o := .cells #[.string a1_0, .slice A1_1 l1_1.length c1_1] 51 (0, 0)) (by (with_reducible repeat (first | refine blk_drewN ?_ _ | refine blk_drew ?_ | refine blk_alloc ?_ _)); exact BK782.out) hb); have n2_ := Aside0.mk (below_step (by repeat (first | (with_reducible first | exact HB.out | apply below_alloc | apply pw_below_drewN | apply below_drew1 | refine below_set ?_ GE781.out | refine below_set ?_ GE782.out) | exact HB.out)) hb); have n3_ := Aside0.mk (hbox); have n4_ := Aside0.mk ((by rw [hg]; exact (below_size (by repeat (first | (with_reducible first | exact HB.out | apply below_alloc | apply pw_below_drewN | apply below_drew1 | refine below_set ?_ GE781.out | refine below_set ?_ GE782.out) | exact HB.out))) : w.heap.size ≤ gb783)); have n5_ := Aside0.mk ((by rw [hg]; exact (below_size (by repeat (first | (with_reducible first | exact HB.out | apply below_alloc | apply pw_below_drewN | apply below_drew1 | refine below_set ?_ GE781.out | refine below_set ?_ GE782.out) | exact HB.out))) : w.heap.size ≤ gb783)); have n6_ := Aside0.mk ((by rw [hg]; exact Nat.ne_of_lt (blk_lt (g := gb781) (o := .cells #[.string a0_0, .slice A0_1 l0_1.length c0_1] 51 (0, 0)) (by (with_reducible repeat (first | refine blk_drewN ?_ _ | refine blk_drew ?_ | refine blk_alloc ?_ _)); exact BK781.out)) : gb781 ≠ gb783)); have n7_ := Aside0.mk ((by rw [hg]; exact Nat.ne_of_gt (blk_lt (g := gb781) (o := .cells #[.string a0_0, .slice A0_1 l0_1.length c0_1] 51 (0, 0)) (by (with_reducible repeat (first | refine blk_drewN ?_ _ | refine blk_drew ?_ | refine blk_alloc ?_ _)); exact BK781.out)) : gb783 ≠ gb781)); have n8_ := Aside0.mk ((by rw [hg]; exact Nat.ne_of_lt (blk_lt (g := gb782) (o := .cells #[.string a1_0, .slice A1_1 l1_1.length c1_1] 51 (0, 0)) (by (with_reducible repeat (first | refine blk_drewN ?_ _ | refine blk_drew ?_ | refine blk_alloc ?_ _)); exact BK782.out)) : gb782 ≠ gb783)); have n9_ := Aside0.mk ((by rw [hg]; exact Nat.ne_of_gt (blk_lt (g := gb782) (o := .cells #[.string a1_0, .slice A1_1 l1_1.length c1_1] 51 (0, 0)) (by (with_reducible repeat (first | refine blk_drewN ?_ _ | refine blk_drew ?_ | refine blk_alloc ?_ _)); exact BK782.out)) : gb783 ≠ gb782)); clear BK781; clear BK782; clear HB; have BK781 := n0_; have BK782 := n1_; have HB := n2_; have BK783 := n3_; have GW783 := n4_; have GE783 := n5_; have NB781_783 := n6_; have NB783_781 := n7_; have NB782_783 := n8_; have NB783_782 := n9_; clear n0_ n1_ n2_ n3_ n4_ n5_ n6_ n7_ n8_ n9_; clear hb hbox hg) | (go_at_call 44; (with_reducible refine (bureaulaw04_alive.calls k  false _ A4.out).mono ?_); rintro e w98 ⟨rfl, hb⟩; have n0_ := Aside0.mk (blk_below (g := gb781) (o := .cells #[.string a0_0, .slice A0_1 l0_1.length c0_1] 51 (0, 0)) (by (with_reducible repeat (first | refine blk_drewN ?_ _ | refine blk_drew ?_ | refine blk_alloc ?_ _)); exact BK781.out) hb); have n1_ := Aside0.mk (blk_below (g := gb782) (o := .cells #[.string a1_0, .slice A1_1 l1_1.length c1_1] 51 (0, 0)) (by (with_reducible repeat (first | refine blk_drewN ?_ _ | refine blk_drew ?_ | refine blk_alloc ?_ _)); exact BK782.out) hb); have n2_ := Aside0.mk (blk_below (g := gb783) (o := .cells #[.int .u64 a2_0, .int .u64 a2_1] 85 (0, 0)) (by (with_reducible repeat (first | refine blk_drewN ?_ _ | refine blk_drew ?_ | refine blk_alloc ?_ _)); exact BK783.out) hb); have n3_ := Aside0.mk (below_step (by repeat (first | (with_reducible first | exact HB.out | apply below_alloc | apply pw_below_drewN | apply below_drew1 | refine below_set ?_ GE781.out | refine below_set ?_ GE782.out | refine below_set ?_ GE783.out) | exact HB.out)) hb); clear BK781; clear BK782; clear BK783; clear HB; have BK781 := n0_; have BK782 := n1_; have BK783 := n2_; have HB := n3_; clear n0_ n1_ n2_ n3_; (try clear hb); (try clear hb2); (try clear hk); (try clear hi))))
    go_ret
    exact ⟨by first | rfl | (simp [errW_none, errW_some] <;> rfl) | (simp [*, errW_none, errW_some] <;> rfl), by repeat (first | (with_reducible first | exact HB.out | apply below_alloc | apply pw_below_drewN | apply below_drew1 | refine below_set ?_ GE781.out | refine below_set ?_ GE782.out | refine below_set ?_ GE783.out) | exact HB.out)⟩
end Go.Proofs.Ythpjagblnddjaaa.PB
end

section
namespace Go.Proofs.Ythpjagblnddjaaa.PB
open Go.Proofs.YthpjagblnddjaaaW.PrintWords
theorem Ev.pos {α : Type} {c : Prop} [Decidable c] {A B : Nat → Option α} {r : α} (h : c) (k : Ev A r) : Ev (fun n => if c then A n else B n) r := by
  obtain ⟨K, hK⟩ := k
  exact ⟨K, fun n hn => by show (if c then A n else B n) = _; rw [if_pos h]; exact hK n hn⟩
theorem Ev.neg {α : Type} {c : Prop} [Decidable c] {A B : Nat → Option α} {r : α} (h : ¬ c) (k : Ev B r) : Ev (fun n => if c then A n else B n) r := by
  obtain ⟨K, hK⟩ := k
  exact ⟨K, fun n hn => by show (if c then A n else B n) = _; rw [if_neg h]; exact hK n hn⟩
theorem Ev.ite {α : Type} {c : Prop} [Decidable c] {A B : Nat → Option α} {r s : α} (h1 : c → Ev A r) (h2 : ¬ c → Ev B s) : Ev (fun n => if c then A n else B n) (if c then r else s) := by
  by_cases h : c
  · rw [if_pos h]; exact Ev.pos h (h1 h)
  · rw [if_neg h]; exact Ev.neg h (h2 h)
theorem ev_val {α : Type} {g : Nat → Option α} {a b : α} (h : Ev g a) (e : a = b) : Ev g b := e ▸ h
end Go.Proofs.Ythpjagblnddjaaa.PB
end

section
namespace Go.Proofs.Ythpjagblnddjaaa.PB
open Go.RowKit Go.Proofs.YthpjagblnddjaaaW.PrintWords
set_option linter.unusedVariables false
instance : DecidableEq S100 := fun a b => decidable_of_iff (a.f0 = b.f0 ∧ a.f1 = b.f1) (by cases a; cases b; simp)
theorem rdT (l : List S100) (i : Nat) : rd_T100 l (i : Int) = l.getD i z100 := by unfold rd_T100; rw [Int.toNat_natCast]
theorem dropT {l : List S100} {i : Nat} (h : i < l.length) : l.drop i = l.getD i z100 :: l.drop (i + 1) := by
  rw [List.drop_eq_getElem_cons h, List.getD_eq_getElem?_getD, List.getElem?_eq_getElem h]; rfl
theorem w1 {i n : Nat} (h : i < n) (hn : n ≤ 1000000000000000) : wrap64 ((i : Int) + 1) = ((i + 1 : Nat) : Int) := by unfold wrap64; omega
abbrev big : Nat := 1000000000000
theorem total_ev (l : List S100) (hl : l.length ≤ big) : Ev (fun k => runs_Total.f k l) (tot l) := by
  unfold big at hl
  have loop : ∀ (d i : Nat) (n : Int), i + d = l.length → 0 ≤ n → n ≤ 4096 → Ev (fun k => runs_Total.l0 k n l (l.length : Int) (i : Int)) (totF (l.drop i) n) := by
    intro d
    induction d with
    | zero =>
      intro i n hi h0 h1
      refine Ev.step (fun k => by simp only [runs_Total.l0]; rfl) ?_
      refine Ev.neg (by omega) ?_
      rw [List.drop_eq_nil_of_le (by omega)]
      exact Ev.now _
    | succ d ih =>
      intro i n hi h0 h1
      have hlt : i < l.length := by omega
      refine Ev.step (fun k => by simp only [runs_Total.l0]; rfl) ?_
      refine Ev.pos (by omega) (Ev.pos (by omega) (Ev.pos (by omega) ?_))
      rw [dropT hlt, rdT]
      simp only [totF]
      rw [show wrap64 (4096 - n) = 4096 - n by unfold wrap64; omega]
      refine Ev.ite (fun _ => Ev.now _) (fun hc => ?_)
      have hm : wrap64 (n + mx (l.getD i z100).f1 0) = n + (if (l.getD i z100).f1 < 0 then 0 else (l.getD i z100).f1) := by
        unfold mx wrap64
        split <;> omega
      rw [hm, w1 hlt (by omega)]
      exact ih (i + 1) _ (by omega) (by split <;> omega) (by split <;> omega)
  exact loop l.length 0 0 (by omega) (by omega) (by omega)
theorem good_ev (l : List S100) (hl : l.length ≤ big) : Ev (fun k => runs_Good.f k l) (good l) := by
  have ht := total_ev l hl
  unfold big at hl
  have loop : ∀ (d i : Nat), i + d = l.length → ∀ b : Bool, (b = true ↔ ((0 < i → i < l.length → (l.getD (i - 1) z100).f0 ≠ (l.getD i z100).f0) ∧ nrm (l.drop i) ∧ tot l ≤ 4096)) → Ev (fun k => runs_Good.l0 k l l (l.length : Int) (i : Int)) b := by
    intro d
    induction d with
    | zero =>
      intro i hi b hb
      refine Ev.step (fun k => by simp only [runs_Good.l0]; rfl) ?_
      refine Ev.neg (by omega) ?_
      rw [List.drop_eq_nil_of_le (by omega)] at hb
      refine Ev.bind ht (ev_val (Ev.now _) ?_)
      rw [Bool.eq_iff_iff, hb, decide_eq_true_iff]
      exact ⟨fun h => ⟨fun _ h2 => absurd h2 (by omega), trivial, h⟩, fun h => h.2.2⟩
    | succ d ih =>
      intro i hi b hb
      have hlt : i < l.length := by omega
      have hn : nrm (l.drop i) ↔ 1 ≤ (l.getD i z100).f1 ∧ (i + 1 < l.length → (l.getD i z100).f0 ≠ (l.getD (i + 1) z100).f0) ∧ nrm (l.drop (i + 1)) := by
        rw [dropT hlt]
        by_cases h2 : i + 1 < l.length
        · rw [dropT h2]
          exact ⟨fun h => ⟨h.1, fun _ => h.2.1, h.2.2⟩, fun h => ⟨h.1, h.2.1 h2, h.2.2⟩⟩
        · rw [List.drop_eq_nil_of_le (show l.length ≤ i + 1 by omega)]
          exact ⟨fun h => ⟨h, fun h3 => absurd h3 h2, trivial⟩, fun h => h.1⟩
      refine Ev.step (fun k => by simp only [runs_Good.l0]; rfl) ?_
      refine Ev.pos (by omega) (Ev.pos (by omega) (Ev.pos (by omega) ?_))
      rw [rdT, w1 hlt (by omega)]
      by_cases h1 : (l.getD i z100).f1 < 1
      · refine Ev.pos h1 (ev_val (Ev.now _) ?_)
        rw [Bool.eq_iff_iff, hb, hn]
        exact ⟨fun h => (by cases h), fun h => (by have := h.2.1.1; omega)⟩
      · refine Ev.neg h1 ?_
        have hrest : ∀ b' : Bool, (b' = true ↔ (nrm (l.drop i) ∧ tot l ≤ 4096)) → Ev (fun k => runs_Good.l0 k l l (l.length : Int) ((i + 1 : Nat) : Int)) b' := fun b' hb' => ih (i + 1) (by omega) b' (by
          rw [hb', hn, show i + 1 - 1 = i by omega]
          exact ⟨fun h => ⟨fun _ => h.1.2.1, h.1.2.2, h.2⟩, fun h => ⟨⟨by omega, h.1 (by omega), h.2.1⟩, h.2.2⟩⟩)
        by_cases h0 : 0 < i
        · refine Ev.pos (by omega) ?_
          rw [show wrap64 ((i : Int) - 1) = ((i - 1 : Nat) : Int) by unfold wrap64; omega]
          refine Ev.pos (by omega) (Ev.pos (by omega) ?_)
          rw [rdT]
          by_cases he : (l.getD (i - 1) z100).f0 = (l.getD i z100).f0
          · refine Ev.pos he (ev_val (Ev.now _) ?_)
            rw [Bool.eq_iff_iff, hb]
            exact ⟨fun h => (by cases h), fun h => absurd he (h.1 h0 hlt)⟩
          · refine Ev.neg he (hrest b ?_)
            rw [hb]
            exact ⟨fun h => h.2, fun h => ⟨fun _ _ => he, h⟩⟩
        · refine Ev.neg (by omega) (hrest b ?_)
          rw [hb]
          exact ⟨fun h => h.2, fun h => ⟨fun h3 => absurd h3 h0, h⟩⟩
  refine loop l.length 0 (by omega) (good l) ?_
  simp [good]
end Go.Proofs.Ythpjagblnddjaaa.PB
end

section
namespace Go.Proofs.Ythpjagblnddjaaa.Opn
open Go.ChangeShapes Go.WideShapes Go.Deep Go.Proofs.YthpjagblnddjaaaW.PrintWords
set_option linter.unusedVariables false
def Opn {α : Type} (P : Program) (w : World) (t : TypeId) (d : Kd α) (wf : α → Prop) : Prop :=
  ∀ (H : Type) (enc : TypeId × Value → H) (base : Nat) (spare : Nat → Bool) (held : Bool) (fuel : Nat) (cs : List Value) (x : DataW H × List MemPlace),
    DataW.trod enc P w base spare held fuel t cs = some x → (∀ n ∈ x.1.weights P t, n ≤ reachBytes) → ∃ a : α, d.K w a cs ∧ wf a
section
variable {P : Program} {w : World}
theorem int {t : TypeId} {k : IntKind} (hu : P.underlying t = some (.int k)) : Opn P w t (Kd.int k) (fun n => (Lit.int k n).wf = true) := by
  intro H enc base spare held fuel cs x h _
  obtain ⟨n, rfl, _, hw⟩ := DataW.trod_int hu h
  exact ⟨n, rfl, hw⟩
theorem bool {t : TypeId} (hu : P.underlying t = some .bool) : Opn P w t Kd.bool (fun _ => True) := by
  intro H enc base spare held fuel cs x h _
  obtain ⟨b, rfl, _⟩ := DataW.trod_bool hu h
  exact ⟨b, rfl, trivial⟩
theorem string {t : TypeId} (hu : P.underlying t = some .string) : Opn P w t Kd.string (fun s => s.size ≤ 140737488351232) := by
  intro H enc base spare held fuel cs x h hz
  obtain ⟨s, rfl, rfl, _⟩ := DataW.trod_string hu h
  refine ⟨s, rfl, ?_⟩
  have := hz s.data.toList.length (by simp [DataW.weights])
  rw [data_length] at this
  exact this
theorem weightsAll_mem {H : Type} {e : TypeId} : ∀ {ds : List (DataW H)} {d : DataW H}, d ∈ ds → ∀ n ∈ d.weights P e, n ∈ DataW.weightsAll P e ds
  | d0 :: ds, d, hd, n, hn => by
    simp only [DataW.weightsAll, List.mem_append]
    rcases List.mem_cons.1 hd with rfl | hd
    · exact .inl hn
    · exact .inr (weightsAll_mem hd n hn)
theorem slice {α : Type} {t e : TypeId} {d : Kd α} {wf : α → Prop} (hu : P.underlying t = some (.slice e)) (hc : P.cellsOf e = d.sz) {B : Nat} (hB : P.bytesOf e = B) (ho : Opn P w e d wf) :
    Opn P w t (Kd.slice e d) (fun xs => xs.length * B ≤ 140737488351232 ∧ ∀ x ∈ xs, wf x) := by
  intro H enc base spare held fuel cs x h hz
  rcases open_slice hu h with ⟨rfl, rfl⟩ | ⟨a, len, cap, m, n, D, Pl, rfl, hb, hl, hm, hmm, rfl, hel⟩
  · exact ⟨[], ⟨none, 0, rfl, Nat.le_refl _, Kd.C_nil _ _⟩, by simp, by intro x hx; cases hx⟩
  · simp only [DataW.weights, hu, List.mem_cons, List.mem_append] at hz
    have hlm : len ≤ m := by rw [hmm]; split <;> omega
    have hall : ∀ i, i < len → ∃ a' : α, (∃ cs', w.cells? base (a.add (i * P.cellsOf e)) (P.cellsOf e) = some cs' ∧ d.K w a' cs') ∧ wf a' := fun i hi => by
      obtain ⟨cs', h1, h2⟩ := hel i (by omega)
      obtain ⟨a', h3, h4⟩ := ho H enc base spare held n cs' _ h2 (fun q hq => hz q (.inr (.inl (weightsAll_mem (List.mem_map.2 ⟨i, List.mem_range.2 hi, rfl⟩) q hq))))
      exact ⟨a', ⟨cs', h1, h3⟩, h4⟩
    obtain ⟨xs, hxs, hx⟩ : ∃ xs : List α, xs.length = len ∧ ∀ i, ∀ h : i < xs.length, (∃ cs', w.cells? base (a.add (i * P.cellsOf e)) (P.cellsOf e) = some cs' ∧ d.K w xs[i] cs') ∧ wf xs[i] := by
      clear hz hel hlm hmm hm hl h
      induction len with
      | zero => exact ⟨[], rfl, fun i h => absurd h (by simp)⟩
      | succ q ih =>
        obtain ⟨xs, h1, h2⟩ := ih (fun i hi => hall i (by omega))
        obtain ⟨a', h3⟩ := hall q (by omega)
        refine ⟨xs ++ [a'], by simp [h1], fun i h => ?_⟩
        by_cases hi : i < xs.length
        · rw [List.getElem_append_left hi]; exact h2 i hi
        · have : i = q := by simp at h; omega
          subst this
          rw [List.getElem_append_right (by omega)]
          simpa using h3
    refine ⟨xs, ⟨some a, cap, by rw [hxs], by omega, rfl, by have : cap ≤ 9223372036854775807 := hm; omega, fun hp => ⟨a, rfl, fun i p hp => ?_⟩⟩, ?_, ?_⟩
    · have hi : i < xs.length := (List.getElem?_eq_some_iff.1 hp).1
      have hpe : p = xs[i] := by rw [List.getElem?_eq_getElem hi] at hp; exact (Option.some.inj hp).symm
      obtain ⟨⟨cs', h1, h2⟩, _⟩ := hx i hi
      rw [hc] at h1
      obtain ⟨_, hcl, hat⟩ := World.cells?_some h1
      refine ⟨cs', by rw [hcl], by rw [hpe]; exact h2, fun j u hu => ?_⟩
      have hj : j < d.sz := by have := (List.getElem?_eq_some_iff.1 hu).1; omega
      have := hat j hj
      rw [← Go.Deep.add_add, this, hu]
    · have := hz _ (.inl rfl)
      rw [hB] at this
      simp only [List.length_map, List.length_range] at this
      rw [hxs]
      exact Nat.le_trans (Nat.mul_le_mul_right _ (by omega)) this
    · intro x hxm
      obtain ⟨i, hi, rfl⟩ := List.mem_iff_getElem.1 hxm
      exact (hx i hi).2
theorem ints_of {k : IntKind} {p : Int → Prop} : ∀ cs : List Value, (∀ i, i < cs.length → ∃ a, cs[i]? = some (.int k a) ∧ p a) → ∃ l : List Int, l.length = cs.length ∧ cs = l.map (fun a => Value.int k a) ∧ ∀ a ∈ l, p a
  | [], _ => ⟨[], rfl, rfl, fun a h => by cases h⟩
  | c :: cs, h => by
    obtain ⟨l, h1, h2, h3⟩ := ints_of cs (fun i hi => by have := h (i + 1) (by simp; omega); simpa using this)
    obtain ⟨a, h4, h5⟩ := h 0 (by simp)
    simp only [List.getElem?_cons_zero, Option.some.injEq] at h4
    refine ⟨a :: l, by simp [h1], by rw [h4, h2, List.map_cons], fun b hb => ?_⟩
    rcases List.mem_cons.1 hb with rfl | hb
    · exact h5
    · exact h3 b hb
theorem arrayI {t e : TypeId} {n : Nat} {k : IntKind} (hu : P.underlying t = some (.array n e)) (he : P.underlying e = some (.int k)) (hc : P.cellsOf t = n) (hce : P.cellsOf e = 1)
    {H : Type} {enc : TypeId × Value → H} {base : Nat} {spare : Nat → Bool} {held : Bool} {fuel : Nat} {cs : List Value} {x : DataW H × List MemPlace} (h : DataW.trod enc P w base spare held fuel t cs = some x) :
    ∃ l : List Int, l.length = n ∧ cs = l.map (fun a => Value.int k a) ∧ ∀ a ∈ l, (Lit.int k a).wf = true := by
  obtain ⟨xs, m, _, _, hlen, hxs, hf⟩ := DataW.trod_array hu h
  rw [hc] at hlen
  obtain ⟨l, h1, h2, h3⟩ := ints_of (k := k) (p := fun a => (Lit.int k a).wf = true) cs (fun i hi => by
    have := hf i (by omega)
    rw [hce, Nat.mul_one] at this
    obtain ⟨y, hy⟩ : ∃ y, xs[i]? = some y := ⟨xs[i]'(by omega), List.getElem?_eq_getElem (by omega)⟩
    rw [hy] at this
    obtain ⟨a, h4, _, h5⟩ := DataW.trod_int he this
    refine ⟨a, ?_, h5⟩
    have h6 := congrArg (fun l => l[0]?) h4
    simpa using h6)
  exact ⟨l, by omega, h2, h3⟩
theorem okWide_array {t : TypeId} {n : Nat} {e : TypeId} {r : Reach} {base : Nat} {v : Value} (ht : P.underlying t = some (.array n e)) (h : Value.okWide P w r base t v) : ∃ cs, v = .agg cs ∧ cs.size = P.cellsOf t := by
  simp only [Value.okWide, ht] at h
  obtain ⟨cs, h1, h2, _⟩ := h
  exact ⟨cs, h1, h2⟩
end
end Go.Proofs.Ythpjagblnddjaaa.Opn
end

section
namespace Go.Proofs.Ythpjagblnddjaaa.PB
open Go.ChangeShapes Go.WideShapes Go.Proofs.Ythpjagblnddjaaa Go.Proofs.YthpjagblnddjaaaW.PrintWords
set_option linter.unusedVariables false
def wf100 (x : S100) : Prop := ((Lit.int .u64 x.f0).wf = true) ∧ ((Lit.int .i64 x.f1).wf = true)
theorem opn100 {w : World} : Opn.Opn Try.prog w 100 k100 wf100 := by
  intro H enc base spare held fuel cs x h hz
  obtain ⟨xs, n, _, rfl, hlen, hyl, hf⟩ := DataW.trod_struct Try.underlying100 h
  have hcl : cs.length = 2 := hlen.trans (by kernel_rfl)
  obtain ⟨y0, y1, rfl⟩ : ∃ y0 y1, xs = [y0, y1] := by
    clear h hz hf hlen hcl; have hyl' : xs.length = 2 := hyl; clear hyl
    match xs, hyl' with | [y0, y1], _ => exact ⟨y0, y1, rfl⟩
  obtain ⟨c0, c1, rfl⟩ : ∃ c0 c1, cs = [c0, c1] := by
    clear h hz hf hlen hyl
    match cs, hcl with | [c0, c1], _ => exact ⟨c0, c1, rfl⟩
  simp only [DataW.weights, Try.underlying100] at hz
  have h0 : DataW.trod enc Try.prog w base spare held n 36 [c0] = some y0 := by have z := hf 0 _ rfl; rwa [show Try.prog.cellsOf _ = 1 from by kernel_rfl] at z
  obtain ⟨a0, k0_, w0⟩ := (Opn.int Try.underlying36) H enc base spare held n _ _ h0 (fun q hq => hz q (by simp [DataW.weightsEach, hq]))
  have h1 : DataW.trod enc Try.prog w base spare held n 3 [c1] = some y1 := by have z := hf 1 _ rfl; rwa [show Try.prog.cellsOf _ = 1 from by kernel_rfl] at z
  obtain ⟨a1, k1_, w1⟩ := (Opn.int Try.underlying3) H enc base spare held n _ _ h1 (fun q hq => hz q (by simp [DataW.weightsEach, hq]))
  exact ⟨⟨a0, a1⟩, ⟨_, _, rfl, k0_, k1_⟩, w0, w1⟩
def wf51 (x : S51) : Prop := (x.f0.size ≤ 140737488351232) ∧ (x.f1.length * 16 ≤ 140737488351232 ∧ ∀ x_ ∈ x.f1, wf100 x_)
theorem opn51 {w : World} : Opn.Opn Try.prog w 51 k51 wf51 := by
  intro H enc base spare held fuel cs x h hz
  obtain ⟨xs, n, _, rfl, hlen, hyl, hf⟩ := DataW.trod_struct Try.underlying51 h
  have hcl : cs.length = 2 := hlen.trans (by kernel_rfl)
  obtain ⟨y0, y1, rfl⟩ : ∃ y0 y1, xs = [y0, y1] := by
    clear h hz hf hlen hcl; have hyl' : xs.length = 2 := hyl; clear hyl
    match xs, hyl' with | [y0, y1], _ => exact ⟨y0, y1, rfl⟩
  obtain ⟨c0, c1, rfl⟩ : ∃ c0 c1, cs = [c0, c1] := by
    clear h hz hf hlen hyl
    match cs, hcl with | [c0, c1], _ => exact ⟨c0, c1, rfl⟩
  simp only [DataW.weights, Try.underlying51] at hz
  have h0 : DataW.trod enc Try.prog w base spare held n 9 [c0] = some y0 := by have z := hf 0 _ rfl; rwa [show Try.prog.cellsOf _ = 1 from by kernel_rfl] at z
  obtain ⟨a0, k0_, w0⟩ := (Opn.string Try.underlying9) H enc base spare held n _ _ h0 (fun q hq => hz q (by simp [DataW.weightsEach, hq]))
  have h1 : DataW.trod enc Try.prog w base spare held n 22 [c1] = some y1 := by have z := hf 1 _ rfl; rwa [show Try.prog.cellsOf _ = 1 from by kernel_rfl] at z
  obtain ⟨a1, k1_, w1⟩ := (Opn.slice Try.underlying22 (by kernel_rfl) (by kernel_rfl : Try.prog.bytesOf 100 = 16) opn100) H enc base spare held n _ _ h1 (fun q hq => hz q (by simp [DataW.weightsEach, hq]))
  exact ⟨⟨a0, a1⟩, ⟨_, _, rfl, k0_, k1_⟩, w0, w1⟩
structure S64 where
  f0 : Int
  f1 : S51
  f2 : S51
end Go.Proofs.Ythpjagblnddjaaa.PB
end

section
namespace Go.Proofs.Ythpjagblnddjaaa.PB
open Go.RowKit Go.Proofs.YthpjagblnddjaaaW.PrintWords Go.Proofs.YthpjagblnddjaaaW.PrintLast Go.Proofs.YthpjagblnddjaaaW.PrintMore
attribute [local go_sem] max2_int min2_int max_two min_two max_three min_three max_four min_four
set_option linter.unusedVariables false
set_option linter.unusedSimpArgs false
def belowN (a b : Nat) : Bool := (List.range 64).all (fun i => !a.testBit i || b.testBit i)
theorem belowN_yes {a b : Nat} (h : ∀ i, i < 64 → a.testBit i = true → b.testBit i = true) : belowN a b = true := by
  unfold belowN
  rw [List.all_eq_true]
  intro i hi
  have := h i (List.mem_range.1 hi)
  cases ha : a.testBit i <;> simp_all
theorem belowN_bits (a b : Nat) (ha : a < 2 ^ 64) (hb : b < 2 ^ 64) : (Go.bits .andNot .u64 (a : Int) (b : Int) == 0) = belowN a b := by
  rw [u64_andNot_nat a b ha hb]
  have hs : ∀ i, (a &&& (18446744073709551615 - b)).testBit i = (a.testBit i && (decide (i < 64) && !b.testBit i)) := fun i => by
    rw [Nat.testBit_and, show 18446744073709551615 - b = 2 ^ 64 - (b + 1) by omega, Nat.testBit_two_pow_sub_succ hb]
  cases h : belowN a b with
  | true =>
    have h0 : a &&& (18446744073709551615 - b) = 0 := by
      apply Nat.eq_of_testBit_eq
      intro i
      rw [hs, Nat.zero_testBit]
      by_cases hi : i < 64
      · unfold belowN at h
        have := List.all_eq_true.1 h i (List.mem_range.2 hi)
        cases ha : a.testBit i <;> cases hb : b.testBit i <;> simp_all
      · simp [hi]
    rw [h0]; rfl
  | false =>
    unfold belowN at h
    obtain ⟨i, hi, hc⟩ := List.all_eq_false.1 h
    have hz : (a &&& (18446744073709551615 - b)).testBit i = true := by
      rw [hs]
      have := List.mem_range.1 hi
      cases ha : a.testBit i <;> cases hb : b.testBit i <;> simp_all
    rw [beq_eq_false_iff_ne]
    intro he
    have : a &&& (18446744073709551615 - b) = 0 := by omega
    rw [this, Nat.zero_testBit] at hz
    cases hz
end Go.Proofs.Ythpjagblnddjaaa.PB
end

section
namespace Go.Proofs.Ythpjagblnddjaaa.PB
open Go.RowKit Go.Proofs.YthpjagblnddjaaaW.PrintWords
set_option linter.unusedVariables false
theorem good_nrm {l : List S100} (h : good l = true) : nrm l ∧ tot l ≤ 4096 := by
  unfold good at h
  simpa using h
theorem nrm_nonneg {l : List S100} (h : nrm l) : ∀ r ∈ l, 0 ≤ r.f1 := fun r hr => by have := nrm_pos h r hr; omega
end Go.Proofs.Ythpjagblnddjaaa.PB
end

section
namespace Go.Proofs.Ythpjagblnddjaaa.PB
open Go.RowKit Go.Proofs.YthpjagblnddjaaaW.PrintWords
set_option linter.unusedVariables false
theorem wf_u64 {n : Int} (h : (Lit.int .u64 n).wf = true) : 0 ≤ n ∧ n < 18446744073709551616 := by
  have hmin : IntKind.u64.min = 0 := rfl
  have hmax : IntKind.u64.max = 18446744073709551615 := rfl
  simp only [Lit.wf, Bool.and_eq_true, decide_eq_true_eq, hmin, hmax] at h
  omega
theorem wf_labels {l : List S100} (h : ∀ x ∈ l, wf100 x) : ∀ r ∈ l, 0 ≤ r.f0 ∧ r.f0 < 18446744073709551616 := fun r hr => wf_u64 (h r hr).1
theorem good_facts {m : List S100} (h : good m = true) : nrm m ∧ (bytes m).length ≤ 4096 ∧ tot m = (bytes m).length := by
  obtain ⟨hn, ht⟩ := good_nrm h
  have hb := tot_bytes ht
  exact ⟨hn, by omega, hb⟩
end Go.Proofs.Ythpjagblnddjaaa.PB
end

section
namespace Go.Proofs.Ythpjagblnddjaaa.PB
open Go.RowKit Go.Proofs.YthpjagblnddjaaaW.PrintWords
set_option linter.unusedVariables false
theorem bytes_mem {l : List S100} {x : Int} (h : x ∈ bytes l) : ∃ r ∈ l, r.f0 = x := by
  obtain ⟨r, hr, hx⟩ := List.mem_flatMap.1 h
  exact ⟨r, hr, (List.eq_of_mem_replicate hx).symm⟩
end Go.Proofs.Ythpjagblnddjaaa.PB
end

section
namespace Go.Proofs.Ythpjagblnddjaaa.PB
open Go.RowKit Go.Proofs.YthpjagblnddjaaaW.PrintWords
set_option linter.unusedVariables false
theorem run_ev (a b : List S100) (hl : a.length ≤ big) : Ev (fun k => api_Run.f k a b) (decide (a = b)) := by
  unfold big at hl
  unfold api_Run.f
  by_cases hab : a.length = b.length
  · refine Ev.pos (by omega) ?_
    have loop : ∀ (d i : Nat), i + d = a.length → Ev (fun k => api_Run.l0 k a b (a.length : Int) (i : Int)) (decide (a.drop i = b.drop i)) := by
      intro d
      induction d with
      | zero =>
        intro i hi
        refine Ev.step (fun k => by simp only [api_Run.l0]; rfl) ?_
        refine Ev.neg (by omega) ?_
        rw [List.drop_eq_nil_of_le (by omega), List.drop_eq_nil_of_le (by omega)]
        exact Ev.now _
      | succ d ih =>
        intro i hi
        have hlt : i < a.length := by omega
        refine Ev.step (fun k => by simp only [api_Run.l0]; rfl) ?_
        refine Ev.pos (by omega) (Ev.pos (by omega) (Ev.pos (by omega) (Ev.pos (by omega) ?_)))
        rw [dropT hlt, dropT (show i < b.length by omega), rdT, rdT, w1 hlt (by omega)]
        by_cases he : a.getD i z100 = b.getD i z100
        · rw [he]
          refine Ev.neg (by simp) ?_
          exact ev_val (ih (i + 1) (by omega)) (by simp)
        · refine Ev.pos ?_ ?_
          · have : ¬ ((a.getD i z100).f0 = (b.getD i z100).f0 ∧ (a.getD i z100).f1 = (b.getD i z100).f1) := fun h => he (by
              cases hx : a.getD i z100; cases hy : b.getD i z100; rw [hx, hy] at h; simp at h; rw [h.1, h.2])
            simp only [Bool.or_eq_true, Bool.not_eq_true', beq_eq_false_iff_ne]
            by_cases h1 : (a.getD i z100).f0 = (b.getD i z100).f0
            · exact .inr (fun h2 => this ⟨h1, h2⟩)
            · exact .inl h1
          · exact ev_val (Ev.now _) (by simp; intro h; exact absurd h he)
    exact loop a.length 0 (by omega)
  · refine Ev.neg (by omega) ?_
    exact ev_val (Ev.now _) (by simp; intro h; exact hab (by rw [h]))
def goodT (s : ByteArray) (l : List S100) : Bool := good l && decide (tot l = (s.size : Int))
theorem goodT_iff {s : ByteArray} {l : List S100} : goodT s l = true ↔ good l = true ∧ tot l = (s.size : Int) := by simp [goodT]
theorem goodT_facts {s : ByteArray} {l : List S100} (h : goodT s l = true) : good l = true ∧ nrm l ∧ (bytes l).length = s.size ∧ s.size ≤ 4096 ∧ tot l = (s.size : Int) := by
  obtain ⟨h1, h2⟩ := goodT_iff.1 h
  obtain ⟨h3, h4, h5⟩ := good_facts h1
  exact ⟨h1, h3, by omega, by omega, h2⟩
theorem goodT_ev (s : ByteArray) (l : List S100) (hl : l.length ≤ big) : Ev (fun k => strip_Good.f k s l) (goodT s l) := by
  unfold strip_Good.f
  refine Ev.bind (good_ev l hl) ?_
  by_cases hg : good l = true
  · rw [hg]
    exact Ev.pos rfl (Ev.bind (total_ev l hl) (ev_val (Ev.now _) (by rw [Bool.eq_iff_iff]; simp [goodT, hg])))
  · exact Ev.neg hg (ev_val (Ev.now _) (by simp [goodT, hg]))
theorem toList_loop (a : ByteArray) : ∀ (n i : Nat) (r : List UInt8), i + n = a.size → ByteArray.toList.loop a i r = r.reverse ++ a.data.toList.drop i
  | 0, i, r, h => by
    unfold ByteArray.toList.loop
    rw [if_neg (by omega), List.drop_eq_nil_of_le (by rw [Array.length_toList]; show a.size ≤ i; omega), List.append_nil]
  | n + 1, i, r, h => by
    unfold ByteArray.toList.loop
    have hi : i < a.data.toList.length := by rw [Array.length_toList]; show i < a.size; omega
    rw [if_pos (by omega), toList_loop a n (i + 1) _ (by omega), List.reverse_cons, List.append_assoc, List.drop_eq_getElem_cons hi]
    congr 1
    show [a.get! i] ++ _ = _
    rw [List.singleton_append]
    congr 1
    show a.data[i]! = _
    rw [getElem!_pos a.data i (by rw [Array.length_toList] at hi; exact hi)]
    simp
theorem toList_data (a : ByteArray) : a.toList = a.data.toList := by
  unfold ByteArray.toList
  rw [toList_loop a a.size 0 [] (by omega)]
  rfl
theorem toList_inj {a b : ByteArray} (h : a.toList = b.toList) : a = b := by
  rw [toList_data, toList_data] at h
  exact ByteArray.ext (Array.toList_inj.1 h)
end Go.Proofs.Ythpjagblnddjaaa.PB
end

section
namespace Go.Proofs.Ythpjagblnddjaaa.PB
open Go.RowKit Go.Proofs.YthpjagblnddjaaaW.PrintWords
set_option linter.unusedVariables false
def seen (x y : Int) : Bool := Go.bits .andNot .u64 x y == 0
def hide (y x c : Int) : Int := if seen x y = true then c else 35
def hideAll (y : Int) (L B : List Int) : List Int := List.zipWith (hide y) L B
theorem hideAll_len (y : Int) (L B : List Int) : (hideAll y L B).length = min L.length B.length := List.length_zipWith
theorem paintN_app : ∀ (n : Nat) (P B : List Int), n ≤ B.length → paintN P.length n (P ++ B) = P ++ (List.replicate n 35 ++ B.drop n)
  | 0, P, B, _ => by simp [paintN]
  | n + 1, P, [], h => by simp at h
  | n + 1, P, b :: B, h => by
    have := paintN_app n (P ++ [35]) B (by simpa using h)
    rw [List.length_append, List.length_singleton] at this
    simp only [paintN]
    rw [show (P ++ b :: B).set P.length 35 = P ++ [35] ++ B by simp, this]
    simp [List.replicate_succ]
theorem hide_rep (y x : Int) : ∀ (n : Nat) (B : List Int), n ≤ B.length → List.zipWith (hide y) (List.replicate n x) (B.take n) = if seen x y = true then B.take n else List.replicate n 35
  | 0, B, _ => by simp
  | n + 1, [], h => by simp at h
  | n + 1, b :: B, h => by
    rw [List.replicate_succ, List.take_succ_cons, List.zipWith_cons_cons, hide_rep y x n B (by simpa using h)]
    unfold hide
    by_cases hs : seen x y = true
    · rw [if_pos hs, if_pos hs, if_pos hs]
    · rw [if_neg hs, if_neg hs, if_neg hs, List.replicate_succ]
theorem viewTo_app (y : Int) : ∀ (l : List S100) (P B : List Int), B.length = (bytes l).length → viewTo y l P.length (P ++ B) = P ++ hideAll y (bytes l) B
  | [], P, B, h => by
    have : B = [] := List.eq_nil_of_length_eq_zero (by simpa [bytes] using h)
    subst this
    simp [viewTo, hideAll, bytes]
  | r :: l, P, B, h => by
    rw [bytes_cons, List.length_append, List.length_replicate] at h
    have hn : r.f1.toNat ≤ B.length := by omega
    have hz : hideAll y (bytes (r :: l)) B = List.zipWith (hide y) (List.replicate r.f1.toNat r.f0) (B.take r.f1.toNat) ++ hideAll y (bytes l) (B.drop r.f1.toNat) := by
      unfold hideAll
      rw [bytes_cons]
      conv => lhs; rw [← List.take_append_drop r.f1.toNat B]
      rw [List.zipWith_append]
      rw [List.length_replicate, List.length_take]
      omega
    rw [hz, hide_rep _ _ _ _ hn]
    simp only [viewTo]
    by_cases hs : seen r.f0 y = true
    · rw [if_pos (show (Go.bits .andNot .u64 r.f0 y == 0) = true from hs), if_pos hs]
      have := viewTo_app y l (P ++ B.take r.f1.toNat) (B.drop r.f1.toNat) (by rw [List.length_drop]; omega)
      rw [List.length_append, List.length_take, show min r.f1.toNat B.length = r.f1.toNat by omega, List.append_assoc, List.take_append_drop, List.append_assoc] at this
      exact this
    · rw [if_neg (show ¬ (Go.bits .andNot .u64 r.f0 y == 0) = true from hs), if_neg hs, paintN_app _ _ _ hn]
      have := viewTo_app y l (P ++ List.replicate r.f1.toNat 35) (B.drop r.f1.toNat) (by rw [List.length_drop]; omega)
      rw [List.length_append, List.length_replicate, List.append_assoc, List.append_assoc] at this
      exact this
def viewS (s : ByteArray) (l : List S100) (y : Int) : ByteArray × Int := if goodT s l = true then (strOfNums (hideAll y (bytes l) (bytesOf s)), 0) else (⟨#[]⟩, 2)
theorem view_ev (s : ByteArray) (l : List S100) (hl : l.length ≤ big) (y : Int) : Ev (fun k => strip_View.f k s l y) (viewS s l y) := by
  unfold strip_View.f viewS
  refine Ev.bind (goodT_ev s l hl) ?_
  refine Ev.ite (fun hg => ?_) (fun _ => Ev.now _)
  obtain ⟨g1, g2, g3, g4, g5⟩ := goodT_facts hg
  refine Ev.pos ⟨nrm_nonneg g2, by omega, by omega⟩ (ev_val (Ev.now _) ?_)
  have := viewTo_app y l [] (bytesOf s) (by rw [bytesOf_len, g3])
  simp only [List.length_nil, List.nil_append] at this
  rw [this]
theorem bt_bytesOf (s : ByteArray) (i : Nat) (hi : i < s.size) : (bytesOf s).getD i 0 = bt s (i : Int) := by
  rw [bytesOf_getD s i hi]
  unfold bt
  rw [dif_pos (show ((i : Int).toNat) < s.size by rw [Int.toNat_natCast]; exact hi)]
  have hd : i < s.data.toList.length := by rw [Array.length_toList]; exact hi
  rw [List.getD_eq_getElem?_getD, List.getElem?_eq_getElem hd]
  rfl
def lowT (s : ByteArray) (l : List S100) (t : ByteArray) (m : List S100) (y : Int) : Bool :=
  if (viewS s l y).2 = 0 then (if (viewS t m y).2 = 0 then (if (viewS s l y).1.toList = (viewS t m y).1.toList then decide (l = m) else false) else false) else false
theorem low_ev (s : ByteArray) (l : List S100) (hl : l.length ≤ big) (t : ByteArray) (m : List S100) (hm : m.length ≤ big) (y : Int) : Ev (fun k => strip_Low.f k s l t m y) (lowT s l t m y) := by
  unfold strip_Low.f lowT
  refine Ev.bind (view_ev s l hl y) (Ev.bind (view_ev t m hm y) ?_)
  exact Ev.ite (fun _ => Ev.ite (fun _ => Ev.ite (fun _ => Ev.bind (run_ev l m hl) (Ev.now _)) (fun _ => Ev.now _)) (fun _ => Ev.now _)) (fun _ => Ev.now _)
theorem seen_and {x p q : Int} (hx : 0 ≤ x ∧ x < 18446744073709551616) (hp : 0 ≤ p ∧ p < 18446744073709551616) (hq : 0 ≤ q ∧ q < 18446744073709551616) (h : seen x (Go.bits .and .u64 p q) = true) : seen x q = true := by
  obtain ⟨x, rfl⟩ := Int.eq_ofNat_of_zero_le hx.1
  obtain ⟨p, rfl⟩ := Int.eq_ofNat_of_zero_le hp.1
  obtain ⟨q, rfl⟩ := Int.eq_ofNat_of_zero_le hq.1
  have hx' : x < 2 ^ 64 := by omega
  have hq' : q < 2 ^ 64 := by omega
  unfold seen at h ⊢
  rw [u64_and_nat p q (by omega) (by omega), belowN_bits x (p &&& q) hx' (Nat.lt_of_le_of_lt Nat.and_le_right hq')] at h
  rw [belowN_bits x q hx' hq']
  unfold belowN at h
  refine belowN_yes (fun i hi ha => ?_)
  have := List.all_eq_true.1 h i (List.mem_range.2 hi)
  rw [ha, Nat.testBit_and] at this
  simp at this
  exact this.2
theorem byte_range {s : ByteArray} {x : Int} (h : x ∈ bytesOf s) : 0 ≤ x ∧ x ≤ 255 := by
  obtain ⟨b, hb, rfl⟩ := List.mem_map.1 h
  have := b.toNat_lt
  omega
theorem strOf_bt (xs : List Int) (i : Nat) (hi : i < xs.length) (hr : 0 ≤ xs.getD i 0 ∧ xs.getD i 0 ≤ 255) : bt (strOfNums xs) (i : Int) = xs.getD i 0 := by
  have hs : i < (strOfNums xs).size := by rw [strOfNums_size]; exact hi
  rw [← bt_bytesOf _ _ hs, bytesOf_getD _ _ hs, strOfNums_data]
  have hg : xs.getD i 0 = xs[i] := by rw [List.getD_eq_getElem?_getD, List.getElem?_eq_getElem hi]; rfl
  rw [hg] at hr ⊢
  rw [List.getD_eq_getElem?_getD, List.getElem?_map, List.getElem?_eq_getElem hi]
  simp only [Option.map_some, Option.getD_some]
  rw [UInt8.toNat_ofNat']
  omega
theorem hideAll_getD (y : Int) (L B : List Int) (i : Nat) (h1 : i < L.length) (h2 : i < B.length) : (hideAll y L B).getD i 0 = hide y (L.getD i 0) (B.getD i 0) := by
  unfold hideAll
  rw [List.getD_eq_getElem?_getD, List.getElem?_zipWith, List.getD_eq_getElem?_getD, List.getD_eq_getElem?_getD, List.getElem?_eq_getElem h1, List.getElem?_eq_getElem h2]
  rfl
theorem hide_range {y x c : Int} (h : 0 ≤ c ∧ c ≤ 255) : 0 ≤ hide y x c ∧ hide y x c ≤ 255 := by
  unfold hide
  split <;> omega
theorem strOf_inj {xs ys : List Int} (hx : ∀ x ∈ xs, 0 ≤ x ∧ x ≤ 255) (hy : ∀ x ∈ ys, 0 ≤ x ∧ x ≤ 255) (h : strOfNums xs = strOfNums ys) : xs = ys := by
  have h1 : xs.length = ys.length := by rw [← strOfNums_size, ← strOfNums_size, h]
  apply List.ext_getElem? 
  intro i
  by_cases hi : i < xs.length
  · have hg : ∀ (zs : List Int), i < zs.length → zs[i]? = some (zs.getD i 0) := fun zs hz => by rw [List.getD_eq_getElem?_getD, List.getElem?_eq_getElem hz]; rfl
    have hm : ∀ (zs : List Int), i < zs.length → zs.getD i 0 ∈ zs := fun zs hz => by rw [List.getD_eq_getElem?_getD, List.getElem?_eq_getElem hz]; exact List.getElem_mem hz
    rw [hg xs hi, hg ys (by omega), ← strOf_bt xs i hi (hx _ (hm xs hi)), ← strOf_bt ys i (by omega) (hy _ (hm ys (by omega))), h]
  · rw [List.getElem?_eq_none (by omega), List.getElem?_eq_none (by omega)]
theorem hideAll_range {y : Int} {L : List Int} {s : ByteArray} : ∀ x ∈ hideAll y L (bytesOf s), 0 ≤ x ∧ x ≤ 255 := by
  intro x hx
  obtain ⟨i, hi, rfl⟩ := List.mem_iff_getElem.1 hx
  rw [hideAll_len] at hi
  have := hideAll_getD y L (bytesOf s) i (by omega) (by omega)
  rw [List.getD_eq_getElem?_getD, List.getElem?_eq_getElem (by rw [hideAll_len]; exact hi)] at this
  simp only [Option.getD_some] at this
  rw [this]
  exact hide_range (byte_range (by rw [List.getD_eq_getElem?_getD, List.getElem?_eq_getElem (show i < (bytesOf s).length by omega)]; exact List.getElem_mem _))
end Go.Proofs.Ythpjagblnddjaaa.PB
end

section
namespace Go.Proofs.Ythpjagblnddjaaa.PB
open Go.RowKit Go.Proofs.YthpjagblnddjaaaW.PrintWords
set_option linter.unusedVariables false
theorem alive4 : bureaulaw04_alive.f 60 = some true := by decide +kernel
theorem alive4_ev : Ev (fun k => bureaulaw04_alive.f k) true := Ev.of (bureaulaw04_alive.mono) alive4
theorem fits_eq (s : ByteArray) (l : List S100) : bureaulaw04_Fits.f s l = some (decide (s.size ≤ 5000 ∧ l.length ≤ 5000)) := by
  unfold bureaulaw04_Fits.f
  by_cases h : s.size ≤ 5000
  · rw [if_pos (by omega)]
    congr 1
    rw [Bool.eq_iff_iff, decide_eq_true_iff, decide_eq_true_iff]
    omega
  · rw [if_neg (by omega)]
    simp [h]
theorem fits_big {s : ByteArray} {l : List S100} (h : s.size ≤ 5000 ∧ l.length ≤ 5000) : l.length ≤ big := by unfold big; omega
theorem wfT {x : S51} (h : wf51 x) : ∀ r ∈ x.f1, 0 ≤ r.f0 ∧ r.f0 < 18446744073709551616 := wf_labels h.2.2
end Go.Proofs.Ythpjagblnddjaaa.PB
end

section
namespace Go.Proofs.Ythpjagblnddjaaa.PB
open Go.RowKit Go.Proofs.YthpjagblnddjaaaW.PrintWords
set_option linter.unusedVariables false
theorem low_down {s t : ByteArray} {l m : List S100} {p q : Int} (hw : ∀ r ∈ l, 0 ≤ r.f0 ∧ r.f0 < 18446744073709551616) (hp : 0 ≤ p ∧ p < 18446744073709551616) (hq : 0 ≤ q ∧ q < 18446744073709551616)
    (h : lowT s l t m q = true) : lowT s l t m (Go.bits .and .u64 p q) = true := by
  unfold lowT at h ⊢
  have e2 : ∀ (s : ByteArray) (l : List S100) (y z : Int), (viewS s l y).2 = (viewS s l z).2 := fun s l y z => by unfold viewS; split <;> rfl
  by_cases h1 : (viewS s l q).2 = 0
  · rw [if_pos h1] at h
    rw [if_pos ((e2 s l _ q).trans h1)]
    by_cases h2 : (viewS t m q).2 = 0
    · rw [if_pos h2] at h
      rw [if_pos ((e2 t m _ q).trans h2)]
      by_cases h3 : (viewS s l q).1.toList = (viewS t m q).1.toList
      · rw [if_pos h3] at h
        have hlm : l = m := of_decide_eq_true h
        subst hlm
        have g1 : goodT s l = true := by
          by_cases hg : goodT s l = true
          · exact hg
          · unfold viewS at h1; rw [if_neg hg] at h1; cases h1
        have g2 : goodT t l = true := by
          by_cases hg : goodT t l = true
          · exact hg
          · unfold viewS at h2; rw [if_neg hg] at h2; cases h2
        have h4 := toList_inj h3
        unfold viewS at h4
        rw [if_pos g1, if_pos g2] at h4
        have h5 : hideAll q (bytes l) (bytesOf s) = hideAll q (bytes l) (bytesOf t) := strOf_inj hideAll_range hideAll_range h4
        have h6 : hideAll (Go.bits .and .u64 p q) (bytes l) (bytesOf s) = hideAll (Go.bits .and .u64 p q) (bytes l) (bytesOf t) := by
          obtain ⟨_, _, a3, _, _⟩ := goodT_facts g1
          obtain ⟨_, _, b3, _, _⟩ := goodT_facts g2
          have l1 := bytesOf_len s
          have l2 := bytesOf_len t
          apply List.ext_getElem?
          intro i
          by_cases hi : i < (bytes l).length
          · have hg : ∀ (zs : List Int), i < zs.length → zs[i]? = some (zs.getD i 0) := fun zs hz => by rw [List.getD_eq_getElem?_getD, List.getElem?_eq_getElem hz]; rfl
            have d1 := hideAll_getD q (bytes l) (bytesOf s) i hi (by omega)
            have d2 := hideAll_getD q (bytes l) (bytesOf t) i hi (by omega)
            rw [hg _ (by rw [hideAll_len]; omega), hg _ (by rw [hideAll_len]; omega), hideAll_getD _ _ _ i hi (by omega), hideAll_getD _ _ _ i hi (by omega)]
            rw [h5, d2] at d1
            have hx : 0 ≤ (bytes l).getD i 0 ∧ (bytes l).getD i 0 < 18446744073709551616 := by
              have hm : (bytes l).getD i 0 ∈ bytes l := by rw [List.getD_eq_getElem?_getD, List.getElem?_eq_getElem hi]; exact List.getElem_mem hi
              obtain ⟨r, hr, e⟩ := bytes_mem hm
              rw [← e]
              exact hw r hr
            unfold hide at d1 ⊢
            by_cases hs : seen ((bytes l).getD i 0) (Go.bits .and .u64 p q) = true
            · rw [if_pos hs, if_pos hs]
              rw [if_pos (seen_and hx hp hq hs), if_pos (seen_and hx hp hq hs)] at d1
              rw [d1]
            · rw [if_neg hs, if_neg hs]
          · rw [List.getElem?_eq_none (by rw [hideAll_len]; omega), List.getElem?_eq_none (by rw [hideAll_len]; omega)]
        rw [if_pos]
        · simp
        · unfold viewS
          rw [if_pos g1, if_pos g2, h6]
      · rw [if_neg h3] at h; cases h
    · rw [if_neg h2] at h; cases h
  · rw [if_neg h1] at h; cases h
theorem StripHigher_pure (a b : S51) (p q : Int) (wa : wf51 a) (wb : wf51 b) (wp : (Lit.int .u64 p).wf = true) (wq : (Lit.int .u64 q).wf = true) : ∃ k, bureaulaw04_StripHigher.f k a.f0 a.f1 b.f0 b.f1 p q = some true := by
  refine Ev.rounds (g := fun k => bureaulaw04_StripHigher.f k a.f0 a.f1 b.f0 b.f1 p q) ?_
  unfold bureaulaw04_StripHigher.f
  refine Ev.bind alive4_ev (Ev.pos rfl ?_)
  rw [fits_eq, fits_eq]
  have hp := wf_u64 wp
  have hq := wf_u64 wq
  have out : Ev (fun k => bureaulaw04_StripHigher.j0 k true a.f0 a.f1 b.f0 b.f1 p q) true := by
    refine Ev.step (fun k => by simp only [bureaulaw04_StripHigher.j0]; rfl) ?_
    exact Ev.pos (by simp) (Ev.now _)
  refine Ev.bind (Ev.now _) ?_
  by_cases hf : a.f0.size ≤ 5000 ∧ a.f1.length ≤ 5000
  · refine Ev.pos (by simpa using hf) (Ev.bind (Ev.now _) ?_)
    have hl := fits_big hf
    by_cases hx : b.f0.size ≤ 5000 ∧ b.f1.length ≤ 5000
    · have hm := fits_big hx
      rw [decide_eq_true hx]
      refine Ev.step (fun k => by simp only [bureaulaw04_StripHigher.j0]; rfl) ?_
      refine Ev.neg (by simp) ?_
      refine Ev.bind (view_ev _ _ hl _) (Ev.bind (view_ev _ _ hl q) ?_)
      
      have last : Ev (fun k => (strip_Low.f k a.f0 a.f1 b.f0 b.f1 q).bind fun t791 => (if t791 = true then ((strip_Low.f k a.f0 a.f1 b.f0 b.f1 (Go.bits .and .u64 p q)).bind fun t792 => (some t792)) else (some true))) true := by
        refine Ev.bind (low_ev _ _ hl _ _ hm q) ?_
        by_cases hlow : lowT a.f0 a.f1 b.f0 b.f1 q = true
        · exact Ev.pos hlow (Ev.bind (low_ev _ _ hl _ _ hm _) (ev_val (Ev.now _) (low_down (wfT wa) hp hq hlow)))
        · exact Ev.neg hlow (Ev.now _)
      by_cases hg : goodT a.f0 a.f1 = true
      · obtain ⟨g1, g2, g3, g4, g5⟩ := goodT_facts hg
        have e : ∀ y, viewS a.f0 a.f1 y = (strOfNums (hideAll y (bytes a.f1) (bytesOf a.f0)), 0) := fun y => by unfold viewS; rw [if_pos hg]
        have hbl := bytesOf_len a.f0
        have sz : ∀ y, (strOfNums (hideAll y (bytes a.f1) (bytesOf a.f0))).size = a.f0.size := fun y => by rw [strOfNums_size, hideAll_len]; omega
        rw [e, e]
        refine Ev.pos rfl (Ev.pos (by rw [sz, sz]) (Ev.pos rfl ?_))
        rw [sz]
        refine Ev.step (fun k => by simp only [bureaulaw04_StripHigher.j1]; rfl) ?_
        refine Ev.neg (by simp) ?_
        have loop : ∀ (d i : Nat), i + d = a.f0.size → Ev (fun k => bureaulaw04_StripHigher.l0 k (Go.bits .and .u64 p q) q (strOfNums (hideAll (Go.bits .and .u64 p q) (bytes a.f1) (bytesOf a.f0))) (strOfNums (hideAll q (bytes a.f1) (bytesOf a.f0))) (i : Int) a.f0 a.f1 b.f0 b.f1) true := by
          intro d
          induction d with
          | zero =>
            intro i hi
            refine Ev.step (fun k => by simp only [bureaulaw04_StripHigher.l0]; rfl) ?_
            exact Ev.neg (by rw [sz]; omega) last
          | succ d ih =>
            intro i hi
            have hlt : i < a.f0.size := by omega
            have hc : 0 ≤ (bytesOf a.f0).getD i 0 ∧ (bytesOf a.f0).getD i 0 ≤ 255 := byte_range (by rw [List.getD_eq_getElem?_getD, List.getElem?_eq_getElem (show i < (bytesOf a.f0).length by omega)]; exact List.getElem_mem _)
            have hb : ∀ y, bt (strOfNums (hideAll y (bytes a.f1) (bytesOf a.f0))) (i : Int) = hide y ((bytes a.f1).getD i 0) (bt a.f0 (i : Int)) := fun y => by
              rw [strOf_bt _ i (by rw [hideAll_len]; omega) (by rw [hideAll_getD _ _ _ i (by omega) (by omega)]; exact hide_range hc), hideAll_getD _ _ _ i (by omega) (by omega), bt_bytesOf _ _ hlt]
            have hxr : 0 ≤ (bytes a.f1).getD i 0 ∧ (bytes a.f1).getD i 0 < 18446744073709551616 := by
              have hm : (bytes a.f1).getD i 0 ∈ bytes a.f1 := by rw [List.getD_eq_getElem?_getD, List.getElem?_eq_getElem (show i < (bytes a.f1).length by omega)]; exact List.getElem_mem _
              obtain ⟨r, hr, e⟩ := bytes_mem hm
              rw [← e]
              exact wfT wa r hr
            have hnext := ih (i + 1) (by omega)
            refine Ev.step (fun k => by simp only [bureaulaw04_StripHigher.l0]; rfl) ?_
            refine Ev.pos (by rw [sz]; omega) (Ev.pos (by omega) ?_)
            rw [w1 hlt (by omega), hb, hb, sz]
            generalize (bytes a.f1).getD i 0 = x at *
            generalize bt a.f0 (i : Int) = c at *
            have up := seen_and hxr hp hq
            generalize Go.bits .and .u64 p q = pq at *
            unfold hide
            have step2 : Ev (fun k => if (if seen x q = true then c else 35) = 35 then bureaulaw04_StripHigher.l0 k pq q (strOfNums (hideAll pq (bytes a.f1) (bytesOf a.f0))) (strOfNums (hideAll q (bytes a.f1) (bytesOf a.f0))) ((i + 1 : Nat) : Int) a.f0 a.f1 b.f0 b.f1 else
                if (i : Int) < (a.f0.size : Int) then (if (if seen x q = true then c else 35) = c then bureaulaw04_StripHigher.l0 k pq q (strOfNums (hideAll pq (bytes a.f1) (bytesOf a.f0))) (strOfNums (hideAll q (bytes a.f1) (bytesOf a.f0))) ((i + 1 : Nat) : Int) a.f0 a.f1 b.f0 b.f1 else some false) else none) true := by
              by_cases h35 : (if seen x q = true then c else 35) = 35
              · exact Ev.pos h35 hnext
              · refine Ev.neg h35 (Ev.pos (by omega) (Ev.pos ?_ hnext))
                by_cases hs : seen x q = true
                · rw [if_pos hs]
                · rw [if_neg hs] at h35; exact absurd rfl h35
            by_cases hlow : (if seen x pq = true then c else 35) = 35
            · exact Ev.pos hlow (Ev.pos (by omega) step2)
            · refine Ev.neg hlow (Ev.pos (by omega) (Ev.pos ?_ step2))
              by_cases hs : seen x pq = true
              · rw [if_pos hs, if_pos (up hs)]
              · rw [if_neg hs] at hlow; exact absurd rfl hlow
        exact ev_val (loop a.f0.size 0 (by omega)) rfl
      · have e : ∀ y, viewS a.f0 a.f1 y = (⟨#[]⟩, 2) := fun y => by unfold viewS; rw [if_neg hg]
        rw [e, e]
        refine Ev.pos rfl (Ev.pos rfl (Ev.neg (by decide) ?_))
        refine Ev.step (fun k => by simp only [bureaulaw04_StripHigher.j1]; rfl) ?_
        refine Ev.neg (by simp) ?_
        refine Ev.step (fun k => by simp only [bureaulaw04_StripHigher.l0]; rfl) ?_
        exact Ev.neg (by decide) last
    · rw [decide_eq_false hx]
      exact out
  · exact Ev.neg (by simpa using hf) out
end Go.Proofs.Ythpjagblnddjaaa.PB
end

section
namespace Go.Proofs.Ythpjagblnddjaaa.PB
open Go.ChangeShapes Go.WideShapes Go.ChangeAt Go.RowKit Go.Proofs.YthpjagblnddjaaaW.PrintWords
open Go.ChangeMaps (open_string shut_string)
set_option linter.unusedVariables false
namespace stripHigher
open Go.Proofs.Ythpjagblnddjaaa
theorem own : ownKnob Try.prog.godebug = none := by kernel_rfl
theorem laidOut : laidOutB Try.prog = true := by kernel_rfl
set_option maxRecDepth 100000 in
theorem lifted (os : Os) (started : os.Started) (H : Type) (enc : TypeId × Value → H) :
    ReturnsInHanded {} Try.checked os 18 .any (Rows.stripHigherSpec.pre6 enc Try.prog Try.f18 Rows.stripHigherRow.domain false) (Rows.stripHigherSpec.post enc Try.prog Try.f18 false true false false) := by
  refine returnsInHanded_of_change_sized (C := Try.checked) own started (by kernel_rfl) Try.func18
    (ChangeSpec.witness6 (enc := enc) (C := Try.checked) false ⟨#[], #[.agg #[.string ByteArray.empty, .slice none 0 0], .agg #[.string ByteArray.empty, .slice none 0 0], .agg #[.int .u64 0, .int .u64 0]], []⟩ 8 (by kernel_rfl) (by kernel_rfl) (by kernel_rfl) (by kernel_rfl)) ?_
  intro W base args ds gs before hval0 hW hcnd hsz0 _
  have hsz : (DataW.weightsEach Try.prog (Try.f18.params.toList ++ Rows.stripHigherSpec.plain.varTypes Try.prog) (ds ++ gs)).all (· ≤ reachBytes) = true := hsz0
  have hval : ∀ (j : Nat) t v, Try.f18.params[j]? = some t → args[j]? = some v → Value.okWide Try.prog W .any base t v := hval0
  have hW' := hW
  obtain ⟨p, q, hA0, hV, rfl, hfz, hnd⟩ := hW
  have hA : DataW.TrodAll enc Try.prog W 0 (fun _ => true) true Try.f18.params.toList args.toList ds p := hA0
  rw [Try.params18] at hA hval hsz
  obtain ⟨v0, vs0, d0, ds0, p0, q0, hargs, rfl, rfl, h0, r0⟩ := trodAll_cons hA
  obtain ⟨v1, vs1, d1, ds1, p1, q1, rfl, rfl, rfl, h1, r1⟩ := trodAll_cons r0
  obtain ⟨v2, vs2, d2, ds2, p2, q2, rfl, rfl, rfl, h2, r2⟩ := trodAll_cons r1
  obtain ⟨rfl, rfl, rfl⟩ := trodAll_nil r2
  obtain rfl : args = #[v0, v1, v2] := by cases args; simp_all
  obtain ⟨rfl, rfl⟩ := trodVars_none hV
  have hz0 : ∀ n ∈ d0.weights Try.prog 51, n ≤ reachBytes := fun n hn => by have z := List.all_eq_true.1 hsz n (DataW.weights_mem_each (j := 0) rfl rfl n hn); simpa using z
  have kk0 := h0
  have lt0 : ∀ x ∈ p0, x.block < W.heap.size := by obtain ⟨m, hm⟩ := kk0; exact DataW.trod_lt m _ _ _ hm
  obtain ⟨cs0, rfl, cz0⟩ := okWide_struct Try.underlying51 (hval 0 51 v0 rfl rfl)
  obtain ⟨x0, hK0, w0⟩ : ∃ x : S51, k51.K W x cs0.toList ∧ wf51 x := by
    obtain ⟨fuel, hf⟩ := h0
    exact opn51 H enc _ _ _ fuel _ _ hf hz0
  obtain ⟨A0_1, c0_1, hcs0, hc0_1, hr0_1⟩ := k51_open hK0
  obtain rfl : cs0 = #[.string x0.f0, .slice A0_1 x0.f1.length c0_1] := Array.toList_inj.1 hcs0
  have hz1 : ∀ n ∈ d1.weights Try.prog 51, n ≤ reachBytes := fun n hn => by have z := List.all_eq_true.1 hsz n (DataW.weights_mem_each (j := 1) rfl rfl n hn); simpa using z
  have kk1 := h1
  have lt1 : ∀ x ∈ p1, x.block < W.heap.size := by obtain ⟨m, hm⟩ := kk1; exact DataW.trod_lt m _ _ _ hm
  obtain ⟨cs1, rfl, cz1⟩ := okWide_struct Try.underlying51 (hval 1 51 v1 rfl rfl)
  obtain ⟨x1, hK1, w1⟩ : ∃ x : S51, k51.K W x cs1.toList ∧ wf51 x := by
    obtain ⟨fuel, hf⟩ := h1
    exact opn51 H enc _ _ _ fuel _ _ hf hz1
  obtain ⟨A1_1, c1_1, hcs1, hc1_1, hr1_1⟩ := k51_open hK1
  obtain rfl : cs1 = #[.string x1.f0, .slice A1_1 x1.f1.length c1_1] := Array.toList_inj.1 hcs1
  have hz2 : ∀ n ∈ d2.weights Try.prog 85, n ≤ reachBytes := fun n hn => by have z := List.all_eq_true.1 hsz n (DataW.weights_mem_each (j := 2) rfl rfl n hn); simpa using z
  have kk2 := h2
  have lt2 : ∀ x ∈ p2, x.block < W.heap.size := by obtain ⟨m, hm⟩ := kk2; exact DataW.trod_lt m _ _ _ hm
  obtain ⟨cs2, rfl, cz2⟩ := Opn.okWide_array Try.underlying85 (hval 2 85 v2 rfl rfl)
  obtain ⟨a2_0, a2_1, hcs2, w2_0, w2_1⟩ : ∃ a2_0 a2_1 : Int, cs2 = #[.int .u64 a2_0, .int .u64 a2_1] ∧ (Lit.int .u64 a2_0).wf = true ∧ (Lit.int .u64 a2_1).wf = true := by
    obtain ⟨fuel, hf⟩ := h2
    obtain ⟨l, hl, hc, hw⟩ := Opn.arrayI Try.underlying85 Try.underlying36 (by kernel_rfl) (by kernel_rfl) hf
    match l, hl with
    | [a2_0, a2_1], _ => exact ⟨a2_0, a2_1, Array.toList_inj.1 hc, hw _ (by simp), hw _ (by simp)⟩
  subst hcs2
  clear hA0 hval0 hsz0 hsz
  obtain ⟨k, hk⟩ := StripHigher_pure x0 x1 a2_0 a2_1 w0 w1 w2_0 w2_1
  refine (bureaulaw04_StripHigher.calls k x0.f0 _ _ x0.f1 x1.f0 _ _ x1.f1 a2_0 a2_1 true W hr0_1 hc0_1 hr1_1 hc1_1 hk).mono fun e W' ⟨he, bel⟩ => ?_
  subst he
  exact ⟨_, rfl, _, _, _, [], _, [], hW', trodAll_mk1 (shut_bool Try.underlying4 _), (trodAll_cons_mk (Below.trod laidOut (by kernel_rfl) (of_decide_eq_true (by kernel_rfl)) kk0 bel lt0) (trodAll_cons_mk (Below.trod laidOut (by kernel_rfl) (of_decide_eq_true (by kernel_rfl)) kk1 bel lt1) (trodAll_cons_mk (Below.trod laidOut (by kernel_rfl) (of_decide_eq_true (by kernel_rfl)) kk2 bel lt2) trodAll_mk0))), rfl, bel.frame _, fun h => by cases h⟩
theorem over : Rows.stripHigherRow.holds Try.pinned (OpenSpec.ofChange Rows.stripHigherSpec) :=
  OpenClaim.holds_of_wide 18 Try.f18 rfl rfl rfl rfl rfl rfl rfl ⟨rfl, rfl, rfl, rfl, rfl⟩ rfl rfl rfl rfl rfl (by kernel_rfl) Try.func18 (by kernel_rfl)
    (of_decide_eq_true (by kernel_rfl)) (by unfold Func.isWrapper; first | (rw [if_pos (by decide +kernel)]; kernel_rfl) | (rw [if_neg (by decide +kernel)]; exact ⟨rfl, rfl⟩))
    (fun os started H enc _ => lifted os started H enc)
theorem proved : Rows.StripHigherSaid := over
end stripHigher
end Go.Proofs.Ythpjagblnddjaaa.PB
namespace Go.Proofs.Ythpjagblnddjaaa
theorem stripHigher_holds : Rows.StripHigherSaid := PB.stripHigher.proved
#print axioms stripHigher_holds
end Go.Proofs.Ythpjagblnddjaaa
end
