/- What the row hangs on, part 3. -/
import Derived.Test.YthpjagblnddjaaaQEditHides2
section
namespace Go.Proofs.Ythpjagblnddjaaa.PB
open Go.RowKit Go.Proofs.YthpjagblnddjaaaW.PrintWords Go.Proofs.YthpjagblnddjaaaW.PrintLast Go.Proofs.YthpjagblnddjaaaW.PrintMore
attribute [local go_sem] max2_int min2_int max_two min_two max_three min_three max_four min_four   
set_option linter.unusedVariables false
set_option linter.unusedSimpArgs false
def strip_Splice.j0 : Nat → Int → Int → Bool → ByteArray → List (S100) → ByteArray → List (S100) → Option (ByteArray × (List (S100)) × Int)
  | 0, _, _, _, _, _, _, _ => none
  | k + 1, x1, x2, x21, x386000, x386001, x387000, x387001 => if x21 = true then (some ((⟨#[]⟩ : ByteArray), ([] : List (S100)), 2)) else ((runs_Splice.f k x386001 x1 x2 x387001).bind fun bt390 => (if bt390.2 = 0 then (if 0 ≤ x1 then (if x1 ≤ (x386000.size : Int) then (if (x386000.extract 0 (x1 : Int).toNat).size + x387000.size ≤ 9223372036854775807 then (if 0 ≤ x2 then (if x2 ≤ (x386000.size : Int) then (if ((x386000.extract 0 (x1 : Int).toNat) ++ x387000).size + (x386000.extract (x2 : Int).toNat x386000.size).size ≤ 9223372036854775807 then (some (((x386000.extract 0 (x1 : Int).toNat) ++ x387000) ++ (x386000.extract (x2 : Int).toNat x386000.size), bt390.1, 0)) else (none)) else (none)) else (none)) else (none)) else (none)) else (none)) else (some ((⟨#[]⟩ : ByteArray), ([] : List (S100)), bt390.2))))
def strip_Splice.f (k : Nat) (a0_0 : ByteArray) (l0_1 : List (S100)) (a1 : Int) (a2 : Int) (a3_0 : ByteArray) (l3_1 : List (S100)) : Option (ByteArray × (List (S100)) × Int) := (strip_within.f k a0_0 l0_1 a1 a2).bind fun t388 => (if t388 = true then ((strip_Good.f k a3_0 l3_1).bind fun t389 => (strip_Splice.j0 k a1 a2 (!t389) a0_0 l0_1 a3_0 l3_1)) else (strip_Splice.j0 k a1 a2 true a0_0 l0_1 a3_0 l3_1))
theorem strip_Splice.mono_l : ∀ k, (∀ y0 y1 y2 y3 y4 y5 y6, LeO (strip_Splice.j0 k y0 y1 y2 y3 y4 y5 y6) (strip_Splice.j0 (k + 1) y0 y1 y2 y3 y4 y5 y6))
  | 0 => fun _ _ _ _ _ _ _ r h => by simp [strip_Splice.j0] at h
  | k + 1 => by
    have ih0 := strip_Splice.mono_l k
    · intro y0 y1 y2 y3 y4 y5 y6
      unfold strip_Splice.j0
      repeat' first
      | (with_reducible exact ih0 _ _ _ _ _ _ _)
      | (with_reducible exact runs_Splice.mono _ _ _ _ _)
      | (with_reducible exact strip_Good.mono _ _ _)
      | (with_reducible exact strip_within.mono _ _ _ _ _)
      | (with_reducible exact LeO.refl _)
      | (with_reducible exact LeO.none _)
      | (with_reducible refine LeO.ite ?_ ?_)
      | (with_reducible refine LeO.bind ?_ (fun _ => ?_))
      | exact ih0 _ _ _ _ _ _ _
      | exact runs_Splice.mono _ _ _ _ _
      | exact strip_Good.mono _ _ _
      | exact strip_within.mono _ _ _ _ _
      | exact LeO.none _
      | refine LeO.ite ?_ ?_
      | refine LeO.bind ?_ (fun _ => ?_)
theorem strip_Splice.mono : ∀ a0 a1 a2 a3 a4 a5 k, LeO (strip_Splice.f k a0 a1 a2 a3 a4 a5) (strip_Splice.f (k + 1) a0 a1 a2 a3 a4 a5) := by
  intro a0 a1 a2 a3 a4 a5 k
  have ih0 := strip_Splice.mono_l k
  unfold strip_Splice.f
  repeat' first
      | (with_reducible exact ih0 _ _ _ _ _ _ _)
      | (with_reducible exact runs_Splice.mono _ _ _ _ _)
      | (with_reducible exact strip_Good.mono _ _ _)
      | (with_reducible exact strip_within.mono _ _ _ _ _)
      | (with_reducible exact LeO.refl _)
      | (with_reducible exact LeO.none _)
      | (with_reducible refine LeO.ite ?_ ?_)
      | (with_reducible refine LeO.bind ?_ (fun _ => ?_))
      | exact ih0 _ _ _ _ _ _ _
      | exact runs_Splice.mono _ _ _ _ _
      | exact strip_Good.mono _ _ _
      | exact strip_within.mono _ _ _ _ _
      | exact LeO.none _
      | refine LeO.ite ?_ ?_
      | refine LeO.bind ?_ (fun _ => ?_)
def strip_Splice.T6 : Bool × List (List Nat × List Nat) := (true, [([], []), ([0], [0]), ([], []), ([1, 2], [1, 2]), ([], []), ([4], [4]), ([3, 5], [3, 5]), ([], []), ([7], [7]), ([], []), ([8, 9], [8, 9]), ([6, 10], [6, 10]), ([], []), ([11, 12], [11, 12]), ([13, 0, 1, 2, 3, 4, 5, 6, 7, 8, 9, 10, 11, 12, 13], [13]), ([14, 0, 1, 2, 3, 4, 5, 6, 7, 8, 9, 10, 11, 12, 13, 14], [])])
def strip_Splice.B6 : List Nat := [0, 1, 0, 7, 0, 16, 63, 0, 128, 0, 896, 2047, 0, 8191, 16383, 32767]
theorem strip_Splice.tab6 : rtab .any (opsOf Try.f53 6) = strip_Splice.T6 := by kernel_rfl
theorem strip_Splice.bits6 : waitsOk strip_Splice.T6.2 strip_Splice.B6 = true := by kernel_rfl
set_option maxHeartbeats 8000000 in
set_option maxRecDepth 100000 in
theorem strip_Splice.calls (k : Nat) (a0_0 : ByteArray) (A0_1 : Option Addr) (c0_1 : Nat) (l0_1 : List (S100)) (a1 : Int) (a2 : Int) (a3_0 : ByteArray) (A3_1 : Option Addr) (c3_1 : Nat) (l3_1 : List (S100)) (r1 : ByteArray) (r2 : List (S100)) (r3 : Int) (w : World) (hr0_1 : Kd.C k100 w A0_1 l0_1.length l0_1) (hc0_1 : l0_1.length ≤ c0_1) (hr3_1 : Kd.C k100 w A3_1 l3_1.length l3_1) (hc3_1 : l3_1.length ≤ c3_1) (h : strip_Splice.f k a0_0 l0_1 a1 a2 a3_0 l3_1 = some (r1, r2, r3)) :
    Calls Try.prog 53 #[.agg #[.string a0_0, .slice A0_1 l0_1.length c0_1], .int .i64 a1, .int .i64 a2, .agg #[.string a3_0, .slice A3_1 l3_1.length c3_1]] w fun e w' => ∃ v1_ : Value, e = .returned (.tuple #[.agg #[.string r1, v1_], .int .i64 r3]) ∧ Kd.R k100 100 w' w.heap.size (fun _ => True) v1_ r2 ∧ Below w.heap.size w w' := by
  have hu51 := Try.underlying51
  have HR0_1 := aM hr0_1
  have HC0_1 := aM hc0_1
  clear hr0_1 hc0_1
  have HR3_1 := aM hr3_1
  have HC3_1 := aM hc3_1
  clear hr3_1 hc3_1
  have HB := aM (Below.refl w.heap.size w)
  have H : ((strip_within.f k a0_0 l0_1 a1 a2).bind fun t388 => (if t388 = true then ((strip_Good.f k a3_0 l3_1).bind fun t389 => (strip_Splice.j0 k a1 a2 (!t389) a0_0 l0_1 a3_0 l3_1)) else (strip_Splice.j0 k a1 a2 true a0_0 l0_1 a3_0 l3_1))) = some (r1, r2, r3) := h
  clear h
  have HC5 := aM H
  clear H
  go_enter Try.func53, Try.ntmps53
  go_upto_region 1 with (first | ((with_reducible refine gate_dst (N := 4) rfl ?_); refine box_event ?hg (N := 4) ?hd (cs := #[.string a0_0, .slice A0_1 l0_1.length c0_1]) (t := 51) ?hr ?_; (case hd => rfl); (case hg => rfl); (case hr => first | (go_simp; done) | (go_simp; rfl)); intro gb385 hg w6 hbox hb; have n0_ := aM (bP (by repeat (first | (with_reducible first | exact HB.out | apply ea | apply en | apply ed) | exact HB.out)) hb); have n1_ := aM (hbox); have n2_ := aM ((by rw [hg]; exact (bZ (by repeat (first | (with_reducible first | exact HB.out | apply ea | apply en | apply ed) | exact HB.out))) : w.heap.size ≤ gb385)); have n3_ := aM ((by rw [hg]; exact (bZ (by repeat (first | (with_reducible first | exact HB.out | apply ea | apply en | apply ed) | exact HB.out))) : w.heap.size ≤ gb385)); clear HB; have HB := n0_; have BK385 := n1_; have GW385 := n2_; have GE385 := n3_; clear n0_ n1_ n2_ n3_; clear hb hbox hg) | ((with_reducible refine gate_dst (N := 7) rfl ?_); refine box_event ?hg (N := 7) ?hd (cs := #[.string a3_0, .slice A3_1 l3_1.length c3_1]) (t := 51) ?hr ?_; (case hd => rfl); (case hg => rfl); (case hr => first | (go_simp; done) | (go_simp; rfl)); intro gb386 hg w7 hbox hb; have n0_ := aM (bB (g := gb385) (o := .cells #[.string a0_0, .slice A0_1 l0_1.length c0_1] 51 (0, 0)) (by (with_reducible repeat (first | refine qn ?_ _ | refine qd ?_ | refine qa ?_ _)); exact BK385.out) hb); have n1_ := aM (bP (by repeat (first | (with_reducible first | exact HB.out | apply ea | apply en | apply ed | refine es ?_ GE385.out) | exact HB.out)) hb); have n2_ := aM (hbox); have n3_ := aM ((by rw [hg]; exact (bZ (by repeat (first | (with_reducible first | exact HB.out | apply ea | apply en | apply ed | refine es ?_ GE385.out) | exact HB.out))) : w.heap.size ≤ gb386)); have n4_ := aM ((by rw [hg]; exact (bZ (by repeat (first | (with_reducible first | exact HB.out | apply ea | apply en | apply ed | refine es ?_ GE385.out) | exact HB.out))) : w.heap.size ≤ gb386)); have n5_ := aM ((by rw [hg]; exact Nat.ne_of_lt (blk_lt (g := gb385) (o := .cells #[.string a0_0, .slice A0_1 l0_1.length c0_1] 51 (0, 0)) (by (with_reducible repeat (first | refine qn ?_ _ | refine qd ?_ | refine qa ?_ _)); exact BK385.out)) : gb385 ≠ gb386)); have n6_ := aM ((by rw [hg]; exact Nat.ne_of_gt (blk_lt (g := gb385) (o := .cells #[.string a0_0, .slice A0_1 l0_1.length c0_1] 51 (0, 0)) (by (with_reducible repeat (first | refine qn ?_ _ | refine qd ?_ | refine qa ?_ _)); exact BK385.out)) : gb386 ≠ gb385)); clear BK385; clear HB; have BK385 := n0_; have HB := n1_; have BK386 := n2_; have GW386 := n3_; have GE386 := n4_; have NB385_386 := n5_; have NB386_385 := n6_; clear n0_ n1_ n2_ n3_ n4_ n5_ n6_; clear hb hbox hg) | ((with_reducible refine gate_dst (N := 8) rfl ?_); refine box_event ?hg (N := 8) ?hd (cs := #[.string (⟨#[]⟩ : ByteArray), .slice none 0 0]) (t := 51) ?hr ?_; (case hd => rfl); (case hg => rfl); (case hr => first | (go_simp; done) | (go_simp; rfl)); intro gb387 hg w8 hbox hb; have n0_ := aM (bB (g := gb385) (o := .cells #[.string a0_0, .slice A0_1 l0_1.length c0_1] 51 (0, 0)) (by (with_reducible repeat (first | refine qn ?_ _ | refine qd ?_ | refine qa ?_ _)); exact BK385.out) hb); have n1_ := aM (bB (g := gb386) (o := .cells #[.string a3_0, .slice A3_1 l3_1.length c3_1] 51 (0, 0)) (by (with_reducible repeat (first | refine qn ?_ _ | refine qd ?_ | refine qa ?_ _)); exact BK386.out) hb); have n2_ := aM (bP (by repeat (first | (with_reducible first | exact HB.out | apply ea | apply en | apply ed | refine es ?_ GE385.out | refine es ?_ GE386.out) | exact HB.out)) hb); have n3_ := aM (hbox); have n4_ := aM ((by rw [hg]; exact (bZ (by repeat (first | (with_reducible first | exact HB.out | apply ea | apply en | apply ed | refine es ?_ GE385.out | refine es ?_ GE386.out) | exact HB.out))) : w.heap.size ≤ gb387)); have n5_ := aM ((by rw [hg]; exact (bZ (by repeat (first | (with_reducible first | exact HB.out | apply ea | apply en | apply ed | refine es ?_ GE385.out | refine es ?_ GE386.out) | exact HB.out))) : w.heap.size ≤ gb387)); have n6_ := aM ((by rw [hg]; exact Nat.ne_of_lt (blk_lt (g := gb385) (o := .cells #[.string a0_0, .slice A0_1 l0_1.length c0_1] 51 (0, 0)) (by (with_reducible repeat (first | refine qn ?_ _ | refine qd ?_ | refine qa ?_ _)); exact BK385.out)) : gb385 ≠ gb387)); have n7_ := aM ((by rw [hg]; exact Nat.ne_of_gt (blk_lt (g := gb385) (o := .cells #[.string a0_0, .slice A0_1 l0_1.length c0_1] 51 (0, 0)) (by (with_reducible repeat (first | refine qn ?_ _ | refine qd ?_ | refine qa ?_ _)); exact BK385.out)) : gb387 ≠ gb385)); have n8_ := aM ((by rw [hg]; exact Nat.ne_of_lt (blk_lt (g := gb386) (o := .cells #[.string a3_0, .slice A3_1 l3_1.length c3_1] 51 (0, 0)) (by (with_reducible repeat (first | refine qn ?_ _ | refine qd ?_ | refine qa ?_ _)); exact BK386.out)) : gb386 ≠ gb387)); have n9_ := aM ((by rw [hg]; exact Nat.ne_of_gt (blk_lt (g := gb386) (o := .cells #[.string a3_0, .slice A3_1 l3_1.length c3_1] 51 (0, 0)) (by (with_reducible repeat (first | refine qn ?_ _ | refine qd ?_ | refine qa ?_ _)); exact BK386.out)) : gb387 ≠ gb386)); clear BK385; clear BK386; clear HB; have BK385 := n0_; have BK386 := n1_; have HB := n2_; have BK387 := n3_; have GW387 := n4_; have GE387 := n5_; have NB385_387 := n6_; have NB387_385 := n7_; have NB386_387 := n8_; have NB387_386 := n9_; clear n0_ n1_ n2_ n3_ n4_ n5_ n6_ n7_ n8_ n9_; clear hb hbox hg))
  (try simp only [Act.put, List.setIfInBounds_toArray, List.set_cons_zero, List.set_cons_succ])
  go_cut [21] (fun v21 wc => ∃ (kq : Nat) (x21_4 : Bool), v21 = .bool x21_4 ∧ Aside0 (strip_Splice.j0 kq a1 a2 x21_4 a0_0 l0_1 a3_0 l3_1 = some (r1, r2, r3)) ∧ Aside0 (kq ≤ k) ∧ Aside0 (wc.heap[gb385]? = some (.cells #[.string a0_0, (.slice A0_1 l0_1.length c0_1)] 51 (0, 0))) ∧ Aside0 (wc.heap[gb386]? = some (.cells #[.string a3_0, (.slice A3_1 l3_1.length c3_1)] 51 (0, 0))) ∧ Aside0 (wc.heap[gb387]? = some (.cells #[.string (⟨#[]⟩ : ByteArray), (.slice none 0 0)] 51 (0, 0))) ∧ Aside0 (Below w.heap.size w wc))
  case first =>
    have H := HC5.out
    clear HC5
    replace H := Option.bind_eq_some_iff.mp H
    obtain ⟨t388, A90, H⟩ := H
    replace H : (if t388 = true then ((strip_Good.f k a3_0 l3_1).bind fun t389 => (strip_Splice.j0 k a1 a2 (!t389) a0_0 l0_1 a3_0 l3_1)) else (strip_Splice.j0 k a1 a2 true a0_0 l0_1 a3_0 l3_1)) = some (r1, r2, r3) := H
    have A9 := aM A90
    clear A90
    by_cases c10 : t388 = true
    · subst c10
      have H1 : ((strip_Good.f k a3_0 l3_1).bind fun t389 => (strip_Splice.j0 k a1 a2 (!t389) a0_0 l0_1 a3_0 l3_1)) = some (r1, r2, r3) := by rw [if_pos rfl] at H; exact H
      clear H
      have H := H1
      clear H1
      replace H := Option.bind_eq_some_iff.mp H
      obtain ⟨t389, A110, H⟩ := H
      replace H : (strip_Splice.j0 k a1 a2 (!t389) a0_0 l0_1 a3_0 l3_1) = some (r1, r2, r3) := H
      have A11 := aM A110
      clear A110
      have H' := aM H
      clear H
      have hnb12 := NB385_386.out
      have hnc12 := NB386_385.out
      have hnb13 := NB385_387.out
      have hnc13 := NB387_385.out
      have hcz14_0 : w8.cell? ⟨gb385, 0, none⟩ = some (.string a0_0) := (bC BK385.out 0).trans rfl
      have hcz14_1 : w8.cell? ⟨gb385, 1, none⟩ = some (.slice A0_1 l0_1.length c0_1) := (bC BK385.out 1).trans rfl
      have hfz14_0 := bF BK385.out 0
      have hfz14_1 := bF BK385.out 1
      go_wp2_with (first | ((with_reducible refine gate_callee (f := 95) rfl ?_); refine goesL_ (some 15) rfl rfl Try.func95 (by kernel_rfl) rfl #[.agg #[.string a0_0, .slice A0_1 l0_1.length c0_1], .int .i64 a1, .int .i64 a2] rfl (by (try simp only [List.map_toArray, List.map_cons, List.map_nil]); first | done | rfl | (simp only [List.length_drop, List.length_take]; rfl)) ?_; (with_reducible refine (strip_within.calls k a0_0 _ _ l0_1 a1 a2 true _ ?side1 ?side2 A9.out).mono ?_); (case side1 => repeat (first | exact (cB_ HR0_1.out HB.out) | (with_reducible refine Kd.C_alloc ?_ _) | (with_reducible refine Kd.C_drewN ?_ _) | (with_reducible refine Kd.C_drew ?_))); (case side2 => exact HC0_1.out); rintro e w15 ⟨rfl, hb⟩; refine ⟨_, rfl, ?_⟩; have n0_ := aM (bB (g := gb385) (o := .cells #[.string a0_0, .slice A0_1 l0_1.length c0_1] 51 (0, 0)) (by (with_reducible repeat (first | refine qn ?_ _ | refine qd ?_ | refine qa ?_ _)); exact BK385.out) hb); have n1_ := aM (bB (g := gb386) (o := .cells #[.string a3_0, .slice A3_1 l3_1.length c3_1] 51 (0, 0)) (by (with_reducible repeat (first | refine qn ?_ _ | refine qd ?_ | refine qa ?_ _)); exact BK386.out) hb); have n2_ := aM (bB (g := gb387) (o := .cells #[.string (⟨#[]⟩ : ByteArray), .slice none 0 0] 51 (0, 0)) (by (with_reducible repeat (first | refine qn ?_ _ | refine qd ?_ | refine qa ?_ _)); exact BK387.out) hb); have n3_ := aM (bP (by repeat (first | (with_reducible first | exact HB.out | apply ea | apply en | apply ed | refine es ?_ GE385.out | refine es ?_ GE386.out | refine es ?_ GE387.out) | exact HB.out)) hb); clear BK385; clear BK386; clear BK387; clear HB; have BK385 := n0_; have BK386 := n1_; have BK387 := n2_; have HB := n3_; clear n0_ n1_ n2_ n3_; (try clear hb); (try clear hb2); (try clear hk); (try clear hi); have hnb16 := NB386_387.out; have hnc16 := NB387_386.out; have hcz17_0 : w15.cell? ⟨gb386, 0, none⟩ = some (.string a3_0) := (bC BK386.out 0).trans rfl; have hcz17_1 : w15.cell? ⟨gb386, 1, none⟩ = some (.slice A3_1 l3_1.length c3_1) := (bC BK386.out 1).trans rfl; have hfz17_0 := bF BK386.out 0; have hfz17_1 := bF BK386.out 1) | (go_at_call 49; (with_reducible refine (strip_Good.calls k a3_0 _ _ l3_1 t389 _ ?side1 ?side2 A11.out).mono ?_); (case side1 => repeat (first | exact (cB_ HR3_1.out HB.out) | (with_reducible refine Kd.C_alloc ?_ _) | (with_reducible refine Kd.C_drewN ?_ _) | (with_reducible refine Kd.C_drew ?_))); (case side2 => exact HC3_1.out); rintro e w18 ⟨rfl, hb⟩; have n0_ := aM (bB (g := gb385) (o := .cells #[.string a0_0, .slice A0_1 l0_1.length c0_1] 51 (0, 0)) (by (with_reducible repeat (first | refine qn ?_ _ | refine qd ?_ | refine qa ?_ _)); exact BK385.out) hb); have n1_ := aM (bB (g := gb386) (o := .cells #[.string a3_0, .slice A3_1 l3_1.length c3_1] 51 (0, 0)) (by (with_reducible repeat (first | refine qn ?_ _ | refine qd ?_ | refine qa ?_ _)); exact BK386.out) hb); have n2_ := aM (bB (g := gb387) (o := .cells #[.string (⟨#[]⟩ : ByteArray), .slice none 0 0] 51 (0, 0)) (by (with_reducible repeat (first | refine qn ?_ _ | refine qd ?_ | refine qa ?_ _)); exact BK387.out) hb); have n3_ := aM (bP (by repeat (first | (with_reducible first | exact HB.out | apply ea | apply en | apply ed | refine es ?_ GE385.out | refine es ?_ GE386.out | refine es ?_ GE387.out) | exact HB.out)) hb); clear BK385; clear BK386; clear BK387; clear HB; have BK385 := n0_; have BK386 := n1_; have BK387 := n2_; have HB := n3_; clear n0_ n1_ n2_ n3_; (try clear hb); (try clear hb2); (try clear hk); (try clear hi)))
      go_meet
      case rel => exact ⟨_, (!t389), (by first | rfl | (simp; done) | (simp [*]; done)), H', ⟨by first | omega | exact Nat.le_refl _⟩, ⟨by (with_reducible repeat (first | refine qn ?_ _ | refine qd ?_ | refine qa ?_ _)); exact BK385.out⟩, ⟨by (with_reducible repeat (first | refine qn ?_ _ | refine qd ?_ | refine qa ?_ _)); exact BK386.out⟩, ⟨by (with_reducible repeat (first | refine qn ?_ _ | refine qd ?_ | refine qa ?_ _)); exact BK387.out⟩, ⟨by repeat (first | (with_reducible first | exact HB.out | apply ea | apply en | apply ed | refine es ?_ GE385.out | refine es ?_ GE386.out | refine es ?_ GE387.out) | exact HB.out)⟩⟩
    · replace c10 := Bool.eq_false_iff.mpr c10
      subst c10
      have H1 : (strip_Splice.j0 k a1 a2 true a0_0 l0_1 a3_0 l3_1) = some (r1, r2, r3) := by rw [if_neg (show ¬ (false = true) by decide)] at H; exact H
      clear H
      have H := H1
      clear H1
      have H' := aM H
      clear H
      have hnb19 := NB385_386.out
      have hnc19 := NB386_385.out
      have hnb20 := NB385_387.out
      have hnc20 := NB387_385.out
      have hcz21_0 : w8.cell? ⟨gb385, 0, none⟩ = some (.string a0_0) := (bC BK385.out 0).trans rfl
      have hcz21_1 : w8.cell? ⟨gb385, 1, none⟩ = some (.slice A0_1 l0_1.length c0_1) := (bC BK385.out 1).trans rfl
      have hfz21_0 := bF BK385.out 0
      have hfz21_1 := bF BK385.out 1
      go_wp2_with (first | ((with_reducible refine gate_callee (f := 95) rfl ?_); refine goesL_ (some 15) rfl rfl Try.func95 (by kernel_rfl) rfl #[.agg #[.string a0_0, .slice A0_1 l0_1.length c0_1], .int .i64 a1, .int .i64 a2] rfl (by (try simp only [List.map_toArray, List.map_cons, List.map_nil]); first | done | rfl | (simp only [List.length_drop, List.length_take]; rfl)) ?_; (with_reducible refine (strip_within.calls k a0_0 _ _ l0_1 a1 a2 false _ ?side1 ?side2 A9.out).mono ?_); (case side1 => repeat (first | exact (cB_ HR0_1.out HB.out) | (with_reducible refine Kd.C_alloc ?_ _) | (with_reducible refine Kd.C_drewN ?_ _) | (with_reducible refine Kd.C_drew ?_))); (case side2 => exact HC0_1.out); rintro e w22 ⟨rfl, hb⟩; refine ⟨_, rfl, ?_⟩; have n0_ := aM (bB (g := gb385) (o := .cells #[.string a0_0, .slice A0_1 l0_1.length c0_1] 51 (0, 0)) (by (with_reducible repeat (first | refine qn ?_ _ | refine qd ?_ | refine qa ?_ _)); exact BK385.out) hb); have n1_ := aM (bB (g := gb386) (o := .cells #[.string a3_0, .slice A3_1 l3_1.length c3_1] 51 (0, 0)) (by (with_reducible repeat (first | refine qn ?_ _ | refine qd ?_ | refine qa ?_ _)); exact BK386.out) hb); have n2_ := aM (bB (g := gb387) (o := .cells #[.string (⟨#[]⟩ : ByteArray), .slice none 0 0] 51 (0, 0)) (by (with_reducible repeat (first | refine qn ?_ _ | refine qd ?_ | refine qa ?_ _)); exact BK387.out) hb); have n3_ := aM (bP (by repeat (first | (with_reducible first | exact HB.out | apply ea | apply en | apply ed | refine es ?_ GE385.out | refine es ?_ GE386.out | refine es ?_ GE387.out) | exact HB.out)) hb); clear BK385; clear BK386; clear BK387; clear HB; have BK385 := n0_; have BK386 := n1_; have BK387 := n2_; have HB := n3_; clear n0_ n1_ n2_ n3_; (try clear hb); (try clear hb2); (try clear hk); (try clear hi)))
      go_meet
      case rel => exact ⟨_, (true), (by first | rfl | (simp; done) | (simp [*]; done)), H', ⟨by first | omega | exact Nat.le_refl _⟩, ⟨by (with_reducible repeat (first | refine qn ?_ _ | refine qd ?_ | refine qa ?_ _)); exact BK385.out⟩, ⟨by (with_reducible repeat (first | refine qn ?_ _ | refine qd ?_ | refine qa ?_ _)); exact BK386.out⟩, ⟨by (with_reducible repeat (first | refine qn ?_ _ | refine qd ?_ | refine qa ?_ _)); exact BK387.out⟩, ⟨by repeat (first | (with_reducible first | exact HB.out | apply ea | apply en | apply ed | refine es ?_ GE385.out | refine es ?_ GE386.out | refine es ?_ GE387.out) | exact HB.out)⟩⟩
  case rest =>
    clear HC5
    try clear c1
    try clear c2
    try clear p2
    try clear c3
    try clear c5
    try clear c9
    try clear c10
    try clear c12
    try clear c13
    try clear c16
    try clear c19
    try clear c20
    try clear hcz14_0
    try clear hcz14_1
    try clear hcz17_0
    try clear hcz17_1
    try clear hcz21_0
    try clear hcz21_1
    try clear hfz14_0
    try clear hfz14_1
    try clear hfz17_0
    try clear hfz17_1
    try clear hfz21_0
    try clear hfz21_1
    obtain ⟨kq, x21_4, rfl, HA, HJ4, BK385, BK386, BK387, HB⟩ := hcut
    cases kq with
    | zero => exact absurd HA.out (by simp [strip_Splice.j0])
    | succ kj4 =>
      have H := HA.out
      clear HA
      simp only [strip_Splice.j0] at H
      by_cases c23 : x21_4 = true
      · subst c23
        have H1 : (some ((⟨#[]⟩ : ByteArray), ([] : List (S100)), 2)) = some (r1, r2, r3) := by rw [if_pos rfl] at H; exact H
        clear H
        have H := H1
        clear H1
        simp only [Option.some.injEq, Prod.mk.injEq] at H
        obtain ⟨rfl, rfl, rfl⟩ := H
        have hnb24 := NB387_385.out
        have hnc24 := NB385_387.out
        have hnb25 := NB387_386.out
        have hnc25 := NB386_387.out
        have hcz26_0 : wc.cell? ⟨gb387, 0, none⟩ = some (.string (⟨#[]⟩ : ByteArray)) := (bC BK387.out 0).trans rfl
        have hcz26_1 : wc.cell? ⟨gb387, 1, none⟩ = some (.slice none 0 0) := (bC BK387.out 1).trans rfl
        have hfz26_0 := bF BK387.out 0
        have hfz26_1 := bF BK387.out 1
        go_wp2
        refine bodyPost_ret (results_ct rfl _ _ gb387 51 #[.string (⟨#[]⟩ : ByteArray), .slice none 0 0] (0, 0) _ rfl (by (with_reducible repeat (first | refine qn ?_ _ | refine qd ?_ | refine qa ?_ _)); refine bU (cs := #[.string (⟨#[]⟩ : ByteArray), .slice none 0 0]) ?_ 1 _ rfl; (with_reducible repeat (first | refine qn ?_ _ | refine qd ?_ | refine qa ?_ _)); refine bU (cs := #[.string (⟨#[]⟩ : ByteArray), .slice none 0 0]) ?_ 0 _ rfl; (with_reducible repeat (first | refine qn ?_ _ | refine qd ?_ | refine qa ?_ _)); exact BK387.out) Try.underlying51 rfl (by kernel_rfl)) rfl ?_
        exact ⟨_, by first | rfl | (simp [errW_none, errW_some] <;> rfl) | (simp [*, errW_none, errW_some] <;> rfl), by first | exact Kd.R_nil _ _ _ _ _ | exact Kd.N_nil _ _ _ _ _ | exact Kd.V_nil _ _ _ _ _ | exact Kd.Q_nil _ _ _ _ _ | exact Kd.S_nil _ _ _ _ _, by repeat (first | (with_reducible first | exact HB.out | apply ea | apply en | apply ed | refine es ?_ GE385.out | refine es ?_ GE386.out | refine es ?_ GE387.out) | exact HB.out)⟩
      · replace c23 := Bool.eq_false_iff.mpr c23
        subst c23
        have H1 : ((runs_Splice.f kj4 l0_1 a1 a2 l3_1).bind fun bt390 => (if bt390.2 = 0 then (if 0 ≤ a1 then (if a1 ≤ (a0_0.size : Int) then (if (a0_0.extract 0 (a1 : Int).toNat).size + a3_0.size ≤ 9223372036854775807 then (if 0 ≤ a2 then (if a2 ≤ (a0_0.size : Int) then (if ((a0_0.extract 0 (a1 : Int).toNat) ++ a3_0).size + (a0_0.extract (a2 : Int).toNat a0_0.size).size ≤ 9223372036854775807 then (some (((a0_0.extract 0 (a1 : Int).toNat) ++ a3_0) ++ (a0_0.extract (a2 : Int).toNat a0_0.size), bt390.1, 0)) else (none)) else (none)) else (none)) else (none)) else (none)) else (none)) else (some ((⟨#[]⟩ : ByteArray), ([] : List (S100)), bt390.2)))) = some (r1, r2, r3) := by rw [if_neg (show ¬ (false = true) by decide)] at H; exact H
        clear H
        have H := H1
        clear H1
        replace H := Option.bind_eq_some_iff.mp H
        obtain ⟨⟨t390, t391⟩, A270, H⟩ := H
        replace H : (if t391 = 0 then (if 0 ≤ a1 then (if a1 ≤ (a0_0.size : Int) then (if (a0_0.extract 0 (a1 : Int).toNat).size + a3_0.size ≤ 9223372036854775807 then (if 0 ≤ a2 then (if a2 ≤ (a0_0.size : Int) then (if ((a0_0.extract 0 (a1 : Int).toNat) ++ a3_0).size + (a0_0.extract (a2 : Int).toNat a0_0.size).size ≤ 9223372036854775807 then (some (((a0_0.extract 0 (a1 : Int).toNat) ++ a3_0) ++ (a0_0.extract (a2 : Int).toNat a0_0.size), t390, 0)) else (none)) else (none)) else (none)) else (none)) else (none)) else (none)) else (some ((⟨#[]⟩ : ByteArray), ([] : List (S100)), t391))) = some (r1, r2, r3) := H
        have A27 := aM A270
        clear A270
        by_cases c28 : t391 = 0
        · rw [if_pos c28] at H
          have c28b0 : (t391 == 0) = true := beq_iff_eq.mpr c28
          have c28b1 : (t391 != 0) = false := bne_eq_false_iff_eq.mpr c28
          clear c28
          by_cases c29 : 0 ≤ a1
          · rw [if_pos c29] at H
            have c29b0 := eq_true c29
            have c29b1 : decide (0 ≤ a1) = true := decide_eq_true c29
            clear c29
            by_cases c30 : a1 ≤ (a0_0.size : Int)
            · rw [if_pos c30] at H
              have c30b0 := eq_true c30
              have c30b1 : decide (a1 ≤ (a0_0.size : Int)) = true := decide_eq_true c30
              clear c30
              by_cases c31 : (a0_0.extract 0 (a1 : Int).toNat).size + a3_0.size ≤ 9223372036854775807
              · rw [if_pos c31] at H
                have c31b0 := eq_true c31
                have c31b1 : decide ((a0_0.extract 0 (a1 : Int).toNat).size + a3_0.size ≤ 9223372036854775807) = true := decide_eq_true c31
                try have c31b2 : (9223372036854775807 < (a0_0.extract 0 (a1 : Int).toNat).size + a3_0.size) = False := eq_false (Nat.not_lt.2 c31)
                try (have c31c_ := c31; simp [go_sem, c29b0, c30b0] at c31c_; have c31d_ := eq_false (Nat.not_lt.2 c31c_); clear c31c_)
                by_cases c32 : 0 ≤ a2
                · rw [if_pos c32] at H
                  have c32b0 := eq_true c32
                  have c32b1 : decide (0 ≤ a2) = true := decide_eq_true c32
                  clear c32
                  by_cases c33 : a2 ≤ (a0_0.size : Int)
                  · rw [if_pos c33] at H
                    have c33b0 := eq_true c33
                    have c33b1 : decide (a2 ≤ (a0_0.size : Int)) = true := decide_eq_true c33
                    clear c33
                    by_cases c34 : ((a0_0.extract 0 (a1 : Int).toNat) ++ a3_0).size + (a0_0.extract (a2 : Int).toNat a0_0.size).size ≤ 9223372036854775807
                    · rw [if_pos c34] at H
                      have c34b0 := eq_true c34
                      have c34b1 : decide (((a0_0.extract 0 (a1 : Int).toNat) ++ a3_0).size + (a0_0.extract (a2 : Int).toNat a0_0.size).size ≤ 9223372036854775807) = true := decide_eq_true c34
                      try have c34b2 : (9223372036854775807 < ((a0_0.extract 0 (a1 : Int).toNat) ++ a3_0).size + (a0_0.extract (a2 : Int).toNat a0_0.size).size) = False := eq_false (Nat.not_lt.2 c34)
                      try (have c34c_ := c34; simp [go_sem, c29b0, c30b0, c31b0, c32b0, c33b0] at c34c_; have c34d_ := eq_false (Nat.not_lt.2 c34c_); clear c34c_)
                      simp only [Option.some.injEq, Prod.mk.injEq] at H
                      obtain ⟨rfl, rfl, rfl⟩ := H
                      have hnb35 := NB385_386.out
                      have hnc35 := NB386_385.out
                      have hnb36 := NB385_387.out
                      have hnc36 := NB387_385.out
                      have hcz37_0 : wc.cell? ⟨gb385, 0, none⟩ = some (.string a0_0) := (bC BK385.out 0).trans rfl
                      have hcz37_1 : wc.cell? ⟨gb385, 1, none⟩ = some (.slice A0_1 l0_1.length c0_1) := (bC BK385.out 1).trans rfl
                      have hfz37_0 := bF BK385.out 0
                      have hfz37_1 := bF BK385.out 1
                      have hnb38 := NB386_387.out
                      have hnc38 := NB387_386.out
                      have hcz39_0 : wc.cell? ⟨gb386, 0, none⟩ = some (.string a3_0) := (bC BK386.out 0).trans rfl
                      have hcz39_1 : wc.cell? ⟨gb386, 1, none⟩ = some (.slice A3_1 l3_1.length c3_1) := (bC BK386.out 1).trans rfl
                      have hfz39_0 := bF BK386.out 0
                      have hfz39_1 := bF BK386.out 1
                      try go_wp2_with (first | ((with_reducible refine gate_callee (f := 40) rfl ?_); refine goesL_ (some 30) rfl rfl Try.func40 (by kernel_rfl) rfl #[.slice A0_1 l0_1.length c0_1, .int .i64 a1, .int .i64 a2, .slice A3_1 l3_1.length c3_1] rfl (by (try simp only [List.map_toArray, List.map_cons, List.map_nil]); first | done | rfl | (simp only [List.length_drop, List.length_take]; rfl)) ?_; (with_reducible refine (runs_Splice.calls kj4 _ _ l0_1 a1 a2 _ _ l3_1 t390 t391 _ ?side1 ?side2 ?side3 ?side4 A27.out).mono ?_); (case side1 => repeat (first | exact (cB_ HR0_1.out HB.out) | (with_reducible refine Kd.C_alloc ?_ _) | (with_reducible refine Kd.C_drewN ?_ _) | (with_reducible refine Kd.C_drew ?_))); (case side2 => exact HC0_1.out); (case side3 => repeat (first | exact (cB_ HR3_1.out HB.out) | (with_reducible refine Kd.C_alloc ?_ _) | (with_reducible refine Kd.C_drewN ?_ _) | (with_reducible refine Kd.C_drew ?_))); (case side4 => exact HC3_1.out); rintro e w40 ⟨v392, rfl, ho0, hb⟩; refine ⟨_, rfl, ?_⟩; have n0_ := aM (rL ho0 (bZ (by repeat (first | (with_reducible first | exact HB.out | apply ea | apply en | apply ed | refine es ?_ GE385.out | refine es ?_ GE386.out | refine es ?_ GE387.out) | exact HB.out)))); have n1_ := aM (bB (g := gb385) (o := .cells #[.string a0_0, .slice A0_1 l0_1.length c0_1] 51 (0, 0)) (by (with_reducible repeat (first | refine qn ?_ _ | refine qd ?_ | refine qa ?_ _)); exact BK385.out) hb); have n2_ := aM (bB (g := gb386) (o := .cells #[.string a3_0, .slice A3_1 l3_1.length c3_1] 51 (0, 0)) (by (with_reducible repeat (first | refine qn ?_ _ | refine qd ?_ | refine qa ?_ _)); exact BK386.out) hb); have n3_ := aM (bB (g := gb387) (o := .cells #[.string (⟨#[]⟩ : ByteArray), .slice none 0 0] 51 (0, 0)) (by (with_reducible repeat (first | refine qn ?_ _ | refine qd ?_ | refine qa ?_ _)); exact BK387.out) hb); have n4_ := aM (bP (by repeat (first | (with_reducible first | exact HB.out | apply ea | apply en | apply ed | refine es ?_ GE385.out | refine es ?_ GE386.out | refine es ?_ GE387.out) | exact HB.out)) hb); clear BK385; clear BK386; clear BK387; clear HB; have HO393 := n0_; have BK385 := n1_; have BK386 := n2_; have BK387 := n3_; have HB := n4_; clear n0_ n1_ n2_ n3_ n4_; (try clear hb); (try clear hb2); (try clear hk); (try clear hi); (try clear ho0)))
                      have n0_ := aM (Kd.R_drew HO393.out)
                      have n1_ := aM (blk_drew BK385.out)
                      have n2_ := aM (blk_drew BK386.out)
                      have n3_ := aM (blk_drew BK387.out)
                      have n4_ := aM (below_drew1 HB.out)
                      clear HO393
                      clear BK385
                      clear BK386
                      clear BK387
                      clear HB
                      have HO393 := n0_
                      have BK385 := n1_
                      have BK386 := n2_
                      have BK387 := n3_
                      have HB := n4_
                      clear n0_ n1_ n2_ n3_ n4_
                      obtain ⟨Ao42, co42, eo42⟩ := Kd.R_slice HO393.out
                      (first | subst eo42 | (injection eo42 with f1_ f2_ f3_; have f4_ := f1_.symm; have f5_ := f3_.symm; clear f1_ f2_ f3_; subst f4_; subst f5_))
                      refine start_ (n := 16) (S := fun w' => w'.cell? ⟨gb385, 0, none⟩ = some (.string a0_0) ∧ w'.cell? ⟨gb385, 1, none⟩ = some (.slice A0_1 l0_1.length c0_1) ∧ w'.cell? ⟨gb386, 0, none⟩ = some (.string a3_0) ∧ w'.cell? ⟨gb386, 1, none⟩ = some (.slice A3_1 l3_1.length c3_1)) (ds := []) #[false, false, false, false, false, false, false, false, false, false, false, false, false, false, false, false] (by kernel_rfl) rfl rfl ⟨(bC BK385.out 0).trans rfl, (bC BK385.out 1).trans rfl, (bC BK386.out 0).trans rfl, (bC BK386.out 1).trans rfl⟩ (fun hHeld => ?_); refine with_tabW strip_Splice.tab6 strip_Splice.bits6 (fun HT_ HW_ => ?_)
                      generalize w40.drew = w41 at HO393 BK385 BK386 BK387 HB hHeld ⊢
                      refine pure_ (i := 0) (N := some 37) (v := ?_) (a' := ?_) #[true, false, false, false, false, false, false, false, false, false, false, false, false, false, false, false] rfl rfl (any_of HT_.out (by kernel_rfl)) (fun _ _ _ h => h) (Or.inl ⟨by rfl, ?_⟩) ?_ ?_
                      rotate_left
                      · intro w'
                        go_simp
                        with_reducible rfl
                      rotate_left
                      · simp only [Act.put, List.setIfInBounds_toArray, List.set_cons_zero, List.set_cons_succ, i64_w, i32_w]
                        rfl
                      refine pure_ (i := 2) (N := some 39) (v := ?_) (a' := ?_) #[true, false, true, false, false, false, false, false, false, false, false, false, false, false, false, false] rfl rfl (any_of HT_.out (by kernel_rfl)) (fun _ _ _ h => h) (Or.inl ⟨by rfl, ?_⟩) ?_ ?_
                      rotate_left
                      · intro w'
                        go_simp
                        with_reducible rfl
                      rotate_left
                      · simp only [Act.put, List.setIfInBounds_toArray, List.set_cons_zero, List.set_cons_succ, i64_w, i32_w]
                        rfl
                      refine pure_ (i := 4) (N := some 41) (v := ?_) (a' := ?_) #[true, false, true, false, true, false, false, false, false, false, false, false, false, false, false, false] rfl rfl (any_of HT_.out (by kernel_rfl)) (fun _ _ _ h => h) (Or.inl ⟨by rfl, ?_⟩) ?_ ?_
                      rotate_left
                      · intro w'
                        go_simp
                        with_reducible rfl
                      rotate_left
                      · simp only [Act.put, List.setIfInBounds_toArray, List.set_cons_zero, List.set_cons_succ, i64_w, i32_w]
                        rfl
                      refine pure_ (i := 7) (N := some 44) (v := ?_) (a' := ?_) #[true, false, true, false, true, false, false, true, false, false, false, false, false, false, false, false] rfl rfl (any_of HT_.out (by kernel_rfl)) (fun _ _ _ h => h) (Or.inl ⟨by rfl, ?_⟩) ?_ ?_
                      rotate_left
                      · intro w'
                        go_simp
                        with_reducible rfl
                      rotate_left
                      · simp only [Act.put, List.setIfInBounds_toArray, List.set_cons_zero, List.set_cons_succ, i64_w, i32_w]
                        rfl
                      refine pure_ (i := 9) (N := some 46) (v := ?_) (a' := ?_) #[true, false, true, false, true, false, false, true, false, true, false, false, false, false, false, false] rfl rfl (any_of HT_.out (by kernel_rfl)) (fun _ _ _ h => h) (Or.inl ⟨by rfl, ?_⟩) ?_ ?_
                      rotate_left
                      · intro w'
                        go_simp
                        with_reducible rfl
                      rotate_left
                      · simp only [Act.put, List.setIfInBounds_toArray, List.set_cons_zero, List.set_cons_succ, i64_w, i32_w]
                        rfl
                      refine pure_ (i := 12) (N := some 49) (v := ?_) (a' := ?_) #[true, false, true, false, true, false, false, true, false, true, false, false, true, false, false, false] rfl rfl (any_of HT_.out (by kernel_rfl)) (fun _ _ _ h => h) (Or.inl ⟨by rfl, ?_⟩) ?_ ?_
                      rotate_left
                      · intro w'
                        go_simp
                        with_reducible rfl
                      rotate_left
                      · simp only [Act.put, List.setIfInBounds_toArray, List.set_cons_zero, List.set_cons_succ, i64_w, i32_w]
                        rfl
                      refine take_ (i := 1) (N := some 38) (v := ?_) (a' := ?_) #[true, true, true, false, true, false, false, true, false, true, false, false, true, false, false, false] rfl rfl (take_ofW HT_.out HW_.out (by kernel_rfl)) (fun _ _ _ h => h) (Or.inl ⟨by rfl, ?_⟩) hHeld ?_ ?_
                      rotate_left
                      · rintro w' ⟨s0, s1, s2, s3⟩
                        go_simp
                        with_reducible rfl
                      rotate_left
                      · simp only [Act.put, List.setIfInBounds_toArray, List.set_cons_zero, List.set_cons_succ, i64_w, i32_w]
                        rfl
                      refine pure_ (i := 3) (N := some 40) (v := ?_) (a' := ?_) #[true, true, true, true, true, false, false, true, false, true, false, false, true, false, false, false] rfl rfl (any_of HT_.out (by kernel_rfl)) (fun _ _ _ h => h) (Or.inl ⟨by rfl, ?_⟩) ?_ ?_
                      rotate_left
                      · intro w'
                        go_simp
                        with_reducible rfl
                      rotate_left
                      · simp only [Act.put, List.setIfInBounds_toArray, List.set_cons_zero, List.set_cons_succ, i64_w, i32_w]
                        rfl
                      refine take_ (i := 5) (N := some 42) (v := ?_) (a' := ?_) #[true, true, true, true, true, true, false, true, false, true, false, false, true, false, false, false] rfl rfl (take_ofW HT_.out HW_.out (by kernel_rfl)) (fun _ _ _ h => h) (Or.inl ⟨by rfl, ?_⟩) hHeld ?_ ?_
                      rotate_left
                      · rintro w' ⟨s0, s1, s2, s3⟩
                        go_simp
                        with_reducible rfl
                      rotate_left
                      · simp only [Act.put, List.setIfInBounds_toArray, List.set_cons_zero, List.set_cons_succ, i64_w, i32_w]
                        rfl
                      refine pure_ (i := 6) (N := some 43) (v := ?_) (a' := ?_) #[true, true, true, true, true, true, true, true, false, true, false, false, true, false, false, false] rfl rfl (any_of HT_.out (by kernel_rfl)) (fun _ _ _ h => h) (Or.inl ⟨by rfl, ?_⟩) ?_ ?_
                      rotate_left
                      · intro w'
                        go_simp
                        with_reducible rfl
                      rotate_left
                      · simp only [Act.put, List.setIfInBounds_toArray, List.set_cons_zero, List.set_cons_succ, i64_w, i32_w]
                        rfl
                      refine take_ (i := 8) (N := some 45) (v := ?_) (a' := ?_) #[true, true, true, true, true, true, true, true, true, true, false, false, true, false, false, false] rfl rfl (take_ofW HT_.out HW_.out (by kernel_rfl)) (fun _ _ _ h => h) (Or.inl ⟨by rfl, ?_⟩) hHeld ?_ ?_
                      rotate_left
                      · rintro w' ⟨s0, s1, s2, s3⟩
                        go_simp
                        with_reducible rfl
                      rotate_left
                      · simp only [Act.put, List.setIfInBounds_toArray, List.set_cons_zero, List.set_cons_succ, i64_w, i32_w]
                        rfl
                      refine pure_ (i := 10) (N := some 47) (v := ?_) (a' := ?_) #[true, true, true, true, true, true, true, true, true, true, true, false, true, false, false, false] rfl rfl (any_of HT_.out (by kernel_rfl)) (fun _ _ _ h => h) (Or.inl ⟨by rfl, ?_⟩) ?_ ?_
                      rotate_left
                      · intro w'
                        go_simp
                        with_reducible rfl
                      rotate_left
                      · simp only [Act.put, List.setIfInBounds_toArray, List.set_cons_zero, List.set_cons_succ, i64_w, i32_w]
                        rfl
                      refine pure_ (i := 11) (N := some 48) (v := ?_) (a' := ?_) #[true, true, true, true, true, true, true, true, true, true, true, true, true, false, false, false] rfl rfl (any_of HT_.out (by kernel_rfl)) (fun _ _ _ h => h) (Or.inl ⟨by rfl, ?_⟩) ?_ ?_
                      rotate_left
                      · intro w'
                        go_simp
                        with_reducible rfl
                      rotate_left
                      · simp only [Act.put, List.setIfInBounds_toArray, List.set_cons_zero, List.set_cons_succ, i64_w, i32_w]
                        rfl
                      refine pure_ (i := 13) (N := some 50) (v := ?_) (a' := ?_) #[true, true, true, true, true, true, true, true, true, true, true, true, true, true, false, false] rfl rfl (any_of HT_.out (by kernel_rfl)) (fun _ _ _ h => h) (Or.inl ⟨by rfl, ?_⟩) ?_ ?_
                      rotate_left
                      · intro w'
                        go_simp
                        with_reducible rfl
                      rotate_left
                      · simp only [Act.put, List.setIfInBounds_toArray, List.set_cons_zero, List.set_cons_succ, i64_w, i32_w]
                        rfl
                      refine one_ (i := 14) (N := none) #[true, true, true, true, true, true, true, true, true, true, true, true, true, true, true, false] rfl rfl (one_of HT_.out (by kernel_rfl)) (by decide) (fun K hK => ?_)
                      have hs43 : w41.cell? ⟨gb387, 0, none⟩ = some (.string (⟨#[]⟩ : ByteArray)) := (bC BK387.out 0).trans rfl
                      have hfs43 := bF BK387.out 0
                      have hns43_0 := NB385_387.out
                      have hns43_1 := NB386_387.out
                      have hms43_0 := NB387_385.out
                      have hms43_1 := NB387_386.out
                      have hs44 : w41.cell? ⟨gb387, 1, none⟩ = some (.slice none 0 0) := (bC BK387.out 1).trans rfl
                      have hfs44 := bF BK387.out 1
                      have hns44_0 := NB385_387.out
                      have hns44_1 := NB386_387.out
                      have hms44_0 := NB387_385.out
                      have hms44_1 := NB387_386.out
                      refine skip_ (w1 := ?_) (by rfl) rfl ?_ ?_
                      rotate_left
                      · go_simp
                        rfl
                      refine hK.out _ _ ⟨((cell_far (p := ⟨gb387, _, none⟩) NB385_387.out _).trans (((cell_far (p := ⟨gb387, _, none⟩) NB385_387.out _).trans (hHeld.1)))), ((cell_far (p := ⟨gb387, _, none⟩) NB385_387.out _).trans (((cell_far (p := ⟨gb387, _, none⟩) NB385_387.out _).trans (hHeld.2.1)))), ((cell_far (p := ⟨gb387, _, none⟩) NB386_387.out _).trans (((cell_far (p := ⟨gb387, _, none⟩) NB386_387.out _).trans (hHeld.2.2.1)))), ((cell_far (p := ⟨gb387, _, none⟩) NB386_387.out _).trans (((cell_far (p := ⟨gb387, _, none⟩) NB386_387.out _).trans (hHeld.2.2.2))))⟩ (fun hHeld => ?_)
                      clear hK K
                      refine pure_ (i := 15) (N := some 9) (v := ?_) (a' := ?_) #[true, true, true, true, true, true, true, true, true, true, true, true, true, true, true, true] rfl rfl (any_of HT_.out (by kernel_rfl)) (fun _ _ _ h => h) (Or.inl ⟨by rfl, ?_⟩) ?_ ?_
                      rotate_left
                      · intro w'
                        go_simp
                        with_reducible rfl
                      rotate_left
                      · simp only [Act.put, List.setIfInBounds_toArray, List.set_cons_zero, List.set_cons_succ, i64_w, i32_w]
                        rfl
                      refine done_ (done_of HT_.out (by kernel_rfl)) ?_
                      try go_wp2
                      refine bodyPost_ret (results_ct rfl _ _ gb387 51 #[.string (((a0_0.extract 0 (a1 : Int).toNat) ++ a3_0) ++ (a0_0.extract (a2 : Int).toNat a0_0.size)), .slice Ao42 t390.length co42] (0, 0) _ rfl (by (with_reducible repeat (first | refine qn ?_ _ | refine qd ?_ | refine qa ?_ _)); refine bU (cs := #[.string (((a0_0.extract 0 (a1 : Int).toNat) ++ a3_0) ++ (a0_0.extract (a2 : Int).toNat a0_0.size)), .slice none 0 0]) ?_ 1 _ rfl; (with_reducible repeat (first | refine qn ?_ _ | refine qd ?_ | refine qa ?_ _)); refine bU (cs := #[.string (⟨#[]⟩ : ByteArray), .slice none 0 0]) ?_ 0 _ rfl; (with_reducible repeat (first | refine qn ?_ _ | refine qd ?_ | refine qa ?_ _)); exact BK387.out) Try.underlying51 rfl (by kernel_rfl)) rfl ?_
                      exact ⟨_, by first | rfl | (simp [errW_none, errW_some] <;> rfl) | (simp [*, errW_none, errW_some] <;> rfl), by (with_reducible repeat (first | apply ra | apply rn | apply rd_)); exact rM (rF (p := ⟨gb387, 1, none⟩) (rF (p := ⟨gb387, 0, none⟩) (rT HO393.out BK387.out (by decide)) (fun _ hk => hk.2) (.string (((a0_0.extract 0 (a1 : Int).toNat) ++ a3_0) ++ (a0_0.extract (a2 : Int).toNat a0_0.size)))) (fun _ hk => hk.2) (.slice Ao42 t390.length co42)) (fun _ hk => trivial), by repeat (first | (with_reducible first | exact HB.out | apply ea | apply en | apply ed | refine es ?_ GE385.out | refine es ?_ GE386.out | refine es ?_ GE387.out) | exact HB.out)⟩
                    · rw [if_neg c34] at H
                      exact absurd H (by simp)
                  · rw [if_neg c33] at H
                    exact absurd H (by simp)
                · rw [if_neg c32] at H
                  exact absurd H (by simp)
              · rw [if_neg c31] at H
                exact absurd H (by simp)
            · rw [if_neg c30] at H
              exact absurd H (by simp)
          · rw [if_neg c29] at H
            exact absurd H (by simp)
        · rw [if_neg c28] at H
          have c28b0 : (t391 == 0) = false := beq_eq_false_iff_ne.mpr c28
          have c28b1 : (t391 != 0) = true := bne_iff_ne.mpr c28
          simp only [Option.some.injEq, Prod.mk.injEq] at H
          obtain ⟨rfl, rfl, rfl⟩ := H
          have hnb45 := NB385_386.out
          have hnc45 := NB386_385.out
          have hnb46 := NB385_387.out
          have hnc46 := NB387_385.out
          have hcz47_0 : wc.cell? ⟨gb385, 0, none⟩ = some (.string a0_0) := (bC BK385.out 0).trans rfl
          have hcz47_1 : wc.cell? ⟨gb385, 1, none⟩ = some (.slice A0_1 l0_1.length c0_1) := (bC BK385.out 1).trans rfl
          have hfz47_0 := bF BK385.out 0
          have hfz47_1 := bF BK385.out 1
          have hnb48 := NB386_387.out
          have hnc48 := NB387_386.out
          have hcz49_0 : wc.cell? ⟨gb386, 0, none⟩ = some (.string a3_0) := (bC BK386.out 0).trans rfl
          have hcz49_1 : wc.cell? ⟨gb386, 1, none⟩ = some (.slice A3_1 l3_1.length c3_1) := (bC BK386.out 1).trans rfl
          have hfz49_0 := bF BK386.out 0
          have hfz49_1 := bF BK386.out 1
          go_wp2_with (first | ((with_reducible refine gate_callee (f := 40) rfl ?_); refine goesL_ (some 30) rfl rfl Try.func40 (by kernel_rfl) rfl #[.slice A0_1 l0_1.length c0_1, .int .i64 a1, .int .i64 a2, .slice A3_1 l3_1.length c3_1] rfl (by (try simp only [List.map_toArray, List.map_cons, List.map_nil]); first | done | rfl | (simp only [List.length_drop, List.length_take]; rfl)) ?_; (with_reducible refine (runs_Splice.calls kj4 _ _ l0_1 a1 a2 _ _ l3_1 t390 t391 _ ?side1 ?side2 ?side3 ?side4 A27.out).mono ?_); (case side1 => repeat (first | exact (cB_ HR0_1.out HB.out) | (with_reducible refine Kd.C_alloc ?_ _) | (with_reducible refine Kd.C_drewN ?_ _) | (with_reducible refine Kd.C_drew ?_))); (case side2 => exact HC0_1.out); (case side3 => repeat (first | exact (cB_ HR3_1.out HB.out) | (with_reducible refine Kd.C_alloc ?_ _) | (with_reducible refine Kd.C_drewN ?_ _) | (with_reducible refine Kd.C_drew ?_))); (case side4 => exact HC3_1.out); rintro e w50 ⟨v392, rfl, ho0, hb⟩; refine ⟨_, rfl, ?_⟩; have n0_ := aM (rL ho0 (bZ (by repeat (first | (with_reducible first | exact HB.out | apply ea | apply en | apply ed | refine es ?_ GE385.out | refine es ?_ GE386.out | refine es ?_ GE387.out) | exact HB.out)))); have n1_ := aM (bB (g := gb385) (o := .cells #[.string a0_0, .slice A0_1 l0_1.length c0_1] 51 (0, 0)) (by (with_reducible repeat (first | refine qn ?_ _ | refine qd ?_ | refine qa ?_ _)); exact BK385.out) hb); have n2_ := aM (bB (g := gb386) (o := .cells #[.string a3_0, .slice A3_1 l3_1.length c3_1] 51 (0, 0)) (by (with_reducible repeat (first | refine qn ?_ _ | refine qd ?_ | refine qa ?_ _)); exact BK386.out) hb); have n3_ := aM (bB (g := gb387) (o := .cells #[.string (⟨#[]⟩ : ByteArray), .slice none 0 0] 51 (0, 0)) (by (with_reducible repeat (first | refine qn ?_ _ | refine qd ?_ | refine qa ?_ _)); exact BK387.out) hb); have n4_ := aM (bP (by repeat (first | (with_reducible first | exact HB.out | apply ea | apply en | apply ed | refine es ?_ GE385.out | refine es ?_ GE386.out | refine es ?_ GE387.out) | exact HB.out)) hb); clear BK385; clear BK386; clear BK387; clear HB; have HO393 := n0_; have BK385 := n1_; have BK386 := n2_; have BK387 := n3_; have HB := n4_; clear n0_ n1_ n2_ n3_ n4_; (try clear hb); (try clear hb2); (try clear hk); (try clear hi); (try clear ho0); have hcz51_0 : w50.cell? ⟨gb387, 0, none⟩ = some (.string (⟨#[]⟩ : ByteArray)) := (bC BK387.out 0).trans rfl; have hcz51_1 : w50.cell? ⟨gb387, 1, none⟩ = some (.slice none 0 0) := (bC BK387.out 1).trans rfl; have hfz51_0 := bF BK387.out 0; have hfz51_1 := bF BK387.out 1))
          refine bodyPost_ret (results_ct rfl _ _ gb387 51 #[.string (⟨#[]⟩ : ByteArray), .slice none 0 0] (0, 0) _ rfl (by (with_reducible repeat (first | refine qn ?_ _ | refine qd ?_ | refine qa ?_ _)); refine bU (cs := #[.string (⟨#[]⟩ : ByteArray), .slice none 0 0]) ?_ 1 _ rfl; (with_reducible repeat (first | refine qn ?_ _ | refine qd ?_ | refine qa ?_ _)); refine bU (cs := #[.string (⟨#[]⟩ : ByteArray), .slice none 0 0]) ?_ 0 _ rfl; (with_reducible repeat (first | refine qn ?_ _ | refine qd ?_ | refine qa ?_ _)); exact BK387.out) Try.underlying51 rfl (by kernel_rfl)) rfl ?_
          exact ⟨_, by first | rfl | (simp [errW_none, errW_some] <;> rfl) | (simp [*, errW_none, errW_some] <;> rfl), by first | exact Kd.R_nil _ _ _ _ _ | exact Kd.N_nil _ _ _ _ _ | exact Kd.V_nil _ _ _ _ _ | exact Kd.Q_nil _ _ _ _ _ | exact Kd.S_nil _ _ _ _ _, by repeat (first | (with_reducible first | exact HB.out | apply ea | apply en | apply ed | refine es ?_ GE385.out | refine es ?_ GE386.out | refine es ?_ GE387.out) | exact HB.out)⟩
end Go.Proofs.Ythpjagblnddjaaa.PB
end

section
namespace Go.Proofs.Ythpjagblnddjaaa.PB
open Go.RowKit Go.Proofs.YthpjagblnddjaaaW.PrintWords Go.Proofs.YthpjagblnddjaaaW.PrintLast Go.Proofs.YthpjagblnddjaaaW.PrintMore
attribute [local go_sem] max2_int min2_int max_two min_two max_three min_three max_four min_four   
set_option linter.unusedVariables false
set_option linter.unusedSimpArgs false
def strip_Cut.f (k : Nat) (a0_0 : ByteArray) (l0_1 : List (S100)) (a1 : Int) (a2 : Int) : Option (ByteArray × (List (S100)) × Int) := (strip_within.f k a0_0 l0_1 a1 a2).bind fun t514 => (if t514 = true then ((runs_Slice.f k l0_1 a1 a2).bind fun bt515 => (if 0 ≤ a1 then (if a1 ≤ a2 then (if a2 ≤ (a0_0.size : Int) then (some (a0_0.extract (a1 : Int).toNat (a2 : Int).toNat, bt515.1, bt515.2)) else (none)) else (none)) else (none))) else (some ((⟨#[]⟩ : ByteArray), ([] : List (S100)), 2)))
theorem strip_Cut.mono : ∀ a0 a1 a2 a3 k, LeO (strip_Cut.f k a0 a1 a2 a3) (strip_Cut.f (k + 1) a0 a1 a2 a3) := by
  intro a0 a1 a2 a3 k
  unfold strip_Cut.f
  repeat' first
      | (with_reducible exact runs_Slice.mono _ _ _ _)
      | (with_reducible exact strip_within.mono _ _ _ _ _)
      | (with_reducible exact LeO.refl _)
      | (with_reducible exact LeO.none _)
      | (with_reducible refine LeO.ite ?_ ?_)
      | (with_reducible refine LeO.bind ?_ (fun _ => ?_))
      | exact runs_Slice.mono _ _ _ _
      | exact strip_within.mono _ _ _ _ _
      | exact LeO.none _
      | refine LeO.ite ?_ ?_
      | refine LeO.bind ?_ (fun _ => ?_)
set_option maxHeartbeats 8000000 in
set_option maxRecDepth 100000 in
theorem strip_Cut.calls (k : Nat) (a0_0 : ByteArray) (A0_1 : Option Addr) (c0_1 : Nat) (l0_1 : List (S100)) (a1 : Int) (a2 : Int) (r1 : ByteArray) (r2 : List (S100)) (r3 : Int) (w : World) (hr0_1 : Kd.C k100 w A0_1 l0_1.length l0_1) (hc0_1 : l0_1.length ≤ c0_1) (h : strip_Cut.f k a0_0 l0_1 a1 a2 = some (r1, r2, r3)) :
    Calls Try.prog 73 #[.agg #[.string a0_0, .slice A0_1 l0_1.length c0_1], .int .i64 a1, .int .i64 a2] w fun e w' => ∃ v1_ : Value, e = .returned (.tuple #[.agg #[.string r1, v1_], .int .i64 r3]) ∧ Kd.R k100 100 w' w.heap.size (fun _ => True) v1_ r2 ∧ Below w.heap.size w w' := by
  have hu51 := Try.underlying51
  have HR0_1 := aM hr0_1
  have HC0_1 := aM hc0_1
  clear hr0_1 hc0_1
  have HB := aM (Below.refl w.heap.size w)
  have H : ((strip_within.f k a0_0 l0_1 a1 a2).bind fun t514 => (if t514 = true then ((runs_Slice.f k l0_1 a1 a2).bind fun bt515 => (if 0 ≤ a1 then (if a1 ≤ a2 then (if a2 ≤ (a0_0.size : Int) then (some (a0_0.extract (a1 : Int).toNat (a2 : Int).toNat, bt515.1, bt515.2)) else (none)) else (none)) else (none))) else (some ((⟨#[]⟩ : ByteArray), ([] : List (S100)), 2)))) = some (r1, r2, r3) := h
  clear h
  replace H := Option.bind_eq_some_iff.mp H
  obtain ⟨t514, A40, H⟩ := H
  replace H : (if t514 = true then ((runs_Slice.f k l0_1 a1 a2).bind fun bt515 => (if 0 ≤ a1 then (if a1 ≤ a2 then (if a2 ≤ (a0_0.size : Int) then (some (a0_0.extract (a1 : Int).toNat (a2 : Int).toNat, bt515.1, bt515.2)) else (none)) else (none)) else (none))) else (some ((⟨#[]⟩ : ByteArray), ([] : List (S100)), 2))) = some (r1, r2, r3) := H
  have A4 := aM A40
  clear A40
  by_cases c5 : t514 = true
  · subst c5
    have H1 : ((runs_Slice.f k l0_1 a1 a2).bind fun bt515 => (if 0 ≤ a1 then (if a1 ≤ a2 then (if a2 ≤ (a0_0.size : Int) then (some (a0_0.extract (a1 : Int).toNat (a2 : Int).toNat, bt515.1, bt515.2)) else (none)) else (none)) else (none))) = some (r1, r2, r3) := by rw [if_pos rfl] at H; exact H
    clear H
    have H := H1
    clear H1
    replace H := Option.bind_eq_some_iff.mp H
    obtain ⟨⟨t515, t516⟩, A60, H⟩ := H
    replace H : (if 0 ≤ a1 then (if a1 ≤ a2 then (if a2 ≤ (a0_0.size : Int) then (some (a0_0.extract (a1 : Int).toNat (a2 : Int).toNat, t515, t516)) else (none)) else (none)) else (none)) = some (r1, r2, r3) := H
    have A6 := aM A60
    clear A60
    by_cases c7 : 0 ≤ a1
    · rw [if_pos c7] at H
      have c7b0 := eq_true c7
      have c7b1 : decide (0 ≤ a1) = true := decide_eq_true c7
      clear c7
      by_cases c8 : a1 ≤ a2
      · rw [if_pos c8] at H
        have c8b0 := eq_true c8
        have c8b1 : decide (a1 ≤ a2) = true := decide_eq_true c8
        clear c8
        by_cases c9 : a2 ≤ (a0_0.size : Int)
        · rw [if_pos c9] at H
          have c9b0 := eq_true c9
          have c9b1 : decide (a2 ≤ (a0_0.size : Int)) = true := decide_eq_true c9
          clear c9
          simp only [Option.some.injEq, Prod.mk.injEq] at H
          obtain ⟨rfl, rfl, rfl⟩ := H
          go_enter Try.func73, Try.ntmps73
          go_wp2_with (first | ((with_reducible refine gate_dst (N := 3) rfl ?_); refine box_event ?hg (N := 3) ?hd (cs := #[.string a0_0, .slice A0_1 l0_1.length c0_1]) (t := 51) ?hr ?_; (case hd => rfl); (case hg => rfl); (case hr => first | (go_simp; done) | (go_simp; rfl)); intro gb512 hg w10 hbox hb; have n0_ := aM (bP (by repeat (first | (with_reducible first | exact HB.out | apply ea | apply en | apply ed) | exact HB.out)) hb); have n1_ := aM (hbox); have n2_ := aM ((by rw [hg]; exact (bZ (by repeat (first | (with_reducible first | exact HB.out | apply ea | apply en | apply ed) | exact HB.out))) : w.heap.size ≤ gb512)); have n3_ := aM ((by rw [hg]; exact (bZ (by repeat (first | (with_reducible first | exact HB.out | apply ea | apply en | apply ed) | exact HB.out))) : w.heap.size ≤ gb512)); clear HB; have HB := n0_; have BK512 := n1_; have GW512 := n2_; have GE512 := n3_; clear n0_ n1_ n2_ n3_; clear hb hbox hg) | ((with_reducible refine gate_dst (N := 6) rfl ?_); refine box_event ?hg (N := 6) ?hd (cs := #[.string (⟨#[]⟩ : ByteArray), .slice none 0 0]) (t := 51) ?hr ?_; (case hd => rfl); (case hg => rfl); (case hr => first | (go_simp; done) | (go_simp; rfl)); intro gb513 hg w11 hbox hb; have n0_ := aM (bB (g := gb512) (o := .cells #[.string a0_0, .slice A0_1 l0_1.length c0_1] 51 (0, 0)) (by (with_reducible repeat (first | refine qn ?_ _ | refine qd ?_ | refine qa ?_ _)); exact BK512.out) hb); have n1_ := aM (bP (by repeat (first | (with_reducible first | exact HB.out | apply ea | apply en | apply ed | refine es ?_ GE512.out) | exact HB.out)) hb); have n2_ := aM (hbox); have n3_ := aM ((by rw [hg]; exact (bZ (by repeat (first | (with_reducible first | exact HB.out | apply ea | apply en | apply ed | refine es ?_ GE512.out) | exact HB.out))) : w.heap.size ≤ gb513)); have n4_ := aM ((by rw [hg]; exact (bZ (by repeat (first | (with_reducible first | exact HB.out | apply ea | apply en | apply ed | refine es ?_ GE512.out) | exact HB.out))) : w.heap.size ≤ gb513)); have n5_ := aM ((by rw [hg]; exact Nat.ne_of_lt (blk_lt (g := gb512) (o := .cells #[.string a0_0, .slice A0_1 l0_1.length c0_1] 51 (0, 0)) (by (with_reducible repeat (first | refine qn ?_ _ | refine qd ?_ | refine qa ?_ _)); exact BK512.out)) : gb512 ≠ gb513)); have n6_ := aM ((by rw [hg]; exact Nat.ne_of_gt (blk_lt (g := gb512) (o := .cells #[.string a0_0, .slice A0_1 l0_1.length c0_1] 51 (0, 0)) (by (with_reducible repeat (first | refine qn ?_ _ | refine qd ?_ | refine qa ?_ _)); exact BK512.out)) : gb513 ≠ gb512)); clear BK512; clear HB; have BK512 := n0_; have HB := n1_; have BK513 := n2_; have GW513 := n3_; have GE513 := n4_; have NB512_513 := n5_; have NB513_512 := n6_; clear n0_ n1_ n2_ n3_ n4_ n5_ n6_; clear hb hbox hg; have hnb12 := NB512_513.out; have hnc12 := NB513_512.out; have hcz13_0 : w11.cell? ⟨gb512, 0, none⟩ = some (.string a0_0) := (bC BK512.out 0).trans rfl; have hcz13_1 : w11.cell? ⟨gb512, 1, none⟩ = some (.slice A0_1 l0_1.length c0_1) := (bC BK512.out 1).trans rfl; have hfz13_0 := bF BK512.out 0; have hfz13_1 := bF BK512.out 1) | ((with_reducible refine gate_callee (f := 95) rfl ?_); refine goesL_ (some 13) rfl rfl Try.func95 (by kernel_rfl) rfl #[.agg #[.string a0_0, .slice A0_1 l0_1.length c0_1], .int .i64 a1, .int .i64 a2] rfl (by (try simp only [List.map_toArray, List.map_cons, List.map_nil]); first | done | rfl | (simp only [List.length_drop, List.length_take]; rfl)) ?_; (with_reducible refine (strip_within.calls k a0_0 _ _ l0_1 a1 a2 true _ ?side1 ?side2 A4.out).mono ?_); (case side1 => repeat (first | exact (cB_ HR0_1.out HB.out) | (with_reducible refine Kd.C_alloc ?_ _) | (with_reducible refine Kd.C_drewN ?_ _) | (with_reducible refine Kd.C_drew ?_))); (case side2 => exact HC0_1.out); rintro e w14 ⟨rfl, hb⟩; refine ⟨_, rfl, ?_⟩; have n0_ := aM (bB (g := gb512) (o := .cells #[.string a0_0, .slice A0_1 l0_1.length c0_1] 51 (0, 0)) (by (with_reducible repeat (first | refine qn ?_ _ | refine qd ?_ | refine qa ?_ _)); exact BK512.out) hb); have n1_ := aM (bB (g := gb513) (o := .cells #[.string (⟨#[]⟩ : ByteArray), .slice none 0 0] 51 (0, 0)) (by (with_reducible repeat (first | refine qn ?_ _ | refine qd ?_ | refine qa ?_ _)); exact BK513.out) hb); have n2_ := aM (bP (by repeat (first | (with_reducible first | exact HB.out | apply ea | apply en | apply ed | refine es ?_ GE512.out | refine es ?_ GE513.out) | exact HB.out)) hb); clear BK512; clear BK513; clear HB; have BK512 := n0_; have BK513 := n1_; have HB := n2_; clear n0_ n1_ n2_; (try clear hb); (try clear hb2); (try clear hk); (try clear hi); have hcz15_0 : w14.cell? ⟨gb512, 0, none⟩ = some (.string a0_0) := (bC BK512.out 0).trans rfl; have hcz15_1 : w14.cell? ⟨gb512, 1, none⟩ = some (.slice A0_1 l0_1.length c0_1) := (bC BK512.out 1).trans rfl; have hfz15_0 := bF BK512.out 0; have hfz15_1 := bF BK512.out 1) | ((with_reducible refine gate_callee (f := 32) rfl ?_); refine goesL_ (some 21) rfl rfl Try.func32 (by kernel_rfl) rfl #[.slice A0_1 l0_1.length c0_1, .int .i64 a1, .int .i64 a2] rfl (by (try simp only [List.map_toArray, List.map_cons, List.map_nil]); first | done | rfl | (simp only [List.length_drop, List.length_take]; rfl)) ?_; (with_reducible refine (runs_Slice.calls k _ _ l0_1 a1 a2 t515 t516 _ ?side1 ?side2 A6.out).mono ?_); (case side1 => repeat (first | exact (cB_ HR0_1.out HB.out) | (with_reducible refine Kd.C_alloc ?_ _) | (with_reducible refine Kd.C_drewN ?_ _) | (with_reducible refine Kd.C_drew ?_))); (case side2 => exact HC0_1.out); rintro e w16 ⟨v517, rfl, ho0, hb⟩; refine ⟨_, rfl, ?_⟩; have n0_ := aM (rL ho0 (bZ (by repeat (first | (with_reducible first | exact HB.out | apply ea | apply en | apply ed | refine es ?_ GE512.out | refine es ?_ GE513.out) | exact HB.out)))); have n1_ := aM (bB (g := gb512) (o := .cells #[.string a0_0, .slice A0_1 l0_1.length c0_1] 51 (0, 0)) (by (with_reducible repeat (first | refine qn ?_ _ | refine qd ?_ | refine qa ?_ _)); exact BK512.out) hb); have n2_ := aM (bB (g := gb513) (o := .cells #[.string (⟨#[]⟩ : ByteArray), .slice none 0 0] 51 (0, 0)) (by (with_reducible repeat (first | refine qn ?_ _ | refine qd ?_ | refine qa ?_ _)); exact BK513.out) hb); have n3_ := aM (bP (by repeat (first | (with_reducible first | exact HB.out | apply ea | apply en | apply ed | refine es ?_ GE512.out | refine es ?_ GE513.out) | exact HB.out)) hb); clear BK512; clear BK513; clear HB; have HO518 := n0_; have BK512 := n1_; have BK513 := n2_; have HB := n3_; clear n0_ n1_ n2_ n3_; (try clear hb); (try clear hb2); (try clear hk); (try clear hi); (try clear ho0); have hcz17_0 : w16.cell? ⟨gb512, 0, none⟩ = some (.string a0_0) := (bC BK512.out 0).trans rfl; have hcz17_1 : w16.cell? ⟨gb512, 1, none⟩ = some (.slice A0_1 l0_1.length c0_1) := (bC BK512.out 1).trans rfl; have hfz17_0 := bF BK512.out 0; have hfz17_1 := bF BK512.out 1; obtain ⟨Ao18, co18, eo18⟩ := Kd.R_slice HO518.out; subst eo18; have hcz19_0 : w16.cell? ⟨gb513, 0, none⟩ = some (.string (⟨#[]⟩ : ByteArray)) := (bC BK513.out 0).trans rfl; have hcz19_1 : w16.cell? ⟨gb513, 1, none⟩ = some (.slice none 0 0) := (bC BK513.out 1).trans rfl; have hfz19_0 := bF BK513.out 0; have hfz19_1 := bF BK513.out 1))
          refine bodyPost_ret (results_ct rfl _ _ gb513 51 #[.string (a0_0.extract (a1 : Int).toNat (a2 : Int).toNat), .slice Ao18 t515.length co18] (0, 0) _ rfl (by (with_reducible repeat (first | refine qn ?_ _ | refine qd ?_ | refine qa ?_ _)); refine bU (cs := #[.string (a0_0.extract (a1 : Int).toNat (a2 : Int).toNat), .slice none 0 0]) ?_ 1 _ rfl; (with_reducible repeat (first | refine qn ?_ _ | refine qd ?_ | refine qa ?_ _)); refine bU (cs := #[.string (⟨#[]⟩ : ByteArray), .slice none 0 0]) ?_ 0 _ rfl; (with_reducible repeat (first | refine qn ?_ _ | refine qd ?_ | refine qa ?_ _)); exact BK513.out) Try.underlying51 rfl (by kernel_rfl)) rfl ?_
          exact ⟨_, by first | rfl | (simp [errW_none, errW_some] <;> rfl) | (simp [*, errW_none, errW_some] <;> rfl), by (with_reducible repeat (first | apply ra | apply rn | apply rd_)); exact rM (rF (p := ⟨gb513, 1, none⟩) (rF (p := ⟨gb513, 0, none⟩) (rT HO518.out BK513.out (by decide)) (fun _ hk => hk.2) (.string (a0_0.extract (a1 : Int).toNat (a2 : Int).toNat))) (fun _ hk => hk.2) (.slice Ao18 t515.length co18)) (fun _ hk => trivial), by repeat (first | (with_reducible first | exact HB.out | apply ea | apply en | apply ed | refine es ?_ GE512.out | refine es ?_ GE513.out) | exact HB.out)⟩
        · rw [if_neg c9] at H
          exact absurd H (by simp)
      · rw [if_neg c8] at H
        exact absurd H (by simp)
    · rw [if_neg c7] at H
      exact absurd H (by simp)
  · replace c5 := Bool.eq_false_iff.mpr c5
    subst c5
    have H1 : (some ((⟨#[]⟩ : ByteArray), ([] : List (S100)), 2)) = some (r1, r2, r3) := by rw [if_neg (show ¬ (false = true) by decide)] at H; exact H
    clear H
    have H := H1
    clear H1
    simp only [Option.some.injEq, Prod.mk.injEq] at H
    obtain ⟨rfl, rfl, rfl⟩ := H
    go_enter Try.func73, Try.ntmps73
    go_wp2_with (first | ((with_reducible refine gate_dst (N := 3) rfl ?_); refine box_event ?hg (N := 3) ?hd (cs := #[.string a0_0, .slice A0_1 l0_1.length c0_1]) (t := 51) ?hr ?_; (case hd => rfl); (case hg => rfl); (case hr => first | (go_simp; done) | (go_simp; rfl)); intro gb512 hg w20 hbox hb; have n0_ := aM (bP (by repeat (first | (with_reducible first | exact HB.out | apply ea | apply en | apply ed) | exact HB.out)) hb); have n1_ := aM (hbox); have n2_ := aM ((by rw [hg]; exact (bZ (by repeat (first | (with_reducible first | exact HB.out | apply ea | apply en | apply ed) | exact HB.out))) : w.heap.size ≤ gb512)); have n3_ := aM ((by rw [hg]; exact (bZ (by repeat (first | (with_reducible first | exact HB.out | apply ea | apply en | apply ed) | exact HB.out))) : w.heap.size ≤ gb512)); clear HB; have HB := n0_; have BK512 := n1_; have GW512 := n2_; have GE512 := n3_; clear n0_ n1_ n2_ n3_; clear hb hbox hg) | ((with_reducible refine gate_dst (N := 6) rfl ?_); refine box_event ?hg (N := 6) ?hd (cs := #[.string (⟨#[]⟩ : ByteArray), .slice none 0 0]) (t := 51) ?hr ?_; (case hd => rfl); (case hg => rfl); (case hr => first | (go_simp; done) | (go_simp; rfl)); intro gb513 hg w21 hbox hb; have n0_ := aM (bB (g := gb512) (o := .cells #[.string a0_0, .slice A0_1 l0_1.length c0_1] 51 (0, 0)) (by (with_reducible repeat (first | refine qn ?_ _ | refine qd ?_ | refine qa ?_ _)); exact BK512.out) hb); have n1_ := aM (bP (by repeat (first | (with_reducible first | exact HB.out | apply ea | apply en | apply ed | refine es ?_ GE512.out) | exact HB.out)) hb); have n2_ := aM (hbox); have n3_ := aM ((by rw [hg]; exact (bZ (by repeat (first | (with_reducible first | exact HB.out | apply ea | apply en | apply ed | refine es ?_ GE512.out) | exact HB.out))) : w.heap.size ≤ gb513)); have n4_ := aM ((by rw [hg]; exact (bZ (by repeat (first | (with_reducible first | exact HB.out | apply ea | apply en | apply ed | refine es ?_ GE512.out) | exact HB.out))) : w.heap.size ≤ gb513)); have n5_ := aM ((by rw [hg]; exact Nat.ne_of_lt (blk_lt (g := gb512) (o := .cells #[.string a0_0, .slice A0_1 l0_1.length c0_1] 51 (0, 0)) (by (with_reducible repeat (first | refine qn ?_ _ | refine qd ?_ | refine qa ?_ _)); exact BK512.out)) : gb512 ≠ gb513)); have n6_ := aM ((by rw [hg]; exact Nat.ne_of_gt (blk_lt (g := gb512) (o := .cells #[.string a0_0, .slice A0_1 l0_1.length c0_1] 51 (0, 0)) (by (with_reducible repeat (first | refine qn ?_ _ | refine qd ?_ | refine qa ?_ _)); exact BK512.out)) : gb513 ≠ gb512)); clear BK512; clear HB; have BK512 := n0_; have HB := n1_; have BK513 := n2_; have GW513 := n3_; have GE513 := n4_; have NB512_513 := n5_; have NB513_512 := n6_; clear n0_ n1_ n2_ n3_ n4_ n5_ n6_; clear hb hbox hg; have hnb22 := NB512_513.out; have hnc22 := NB513_512.out; have hcz23_0 : w21.cell? ⟨gb512, 0, none⟩ = some (.string a0_0) := (bC BK512.out 0).trans rfl; have hcz23_1 : w21.cell? ⟨gb512, 1, none⟩ = some (.slice A0_1 l0_1.length c0_1) := (bC BK512.out 1).trans rfl; have hfz23_0 := bF BK512.out 0; have hfz23_1 := bF BK512.out 1) | ((with_reducible refine gate_callee (f := 95) rfl ?_); refine goesL_ (some 13) rfl rfl Try.func95 (by kernel_rfl) rfl #[.agg #[.string a0_0, .slice A0_1 l0_1.length c0_1], .int .i64 a1, .int .i64 a2] rfl (by (try simp only [List.map_toArray, List.map_cons, List.map_nil]); first | done | rfl | (simp only [List.length_drop, List.length_take]; rfl)) ?_; (with_reducible refine (strip_within.calls k a0_0 _ _ l0_1 a1 a2 false _ ?side1 ?side2 A4.out).mono ?_); (case side1 => repeat (first | exact (cB_ HR0_1.out HB.out) | (with_reducible refine Kd.C_alloc ?_ _) | (with_reducible refine Kd.C_drewN ?_ _) | (with_reducible refine Kd.C_drew ?_))); (case side2 => exact HC0_1.out); rintro e w24 ⟨rfl, hb⟩; refine ⟨_, rfl, ?_⟩; have n0_ := aM (bB (g := gb512) (o := .cells #[.string a0_0, .slice A0_1 l0_1.length c0_1] 51 (0, 0)) (by (with_reducible repeat (first | refine qn ?_ _ | refine qd ?_ | refine qa ?_ _)); exact BK512.out) hb); have n1_ := aM (bB (g := gb513) (o := .cells #[.string (⟨#[]⟩ : ByteArray), .slice none 0 0] 51 (0, 0)) (by (with_reducible repeat (first | refine qn ?_ _ | refine qd ?_ | refine qa ?_ _)); exact BK513.out) hb); have n2_ := aM (bP (by repeat (first | (with_reducible first | exact HB.out | apply ea | apply en | apply ed | refine es ?_ GE512.out | refine es ?_ GE513.out) | exact HB.out)) hb); clear BK512; clear BK513; clear HB; have BK512 := n0_; have BK513 := n1_; have HB := n2_; clear n0_ n1_ n2_; (try clear hb); (try clear hb2); (try clear hk); (try clear hi); have hcz25_0 : w24.cell? ⟨gb513, 0, none⟩ = some (.string (⟨#[]⟩ : ByteArray)) := (bC BK513.out 0).trans rfl; have hcz25_1 : w24.cell? ⟨gb513, 1, none⟩ = some (.slice none 0 0) := (bC BK513.out 1).trans rfl; have hfz25_0 := bF BK513.out 0; have hfz25_1 := bF BK513.out 1))
    refine bodyPost_ret (results_ct rfl _ _ gb513 51 #[.string (⟨#[]⟩ : ByteArray), .slice none 0 0] (0, 0) _ rfl (by (with_reducible repeat (first | refine qn ?_ _ | refine qd ?_ | refine qa ?_ _)); refine bU (cs := #[.string (⟨#[]⟩ : ByteArray), .slice none 0 0]) ?_ 1 _ rfl; (with_reducible repeat (first | refine qn ?_ _ | refine qd ?_ | refine qa ?_ _)); refine bU (cs := #[.string (⟨#[]⟩ : ByteArray), .slice none 0 0]) ?_ 0 _ rfl; (with_reducible repeat (first | refine qn ?_ _ | refine qd ?_ | refine qa ?_ _)); exact BK513.out) Try.underlying51 rfl (by kernel_rfl)) rfl ?_
    exact ⟨_, by first | rfl | (simp [errW_none, errW_some] <;> rfl) | (simp [*, errW_none, errW_some] <;> rfl), by first | exact Kd.R_nil _ _ _ _ _ | exact Kd.N_nil _ _ _ _ _ | exact Kd.V_nil _ _ _ _ _ | exact Kd.Q_nil _ _ _ _ _ | exact Kd.S_nil _ _ _ _ _, by repeat (first | (with_reducible first | exact HB.out | apply ea | apply en | apply ed | refine es ?_ GE512.out | refine es ?_ GE513.out) | exact HB.out)⟩
end Go.Proofs.Ythpjagblnddjaaa.PB
end

section
namespace Go.Proofs.Ythpjagblnddjaaa.PB
open Go.RowKit Go.Proofs.YthpjagblnddjaaaW.PrintWords Go.Proofs.YthpjagblnddjaaaW.PrintLast Go.Proofs.YthpjagblnddjaaaW.PrintMore
set_option linter.unusedVariables false
set_option linter.unusedSimpArgs false
def edit_own.f (a0_0 : ByteArray) (l0_1 : List S100) : Option (ByteArray × List S100) := if l0_1.length * 16 ≤ 140737488355328 then some (a0_0, l0_1) else none
set_option maxHeartbeats 4000000 in
set_option maxRecDepth 100000 in
theorem edit_own.calls (a0_0 : ByteArray) (A0_1 : Option Addr) (c0_1 : Nat) (l0_1 : List S100) (r1 : ByteArray) (r2 : List S100) (w : World) (hr0_1 : Kd.C k100 w A0_1 l0_1.length l0_1) (hc0_1 : l0_1.length ≤ c0_1) (h : edit_own.f a0_0 l0_1 = some (r1, r2)) :
    Calls Try.prog 98 #[.agg #[.string a0_0, .slice A0_1 l0_1.length c0_1]] w fun e w' => ∃ v1_ : Value, e = .returned (.agg #[.string r1, v1_]) ∧ Kd.R k100 100 w' w.heap.size (fun _ => True) v1_ r2 ∧ Below w.heap.size w w' := by
  have hu51 := Try.underlying51
  unfold edit_own.f at h
  by_cases hl : l0_1.length * 16 ≤ 140737488355328
  case neg => rw [if_neg hl] at h; cases h
  rw [if_pos hl] at h
  simp only [Option.some.injEq, Prod.mk.injEq] at h
  obtain ⟨rfl, rfl⟩ := h
  have HR := aM hr0_1
  have HL := aM hl
  clear hr0_1 hl
  have HB := aM (Below.refl w.heap.size w)
  go_enter Try.func98, Try.ntmps98
  go_wp2_with fail
  have BK1 := aM (blk_drew (blk_alloc (blk_new w (.cells #[.string a0_0, .slice A0_1 l0_1.length c0_1] 51)) (.cells #[.string (⟨#[]⟩ : ByteArray), .slice none 0 0] 51)))
  have BK2 := aM (blk_drew (blk_new (w.alloc (.cells #[.string a0_0, .slice A0_1 l0_1.length c0_1] 51)) (.cells #[.string (⟨#[]⟩ : ByteArray), .slice none 0 0] 51)))
  have HB2 := aM (((((Below.refl w.heap.size w).alloc (Nat.le_refl _) (.cells #[.string a0_0, .slice A0_1 l0_1.length c0_1] 51)).alloc (by simp) (.cells #[.string (⟨#[]⟩ : ByteArray), .slice none 0 0] 51))).drew)
  rw [show (w.alloc (.cells #[.string a0_0, .slice A0_1 l0_1.length c0_1] 51)).heap.size = w.heap.size + 1 by simp] at BK2
  refine start_ (n := 7) (S := fun w' => w'.cell? ⟨w.heap.size, 0, none⟩ = some (.string a0_0) ∧ w'.cell? ⟨w.heap.size, 1, none⟩ = some (.slice A0_1 l0_1.length c0_1)) (ds := [6]) #[false, false, false, false, false, false, false] (by kernel_rfl) rfl rfl ⟨(bC BK1.out 0).trans rfl, (bC BK1.out 1).trans rfl⟩ (fun hHeld => ?_)
  generalize ((w.alloc (.cells #[.string a0_0, .slice A0_1 l0_1.length c0_1] 51)).alloc (.cells #[.string (⟨#[]⟩ : ByteArray), .slice none 0 0] 51)).drew = w2 at BK1 BK2 HB2 hHeld ⊢
  refine pure_ (i := 0) (N := some 3) (v := ?_) (a' := ?_) #[true, false, false, false, false, false, false] rfl rfl (by kernel_rfl) (fun _ _ _ h => h) (Or.inl ⟨by rfl, ?_⟩) ?_ ?_
  rotate_left
  · intro w'
    go_simp
    with_reducible rfl
  rotate_left
  · simp only [Act.put, List.setIfInBounds_toArray, List.set_cons_zero, List.set_cons_succ]
    rfl
  refine pure_ (i := 2) (N := some 5) (v := ?_) (a' := ?_) #[true, false, true, false, false, false, false] rfl rfl (by kernel_rfl) (fun _ _ _ h => h) (Or.inl ⟨by rfl, ?_⟩) ?_ ?_
  rotate_left
  · intro w'
    go_simp
    with_reducible rfl
  rotate_left
  · simp only [Act.put, List.setIfInBounds_toArray, List.set_cons_zero, List.set_cons_succ]
    rfl
  refine take_ (i := 1) (N := some 4) (v := ?_) (a' := ?_) #[true, true, true, false, false, false, false] rfl rfl (by kernel_rfl) (fun _ _ _ h => h) (Or.inl ⟨by rfl, ?_⟩) hHeld ?_ ?_
  rotate_left
  · rintro w' ⟨s0, s1⟩
    go_simp
    with_reducible rfl
  rotate_left
  · simp only [Act.put, List.setIfInBounds_toArray, List.set_cons_zero, List.set_cons_succ]
    rfl
  refine take_ (i := 3) (N := some 6) (v := ?_) (a' := ?_) #[true, true, true, true, false, false, false] rfl rfl (by kernel_rfl) (fun _ _ _ h => h) (Or.inl ⟨by rfl, ?_⟩) hHeld ?_ ?_
  rotate_left
  · rintro w' ⟨s0, s1⟩
    go_simp
    with_reducible rfl
  rotate_left
  · simp only [Act.put, List.setIfInBounds_toArray, List.set_cons_zero, List.set_cons_succ]
    rfl
  refine one_ (i := 4) (N := some 7) #[true, true, true, true, true, false, false] rfl rfl (by kernel_rfl) (by decide) (fun K hK => ?_)
  refine Kd.R_append_rows_step k100 (w0 := w) w.heap.size (by rfl) (.const (.slice none 0 0)) (.tmp 6) 22 100 (.agg #[(.int .u64 0), (.int .i64 0)]) 16 rfl Try.underlying22 info100 rfl (by decide) (by omega) (.slice none 0 0) [] l0_1 A0_1 l0_1.length c0_1 (fun _ => True) (fun _ => False) rfl rfl (Kd.R_nil _ _ _ _ _) (cB_ HR.out HB2.out) (fun x cs h => by rw [k100_open h]; exact k100_mkM _ _ _ x) (fun _ h => h.elim) (fun _ _ => trivial) HB2.out HB2.out.size (by simpa using HL.out) ?_
  intro v1 w3 ho hb hg1 hat
  rw [List.nil_append] at ho
  have BK3 := aM (blk_grown BK1.out hg1 (by simp [Value.ownBlock]))
  have BK4 := aM (blk_grown BK2.out hg1 (by simp [Value.ownBlock]))
  have HO := aM ho
  have HB3 := aM hb
  obtain ⟨A1, c1, rfl⟩ := Kd.R_slice ho
  clear ho hb hg1 hat
  refine hK.out _ _ ⟨(bC BK3.out 0).trans rfl, (bC BK3.out 1).trans rfl⟩ (fun hHeld => ?_)
  clear hK K
  refine norm_ (a' := ?_) ?_ ?_
  rotate_left
  · show Act.put _ (some 7) _ = _
    simp only [Act.put, List.setIfInBounds_toArray, List.set_cons_zero, List.set_cons_succ]
    rfl
  refine pure_ (i := 5) (N := some 8) (v := ?_) (a' := ?_) #[true, true, true, true, true, true, false] rfl rfl (by kernel_rfl) (fun _ _ _ h => h) (Or.inl ⟨by rfl, ?_⟩) ?_ ?_
  rotate_left
  · intro w'
    go_simp
    with_reducible rfl
  rotate_left
  · simp only [Act.put, List.setIfInBounds_toArray, List.set_cons_zero, List.set_cons_succ]
    rfl
  refine last_ (i := 6) (N := none) #[true, true, true, true, true, true, true] rfl rfl (by kernel_rfl) (by decide) (fun K hK => ?_)
  have hs0 : w3.cell? ⟨w.heap.size + 1, 0, none⟩ = some (.string (⟨#[]⟩ : ByteArray)) := (bC BK4.out 0).trans rfl
  have hf0 := bF BK4.out 0
  have hs1 : w3.cell? ⟨w.heap.size + 1, 1, none⟩ = some (.slice none 0 0) := (bC BK4.out 1).trans rfl
  have hf1 := bF BK4.out 1
  refine skip_ (w1 := ?_) (by rfl) rfl ?_ ?_
  rotate_left
  · go_simp
    rfl
  refine hK.out _ _ (done_ (by kernel_rfl) ?_)
  clear hK K
  go_wp2
  refine bodyPost_ret (results_cell_row rfl _ _ (w.heap.size + 1) 51 #[.string a0_0, .slice A1 l0_1.length c1] (0, 0) _ rfl (bU (cs := #[.string a0_0, .slice none 0 0]) (bU (cs := #[.string (⟨#[]⟩ : ByteArray), .slice none 0 0]) BK4.out 0 _ rfl) 1 _ rfl) Try.underlying51 rfl (by kernel_rfl)) rfl ?_
  exact ⟨_, rfl, rM (rF (p := ⟨w.heap.size + 1, 1, none⟩) (rF (p := ⟨w.heap.size + 1, 0, none⟩) (rT HO.out BK4.out (by decide)) (fun _ hk => hk.2) (.string a0_0)) (fun _ hk => hk.2) _) (fun _ hk => hk.1), (HB3.out.setCell (Nat.le_succ _) _).setCell (Nat.le_succ _) _⟩
end Go.Proofs.Ythpjagblnddjaaa.PB
end

section
namespace Go.Proofs.Ythpjagblnddjaaa.PB
open Go.RowKit Go.Proofs.YthpjagblnddjaaaW.PrintWords Go.Proofs.YthpjagblnddjaaaW.PrintLast Go.Proofs.YthpjagblnddjaaaW.PrintMore
attribute [local go_sem] max2_int min2_int max_two min_two max_three min_three max_four min_four   
set_option linter.unusedVariables false
set_option linter.unusedSimpArgs false
def edit_Of.f (k : Nat) (a0_0 : ByteArray) (l0_1 : List (S100)) (a1 : Int) (a2 : Int) (a3_0 : ByteArray) (l3_1 : List (S100)) : Option (Int × ByteArray × (List (S100)) × ByteArray × (List (S100)) × Int) := (strip_Splice.f k a0_0 l0_1 a1 a2 a3_0 l3_1).bind fun bt522 => (if bt522.2.2 = 0 then ((strip_Cut.f k a0_0 l0_1 a1 a2).bind fun bt528 => ((edit_own.f a3_0 l3_1).bind fun bt534 => (some (a1, bt528.1, bt528.2.1, bt534.1, bt534.2, bt528.2.2)))) else (some (0, (⟨#[]⟩ : ByteArray), ([] : List (S100)), (⟨#[]⟩ : ByteArray), ([] : List (S100)), bt522.2.2)))
theorem edit_Of.mono : ∀ a0 a1 a2 a3 a4 a5 k, LeO (edit_Of.f k a0 a1 a2 a3 a4 a5) (edit_Of.f (k + 1) a0 a1 a2 a3 a4 a5) := by
  intro a0 a1 a2 a3 a4 a5 k
  unfold edit_Of.f
  repeat' first
      | (with_reducible exact strip_Cut.mono _ _ _ _ _)
      | (with_reducible exact strip_Splice.mono _ _ _ _ _ _ _)
      | (with_reducible exact LeO.refl _)
      | (with_reducible exact LeO.none _)
      | (with_reducible refine LeO.ite ?_ ?_)
      | (with_reducible refine LeO.bind ?_ (fun _ => ?_))
      | exact strip_Cut.mono _ _ _ _ _
      | exact strip_Splice.mono _ _ _ _ _ _ _
      | exact LeO.none _
      | refine LeO.ite ?_ ?_
      | refine LeO.bind ?_ (fun _ => ?_)
def edit_Of.T5 : Bool × List (List Nat × List Nat) := (true, [([], []), ([], []), ([], []), ([2], [2]), ([0, 1, 3], [0, 1, 3]), ([], []), ([4, 3, 0, 1, 2, 3, 4], [4]), ([5, 6, 0, 1, 2, 3, 4, 5, 6], [5])])
def edit_Of.B5 : List Nat := [0, 0, 0, 4, 15, 0, 31, 127]
theorem edit_Of.tab5 : rtab .any (opsOf Try.f56 5) = edit_Of.T5 := by kernel_rfl
theorem edit_Of.bits5 : waitsOk edit_Of.T5.2 edit_Of.B5 = true := by kernel_rfl
set_option maxHeartbeats 8000000 in
set_option maxRecDepth 100000 in
theorem edit_Of.calls (k : Nat) (a0_0 : ByteArray) (A0_1 : Option Addr) (c0_1 : Nat) (l0_1 : List (S100)) (a1 : Int) (a2 : Int) (a3_0 : ByteArray) (A3_1 : Option Addr) (c3_1 : Nat) (l3_1 : List (S100)) (r1 : Int) (r2 : ByteArray) (r3 : List (S100)) (r4 : ByteArray) (r5 : List (S100)) (r6 : Int) (w : World) (hr0_1 : Kd.C k100 w A0_1 l0_1.length l0_1) (hc0_1 : l0_1.length ≤ c0_1) (hr3_1 : Kd.C k100 w A3_1 l3_1.length l3_1) (hc3_1 : l3_1.length ≤ c3_1) (h : edit_Of.f k a0_0 l0_1 a1 a2 a3_0 l3_1 = some (r1, r2, r3, r4, r5, r6)) :
    Calls Try.prog 56 #[.agg #[.string a0_0, .slice A0_1 l0_1.length c0_1], .int .i64 a1, .int .i64 a2, .agg #[.string a3_0, .slice A3_1 l3_1.length c3_1]] w fun e w' => ∃ v2_ v4_ : Value, e = .returned (.tuple #[.agg #[.int .i64 r1, .string r2, v2_, .string r4, v4_], .int .i64 r6]) ∧ Kd.R k100 100 w' w.heap.size (fun k_ => some k_ ≠ (v4_ : Value).ownBlock) v2_ r3 ∧ Kd.R k100 100 w' w.heap.size (fun k_ => some k_ ≠ (v2_ : Value).ownBlock) v4_ r5 ∧ Below w.heap.size w w' := by
  have hu51 := Try.underlying51
  have hu64 := Try.underlying64
  have HR0_1 := aM hr0_1
  have HC0_1 := aM hc0_1
  clear hr0_1 hc0_1
  have HR3_1 := aM hr3_1
  have HC3_1 := aM hc3_1
  clear hr3_1 hc3_1
  have HB := aM (Below.refl w.heap.size w)
  have H : ((strip_Splice.f k a0_0 l0_1 a1 a2 a3_0 l3_1).bind fun bt522 => (if bt522.2.2 = 0 then ((strip_Cut.f k a0_0 l0_1 a1 a2).bind fun bt528 => ((edit_own.f a3_0 l3_1).bind fun bt534 => (some (a1, bt528.1, bt528.2.1, bt534.1, bt534.2, bt528.2.2)))) else (some (0, (⟨#[]⟩ : ByteArray), ([] : List (S100)), (⟨#[]⟩ : ByteArray), ([] : List (S100)), bt522.2.2)))) = some (r1, r2, r3, r4, r5, r6) := h
  clear h
  replace H := Option.bind_eq_some_iff.mp H
  obtain ⟨⟨t522, t523, t526⟩, A50, H⟩ := H
  replace H : (if t526 = 0 then ((strip_Cut.f k a0_0 l0_1 a1 a2).bind fun bt528 => ((edit_own.f a3_0 l3_1).bind fun bt534 => (some (a1, bt528.1, bt528.2.1, bt534.1, bt534.2, bt528.2.2)))) else (some (0, (⟨#[]⟩ : ByteArray), ([] : List (S100)), (⟨#[]⟩ : ByteArray), ([] : List (S100)), t526))) = some (r1, r2, r3, r4, r5, r6) := H
  have A5 := aM A50
  clear A50
  by_cases c6 : t526 = 0
  · rw [if_pos c6] at H
    have c6b0 : (t526 == 0) = true := beq_iff_eq.mpr c6
    have c6b1 : (t526 != 0) = false := bne_eq_false_iff_eq.mpr c6
    clear c6
    replace H := Option.bind_eq_some_iff.mp H
    obtain ⟨⟨t528, t529, t532⟩, A70, H⟩ := H
    replace H : ((edit_own.f a3_0 l3_1).bind fun bt534 => (some (a1, t528, t529, bt534.1, bt534.2, t532))) = some (r1, r2, r3, r4, r5, r6) := H
    have A7 := aM A70
    clear A70
    replace H := Option.bind_eq_some_iff.mp H
    obtain ⟨⟨t534, t535⟩, A80, H⟩ := H
    replace H : (some (a1, t528, t529, t534, t535, t532)) = some (r1, r2, r3, r4, r5, r6) := H
    have A8 := aM A80
    clear A80
    simp only [Option.some.injEq, Prod.mk.injEq] at H
    obtain ⟨rfl, rfl, rfl, rfl, rfl, rfl⟩ := H
    go_enter Try.func56, Try.ntmps56
    try go_wp2_with (first | ((with_reducible refine gate_dst (N := 4) rfl ?_); refine box_event ?hg (N := 4) ?hd (cs := #[.string a0_0, .slice A0_1 l0_1.length c0_1]) (t := 51) ?hr ?_; (case hd => rfl); (case hg => rfl); (case hr => first | (go_simp; done) | (go_simp; rfl)); intro gb519 hg w9 hbox hb; have n0_ := aM (bP (by repeat (first | (with_reducible first | exact HB.out | apply ea | apply en | apply ed) | exact HB.out)) hb); have n1_ := aM (hbox); have n2_ := aM ((by rw [hg]; exact (bZ (by repeat (first | (with_reducible first | exact HB.out | apply ea | apply en | apply ed) | exact HB.out))) : w.heap.size ≤ gb519)); have n3_ := aM ((by rw [hg]; exact (bZ (by repeat (first | (with_reducible first | exact HB.out | apply ea | apply en | apply ed) | exact HB.out))) : w.heap.size ≤ gb519)); clear HB; have HB := n0_; have BK519 := n1_; have GW519 := n2_; have GE519 := n3_; clear n0_ n1_ n2_ n3_; clear hb hbox hg) | ((with_reducible refine gate_dst (N := 7) rfl ?_); refine box_event ?hg (N := 7) ?hd (cs := #[.string a3_0, .slice A3_1 l3_1.length c3_1]) (t := 51) ?hr ?_; (case hd => rfl); (case hg => rfl); (case hr => first | (go_simp; done) | (go_simp; rfl)); intro gb520 hg w10 hbox hb; have n0_ := aM (bB (g := gb519) (o := .cells #[.string a0_0, .slice A0_1 l0_1.length c0_1] 51 (0, 0)) (by (with_reducible repeat (first | refine qn ?_ _ | refine qd ?_ | refine qa ?_ _)); exact BK519.out) hb); have n1_ := aM (bP (by repeat (first | (with_reducible first | exact HB.out | apply ea | apply en | apply ed | refine es ?_ GE519.out) | exact HB.out)) hb); have n2_ := aM (hbox); have n3_ := aM ((by rw [hg]; exact (bZ (by repeat (first | (with_reducible first | exact HB.out | apply ea | apply en | apply ed | refine es ?_ GE519.out) | exact HB.out))) : w.heap.size ≤ gb520)); have n4_ := aM ((by rw [hg]; exact (bZ (by repeat (first | (with_reducible first | exact HB.out | apply ea | apply en | apply ed | refine es ?_ GE519.out) | exact HB.out))) : w.heap.size ≤ gb520)); have n5_ := aM ((by rw [hg]; exact Nat.ne_of_lt (blk_lt (g := gb519) (o := .cells #[.string a0_0, .slice A0_1 l0_1.length c0_1] 51 (0, 0)) (by (with_reducible repeat (first | refine qn ?_ _ | refine qd ?_ | refine qa ?_ _)); exact BK519.out)) : gb519 ≠ gb520)); have n6_ := aM ((by rw [hg]; exact Nat.ne_of_gt (blk_lt (g := gb519) (o := .cells #[.string a0_0, .slice A0_1 l0_1.length c0_1] 51 (0, 0)) (by (with_reducible repeat (first | refine qn ?_ _ | refine qd ?_ | refine qa ?_ _)); exact BK519.out)) : gb520 ≠ gb519)); clear BK519; clear HB; have BK519 := n0_; have HB := n1_; have BK520 := n2_; have GW520 := n3_; have GE520 := n4_; have NB519_520 := n5_; have NB520_519 := n6_; clear n0_ n1_ n2_ n3_ n4_ n5_ n6_; clear hb hbox hg) | ((with_reducible refine gate_dst (N := 8) rfl ?_); refine box_event ?hg (N := 8) ?hd (cs := #[.int .i64 0, .string (⟨#[]⟩ : ByteArray), .slice none 0 0, .string (⟨#[]⟩ : ByteArray), .slice none 0 0]) (t := 64) ?hr ?_; (case hd => rfl); (case hg => rfl); (case hr => first | (go_simp; done) | (go_simp; rfl)); intro gb521 hg w11 hbox hb; have n0_ := aM (bB (g := gb519) (o := .cells #[.string a0_0, .slice A0_1 l0_1.length c0_1] 51 (0, 0)) (by (with_reducible repeat (first | refine qn ?_ _ | refine qd ?_ | refine qa ?_ _)); exact BK519.out) hb); have n1_ := aM (bB (g := gb520) (o := .cells #[.string a3_0, .slice A3_1 l3_1.length c3_1] 51 (0, 0)) (by (with_reducible repeat (first | refine qn ?_ _ | refine qd ?_ | refine qa ?_ _)); exact BK520.out) hb); have n2_ := aM (bP (by repeat (first | (with_reducible first | exact HB.out | apply ea | apply en | apply ed | refine es ?_ GE519.out | refine es ?_ GE520.out) | exact HB.out)) hb); have n3_ := aM (hbox); have n4_ := aM ((by rw [hg]; exact (bZ (by repeat (first | (with_reducible first | exact HB.out | apply ea | apply en | apply ed | refine es ?_ GE519.out | refine es ?_ GE520.out) | exact HB.out))) : w.heap.size ≤ gb521)); have n5_ := aM ((by rw [hg]; exact (bZ (by repeat (first | (with_reducible first | exact HB.out | apply ea | apply en | apply ed | refine es ?_ GE519.out | refine es ?_ GE520.out) | exact HB.out))) : w.heap.size ≤ gb521)); have n6_ := aM ((by rw [hg]; exact Nat.ne_of_lt (blk_lt (g := gb519) (o := .cells #[.string a0_0, .slice A0_1 l0_1.length c0_1] 51 (0, 0)) (by (with_reducible repeat (first | refine qn ?_ _ | refine qd ?_ | refine qa ?_ _)); exact BK519.out)) : gb519 ≠ gb521)); have n7_ := aM ((by rw [hg]; exact Nat.ne_of_gt (blk_lt (g := gb519) (o := .cells #[.string a0_0, .slice A0_1 l0_1.length c0_1] 51 (0, 0)) (by (with_reducible repeat (first | refine qn ?_ _ | refine qd ?_ | refine qa ?_ _)); exact BK519.out)) : gb521 ≠ gb519)); have n8_ := aM ((by rw [hg]; exact Nat.ne_of_lt (blk_lt (g := gb520) (o := .cells #[.string a3_0, .slice A3_1 l3_1.length c3_1] 51 (0, 0)) (by (with_reducible repeat (first | refine qn ?_ _ | refine qd ?_ | refine qa ?_ _)); exact BK520.out)) : gb520 ≠ gb521)); have n9_ := aM ((by rw [hg]; exact Nat.ne_of_gt (blk_lt (g := gb520) (o := .cells #[.string a3_0, .slice A3_1 l3_1.length c3_1] 51 (0, 0)) (by (with_reducible repeat (first | refine qn ?_ _ | refine qd ?_ | refine qa ?_ _)); exact BK520.out)) : gb521 ≠ gb520)); clear BK519; clear BK520; clear HB; have BK519 := n0_; have BK520 := n1_; have HB := n2_; have BK521 := n3_; have GW521 := n4_; have GE521 := n5_; have NB519_521 := n6_; have NB521_519 := n7_; have NB520_521 := n8_; have NB521_520 := n9_; clear n0_ n1_ n2_ n3_ n4_ n5_ n6_ n7_ n8_ n9_; clear hb hbox hg; have hnb12 := NB519_520.out; have hnc12 := NB520_519.out; have hnb13 := NB519_521.out; have hnc13 := NB521_519.out; have hcz14_0 : w11.cell? ⟨gb519, 0, none⟩ = some (.string a0_0) := (bC BK519.out 0).trans rfl; have hcz14_1 : w11.cell? ⟨gb519, 1, none⟩ = some (.slice A0_1 l0_1.length c0_1) := (bC BK519.out 1).trans rfl; have hfz14_0 := bF BK519.out 0; have hfz14_1 := bF BK519.out 1; have hnb15 := NB520_521.out; have hnc15 := NB521_520.out; have hcz16_0 : w11.cell? ⟨gb520, 0, none⟩ = some (.string a3_0) := (bC BK520.out 0).trans rfl; have hcz16_1 : w11.cell? ⟨gb520, 1, none⟩ = some (.slice A3_1 l3_1.length c3_1) := (bC BK520.out 1).trans rfl; have hfz16_0 := bF BK520.out 0; have hfz16_1 := bF BK520.out 1) | ((with_reducible refine gate_callee (f := 53) rfl ?_); refine goesL_ (some 19) rfl rfl Try.func53 (by kernel_rfl) rfl #[.agg #[.string a0_0, .slice A0_1 l0_1.length c0_1], .int .i64 a1, .int .i64 a2, .agg #[.string a3_0, .slice A3_1 l3_1.length c3_1]] rfl (by (try simp only [List.map_toArray, List.map_cons, List.map_nil]); first | done | rfl | (simp only [List.length_drop, List.length_take]; rfl)) ?_; (with_reducible refine (strip_Splice.calls k a0_0 _ _ l0_1 a1 a2 a3_0 _ _ l3_1 t522 t523 t526 _ ?side1 ?side2 ?side3 ?side4 A5.out).mono ?_); (case side1 => repeat (first | exact (cB_ HR0_1.out HB.out) | (with_reducible refine Kd.C_alloc ?_ _) | (with_reducible refine Kd.C_drewN ?_ _) | (with_reducible refine Kd.C_drew ?_))); (case side2 => exact HC0_1.out); (case side3 => repeat (first | exact (cB_ HR3_1.out HB.out) | (with_reducible refine Kd.C_alloc ?_ _) | (with_reducible refine Kd.C_drewN ?_ _) | (with_reducible refine Kd.C_drew ?_))); (case side4 => exact HC3_1.out); rintro e w17 ⟨v524, rfl, ho0, hb⟩; refine ⟨_, rfl, ?_⟩; have n0_ := aM (rL ho0 (bZ (by repeat (first | (with_reducible first | exact HB.out | apply ea | apply en | apply ed | refine es ?_ GE519.out | refine es ?_ GE520.out | refine es ?_ GE521.out) | exact HB.out)))); have n1_ := aM (bB (g := gb519) (o := .cells #[.string a0_0, .slice A0_1 l0_1.length c0_1] 51 (0, 0)) (by (with_reducible repeat (first | refine qn ?_ _ | refine qd ?_ | refine qa ?_ _)); exact BK519.out) hb); have n2_ := aM (bB (g := gb520) (o := .cells #[.string a3_0, .slice A3_1 l3_1.length c3_1] 51 (0, 0)) (by (with_reducible repeat (first | refine qn ?_ _ | refine qd ?_ | refine qa ?_ _)); exact BK520.out) hb); have n3_ := aM (bB (g := gb521) (o := .cells #[.int .i64 0, .string (⟨#[]⟩ : ByteArray), .slice none 0 0, .string (⟨#[]⟩ : ByteArray), .slice none 0 0] 64 (0, 0)) (by (with_reducible repeat (first | refine qn ?_ _ | refine qd ?_ | refine qa ?_ _)); exact BK521.out) hb); have n4_ := aM (bP (by repeat (first | (with_reducible first | exact HB.out | apply ea | apply en | apply ed | refine es ?_ GE519.out | refine es ?_ GE520.out | refine es ?_ GE521.out) | exact HB.out)) hb); clear BK519; clear BK520; clear BK521; clear HB; have HO525 := n0_; have BK519 := n1_; have BK520 := n2_; have BK521 := n3_; have HB := n4_; clear n0_ n1_ n2_ n3_ n4_; (try clear hb); (try clear hb2); (try clear hk); (try clear hi); (try clear ho0)) | ((with_reducible refine gate_dst (N := 10) rfl ?_); refine box_event ?hg (N := 10) ?hd (cs := #[.string (⟨#[]⟩ : ByteArray), .slice none 0 0]) (t := 51) ?hr ?_; (case hd => rfl); (case hg => rfl); (case hr => first | (go_simp; done) | (go_simp; rfl)); intro gb527 hg w18 hbox hb; have n0_ := aM (Kd.R_below (by (with_reducible repeat (first | apply ra | apply rn | apply rd_)); exact HO525.out) hb); have n1_ := aM (bB (g := gb519) (o := .cells #[.string a0_0, .slice A0_1 l0_1.length c0_1] 51 (0, 0)) (by (with_reducible repeat (first | refine qn ?_ _ | refine qd ?_ | refine qa ?_ _)); exact BK519.out) hb); have n2_ := aM (bB (g := gb520) (o := .cells #[.string a3_0, .slice A3_1 l3_1.length c3_1] 51 (0, 0)) (by (with_reducible repeat (first | refine qn ?_ _ | refine qd ?_ | refine qa ?_ _)); exact BK520.out) hb); have n3_ := aM (bB (g := gb521) (o := .cells #[.int .i64 0, .string (⟨#[]⟩ : ByteArray), .slice none 0 0, .string (⟨#[]⟩ : ByteArray), .slice none 0 0] 64 (0, 0)) (by (with_reducible repeat (first | refine qn ?_ _ | refine qd ?_ | refine qa ?_ _)); exact BK521.out) hb); have n4_ := aM (bP (by repeat (first | (with_reducible first | exact HB.out | apply ea | apply en | apply ed | refine es ?_ GE519.out | refine es ?_ GE520.out | refine es ?_ GE521.out) | exact HB.out)) hb); have n5_ := aM (hbox); have n6_ := aM ((by rw [hg]; exact (bZ (by repeat (first | (with_reducible first | exact HB.out | apply ea | apply en | apply ed | refine es ?_ GE519.out | refine es ?_ GE520.out | refine es ?_ GE521.out) | exact HB.out))) : w.heap.size ≤ gb527)); have n7_ := aM ((by rw [hg]; exact (bZ (by repeat (first | (with_reducible first | exact HB.out | apply ea | apply en | apply ed | refine es ?_ GE519.out | refine es ?_ GE520.out | refine es ?_ GE521.out) | exact HB.out))) : w.heap.size ≤ gb527)); have n8_ := aM ((by rw [hg]; exact Nat.ne_of_lt (blk_lt (g := gb519) (o := .cells #[.string a0_0, .slice A0_1 l0_1.length c0_1] 51 (0, 0)) (by (with_reducible repeat (first | refine qn ?_ _ | refine qd ?_ | refine qa ?_ _)); exact BK519.out)) : gb519 ≠ gb527)); have n9_ := aM ((by rw [hg]; exact Nat.ne_of_gt (blk_lt (g := gb519) (o := .cells #[.string a0_0, .slice A0_1 l0_1.length c0_1] 51 (0, 0)) (by (with_reducible repeat (first | refine qn ?_ _ | refine qd ?_ | refine qa ?_ _)); exact BK519.out)) : gb527 ≠ gb519)); have n10_ := aM ((by rw [hg]; exact Nat.ne_of_lt (blk_lt (g := gb520) (o := .cells #[.string a3_0, .slice A3_1 l3_1.length c3_1] 51 (0, 0)) (by (with_reducible repeat (first | refine qn ?_ _ | refine qd ?_ | refine qa ?_ _)); exact BK520.out)) : gb520 ≠ gb527)); have n11_ := aM ((by rw [hg]; exact Nat.ne_of_gt (blk_lt (g := gb520) (o := .cells #[.string a3_0, .slice A3_1 l3_1.length c3_1] 51 (0, 0)) (by (with_reducible repeat (first | refine qn ?_ _ | refine qd ?_ | refine qa ?_ _)); exact BK520.out)) : gb527 ≠ gb520)); have n12_ := aM ((by rw [hg]; exact Nat.ne_of_lt (blk_lt (g := gb521) (o := .cells #[.int .i64 0, .string (⟨#[]⟩ : ByteArray), .slice none 0 0, .string (⟨#[]⟩ : ByteArray), .slice none 0 0] 64 (0, 0)) (by (with_reducible repeat (first | refine qn ?_ _ | refine qd ?_ | refine qa ?_ _)); exact BK521.out)) : gb521 ≠ gb527)); have n13_ := aM ((by rw [hg]; exact Nat.ne_of_gt (blk_lt (g := gb521) (o := .cells #[.int .i64 0, .string (⟨#[]⟩ : ByteArray), .slice none 0 0, .string (⟨#[]⟩ : ByteArray), .slice none 0 0] 64 (0, 0)) (by (with_reducible repeat (first | refine qn ?_ _ | refine qd ?_ | refine qa ?_ _)); exact BK521.out)) : gb527 ≠ gb521)); clear HO525; clear BK519; clear BK520; clear BK521; clear HB; have HO525 := n0_; have BK519 := n1_; have BK520 := n2_; have BK521 := n3_; have HB := n4_; have BK527 := n5_; have GW527 := n6_; have GE527 := n7_; have NB519_527 := n8_; have NB527_519 := n9_; have NB520_527 := n10_; have NB527_520 := n11_; have NB521_527 := n12_; have NB527_521 := n13_; clear n0_ n1_ n2_ n3_ n4_ n5_ n6_ n7_ n8_ n9_ n10_ n11_ n12_ n13_; clear hb hbox hg; have hnb19 := NB527_519.out; have hnc19 := NB519_527.out; have hnb20 := NB527_520.out; have hnc20 := NB520_527.out; have hnb21 := NB527_521.out; have hnc21 := NB521_527.out; have hcz22_0 : w18.cell? ⟨gb527, 0, none⟩ = some (.string (⟨#[]⟩ : ByteArray)) := (bC BK527.out 0).trans rfl; have hcz22_1 : w18.cell? ⟨gb527, 1, none⟩ = some (.slice none 0 0) := (bC BK527.out 1).trans rfl; have hfz22_0 := bF BK527.out 0; have hfz22_1 := bF BK527.out 1; obtain ⟨Ao23, co23, eo23⟩ := Kd.R_slice HO525.out; subst eo23; have hcz24_0 : w18.cell? ⟨gb519, 0, none⟩ = some (.string a0_0) := (bC BK519.out 0).trans rfl; have hcz24_1 : w18.cell? ⟨gb519, 1, none⟩ = some (.slice A0_1 l0_1.length c0_1) := (bC BK519.out 1).trans rfl; have hfz24_0 := bF BK519.out 0; have hfz24_1 := bF BK519.out 1) | ((with_reducible refine gate_callee (f := 73) rfl ?_); refine goesL_ (some 30) rfl rfl Try.func73 (by kernel_rfl) rfl #[.agg #[.string a0_0, .slice A0_1 l0_1.length c0_1], .int .i64 a1, .int .i64 a2] rfl (by (try simp only [List.map_toArray, List.map_cons, List.map_nil]); first | done | rfl | (simp only [List.length_drop, List.length_take]; rfl)) ?_; (with_reducible refine (strip_Cut.calls k a0_0 _ _ l0_1 a1 a2 t528 t529 t532 _ ?side1 ?side2 A7.out).mono ?_); (case side1 => exact cB_ HR0_1.out (by repeat (first | (with_reducible first | exact HB.out | apply ea | apply en | apply ed | refine es ?_ GE519.out | refine es ?_ GE520.out | refine es ?_ GE521.out | refine es ?_ GE527.out) | exact HB.out))); (case side2 => exact HC0_1.out); rintro e w25 ⟨v530, rfl, ho0, hb⟩; refine ⟨_, rfl, ?_⟩; have n0_ := aM (rE (by (with_reducible repeat (first | apply ra | apply rn | apply rd_)); exact (rM (rF (p := ⟨gb527, 1, none⟩) (rF (p := ⟨gb527, 0, none⟩) (rT HO525.out BK527.out (by decide)) (fun _ hk => hk.2) (.string t522)) (fun _ hk => hk.2) (.slice Ao23 t523.length co23)) (fun _ h_ => h_.1))) (Kd.R_base ho0) hb); have n1_ := aM (rL (Kd.R_new' ho0 (Kd.R_lt (by (with_reducible repeat (first | apply ra | apply rn | apply rd_)); exact (rM (rF (p := ⟨gb527, 1, none⟩) (rF (p := ⟨gb527, 0, none⟩) (rT HO525.out BK527.out (by decide)) (fun _ hk => hk.2) (.string t522)) (fun _ hk => hk.2) (.slice Ao23 t523.length co23)) (fun _ h_ => h_.1))))) (bZ (by repeat (first | (with_reducible first | exact HB.out | apply ea | apply en | apply ed | refine es ?_ GE519.out | refine es ?_ GE520.out | refine es ?_ GE521.out | refine es ?_ GE527.out) | exact HB.out)))); have n2_ := aM (bB (g := gb519) (o := .cells #[.string a0_0, .slice A0_1 l0_1.length c0_1] 51 (0, 0)) (by (with_reducible repeat (first | refine qn ?_ _ | refine qd ?_ | refine qa ?_ _)); refine bR ?_ NB519_527.out _; (with_reducible repeat (first | refine qn ?_ _ | refine qd ?_ | refine qa ?_ _)); refine bR ?_ NB519_527.out _; (with_reducible repeat (first | refine qn ?_ _ | refine qd ?_ | refine qa ?_ _)); exact BK519.out) hb); have n3_ := aM (bB (g := gb520) (o := .cells #[.string a3_0, .slice A3_1 l3_1.length c3_1] 51 (0, 0)) (by (with_reducible repeat (first | refine qn ?_ _ | refine qd ?_ | refine qa ?_ _)); refine bR ?_ NB520_527.out _; (with_reducible repeat (first | refine qn ?_ _ | refine qd ?_ | refine qa ?_ _)); refine bR ?_ NB520_527.out _; (with_reducible repeat (first | refine qn ?_ _ | refine qd ?_ | refine qa ?_ _)); exact BK520.out) hb); have n4_ := aM (bB (g := gb521) (o := .cells #[.int .i64 0, .string (⟨#[]⟩ : ByteArray), .slice none 0 0, .string (⟨#[]⟩ : ByteArray), .slice none 0 0] 64 (0, 0)) (by (with_reducible repeat (first | refine qn ?_ _ | refine qd ?_ | refine qa ?_ _)); refine bR ?_ NB521_527.out _; (with_reducible repeat (first | refine qn ?_ _ | refine qd ?_ | refine qa ?_ _)); refine bR ?_ NB521_527.out _; (with_reducible repeat (first | refine qn ?_ _ | refine qd ?_ | refine qa ?_ _)); exact BK521.out) hb); have n5_ := aM (bB (g := gb527) (o := .cells #[.string t522, .slice Ao23 t523.length co23] 51 (0, 0)) (by (with_reducible repeat (first | refine qn ?_ _ | refine qd ?_ | refine qa ?_ _)); refine bU (cs := #[.string t522, .slice none 0 0]) ?_ 1 _ rfl; (with_reducible repeat (first | refine qn ?_ _ | refine qd ?_ | refine qa ?_ _)); refine bU (cs := #[.string (⟨#[]⟩ : ByteArray), .slice none 0 0]) ?_ 0 _ rfl; (with_reducible repeat (first | refine qn ?_ _ | refine qd ?_ | refine qa ?_ _)); exact BK527.out) hb); have n6_ := aM (bP (by repeat (first | (with_reducible first | exact HB.out | apply ea | apply en | apply ed | refine es ?_ GE519.out | refine es ?_ GE520.out | refine es ?_ GE521.out | refine es ?_ GE527.out) | exact HB.out)) hb); clear HO525; clear BK519; clear BK520; clear BK521; clear BK527; clear HB; have HO525 := n0_; have HO531 := n1_; have BK519 := n2_; have BK520 := n3_; have BK521 := n4_; have BK527 := n5_; have HB := n6_; clear n0_ n1_ n2_ n3_ n4_ n5_ n6_; (try clear hb); (try clear hb2); (try clear hk); (try clear hi); (try clear ho0)) | ((with_reducible refine gate_dst (N := 12) rfl ?_); refine box_event ?hg (N := 12) ?hd (cs := #[.string (⟨#[]⟩ : ByteArray), .slice none 0 0]) (t := 51) ?hr ?_; (case hd => rfl); (case hg => rfl); (case hr => first | (go_simp; done) | (go_simp; rfl)); intro gb533 hg w26 hbox hb; have n0_ := aM (Kd.R_below (by (with_reducible repeat (first | apply ra | apply rn | apply rd_)); exact HO525.out) hb); have n1_ := aM (Kd.R_below (by (with_reducible repeat (first | apply ra | apply rn | apply rd_)); exact HO531.out) hb); have n2_ := aM (bB (g := gb519) (o := .cells #[.string a0_0, .slice A0_1 l0_1.length c0_1] 51 (0, 0)) (by (with_reducible repeat (first | refine qn ?_ _ | refine qd ?_ | refine qa ?_ _)); exact BK519.out) hb); have n3_ := aM (bB (g := gb520) (o := .cells #[.string a3_0, .slice A3_1 l3_1.length c3_1] 51 (0, 0)) (by (with_reducible repeat (first | refine qn ?_ _ | refine qd ?_ | refine qa ?_ _)); exact BK520.out) hb); have n4_ := aM (bB (g := gb521) (o := .cells #[.int .i64 0, .string (⟨#[]⟩ : ByteArray), .slice none 0 0, .string (⟨#[]⟩ : ByteArray), .slice none 0 0] 64 (0, 0)) (by (with_reducible repeat (first | refine qn ?_ _ | refine qd ?_ | refine qa ?_ _)); exact BK521.out) hb); have n5_ := aM (bB (g := gb527) (o := .cells #[.string t522, .slice Ao23 t523.length co23] 51 (0, 0)) (by (with_reducible repeat (first | refine qn ?_ _ | refine qd ?_ | refine qa ?_ _)); exact BK527.out) hb); have n6_ := aM (bP (by repeat (first | (with_reducible first | exact HB.out | apply ea | apply en | apply ed | refine es ?_ GE519.out | refine es ?_ GE520.out | refine es ?_ GE521.out | refine es ?_ GE527.out) | exact HB.out)) hb); have n7_ := aM (hbox); have n8_ := aM ((by rw [hg]; exact (bZ (by repeat (first | (with_reducible first | exact HB.out | apply ea | apply en | apply ed | refine es ?_ GE519.out | refine es ?_ GE520.out | refine es ?_ GE521.out | refine es ?_ GE527.out) | exact HB.out))) : w.heap.size ≤ gb533)); have n9_ := aM ((by rw [hg]; exact (bZ (by repeat (first | (with_reducible first | exact HB.out | apply ea | apply en | apply ed | refine es ?_ GE519.out | refine es ?_ GE520.out | refine es ?_ GE521.out | refine es ?_ GE527.out) | exact HB.out))) : w.heap.size ≤ gb533)); have n10_ := aM ((by rw [hg]; exact Nat.ne_of_lt (blk_lt (g := gb519) (o := .cells #[.string a0_0, .slice A0_1 l0_1.length c0_1] 51 (0, 0)) (by (with_reducible repeat (first | refine qn ?_ _ | refine qd ?_ | refine qa ?_ _)); exact BK519.out)) : gb519 ≠ gb533)); have n11_ := aM ((by rw [hg]; exact Nat.ne_of_gt (blk_lt (g := gb519) (o := .cells #[.string a0_0, .slice A0_1 l0_1.length c0_1] 51 (0, 0)) (by (with_reducible repeat (first | refine qn ?_ _ | refine qd ?_ | refine qa ?_ _)); exact BK519.out)) : gb533 ≠ gb519)); have n12_ := aM ((by rw [hg]; exact Nat.ne_of_lt (blk_lt (g := gb520) (o := .cells #[.string a3_0, .slice A3_1 l3_1.length c3_1] 51 (0, 0)) (by (with_reducible repeat (first | refine qn ?_ _ | refine qd ?_ | refine qa ?_ _)); exact BK520.out)) : gb520 ≠ gb533)); have n13_ := aM ((by rw [hg]; exact Nat.ne_of_gt (blk_lt (g := gb520) (o := .cells #[.string a3_0, .slice A3_1 l3_1.length c3_1] 51 (0, 0)) (by (with_reducible repeat (first | refine qn ?_ _ | refine qd ?_ | refine qa ?_ _)); exact BK520.out)) : gb533 ≠ gb520)); have n14_ := aM ((by rw [hg]; exact Nat.ne_of_lt (blk_lt (g := gb521) (o := .cells #[.int .i64 0, .string (⟨#[]⟩ : ByteArray), .slice none 0 0, .string (⟨#[]⟩ : ByteArray), .slice none 0 0] 64 (0, 0)) (by (with_reducible repeat (first | refine qn ?_ _ | refine qd ?_ | refine qa ?_ _)); exact BK521.out)) : gb521 ≠ gb533)); have n15_ := aM ((by rw [hg]; exact Nat.ne_of_gt (blk_lt (g := gb521) (o := .cells #[.int .i64 0, .string (⟨#[]⟩ : ByteArray), .slice none 0 0, .string (⟨#[]⟩ : ByteArray), .slice none 0 0] 64 (0, 0)) (by (with_reducible repeat (first | refine qn ?_ _ | refine qd ?_ | refine qa ?_ _)); exact BK521.out)) : gb533 ≠ gb521)); have n16_ := aM ((by rw [hg]; exact Nat.ne_of_lt (blk_lt (g := gb527) (o := .cells #[.string t522, .slice Ao23 t523.length co23] 51 (0, 0)) (by (with_reducible repeat (first | refine qn ?_ _ | refine qd ?_ | refine qa ?_ _)); exact BK527.out)) : gb527 ≠ gb533)); have n17_ := aM ((by rw [hg]; exact Nat.ne_of_gt (blk_lt (g := gb527) (o := .cells #[.string t522, .slice Ao23 t523.length co23] 51 (0, 0)) (by (with_reducible repeat (first | refine qn ?_ _ | refine qd ?_ | refine qa ?_ _)); exact BK527.out)) : gb533 ≠ gb527)); clear HO525; clear HO531; clear BK519; clear BK520; clear BK521; clear BK527; clear HB; have HO525 := n0_; have HO531 := n1_; have BK519 := n2_; have BK520 := n3_; have BK521 := n4_; have BK527 := n5_; have HB := n6_; have BK533 := n7_; have GW533 := n8_; have GE533 := n9_; have NB519_533 := n10_; have NB533_519 := n11_; have NB520_533 := n12_; have NB533_520 := n13_; have NB521_533 := n14_; have NB533_521 := n15_; have NB527_533 := n16_; have NB533_527 := n17_; clear n0_ n1_ n2_ n3_ n4_ n5_ n6_ n7_ n8_ n9_ n10_ n11_ n12_ n13_ n14_ n15_ n16_ n17_; clear hb hbox hg; have hnb27 := NB533_519.out; have hnc27 := NB519_533.out; have hnb28 := NB533_520.out; have hnc28 := NB520_533.out; have hnb29 := NB533_521.out; have hnc29 := NB521_533.out; have hnb30 := NB533_527.out; have hnc30 := NB527_533.out; have hcz31_0 : w26.cell? ⟨gb533, 0, none⟩ = some (.string (⟨#[]⟩ : ByteArray)) := (bC BK533.out 0).trans rfl; have hcz31_1 : w26.cell? ⟨gb533, 1, none⟩ = some (.slice none 0 0) := (bC BK533.out 1).trans rfl; have hfz31_0 := bF BK533.out 0; have hfz31_1 := bF BK533.out 1; obtain ⟨Ao32, co32, eo32⟩ := Kd.R_slice HO531.out; subst eo32))
    have n0_ : Aside0 (Kd.R k100 100 ((w26.setCell ⟨gb533, 0, none⟩ (.string t528)).setCell ⟨gb533, 1, none⟩ (.slice Ao32 t529.length co32)) w.heap.size (fun k_ => some k_ ≠ (.slice Ao32 t529.length co32 : Value).ownBlock) (.slice Ao23 t523.length co23) t523) := ⟨by (with_reducible repeat (first | apply ra | apply rn | apply rd_)); exact rM (rF (p := ⟨gb533, 1, none⟩) (rF (p := ⟨gb533, 0, none⟩) (rT HO525.out BK533.out (by decide)) (fun _ hk => hk.2) (.string t528)) (fun _ hk => hk.2) (.slice Ao32 t529.length co32)) (fun _ hk => hk.1.2)⟩
    have n1_ : Aside0 (Kd.R k100 100 ((w26.setCell ⟨gb533, 0, none⟩ (.string t528)).setCell ⟨gb533, 1, none⟩ (.slice Ao32 t529.length co32)) w.heap.size (fun k_ => some k_ ≠ (.slice Ao23 t523.length co23 : Value).ownBlock) (.slice Ao32 t529.length co32) t529) := ⟨by (with_reducible repeat (first | apply ra | apply rn | apply rd_)); exact rM (rF (p := ⟨gb533, 1, none⟩) (rF (p := ⟨gb533, 0, none⟩) (rT HO531.out BK533.out (by decide)) (fun _ hk => hk.2) (.string t528)) (fun _ hk => hk.2) (.slice Ao32 t529.length co32)) (fun _ hk => hk.1.2)⟩
    have n2_ : Aside0 (((w26.setCell ⟨gb533, 0, none⟩ (.string t528)).setCell ⟨gb533, 1, none⟩ (.slice Ao32 t529.length co32)).heap[gb519]? = some (.cells #[.string a0_0, .slice A0_1 l0_1.length c0_1] 51 (0, 0))) := ⟨by (with_reducible repeat (first | refine qn ?_ _ | refine qd ?_ | refine qa ?_ _)); refine bR ?_ NB519_533.out _; (with_reducible repeat (first | refine qn ?_ _ | refine qd ?_ | refine qa ?_ _)); refine bR ?_ NB519_533.out _; (with_reducible repeat (first | refine qn ?_ _ | refine qd ?_ | refine qa ?_ _)); exact BK519.out⟩
    have n3_ : Aside0 (((w26.setCell ⟨gb533, 0, none⟩ (.string t528)).setCell ⟨gb533, 1, none⟩ (.slice Ao32 t529.length co32)).heap[gb520]? = some (.cells #[.string a3_0, .slice A3_1 l3_1.length c3_1] 51 (0, 0))) := ⟨by (with_reducible repeat (first | refine qn ?_ _ | refine qd ?_ | refine qa ?_ _)); refine bR ?_ NB520_533.out _; (with_reducible repeat (first | refine qn ?_ _ | refine qd ?_ | refine qa ?_ _)); refine bR ?_ NB520_533.out _; (with_reducible repeat (first | refine qn ?_ _ | refine qd ?_ | refine qa ?_ _)); exact BK520.out⟩
    have n4_ : Aside0 (((w26.setCell ⟨gb533, 0, none⟩ (.string t528)).setCell ⟨gb533, 1, none⟩ (.slice Ao32 t529.length co32)).heap[gb521]? = some (.cells #[.int .i64 0, .string (⟨#[]⟩ : ByteArray), .slice none 0 0, .string (⟨#[]⟩ : ByteArray), .slice none 0 0] 64 (0, 0))) := ⟨by (with_reducible repeat (first | refine qn ?_ _ | refine qd ?_ | refine qa ?_ _)); refine bR ?_ NB521_533.out _; (with_reducible repeat (first | refine qn ?_ _ | refine qd ?_ | refine qa ?_ _)); refine bR ?_ NB521_533.out _; (with_reducible repeat (first | refine qn ?_ _ | refine qd ?_ | refine qa ?_ _)); exact BK521.out⟩
    have n5_ : Aside0 (((w26.setCell ⟨gb533, 0, none⟩ (.string t528)).setCell ⟨gb533, 1, none⟩ (.slice Ao32 t529.length co32)).heap[gb527]? = some (.cells #[.string t522, .slice Ao23 t523.length co23] 51 (0, 0))) := ⟨by (with_reducible repeat (first | refine qn ?_ _ | refine qd ?_ | refine qa ?_ _)); refine bR ?_ NB527_533.out _; (with_reducible repeat (first | refine qn ?_ _ | refine qd ?_ | refine qa ?_ _)); refine bR ?_ NB527_533.out _; (with_reducible repeat (first | refine qn ?_ _ | refine qd ?_ | refine qa ?_ _)); exact BK527.out⟩
    have n6_ : Aside0 (((w26.setCell ⟨gb533, 0, none⟩ (.string t528)).setCell ⟨gb533, 1, none⟩ (.slice Ao32 t529.length co32)).heap[gb533]? = some (.cells #[.string t528, .slice Ao32 t529.length co32] 51 (0, 0))) := ⟨by (with_reducible repeat (first | refine qn ?_ _ | refine qd ?_ | refine qa ?_ _)); refine bU (cs := #[.string t528, .slice none 0 0]) ?_ 1 _ rfl; (with_reducible repeat (first | refine qn ?_ _ | refine qd ?_ | refine qa ?_ _)); refine bU (cs := #[.string (⟨#[]⟩ : ByteArray), .slice none 0 0]) ?_ 0 _ rfl; (with_reducible repeat (first | refine qn ?_ _ | refine qd ?_ | refine qa ?_ _)); exact BK533.out⟩
    have n7_ : Aside0 (Below w.heap.size w ((w26.setCell ⟨gb533, 0, none⟩ (.string t528)).setCell ⟨gb533, 1, none⟩ (.slice Ao32 t529.length co32))) := ⟨by repeat (first | (with_reducible first | exact HB.out | apply ea | apply en | apply ed | refine es ?_ GE519.out | refine es ?_ GE520.out | refine es ?_ GE521.out | refine es ?_ GE527.out | refine es ?_ GE533.out) | exact HB.out)⟩
    (try clear HO525)
    (try clear HO531)
    (try clear BK519)
    (try clear BK520)
    (try clear BK521)
    (try clear BK527)
    (try clear BK533)
    (try clear HB)
    generalize ((w26.setCell ⟨gb533, 0, none⟩ (.string t528)).setCell ⟨gb533, 1, none⟩ (.slice Ao32 t529.length co32)) = w33 at n0_ n1_ n2_ n3_ n4_ n5_ n6_ n7_ ⊢
    have HO525 := n0_
    have HO531 := n1_
    have BK519 := n2_
    have BK520 := n3_
    have BK521 := n4_
    have BK527 := n5_
    have BK533 := n6_
    have HB := n7_
    clear n0_ n1_ n2_ n3_ n4_ n5_ n6_ n7_
    have n0_ := aM (Kd.R_drew HO525.out)
    have n1_ := aM (Kd.R_drew HO531.out)
    have n2_ := aM (blk_drew BK519.out)
    have n3_ := aM (blk_drew BK520.out)
    have n4_ := aM (blk_drew BK521.out)
    have n5_ := aM (blk_drew BK527.out)
    have n6_ := aM (blk_drew BK533.out)
    have n7_ := aM (below_drew1 HB.out)
    clear HO525
    clear HO531
    clear BK519
    clear BK520
    clear BK521
    clear BK527
    clear BK533
    clear HB
    have HO525 := n0_
    have HO531 := n1_
    have BK519 := n2_
    have BK520 := n3_
    have BK521 := n4_
    have BK527 := n5_
    have BK533 := n6_
    have HB := n7_
    clear n0_ n1_ n2_ n3_ n4_ n5_ n6_ n7_
    refine start_ (n := 8) (S := fun w' => w'.cell? ⟨gb533, 0, none⟩ = some (.string t528) ∧ w'.cell? ⟨gb533, 1, none⟩ = some (.slice Ao32 t529.length co32) ∧ w'.cell? ⟨gb520, 0, none⟩ = some (.string a3_0) ∧ w'.cell? ⟨gb520, 1, none⟩ = some (.slice A3_1 l3_1.length c3_1)) (ds := []) #[false, false, false, false, false, false, false, false] (by kernel_rfl) rfl rfl ⟨(bC BK533.out 0).trans rfl, (bC BK533.out 1).trans rfl, (bC BK520.out 0).trans rfl, (bC BK520.out 1).trans rfl⟩ (fun hHeld => ?_); refine with_tabW edit_Of.tab5 edit_Of.bits5 (fun HT_ HW_ => ?_)
    generalize w33.drew = w34 at HO525 HO531 BK519 BK520 BK521 BK527 BK533 HB hHeld ⊢
    refine pure_ (i := 0) (N := some 33) (v := ?_) (a' := ?_) #[true, false, false, false, false, false, false, false] rfl rfl (any_of HT_.out (by kernel_rfl)) (fun _ _ _ h => h) (Or.inl ⟨by rfl, ?_⟩) ?_ ?_
    rotate_left
    · intro w'
      go_simp
      with_reducible rfl
    rotate_left
    · simp only [Act.put, List.setIfInBounds_toArray, List.set_cons_zero, List.set_cons_succ, i64_w, i32_w]
      rfl
    refine pure_ (i := 5) (N := some 38) (v := ?_) (a' := ?_) #[true, false, false, false, false, true, false, false] rfl rfl (any_of HT_.out (by kernel_rfl)) (fun _ _ _ h => h) (Or.inl ⟨by rfl, ?_⟩) ?_ ?_
    rotate_left
    · intro w'
      go_simp
      with_reducible rfl
    rotate_left
    · simp only [Act.put, List.setIfInBounds_toArray, List.set_cons_zero, List.set_cons_succ, i64_w, i32_w]
      rfl
    refine take_ (i := 1) (N := some 34) (v := ?_) (a' := ?_) #[true, true, false, false, false, true, false, false] rfl rfl (take_ofW HT_.out HW_.out (by kernel_rfl)) (fun _ _ _ h => h) (Or.inl ⟨by rfl, ?_⟩) hHeld ?_ ?_
    rotate_left
    · rintro w' ⟨s0, s1, s2, s3⟩
      go_simp
      with_reducible rfl
    rotate_left
    · simp only [Act.put, List.setIfInBounds_toArray, List.set_cons_zero, List.set_cons_succ, i64_w, i32_w]
      rfl
    refine take_ (i := 2) (N := some 35) (v := ?_) (a' := ?_) #[true, true, true, false, false, true, false, false] rfl rfl (take_ofW HT_.out HW_.out (by kernel_rfl)) (fun _ _ _ h => h) (Or.inl ⟨by rfl, ?_⟩) hHeld ?_ ?_
    rotate_left
    · rintro w' ⟨s0, s1, s2, s3⟩
      go_simp
      with_reducible rfl
    rotate_left
    · simp only [Act.put, List.setIfInBounds_toArray, List.set_cons_zero, List.set_cons_succ, i64_w, i32_w]
      rfl
    refine one_ (i := 3) (N := some 36) #[true, true, true, true, false, true, false, false] rfl rfl (one_of HT_.out (by kernel_rfl)) (by decide) (fun K hK => ?_)
    refine goes_ Try.func98 (by kernel_rfl) rfl #[.agg #[.string a3_0, .slice A3_1 l3_1.length c3_1]] (by rfl) rfl rfl (by (try simp only [List.map_toArray, List.map_cons, List.map_nil]); first | done | rfl | (simp only [List.length_drop, List.length_take]; rfl)) ?_
    with_reducible refine (edit_own.calls a3_0 _ _ l3_1 t534 t535 _ ?side1 ?side2 A8.out).mono ?_
    (case side1 => repeat (first | exact (cB_ HR3_1.out HB.out) | (with_reducible refine Kd.C_alloc ?_ _) | (with_reducible refine Kd.C_drewN ?_ _) | (with_reducible refine Kd.C_drew ?_)))
    (case side2 => exact HC3_1.out)
    rintro e w35 ⟨v536, rfl, ho0, hb⟩
    refine ⟨_, rfl, ?_⟩
    have n0_ := aM (rE (by (with_reducible repeat (first | apply ra | apply rn | apply rd_)); exact HO525.out) (Kd.R_base ho0) hb)
    have n1_ := aM (rE (by (with_reducible repeat (first | apply ra | apply rn | apply rd_)); exact HO531.out) (Kd.R_base ho0) hb)
    have n2_ := aM (rL (Kd.R_new' (Kd.R_new' ho0 (Kd.R_lt (by (with_reducible repeat (first | apply ra | apply rn | apply rd_)); exact HO525.out))) (Kd.R_lt (by (with_reducible repeat (first | apply ra | apply rn | apply rd_)); exact HO531.out))) (bZ (by repeat (first | (with_reducible first | exact HB.out | apply ea | apply en | apply ed | refine es ?_ GE519.out | refine es ?_ GE520.out | refine es ?_ GE521.out | refine es ?_ GE527.out | refine es ?_ GE533.out) | exact HB.out))))
    have n3_ := aM (bB (g := gb519) (o := .cells #[.string a0_0, .slice A0_1 l0_1.length c0_1] 51 (0, 0)) (by (with_reducible repeat (first | refine qn ?_ _ | refine qd ?_ | refine qa ?_ _)); exact BK519.out) hb)
    have n4_ := aM (bB (g := gb520) (o := .cells #[.string a3_0, .slice A3_1 l3_1.length c3_1] 51 (0, 0)) (by (with_reducible repeat (first | refine qn ?_ _ | refine qd ?_ | refine qa ?_ _)); exact BK520.out) hb)
    have n5_ := aM (bB (g := gb521) (o := .cells #[.int .i64 0, .string (⟨#[]⟩ : ByteArray), .slice none 0 0, .string (⟨#[]⟩ : ByteArray), .slice none 0 0] 64 (0, 0)) (by (with_reducible repeat (first | refine qn ?_ _ | refine qd ?_ | refine qa ?_ _)); exact BK521.out) hb)
    have n6_ := aM (bB (g := gb527) (o := .cells #[.string t522, .slice Ao23 t523.length co23] 51 (0, 0)) (by (with_reducible repeat (first | refine qn ?_ _ | refine qd ?_ | refine qa ?_ _)); exact BK527.out) hb)
    have n7_ := aM (bB (g := gb533) (o := .cells #[.string t528, .slice Ao32 t529.length co32] 51 (0, 0)) (by (with_reducible repeat (first | refine qn ?_ _ | refine qd ?_ | refine qa ?_ _)); exact BK533.out) hb)
    have n8_ := aM (bP (by repeat (first | (with_reducible first | exact HB.out | apply ea | apply en | apply ed | refine es ?_ GE519.out | refine es ?_ GE520.out | refine es ?_ GE521.out | refine es ?_ GE527.out | refine es ?_ GE533.out) | exact HB.out)) hb)
    clear HO525
    clear HO531
    clear BK519
    clear BK520
    clear BK521
    clear BK527
    clear BK533
    clear HB
    have HO525 := n0_
    have HO531 := n1_
    have HO537 := n2_
    have BK519 := n3_
    have BK520 := n4_
    have BK521 := n5_
    have BK527 := n6_
    have BK533 := n7_
    have HB := n8_
    clear n0_ n1_ n2_ n3_ n4_ n5_ n6_ n7_ n8_
    (try clear hb)
    (try clear hb2)
    (try clear hk)
    (try clear hi)
    (try clear ho0)
    obtain ⟨Ao36, co36, eo36⟩ := Kd.R_slice HO537.out
    (first | subst eo36 | (injection eo36 with f1_ f2_ f3_; have f4_ := f1_.symm; have f5_ := f3_.symm; clear f1_ f2_ f3_; subst f4_; subst f5_))
    refine hK.out _ _ ⟨(bC BK533.out 0).trans rfl, (bC BK533.out 1).trans rfl, (bC BK520.out 0).trans rfl, (bC BK520.out 1).trans rfl⟩ (fun hHeld => ?_)
    clear hK K
    refine norm_ (a' := ?_) ?_ ?_
    rotate_left
    · show Act.put _ (some 36) _ = _
      simp only [Act.put, List.setIfInBounds_toArray, List.set_cons_zero, List.set_cons_succ, i64_w, i32_w]
      rfl
    refine pure_ (i := 4) (N := some 37) (v := ?_) (a' := ?_) #[true, true, true, true, true, true, false, false] rfl rfl (any_of HT_.out (by kernel_rfl)) (fun _ _ _ h => h) (Or.inl ⟨by rfl, ?_⟩) ?_ ?_
    rotate_left
    · intro w'
      go_simp
      with_reducible rfl
    rotate_left
    · simp only [Act.put, List.setIfInBounds_toArray, List.set_cons_zero, List.set_cons_succ, i64_w, i32_w]
      rfl
    refine one_ (i := 6) (N := none) #[true, true, true, true, true, true, true, false] rfl rfl (one_of HT_.out (by kernel_rfl)) (by decide) (fun K hK => ?_)
    have hs37 : w35.cell? ⟨gb521, 0, none⟩ = some (.int .i64 0) := (bC BK521.out 0).trans rfl
    have hfs37 := bF BK521.out 0
    have hns37_0 := NB519_521.out
    have hns37_1 := NB520_521.out
    have hns37_3 := NB527_521.out
    have hns37_4 := NB533_521.out
    have hms37_0 := NB521_519.out
    have hms37_1 := NB521_520.out
    have hms37_3 := NB521_527.out
    have hms37_4 := NB521_533.out
    have hs38 : w35.cell? ⟨gb521, 1, none⟩ = some (.string (⟨#[]⟩ : ByteArray)) := (bC BK521.out 1).trans rfl
    have hfs38 := bF BK521.out 1
    have hns38_0 := NB519_521.out
    have hns38_1 := NB520_521.out
    have hns38_3 := NB527_521.out
    have hns38_4 := NB533_521.out
    have hms38_0 := NB521_519.out
    have hms38_1 := NB521_520.out
    have hms38_3 := NB521_527.out
    have hms38_4 := NB521_533.out
    have hs39 : w35.cell? ⟨gb521, 2, none⟩ = some (.slice none 0 0) := (bC BK521.out 2).trans rfl
    have hfs39 := bF BK521.out 2
    have hns39_0 := NB519_521.out
    have hns39_1 := NB520_521.out
    have hns39_3 := NB527_521.out
    have hns39_4 := NB533_521.out
    have hms39_0 := NB521_519.out
    have hms39_1 := NB521_520.out
    have hms39_3 := NB521_527.out
    have hms39_4 := NB521_533.out
    have hs40 : w35.cell? ⟨gb521, 3, none⟩ = some (.string (⟨#[]⟩ : ByteArray)) := (bC BK521.out 3).trans rfl
    have hfs40 := bF BK521.out 3
    have hns40_0 := NB519_521.out
    have hns40_1 := NB520_521.out
    have hns40_3 := NB527_521.out
    have hns40_4 := NB533_521.out
    have hms40_0 := NB521_519.out
    have hms40_1 := NB521_520.out
    have hms40_3 := NB521_527.out
    have hms40_4 := NB521_533.out
    have hs41 : w35.cell? ⟨gb521, 4, none⟩ = some (.slice none 0 0) := (bC BK521.out 4).trans rfl
    have hfs41 := bF BK521.out 4
    have hns41_0 := NB519_521.out
    have hns41_1 := NB520_521.out
    have hns41_3 := NB527_521.out
    have hns41_4 := NB533_521.out
    have hms41_0 := NB521_519.out
    have hms41_1 := NB521_520.out
    have hms41_3 := NB521_527.out
    have hms41_4 := NB521_533.out
    refine skip_ (w1 := ?_) (by rfl) rfl ?_ ?_
    rotate_left
    · go_simp
      rfl
    refine hK.out _ _ ⟨((cell_far (p := ⟨gb521, _, none⟩) NB533_521.out _).trans (((cell_far (p := ⟨gb521, _, none⟩) NB533_521.out _).trans (((cell_far (p := ⟨gb521, _, none⟩) NB533_521.out _).trans (((cell_far (p := ⟨gb521, _, none⟩) NB533_521.out _).trans (((cell_far (p := ⟨gb521, _, none⟩) NB533_521.out _).trans (hHeld.1)))))))))), ((cell_far (p := ⟨gb521, _, none⟩) NB533_521.out _).trans (((cell_far (p := ⟨gb521, _, none⟩) NB533_521.out _).trans (((cell_far (p := ⟨gb521, _, none⟩) NB533_521.out _).trans (((cell_far (p := ⟨gb521, _, none⟩) NB533_521.out _).trans (((cell_far (p := ⟨gb521, _, none⟩) NB533_521.out _).trans (hHeld.2.1)))))))))), ((cell_far (p := ⟨gb521, _, none⟩) NB520_521.out _).trans (((cell_far (p := ⟨gb521, _, none⟩) NB520_521.out _).trans (((cell_far (p := ⟨gb521, _, none⟩) NB520_521.out _).trans (((cell_far (p := ⟨gb521, _, none⟩) NB520_521.out _).trans (((cell_far (p := ⟨gb521, _, none⟩) NB520_521.out _).trans (hHeld.2.2.1)))))))))), ((cell_far (p := ⟨gb521, _, none⟩) NB520_521.out _).trans (((cell_far (p := ⟨gb521, _, none⟩) NB520_521.out _).trans (((cell_far (p := ⟨gb521, _, none⟩) NB520_521.out _).trans (((cell_far (p := ⟨gb521, _, none⟩) NB520_521.out _).trans (((cell_far (p := ⟨gb521, _, none⟩) NB520_521.out _).trans (hHeld.2.2.2))))))))))⟩ (fun hHeld => ?_)
    clear hK K
    refine pure_ (i := 7) (N := some 9) (v := ?_) (a' := ?_) #[true, true, true, true, true, true, true, true] rfl rfl (any_of HT_.out (by kernel_rfl)) (fun _ _ _ h => h) (Or.inl ⟨by rfl, ?_⟩) ?_ ?_
    rotate_left
    · intro w'
      go_simp
      with_reducible rfl
    rotate_left
    · simp only [Act.put, List.setIfInBounds_toArray, List.set_cons_zero, List.set_cons_succ, i64_w, i32_w]
      rfl
    refine done_ (done_of HT_.out (by kernel_rfl)) ?_
    try go_wp2
    refine bodyPost_ret (results_ct rfl _ _ gb521 64 #[.int .i64 a1, .string t528, .slice Ao32 t529.length co32, .string t534, .slice Ao36 t535.length co36] (0, 0) _ rfl (by (with_reducible repeat (first | refine qn ?_ _ | refine qd ?_ | refine qa ?_ _)); refine bU (cs := #[.int .i64 a1, .string t528, .slice Ao32 t529.length co32, .string t534, .slice none 0 0]) ?_ 4 _ rfl; (with_reducible repeat (first | refine qn ?_ _ | refine qd ?_ | refine qa ?_ _)); refine bU (cs := #[.int .i64 a1, .string t528, .slice Ao32 t529.length co32, .string (⟨#[]⟩ : ByteArray), .slice none 0 0]) ?_ 3 _ rfl; (with_reducible repeat (first | refine qn ?_ _ | refine qd ?_ | refine qa ?_ _)); refine bU (cs := #[.int .i64 a1, .string t528, .slice none 0 0, .string (⟨#[]⟩ : ByteArray), .slice none 0 0]) ?_ 2 _ rfl; (with_reducible repeat (first | refine qn ?_ _ | refine qd ?_ | refine qa ?_ _)); refine bU (cs := #[.int .i64 a1, .string (⟨#[]⟩ : ByteArray), .slice none 0 0, .string (⟨#[]⟩ : ByteArray), .slice none 0 0]) ?_ 1 _ rfl; (with_reducible repeat (first | refine qn ?_ _ | refine qd ?_ | refine qa ?_ _)); refine bU (cs := #[.int .i64 0, .string (⟨#[]⟩ : ByteArray), .slice none 0 0, .string (⟨#[]⟩ : ByteArray), .slice none 0 0]) ?_ 0 _ rfl; (with_reducible repeat (first | refine qn ?_ _ | refine qd ?_ | refine qa ?_ _)); exact BK521.out) Try.underlying64 rfl (by kernel_rfl)) rfl ?_
    exact ⟨_, _, by first | rfl | (simp [errW_none, errW_some] <;> rfl) | (simp [*, errW_none, errW_some] <;> rfl), by (with_reducible repeat (first | apply ra | apply rn | apply rd_)); exact rM (rF (p := ⟨gb521, 4, none⟩) (rF (p := ⟨gb521, 3, none⟩) (rF (p := ⟨gb521, 2, none⟩) (rF (p := ⟨gb521, 1, none⟩) (rF (p := ⟨gb521, 0, none⟩) (rT HO531.out BK521.out (by decide)) (fun _ hk => hk.2) (.int .i64 a1)) (fun _ hk => hk.2) (.string t528)) (fun _ hk => hk.2) (.slice Ao32 t529.length co32)) (fun _ hk => hk.2) (.string t534)) (fun _ hk => hk.2) (.slice Ao36 t535.length co36)) (fun _ hk => hk.1.2), by (with_reducible repeat (first | apply ra | apply rn | apply rd_)); exact rM (rF (p := ⟨gb521, 4, none⟩) (rF (p := ⟨gb521, 3, none⟩) (rF (p := ⟨gb521, 2, none⟩) (rF (p := ⟨gb521, 1, none⟩) (rF (p := ⟨gb521, 0, none⟩) (rT HO537.out BK521.out (by decide)) (fun _ hk => hk.2) (.int .i64 a1)) (fun _ hk => hk.2) (.string t528)) (fun _ hk => hk.2) (.slice Ao32 t529.length co32)) (fun _ hk => hk.2) (.string t534)) (fun _ hk => hk.2) (.slice Ao36 t535.length co36)) (fun _ hk => hk.1.2), by repeat (first | (with_reducible first | exact HB.out | apply ea | apply en | apply ed | refine es ?_ GE519.out | refine es ?_ GE520.out | refine es ?_ GE521.out | refine es ?_ GE527.out | refine es ?_ GE533.out) | exact HB.out)⟩
  · rw [if_neg c6] at H
    have c6b0 : (t526 == 0) = false := beq_eq_false_iff_ne.mpr c6
    have c6b1 : (t526 != 0) = true := bne_iff_ne.mpr c6
    simp only [Option.some.injEq, Prod.mk.injEq] at H
    obtain ⟨rfl, rfl, rfl, rfl, rfl, rfl⟩ := H
    go_enter Try.func56, Try.ntmps56
    go_wp2_with (first | ((with_reducible refine gate_dst (N := 4) rfl ?_); refine box_event ?hg (N := 4) ?hd (cs := #[.string a0_0, .slice A0_1 l0_1.length c0_1]) (t := 51) ?hr ?_; (case hd => rfl); (case hg => rfl); (case hr => first | (go_simp; done) | (go_simp; rfl)); intro gb519 hg w42 hbox hb; have n0_ := aM (bP (by repeat (first | (with_reducible first | exact HB.out | apply ea | apply en | apply ed) | exact HB.out)) hb); have n1_ := aM (hbox); have n2_ := aM ((by rw [hg]; exact (bZ (by repeat (first | (with_reducible first | exact HB.out | apply ea | apply en | apply ed) | exact HB.out))) : w.heap.size ≤ gb519)); have n3_ := aM ((by rw [hg]; exact (bZ (by repeat (first | (with_reducible first | exact HB.out | apply ea | apply en | apply ed) | exact HB.out))) : w.heap.size ≤ gb519)); clear HB; have HB := n0_; have BK519 := n1_; have GW519 := n2_; have GE519 := n3_; clear n0_ n1_ n2_ n3_; clear hb hbox hg) | ((with_reducible refine gate_dst (N := 7) rfl ?_); refine box_event ?hg (N := 7) ?hd (cs := #[.string a3_0, .slice A3_1 l3_1.length c3_1]) (t := 51) ?hr ?_; (case hd => rfl); (case hg => rfl); (case hr => first | (go_simp; done) | (go_simp; rfl)); intro gb520 hg w43 hbox hb; have n0_ := aM (bB (g := gb519) (o := .cells #[.string a0_0, .slice A0_1 l0_1.length c0_1] 51 (0, 0)) (by (with_reducible repeat (first | refine qn ?_ _ | refine qd ?_ | refine qa ?_ _)); exact BK519.out) hb); have n1_ := aM (bP (by repeat (first | (with_reducible first | exact HB.out | apply ea | apply en | apply ed | refine es ?_ GE519.out) | exact HB.out)) hb); have n2_ := aM (hbox); have n3_ := aM ((by rw [hg]; exact (bZ (by repeat (first | (with_reducible first | exact HB.out | apply ea | apply en | apply ed | refine es ?_ GE519.out) | exact HB.out))) : w.heap.size ≤ gb520)); have n4_ := aM ((by rw [hg]; exact (bZ (by repeat (first | (with_reducible first | exact HB.out | apply ea | apply en | apply ed | refine es ?_ GE519.out) | exact HB.out))) : w.heap.size ≤ gb520)); have n5_ := aM ((by rw [hg]; exact Nat.ne_of_lt (blk_lt (g := gb519) (o := .cells #[.string a0_0, .slice A0_1 l0_1.length c0_1] 51 (0, 0)) (by (with_reducible repeat (first | refine qn ?_ _ | refine qd ?_ | refine qa ?_ _)); exact BK519.out)) : gb519 ≠ gb520)); have n6_ := aM ((by rw [hg]; exact Nat.ne_of_gt (blk_lt (g := gb519) (o := .cells #[.string a0_0, .slice A0_1 l0_1.length c0_1] 51 (0, 0)) (by (with_reducible repeat (first | refine qn ?_ _ | refine qd ?_ | refine qa ?_ _)); exact BK519.out)) : gb520 ≠ gb519)); clear BK519; clear HB; have BK519 := n0_; have HB := n1_; have BK520 := n2_; have GW520 := n3_; have GE520 := n4_; have NB519_520 := n5_; have NB520_519 := n6_; clear n0_ n1_ n2_ n3_ n4_ n5_ n6_; clear hb hbox hg) | ((with_reducible refine gate_dst (N := 8) rfl ?_); refine box_event ?hg (N := 8) ?hd (cs := #[.int .i64 0, .string (⟨#[]⟩ : ByteArray), .slice none 0 0, .string (⟨#[]⟩ : ByteArray), .slice none 0 0]) (t := 64) ?hr ?_; (case hd => rfl); (case hg => rfl); (case hr => first | (go_simp; done) | (go_simp; rfl)); intro gb521 hg w44 hbox hb; have n0_ := aM (bB (g := gb519) (o := .cells #[.string a0_0, .slice A0_1 l0_1.length c0_1] 51 (0, 0)) (by (with_reducible repeat (first | refine qn ?_ _ | refine qd ?_ | refine qa ?_ _)); exact BK519.out) hb); have n1_ := aM (bB (g := gb520) (o := .cells #[.string a3_0, .slice A3_1 l3_1.length c3_1] 51 (0, 0)) (by (with_reducible repeat (first | refine qn ?_ _ | refine qd ?_ | refine qa ?_ _)); exact BK520.out) hb); have n2_ := aM (bP (by repeat (first | (with_reducible first | exact HB.out | apply ea | apply en | apply ed | refine es ?_ GE519.out | refine es ?_ GE520.out) | exact HB.out)) hb); have n3_ := aM (hbox); have n4_ := aM ((by rw [hg]; exact (bZ (by repeat (first | (with_reducible first | exact HB.out | apply ea | apply en | apply ed | refine es ?_ GE519.out | refine es ?_ GE520.out) | exact HB.out))) : w.heap.size ≤ gb521)); have n5_ := aM ((by rw [hg]; exact (bZ (by repeat (first | (with_reducible first | exact HB.out | apply ea | apply en | apply ed | refine es ?_ GE519.out | refine es ?_ GE520.out) | exact HB.out))) : w.heap.size ≤ gb521)); have n6_ := aM ((by rw [hg]; exact Nat.ne_of_lt (blk_lt (g := gb519) (o := .cells #[.string a0_0, .slice A0_1 l0_1.length c0_1] 51 (0, 0)) (by (with_reducible repeat (first | refine qn ?_ _ | refine qd ?_ | refine qa ?_ _)); exact BK519.out)) : gb519 ≠ gb521)); have n7_ := aM ((by rw [hg]; exact Nat.ne_of_gt (blk_lt (g := gb519) (o := .cells #[.string a0_0, .slice A0_1 l0_1.length c0_1] 51 (0, 0)) (by (with_reducible repeat (first | refine qn ?_ _ | refine qd ?_ | refine qa ?_ _)); exact BK519.out)) : gb521 ≠ gb519)); have n8_ := aM ((by rw [hg]; exact Nat.ne_of_lt (blk_lt (g := gb520) (o := .cells #[.string a3_0, .slice A3_1 l3_1.length c3_1] 51 (0, 0)) (by (with_reducible repeat (first | refine qn ?_ _ | refine qd ?_ | refine qa ?_ _)); exact BK520.out)) : gb520 ≠ gb521)); have n9_ := aM ((by rw [hg]; exact Nat.ne_of_gt (blk_lt (g := gb520) (o := .cells #[.string a3_0, .slice A3_1 l3_1.length c3_1] 51 (0, 0)) (by (with_reducible repeat (first | refine qn ?_ _ | refine qd ?_ | refine qa ?_ _)); exact BK520.out)) : gb521 ≠ gb520)); clear BK519; clear BK520; clear HB; have BK519 := n0_; have BK520 := n1_; have HB := n2_; have BK521 := n3_; have GW521 := n4_; have GE521 := n5_; have NB519_521 := n6_; have NB521_519 := n7_; have NB520_521 := n8_; have NB521_520 := n9_; clear n0_ n1_ n2_ n3_ n4_ n5_ n6_ n7_ n8_ n9_; clear hb hbox hg; have hnb45 := NB519_520.out; have hnc45 := NB520_519.out; have hnb46 := NB519_521.out; have hnc46 := NB521_519.out; have hcz47_0 : w44.cell? ⟨gb519, 0, none⟩ = some (.string a0_0) := (bC BK519.out 0).trans rfl; have hcz47_1 : w44.cell? ⟨gb519, 1, none⟩ = some (.slice A0_1 l0_1.length c0_1) := (bC BK519.out 1).trans rfl; have hfz47_0 := bF BK519.out 0; have hfz47_1 := bF BK519.out 1; have hnb48 := NB520_521.out; have hnc48 := NB521_520.out; have hcz49_0 : w44.cell? ⟨gb520, 0, none⟩ = some (.string a3_0) := (bC BK520.out 0).trans rfl; have hcz49_1 : w44.cell? ⟨gb520, 1, none⟩ = some (.slice A3_1 l3_1.length c3_1) := (bC BK520.out 1).trans rfl; have hfz49_0 := bF BK520.out 0; have hfz49_1 := bF BK520.out 1) | ((with_reducible refine gate_callee (f := 53) rfl ?_); refine goesL_ (some 19) rfl rfl Try.func53 (by kernel_rfl) rfl #[.agg #[.string a0_0, .slice A0_1 l0_1.length c0_1], .int .i64 a1, .int .i64 a2, .agg #[.string a3_0, .slice A3_1 l3_1.length c3_1]] rfl (by (try simp only [List.map_toArray, List.map_cons, List.map_nil]); first | done | rfl | (simp only [List.length_drop, List.length_take]; rfl)) ?_; (with_reducible refine (strip_Splice.calls k a0_0 _ _ l0_1 a1 a2 a3_0 _ _ l3_1 t522 t523 t526 _ ?side1 ?side2 ?side3 ?side4 A5.out).mono ?_); (case side1 => repeat (first | exact (cB_ HR0_1.out HB.out) | (with_reducible refine Kd.C_alloc ?_ _) | (with_reducible refine Kd.C_drewN ?_ _) | (with_reducible refine Kd.C_drew ?_))); (case side2 => exact HC0_1.out); (case side3 => repeat (first | exact (cB_ HR3_1.out HB.out) | (with_reducible refine Kd.C_alloc ?_ _) | (with_reducible refine Kd.C_drewN ?_ _) | (with_reducible refine Kd.C_drew ?_))); (case side4 => exact HC3_1.out); rintro e w50 ⟨v524, rfl, ho0, hb⟩; refine ⟨_, rfl, ?_⟩; have n0_ := aM (rL ho0 (bZ (by repeat (first | (with_reducible first | exact HB.out | apply ea | apply en | apply ed | refine es ?_ GE519.out | refine es ?_ GE520.out | refine es ?_ GE521.out) | exact HB.out)))); have n1_ := aM (bB (g := gb519) (o := .cells #[.string a0_0, .slice A0_1 l0_1.length c0_1] 51 (0, 0)) (by (with_reducible repeat (first | refine qn ?_ _ | refine qd ?_ | refine qa ?_ _)); exact BK519.out) hb); have n2_ := aM (bB (g := gb520) (o := .cells #[.string a3_0, .slice A3_1 l3_1.length c3_1] 51 (0, 0)) (by (with_reducible repeat (first | refine qn ?_ _ | refine qd ?_ | refine qa ?_ _)); exact BK520.out) hb); have n3_ := aM (bB (g := gb521) (o := .cells #[.int .i64 0, .string (⟨#[]⟩ : ByteArray), .slice none 0 0, .string (⟨#[]⟩ : ByteArray), .slice none 0 0] 64 (0, 0)) (by (with_reducible repeat (first | refine qn ?_ _ | refine qd ?_ | refine qa ?_ _)); exact BK521.out) hb); have n4_ := aM (bP (by repeat (first | (with_reducible first | exact HB.out | apply ea | apply en | apply ed | refine es ?_ GE519.out | refine es ?_ GE520.out | refine es ?_ GE521.out) | exact HB.out)) hb); clear BK519; clear BK520; clear BK521; clear HB; have HO525 := n0_; have BK519 := n1_; have BK520 := n2_; have BK521 := n3_; have HB := n4_; clear n0_ n1_ n2_ n3_ n4_; (try clear hb); (try clear hb2); (try clear hk); (try clear hi); (try clear ho0)) | ((with_reducible refine gate_dst (N := 10) rfl ?_); refine box_event ?hg (N := 10) ?hd (cs := #[.string (⟨#[]⟩ : ByteArray), .slice none 0 0]) (t := 51) ?hr ?_; (case hd => rfl); (case hg => rfl); (case hr => first | (go_simp; done) | (go_simp; rfl)); intro gb527 hg w51 hbox hb; have n0_ := aM (Kd.R_below (by (with_reducible repeat (first | apply ra | apply rn | apply rd_)); exact HO525.out) hb); have n1_ := aM (bB (g := gb519) (o := .cells #[.string a0_0, .slice A0_1 l0_1.length c0_1] 51 (0, 0)) (by (with_reducible repeat (first | refine qn ?_ _ | refine qd ?_ | refine qa ?_ _)); exact BK519.out) hb); have n2_ := aM (bB (g := gb520) (o := .cells #[.string a3_0, .slice A3_1 l3_1.length c3_1] 51 (0, 0)) (by (with_reducible repeat (first | refine qn ?_ _ | refine qd ?_ | refine qa ?_ _)); exact BK520.out) hb); have n3_ := aM (bB (g := gb521) (o := .cells #[.int .i64 0, .string (⟨#[]⟩ : ByteArray), .slice none 0 0, .string (⟨#[]⟩ : ByteArray), .slice none 0 0] 64 (0, 0)) (by (with_reducible repeat (first | refine qn ?_ _ | refine qd ?_ | refine qa ?_ _)); exact BK521.out) hb); have n4_ := aM (bP (by repeat (first | (with_reducible first | exact HB.out | apply ea | apply en | apply ed | refine es ?_ GE519.out | refine es ?_ GE520.out | refine es ?_ GE521.out) | exact HB.out)) hb); have n5_ := aM (hbox); have n6_ := aM ((by rw [hg]; exact (bZ (by repeat (first | (with_reducible first | exact HB.out | apply ea | apply en | apply ed | refine es ?_ GE519.out | refine es ?_ GE520.out | refine es ?_ GE521.out) | exact HB.out))) : w.heap.size ≤ gb527)); have n7_ := aM ((by rw [hg]; exact (bZ (by repeat (first | (with_reducible first | exact HB.out | apply ea | apply en | apply ed | refine es ?_ GE519.out | refine es ?_ GE520.out | refine es ?_ GE521.out) | exact HB.out))) : w.heap.size ≤ gb527)); have n8_ := aM ((by rw [hg]; exact Nat.ne_of_lt (blk_lt (g := gb519) (o := .cells #[.string a0_0, .slice A0_1 l0_1.length c0_1] 51 (0, 0)) (by (with_reducible repeat (first | refine qn ?_ _ | refine qd ?_ | refine qa ?_ _)); exact BK519.out)) : gb519 ≠ gb527)); have n9_ := aM ((by rw [hg]; exact Nat.ne_of_gt (blk_lt (g := gb519) (o := .cells #[.string a0_0, .slice A0_1 l0_1.length c0_1] 51 (0, 0)) (by (with_reducible repeat (first | refine qn ?_ _ | refine qd ?_ | refine qa ?_ _)); exact BK519.out)) : gb527 ≠ gb519)); have n10_ := aM ((by rw [hg]; exact Nat.ne_of_lt (blk_lt (g := gb520) (o := .cells #[.string a3_0, .slice A3_1 l3_1.length c3_1] 51 (0, 0)) (by (with_reducible repeat (first | refine qn ?_ _ | refine qd ?_ | refine qa ?_ _)); exact BK520.out)) : gb520 ≠ gb527)); have n11_ := aM ((by rw [hg]; exact Nat.ne_of_gt (blk_lt (g := gb520) (o := .cells #[.string a3_0, .slice A3_1 l3_1.length c3_1] 51 (0, 0)) (by (with_reducible repeat (first | refine qn ?_ _ | refine qd ?_ | refine qa ?_ _)); exact BK520.out)) : gb527 ≠ gb520)); have n12_ := aM ((by rw [hg]; exact Nat.ne_of_lt (blk_lt (g := gb521) (o := .cells #[.int .i64 0, .string (⟨#[]⟩ : ByteArray), .slice none 0 0, .string (⟨#[]⟩ : ByteArray), .slice none 0 0] 64 (0, 0)) (by (with_reducible repeat (first | refine qn ?_ _ | refine qd ?_ | refine qa ?_ _)); exact BK521.out)) : gb521 ≠ gb527)); have n13_ := aM ((by rw [hg]; exact Nat.ne_of_gt (blk_lt (g := gb521) (o := .cells #[.int .i64 0, .string (⟨#[]⟩ : ByteArray), .slice none 0 0, .string (⟨#[]⟩ : ByteArray), .slice none 0 0] 64 (0, 0)) (by (with_reducible repeat (first | refine qn ?_ _ | refine qd ?_ | refine qa ?_ _)); exact BK521.out)) : gb527 ≠ gb521)); clear HO525; clear BK519; clear BK520; clear BK521; clear HB; have HO525 := n0_; have BK519 := n1_; have BK520 := n2_; have BK521 := n3_; have HB := n4_; have BK527 := n5_; have GW527 := n6_; have GE527 := n7_; have NB519_527 := n8_; have NB527_519 := n9_; have NB520_527 := n10_; have NB527_520 := n11_; have NB521_527 := n12_; have NB527_521 := n13_; clear n0_ n1_ n2_ n3_ n4_ n5_ n6_ n7_ n8_ n9_ n10_ n11_ n12_ n13_; clear hb hbox hg; have hnb52 := NB527_519.out; have hnc52 := NB519_527.out; have hnb53 := NB527_520.out; have hnc53 := NB520_527.out; have hnb54 := NB527_521.out; have hnc54 := NB521_527.out; have hcz55_0 : w51.cell? ⟨gb527, 0, none⟩ = some (.string (⟨#[]⟩ : ByteArray)) := (bC BK527.out 0).trans rfl; have hcz55_1 : w51.cell? ⟨gb527, 1, none⟩ = some (.slice none 0 0) := (bC BK527.out 1).trans rfl; have hfz55_0 := bF BK527.out 0; have hfz55_1 := bF BK527.out 1; obtain ⟨Ao56, co56, eo56⟩ := Kd.R_slice HO525.out; subst eo56; have hcz57_0 : w51.cell? ⟨gb521, 0, none⟩ = some (.int .i64 0) := (bC BK521.out 0).trans rfl; have hcz57_1 : w51.cell? ⟨gb521, 1, none⟩ = some (.string (⟨#[]⟩ : ByteArray)) := (bC BK521.out 1).trans rfl; have hcz57_2 : w51.cell? ⟨gb521, 2, none⟩ = some (.slice none 0 0) := (bC BK521.out 2).trans rfl; have hcz57_3 : w51.cell? ⟨gb521, 3, none⟩ = some (.string (⟨#[]⟩ : ByteArray)) := (bC BK521.out 3).trans rfl; have hcz57_4 : w51.cell? ⟨gb521, 4, none⟩ = some (.slice none 0 0) := (bC BK521.out 4).trans rfl; have hfz57_0 := bF BK521.out 0; have hfz57_1 := bF BK521.out 1; have hfz57_2 := bF BK521.out 2; have hfz57_3 := bF BK521.out 3; have hfz57_4 := bF BK521.out 4))
    refine bodyPost_ret (results_ct rfl _ _ gb521 64 #[.int .i64 0, .string (⟨#[]⟩ : ByteArray), .slice none 0 0, .string (⟨#[]⟩ : ByteArray), .slice none 0 0] (0, 0) _ rfl (by (with_reducible repeat (first | refine qn ?_ _ | refine qd ?_ | refine qa ?_ _)); refine bU (cs := #[.int .i64 0, .string (⟨#[]⟩ : ByteArray), .slice none 0 0, .string (⟨#[]⟩ : ByteArray), .slice none 0 0]) ?_ 4 _ rfl; (with_reducible repeat (first | refine qn ?_ _ | refine qd ?_ | refine qa ?_ _)); refine bU (cs := #[.int .i64 0, .string (⟨#[]⟩ : ByteArray), .slice none 0 0, .string (⟨#[]⟩ : ByteArray), .slice none 0 0]) ?_ 3 _ rfl; (with_reducible repeat (first | refine qn ?_ _ | refine qd ?_ | refine qa ?_ _)); refine bU (cs := #[.int .i64 0, .string (⟨#[]⟩ : ByteArray), .slice none 0 0, .string (⟨#[]⟩ : ByteArray), .slice none 0 0]) ?_ 2 _ rfl; (with_reducible repeat (first | refine qn ?_ _ | refine qd ?_ | refine qa ?_ _)); refine bU (cs := #[.int .i64 0, .string (⟨#[]⟩ : ByteArray), .slice none 0 0, .string (⟨#[]⟩ : ByteArray), .slice none 0 0]) ?_ 1 _ rfl; (with_reducible repeat (first | refine qn ?_ _ | refine qd ?_ | refine qa ?_ _)); refine bU (cs := #[.int .i64 0, .string (⟨#[]⟩ : ByteArray), .slice none 0 0, .string (⟨#[]⟩ : ByteArray), .slice none 0 0]) ?_ 0 _ rfl; (with_reducible repeat (first | refine qn ?_ _ | refine qd ?_ | refine qa ?_ _)); refine bR ?_ NB521_527.out _; (with_reducible repeat (first | refine qn ?_ _ | refine qd ?_ | refine qa ?_ _)); refine bR ?_ NB521_527.out _; (with_reducible repeat (first | refine qn ?_ _ | refine qd ?_ | refine qa ?_ _)); exact BK521.out) Try.underlying64 rfl (by kernel_rfl)) rfl ?_
    exact ⟨_, _, by first | rfl | (simp [errW_none, errW_some] <;> rfl) | (simp [*, errW_none, errW_some] <;> rfl), by first | exact Kd.R_nil _ _ _ _ _ | exact Kd.N_nil _ _ _ _ _ | exact Kd.V_nil _ _ _ _ _ | exact Kd.Q_nil _ _ _ _ _ | exact Kd.S_nil _ _ _ _ _, by first | exact Kd.R_nil _ _ _ _ _ | exact Kd.N_nil _ _ _ _ _ | exact Kd.V_nil _ _ _ _ _ | exact Kd.Q_nil _ _ _ _ _ | exact Kd.S_nil _ _ _ _ _, by repeat (first | (with_reducible first | exact HB.out | apply ea | apply en | apply ed | refine es ?_ GE519.out | refine es ?_ GE520.out | refine es ?_ GE521.out | refine es ?_ GE527.out) | exact HB.out)⟩
end Go.Proofs.Ythpjagblnddjaaa.PB
end

section
namespace Go.Proofs.Ythpjagblnddjaaa.PB
open Go.RowKit Go.Proofs.YthpjagblnddjaaaW.PrintWords Go.Proofs.YthpjagblnddjaaaW.PrintLast Go.Proofs.YthpjagblnddjaaaW.PrintMore
attribute [local go_sem] max2_int min2_int max_two min_two max_three min_three max_four min_four   
set_option linter.unusedVariables false
set_option linter.unusedSimpArgs false
def edit_good.f (k : Nat) (a0_0 : Int) (a0_1 : ByteArray) (l0_2 : List (S100)) (a0_3 : ByteArray) (l0_4 : List (S100)) : Option (Bool) := (strip_Good.f k a0_1 l0_2).bind fun t549 => (if t549 = true then ((strip_Good.f k a0_3 l0_4).bind fun t550 => (if t550 = true then (if a0_0 ≥ 0 then (some (decide (a0_0 ≤ 4096))) else (some false)) else (some false))) else (some false))
theorem edit_good.mono : ∀ a0 a1 a2 a3 a4 k, LeO (edit_good.f k a0 a1 a2 a3 a4) (edit_good.f (k + 1) a0 a1 a2 a3 a4) := by
  intro a0 a1 a2 a3 a4 k
  unfold edit_good.f
  repeat' first
      | (with_reducible exact strip_Good.mono _ _ _)
      | (with_reducible exact LeO.refl _)
      | (with_reducible exact LeO.none _)
      | (with_reducible refine LeO.ite ?_ ?_)
      | (with_reducible refine LeO.bind ?_ (fun _ => ?_))
      | exact strip_Good.mono _ _ _
      | exact LeO.none _
      | refine LeO.ite ?_ ?_
      | refine LeO.bind ?_ (fun _ => ?_)
set_option maxHeartbeats 8000000 in
set_option maxRecDepth 100000 in
theorem edit_good.calls (k : Nat) (a0_0 : Int) (a0_1 : ByteArray) (A0_2 : Option Addr) (c0_2 : Nat) (l0_2 : List (S100)) (a0_3 : ByteArray) (A0_4 : Option Addr) (c0_4 : Nat) (l0_4 : List (S100)) (r : Bool) (w : World) (hr0_2 : Kd.C k100 w A0_2 l0_2.length l0_2) (hc0_2 : l0_2.length ≤ c0_2) (hr0_4 : Kd.C k100 w A0_4 l0_4.length l0_4) (hc0_4 : l0_4.length ≤ c0_4) (h : edit_good.f k a0_0 a0_1 l0_2 a0_3 l0_4 = some r) :
    Calls Try.prog 99 #[.agg #[.int .i64 a0_0, .string a0_1, .slice A0_2 l0_2.length c0_2, .string a0_3, .slice A0_4 l0_4.length c0_4]] w fun e w' => e = .returned (.bool r) ∧ Below w.heap.size w w' := by
  have hu64 := Try.underlying64
  have hu51 := Try.underlying51
  have HR0_2 := aM hr0_2
  have HC0_2 := aM hc0_2
  clear hr0_2 hc0_2
  have HR0_4 := aM hr0_4
  have HC0_4 := aM hc0_4
  clear hr0_4 hc0_4
  have HB := aM (Below.refl w.heap.size w)
  have H : ((strip_Good.f k a0_1 l0_2).bind fun t549 => (if t549 = true then ((strip_Good.f k a0_3 l0_4).bind fun t550 => (if t550 = true then (if a0_0 ≥ 0 then (some (decide (a0_0 ≤ 4096))) else (some false)) else (some false))) else (some false))) = some r := h
  clear h
  replace H := Option.bind_eq_some_iff.mp H
  obtain ⟨t549, A20, H⟩ := H
  replace H : (if t549 = true then ((strip_Good.f k a0_3 l0_4).bind fun t550 => (if t550 = true then (if a0_0 ≥ 0 then (some (decide (a0_0 ≤ 4096))) else (some false)) else (some false))) else (some false)) = some r := H
  have A2 := aM A20
  clear A20
  by_cases c3 : t549 = true
  · subst c3
    have H1 : ((strip_Good.f k a0_3 l0_4).bind fun t550 => (if t550 = true then (if a0_0 ≥ 0 then (some (decide (a0_0 ≤ 4096))) else (some false)) else (some false))) = some r := by rw [if_pos rfl] at H; exact H
    clear H
    have H := H1
    clear H1
    replace H := Option.bind_eq_some_iff.mp H
    obtain ⟨t550, A40, H⟩ := H
    replace H : (if t550 = true then (if a0_0 ≥ 0 then (some (decide (a0_0 ≤ 4096))) else (some false)) else (some false)) = some r := H
    have A4 := aM A40
    clear A40
    by_cases c5 : t550 = true
    · subst c5
      have H1 : (if a0_0 ≥ 0 then (some (decide (a0_0 ≤ 4096))) else (some false)) = some r := by rw [if_pos rfl] at H; exact H
      clear H
      have H := H1
      clear H1
      by_cases c6 : a0_0 ≥ 0
      · rw [if_pos c6] at H
        have c6b0 : decide (0 ≤ a0_0) = true := decide_eq_true c6
        clear c6
        obtain rfl := Option.some.inj H
        go_enter Try.func99, Try.ntmps99
        go_wp2_with (first | ((with_reducible refine gate_dst (N := 1) rfl ?_); refine box_event ?hg (N := 1) ?hd (cs := #[.int .i64 a0_0, .string a0_1, .slice A0_2 l0_2.length c0_2, .string a0_3, .slice A0_4 l0_4.length c0_4]) (t := 64) ?hr ?_; (case hd => rfl); (case hg => rfl); (case hr => first | (go_simp; done) | (go_simp; rfl)); intro gb548 hg w7 hbox hb; have n0_ := aM (bP (by repeat (first | (with_reducible first | exact HB.out | apply ea | apply en | apply ed) | exact HB.out)) hb); have n1_ := aM (hbox); have n2_ := aM ((by rw [hg]; exact (bZ (by repeat (first | (with_reducible first | exact HB.out | apply ea | apply en | apply ed) | exact HB.out))) : w.heap.size ≤ gb548)); have n3_ := aM ((by rw [hg]; exact (bZ (by repeat (first | (with_reducible first | exact HB.out | apply ea | apply en | apply ed) | exact HB.out))) : w.heap.size ≤ gb548)); clear HB; have HB := n0_; have BK548 := n1_; have GW548 := n2_; have GE548 := n3_; clear n0_ n1_ n2_ n3_; clear hb hbox hg; have hcz8_0 : w7.cell? ⟨gb548, 0, none⟩ = some (.int .i64 a0_0) := (bC BK548.out 0).trans rfl; have hcz8_1 : w7.cell? ⟨gb548, 1, none⟩ = some (.string a0_1) := (bC BK548.out 1).trans rfl; have hcz8_2 : w7.cell? ⟨gb548, 2, none⟩ = some (.slice A0_2 l0_2.length c0_2) := (bC BK548.out 2).trans rfl; have hcz8_3 : w7.cell? ⟨gb548, 3, none⟩ = some (.string a0_3) := (bC BK548.out 3).trans rfl; have hcz8_4 : w7.cell? ⟨gb548, 4, none⟩ = some (.slice A0_4 l0_4.length c0_4) := (bC BK548.out 4).trans rfl; have hfz8_0 := bF BK548.out 0; have hfz8_1 := bF BK548.out 1; have hfz8_2 := bF BK548.out 2; have hfz8_3 := bF BK548.out 3; have hfz8_4 := bF BK548.out 4) | ((with_reducible refine gate_callee (f := 49) rfl ?_); refine goesL_ (some 5) rfl rfl Try.func49 (by kernel_rfl) rfl #[.agg #[.string a0_1, .slice A0_2 l0_2.length c0_2]] rfl (by (try simp only [List.map_toArray, List.map_cons, List.map_nil]); first | done | rfl | (simp only [List.length_drop, List.length_take]; rfl)) ?_; (with_reducible refine (strip_Good.calls k a0_1 _ _ l0_2 true _ ?side1 ?side2 A2.out).mono ?_); (case side1 => repeat (first | exact (cB_ HR0_2.out HB.out) | (with_reducible refine Kd.C_alloc ?_ _) | (with_reducible refine Kd.C_drewN ?_ _) | (with_reducible refine Kd.C_drew ?_))); (case side2 => exact HC0_2.out); rintro e w9 ⟨rfl, hb⟩; refine ⟨_, rfl, ?_⟩; have n0_ := aM (bB (g := gb548) (o := .cells #[.int .i64 a0_0, .string a0_1, .slice A0_2 l0_2.length c0_2, .string a0_3, .slice A0_4 l0_4.length c0_4] 64 (0, 0)) (by (with_reducible repeat (first | refine qn ?_ _ | refine qd ?_ | refine qa ?_ _)); exact BK548.out) hb); have n1_ := aM (bP (by repeat (first | (with_reducible first | exact HB.out | apply ea | apply en | apply ed | refine es ?_ GE548.out) | exact HB.out)) hb); clear BK548; clear HB; have BK548 := n0_; have HB := n1_; clear n0_ n1_; (try clear hb); (try clear hb2); (try clear hk); (try clear hi); have hcz10_0 : w9.cell? ⟨gb548, 0, none⟩ = some (.int .i64 a0_0) := (bC BK548.out 0).trans rfl; have hcz10_1 : w9.cell? ⟨gb548, 1, none⟩ = some (.string a0_1) := (bC BK548.out 1).trans rfl; have hcz10_2 : w9.cell? ⟨gb548, 2, none⟩ = some (.slice A0_2 l0_2.length c0_2) := (bC BK548.out 2).trans rfl; have hcz10_3 : w9.cell? ⟨gb548, 3, none⟩ = some (.string a0_3) := (bC BK548.out 3).trans rfl; have hcz10_4 : w9.cell? ⟨gb548, 4, none⟩ = some (.slice A0_4 l0_4.length c0_4) := (bC BK548.out 4).trans rfl; have hfz10_0 := bF BK548.out 0; have hfz10_1 := bF BK548.out 1; have hfz10_2 := bF BK548.out 2; have hfz10_3 := bF BK548.out 3; have hfz10_4 := bF BK548.out 4) | (go_at_call 49; (with_reducible refine (strip_Good.calls k a0_3 _ _ l0_4 true _ ?side1 ?side2 A4.out).mono ?_); (case side1 => repeat (first | exact (cB_ HR0_4.out HB.out) | (with_reducible refine Kd.C_alloc ?_ _) | (with_reducible refine Kd.C_drewN ?_ _) | (with_reducible refine Kd.C_drew ?_))); (case side2 => exact HC0_4.out); rintro e w11 ⟨rfl, hb⟩; have n0_ := aM (bB (g := gb548) (o := .cells #[.int .i64 a0_0, .string a0_1, .slice A0_2 l0_2.length c0_2, .string a0_3, .slice A0_4 l0_4.length c0_4] 64 (0, 0)) (by (with_reducible repeat (first | refine qn ?_ _ | refine qd ?_ | refine qa ?_ _)); exact BK548.out) hb); have n1_ := aM (bP (by repeat (first | (with_reducible first | exact HB.out | apply ea | apply en | apply ed | refine es ?_ GE548.out) | exact HB.out)) hb); clear BK548; clear HB; have BK548 := n0_; have HB := n1_; clear n0_ n1_; (try clear hb); (try clear hb2); (try clear hk); (try clear hi); have hcz12_0 : w11.cell? ⟨gb548, 0, none⟩ = some (.int .i64 a0_0) := (bC BK548.out 0).trans rfl; have hcz12_1 : w11.cell? ⟨gb548, 1, none⟩ = some (.string a0_1) := (bC BK548.out 1).trans rfl; have hcz12_2 : w11.cell? ⟨gb548, 2, none⟩ = some (.slice A0_2 l0_2.length c0_2) := (bC BK548.out 2).trans rfl; have hcz12_3 : w11.cell? ⟨gb548, 3, none⟩ = some (.string a0_3) := (bC BK548.out 3).trans rfl; have hcz12_4 : w11.cell? ⟨gb548, 4, none⟩ = some (.slice A0_4 l0_4.length c0_4) := (bC BK548.out 4).trans rfl; have hfz12_0 := bF BK548.out 0; have hfz12_1 := bF BK548.out 1; have hfz12_2 := bF BK548.out 2; have hfz12_3 := bF BK548.out 3; have hfz12_4 := bF BK548.out 4))
        go_ret
        exact ⟨by first | rfl | (simp [errW_none, errW_some] <;> rfl) | (simp [*, errW_none, errW_some] <;> rfl), by repeat (first | (with_reducible first | exact HB.out | apply ea | apply en | apply ed | refine es ?_ GE548.out) | exact HB.out)⟩
      · rw [if_neg c6] at H
        have c6b0 : decide (0 ≤ a0_0) = false := decide_eq_false c6
        clear c6
        obtain rfl := Option.some.inj H
        go_enter Try.func99, Try.ntmps99
        go_wp2_with (first | ((with_reducible refine gate_dst (N := 1) rfl ?_); refine box_event ?hg (N := 1) ?hd (cs := #[.int .i64 a0_0, .string a0_1, .slice A0_2 l0_2.length c0_2, .string a0_3, .slice A0_4 l0_4.length c0_4]) (t := 64) ?hr ?_; (case hd => rfl); (case hg => rfl); (case hr => first | (go_simp; done) | (go_simp; rfl)); intro gb548 hg w13 hbox hb; have n0_ := aM (bP (by repeat (first | (with_reducible first | exact HB.out | apply ea | apply en | apply ed) | exact HB.out)) hb); have n1_ := aM (hbox); have n2_ := aM ((by rw [hg]; exact (bZ (by repeat (first | (with_reducible first | exact HB.out | apply ea | apply en | apply ed) | exact HB.out))) : w.heap.size ≤ gb548)); have n3_ := aM ((by rw [hg]; exact (bZ (by repeat (first | (with_reducible first | exact HB.out | apply ea | apply en | apply ed) | exact HB.out))) : w.heap.size ≤ gb548)); clear HB; have HB := n0_; have BK548 := n1_; have GW548 := n2_; have GE548 := n3_; clear n0_ n1_ n2_ n3_; clear hb hbox hg; have hcz14_0 : w13.cell? ⟨gb548, 0, none⟩ = some (.int .i64 a0_0) := (bC BK548.out 0).trans rfl; have hcz14_1 : w13.cell? ⟨gb548, 1, none⟩ = some (.string a0_1) := (bC BK548.out 1).trans rfl; have hcz14_2 : w13.cell? ⟨gb548, 2, none⟩ = some (.slice A0_2 l0_2.length c0_2) := (bC BK548.out 2).trans rfl; have hcz14_3 : w13.cell? ⟨gb548, 3, none⟩ = some (.string a0_3) := (bC BK548.out 3).trans rfl; have hcz14_4 : w13.cell? ⟨gb548, 4, none⟩ = some (.slice A0_4 l0_4.length c0_4) := (bC BK548.out 4).trans rfl; have hfz14_0 := bF BK548.out 0; have hfz14_1 := bF BK548.out 1; have hfz14_2 := bF BK548.out 2; have hfz14_3 := bF BK548.out 3; have hfz14_4 := bF BK548.out 4) | ((with_reducible refine gate_callee (f := 49) rfl ?_); refine goesL_ (some 5) rfl rfl Try.func49 (by kernel_rfl) rfl #[.agg #[.string a0_1, .slice A0_2 l0_2.length c0_2]] rfl (by (try simp only [List.map_toArray, List.map_cons, List.map_nil]); first | done | rfl | (simp only [List.length_drop, List.length_take]; rfl)) ?_; (with_reducible refine (strip_Good.calls k a0_1 _ _ l0_2 true _ ?side1 ?side2 A2.out).mono ?_); (case side1 => repeat (first | exact (cB_ HR0_2.out HB.out) | (with_reducible refine Kd.C_alloc ?_ _) | (with_reducible refine Kd.C_drewN ?_ _) | (with_reducible refine Kd.C_drew ?_))); (case side2 => exact HC0_2.out); rintro e w15 ⟨rfl, hb⟩; refine ⟨_, rfl, ?_⟩; have n0_ := aM (bB (g := gb548) (o := .cells #[.int .i64 a0_0, .string a0_1, .slice A0_2 l0_2.length c0_2, .string a0_3, .slice A0_4 l0_4.length c0_4] 64 (0, 0)) (by (with_reducible repeat (first | refine qn ?_ _ | refine qd ?_ | refine qa ?_ _)); exact BK548.out) hb); have n1_ := aM (bP (by repeat (first | (with_reducible first | exact HB.out | apply ea | apply en | apply ed | refine es ?_ GE548.out) | exact HB.out)) hb); clear BK548; clear HB; have BK548 := n0_; have HB := n1_; clear n0_ n1_; (try clear hb); (try clear hb2); (try clear hk); (try clear hi); have hcz16_0 : w15.cell? ⟨gb548, 0, none⟩ = some (.int .i64 a0_0) := (bC BK548.out 0).trans rfl; have hcz16_1 : w15.cell? ⟨gb548, 1, none⟩ = some (.string a0_1) := (bC BK548.out 1).trans rfl; have hcz16_2 : w15.cell? ⟨gb548, 2, none⟩ = some (.slice A0_2 l0_2.length c0_2) := (bC BK548.out 2).trans rfl; have hcz16_3 : w15.cell? ⟨gb548, 3, none⟩ = some (.string a0_3) := (bC BK548.out 3).trans rfl; have hcz16_4 : w15.cell? ⟨gb548, 4, none⟩ = some (.slice A0_4 l0_4.length c0_4) := (bC BK548.out 4).trans rfl; have hfz16_0 := bF BK548.out 0; have hfz16_1 := bF BK548.out 1; have hfz16_2 := bF BK548.out 2; have hfz16_3 := bF BK548.out 3; have hfz16_4 := bF BK548.out 4) | (go_at_call 49; (with_reducible refine (strip_Good.calls k a0_3 _ _ l0_4 true _ ?side1 ?side2 A4.out).mono ?_); (case side1 => repeat (first | exact (cB_ HR0_4.out HB.out) | (with_reducible refine Kd.C_alloc ?_ _) | (with_reducible refine Kd.C_drewN ?_ _) | (with_reducible refine Kd.C_drew ?_))); (case side2 => exact HC0_4.out); rintro e w17 ⟨rfl, hb⟩; have n0_ := aM (bB (g := gb548) (o := .cells #[.int .i64 a0_0, .string a0_1, .slice A0_2 l0_2.length c0_2, .string a0_3, .slice A0_4 l0_4.length c0_4] 64 (0, 0)) (by (with_reducible repeat (first | refine qn ?_ _ | refine qd ?_ | refine qa ?_ _)); exact BK548.out) hb); have n1_ := aM (bP (by repeat (first | (with_reducible first | exact HB.out | apply ea | apply en | apply ed | refine es ?_ GE548.out) | exact HB.out)) hb); clear BK548; clear HB; have BK548 := n0_; have HB := n1_; clear n0_ n1_; (try clear hb); (try clear hb2); (try clear hk); (try clear hi); have hcz18_0 : w17.cell? ⟨gb548, 0, none⟩ = some (.int .i64 a0_0) := (bC BK548.out 0).trans rfl; have hcz18_1 : w17.cell? ⟨gb548, 1, none⟩ = some (.string a0_1) := (bC BK548.out 1).trans rfl; have hcz18_2 : w17.cell? ⟨gb548, 2, none⟩ = some (.slice A0_2 l0_2.length c0_2) := (bC BK548.out 2).trans rfl; have hcz18_3 : w17.cell? ⟨gb548, 3, none⟩ = some (.string a0_3) := (bC BK548.out 3).trans rfl; have hcz18_4 : w17.cell? ⟨gb548, 4, none⟩ = some (.slice A0_4 l0_4.length c0_4) := (bC BK548.out 4).trans rfl; have hfz18_0 := bF BK548.out 0; have hfz18_1 := bF BK548.out 1; have hfz18_2 := bF BK548.out 2; have hfz18_3 := bF BK548.out 3; have hfz18_4 := bF BK548.out 4))
        go_ret
        exact ⟨by first | rfl | (simp [errW_none, errW_some] <;> rfl) | (simp [*, errW_none, errW_some] <;> rfl), by repeat (first | (with_reducible first | exact HB.out | apply ea | apply en | apply ed | refine es ?_ GE548.out) | exact HB.out)⟩
    · replace c5 := Bool.eq_false_iff.mpr c5
      subst c5
      have H1 : (some false) = some r := by rw [if_neg (show ¬ (false = true) by decide)] at H; exact H
      clear H
      have H := H1
      clear H1
      obtain rfl := Option.some.inj H
      go_enter Try.func99, Try.ntmps99
      go_wp2_with (first | ((with_reducible refine gate_dst (N := 1) rfl ?_); refine box_event ?hg (N := 1) ?hd (cs := #[.int .i64 a0_0, .string a0_1, .slice A0_2 l0_2.length c0_2, .string a0_3, .slice A0_4 l0_4.length c0_4]) (t := 64) ?hr ?_; (case hd => rfl); (case hg => rfl); (case hr => first | (go_simp; done) | (go_simp; rfl)); intro gb548 hg w19 hbox hb; have n0_ := aM (bP (by repeat (first | (with_reducible first | exact HB.out | apply ea | apply en | apply ed) | exact HB.out)) hb); have n1_ := aM (hbox); have n2_ := aM ((by rw [hg]; exact (bZ (by repeat (first | (with_reducible first | exact HB.out | apply ea | apply en | apply ed) | exact HB.out))) : w.heap.size ≤ gb548)); have n3_ := aM ((by rw [hg]; exact (bZ (by repeat (first | (with_reducible first | exact HB.out | apply ea | apply en | apply ed) | exact HB.out))) : w.heap.size ≤ gb548)); clear HB; have HB := n0_; have BK548 := n1_; have GW548 := n2_; have GE548 := n3_; clear n0_ n1_ n2_ n3_; clear hb hbox hg; have hcz20_0 : w19.cell? ⟨gb548, 0, none⟩ = some (.int .i64 a0_0) := (bC BK548.out 0).trans rfl; have hcz20_1 : w19.cell? ⟨gb548, 1, none⟩ = some (.string a0_1) := (bC BK548.out 1).trans rfl; have hcz20_2 : w19.cell? ⟨gb548, 2, none⟩ = some (.slice A0_2 l0_2.length c0_2) := (bC BK548.out 2).trans rfl; have hcz20_3 : w19.cell? ⟨gb548, 3, none⟩ = some (.string a0_3) := (bC BK548.out 3).trans rfl; have hcz20_4 : w19.cell? ⟨gb548, 4, none⟩ = some (.slice A0_4 l0_4.length c0_4) := (bC BK548.out 4).trans rfl; have hfz20_0 := bF BK548.out 0; have hfz20_1 := bF BK548.out 1; have hfz20_2 := bF BK548.out 2; have hfz20_3 := bF BK548.out 3; have hfz20_4 := bF BK548.out 4) | ((with_reducible refine gate_callee (f := 49) rfl ?_); refine goesL_ (some 5) rfl rfl Try.func49 (by kernel_rfl) rfl #[.agg #[.string a0_1, .slice A0_2 l0_2.length c0_2]] rfl (by (try simp only [List.map_toArray, List.map_cons, List.map_nil]); first | done | rfl | (simp only [List.length_drop, List.length_take]; rfl)) ?_; (with_reducible refine (strip_Good.calls k a0_1 _ _ l0_2 true _ ?side1 ?side2 A2.out).mono ?_); (case side1 => repeat (first | exact (cB_ HR0_2.out HB.out) | (with_reducible refine Kd.C_alloc ?_ _) | (with_reducible refine Kd.C_drewN ?_ _) | (with_reducible refine Kd.C_drew ?_))); (case side2 => exact HC0_2.out); rintro e w21 ⟨rfl, hb⟩; refine ⟨_, rfl, ?_⟩; have n0_ := aM (bB (g := gb548) (o := .cells #[.int .i64 a0_0, .string a0_1, .slice A0_2 l0_2.length c0_2, .string a0_3, .slice A0_4 l0_4.length c0_4] 64 (0, 0)) (by (with_reducible repeat (first | refine qn ?_ _ | refine qd ?_ | refine qa ?_ _)); exact BK548.out) hb); have n1_ := aM (bP (by repeat (first | (with_reducible first | exact HB.out | apply ea | apply en | apply ed | refine es ?_ GE548.out) | exact HB.out)) hb); clear BK548; clear HB; have BK548 := n0_; have HB := n1_; clear n0_ n1_; (try clear hb); (try clear hb2); (try clear hk); (try clear hi); have hcz22_0 : w21.cell? ⟨gb548, 0, none⟩ = some (.int .i64 a0_0) := (bC BK548.out 0).trans rfl; have hcz22_1 : w21.cell? ⟨gb548, 1, none⟩ = some (.string a0_1) := (bC BK548.out 1).trans rfl; have hcz22_2 : w21.cell? ⟨gb548, 2, none⟩ = some (.slice A0_2 l0_2.length c0_2) := (bC BK548.out 2).trans rfl; have hcz22_3 : w21.cell? ⟨gb548, 3, none⟩ = some (.string a0_3) := (bC BK548.out 3).trans rfl; have hcz22_4 : w21.cell? ⟨gb548, 4, none⟩ = some (.slice A0_4 l0_4.length c0_4) := (bC BK548.out 4).trans rfl; have hfz22_0 := bF BK548.out 0; have hfz22_1 := bF BK548.out 1; have hfz22_2 := bF BK548.out 2; have hfz22_3 := bF BK548.out 3; have hfz22_4 := bF BK548.out 4) | (go_at_call 49; (with_reducible refine (strip_Good.calls k a0_3 _ _ l0_4 false _ ?side1 ?side2 A4.out).mono ?_); (case side1 => repeat (first | exact (cB_ HR0_4.out HB.out) | (with_reducible refine Kd.C_alloc ?_ _) | (with_reducible refine Kd.C_drewN ?_ _) | (with_reducible refine Kd.C_drew ?_))); (case side2 => exact HC0_4.out); rintro e w23 ⟨rfl, hb⟩; have n0_ := aM (bB (g := gb548) (o := .cells #[.int .i64 a0_0, .string a0_1, .slice A0_2 l0_2.length c0_2, .string a0_3, .slice A0_4 l0_4.length c0_4] 64 (0, 0)) (by (with_reducible repeat (first | refine qn ?_ _ | refine qd ?_ | refine qa ?_ _)); exact BK548.out) hb); have n1_ := aM (bP (by repeat (first | (with_reducible first | exact HB.out | apply ea | apply en | apply ed | refine es ?_ GE548.out) | exact HB.out)) hb); clear BK548; clear HB; have BK548 := n0_; have HB := n1_; clear n0_ n1_; (try clear hb); (try clear hb2); (try clear hk); (try clear hi)))
      go_ret
      exact ⟨by first | rfl | (simp [errW_none, errW_some] <;> rfl) | (simp [*, errW_none, errW_some] <;> rfl), by repeat (first | (with_reducible first | exact HB.out | apply ea | apply en | apply ed | refine es ?_ GE548.out) | exact HB.out)⟩
  · replace c3 := Bool.eq_false_iff.mpr c3
    subst c3
    have H1 : (some false) = some r := by rw [if_neg (show ¬ (false = true) by decide)] at H; exact H
    clear H
    have H := H1
    clear H1
    obtain rfl := Option.some.inj H
    go_enter Try.func99, Try.ntmps99
    go_wp2_with (first | ((with_reducible refine gate_dst (N := 1) rfl ?_); refine box_event ?hg (N := 1) ?hd (cs := #[.int .i64 a0_0, .string a0_1, .slice A0_2 l0_2.length c0_2, .string a0_3, .slice A0_4 l0_4.length c0_4]) (t := 64) ?hr ?_; (case hd => rfl); (case hg => rfl); (case hr => first | (go_simp; done) | (go_simp; rfl)); intro gb548 hg w24 hbox hb; have n0_ := aM (bP (by repeat (first | (with_reducible first | exact HB.out | apply ea | apply en | apply ed) | exact HB.out)) hb); have n1_ := aM (hbox); have n2_ := aM ((by rw [hg]; exact (bZ (by repeat (first | (with_reducible first | exact HB.out | apply ea | apply en | apply ed) | exact HB.out))) : w.heap.size ≤ gb548)); have n3_ := aM ((by rw [hg]; exact (bZ (by repeat (first | (with_reducible first | exact HB.out | apply ea | apply en | apply ed) | exact HB.out))) : w.heap.size ≤ gb548)); clear HB; have HB := n0_; have BK548 := n1_; have GW548 := n2_; have GE548 := n3_; clear n0_ n1_ n2_ n3_; clear hb hbox hg; have hcz25_0 : w24.cell? ⟨gb548, 0, none⟩ = some (.int .i64 a0_0) := (bC BK548.out 0).trans rfl; have hcz25_1 : w24.cell? ⟨gb548, 1, none⟩ = some (.string a0_1) := (bC BK548.out 1).trans rfl; have hcz25_2 : w24.cell? ⟨gb548, 2, none⟩ = some (.slice A0_2 l0_2.length c0_2) := (bC BK548.out 2).trans rfl; have hcz25_3 : w24.cell? ⟨gb548, 3, none⟩ = some (.string a0_3) := (bC BK548.out 3).trans rfl; have hcz25_4 : w24.cell? ⟨gb548, 4, none⟩ = some (.slice A0_4 l0_4.length c0_4) := (bC BK548.out 4).trans rfl; have hfz25_0 := bF BK548.out 0; have hfz25_1 := bF BK548.out 1; have hfz25_2 := bF BK548.out 2; have hfz25_3 := bF BK548.out 3; have hfz25_4 := bF BK548.out 4) | ((with_reducible refine gate_callee (f := 49) rfl ?_); refine goesL_ (some 5) rfl rfl Try.func49 (by kernel_rfl) rfl #[.agg #[.string a0_1, .slice A0_2 l0_2.length c0_2]] rfl (by (try simp only [List.map_toArray, List.map_cons, List.map_nil]); first | done | rfl | (simp only [List.length_drop, List.length_take]; rfl)) ?_; (with_reducible refine (strip_Good.calls k a0_1 _ _ l0_2 false _ ?side1 ?side2 A2.out).mono ?_); (case side1 => repeat (first | exact (cB_ HR0_2.out HB.out) | (with_reducible refine Kd.C_alloc ?_ _) | (with_reducible refine Kd.C_drewN ?_ _) | (with_reducible refine Kd.C_drew ?_))); (case side2 => exact HC0_2.out); rintro e w26 ⟨rfl, hb⟩; refine ⟨_, rfl, ?_⟩; have n0_ := aM (bB (g := gb548) (o := .cells #[.int .i64 a0_0, .string a0_1, .slice A0_2 l0_2.length c0_2, .string a0_3, .slice A0_4 l0_4.length c0_4] 64 (0, 0)) (by (with_reducible repeat (first | refine qn ?_ _ | refine qd ?_ | refine qa ?_ _)); exact BK548.out) hb); have n1_ := aM (bP (by repeat (first | (with_reducible first | exact HB.out | apply ea | apply en | apply ed | refine es ?_ GE548.out) | exact HB.out)) hb); clear BK548; clear HB; have BK548 := n0_; have HB := n1_; clear n0_ n1_; (try clear hb); (try clear hb2); (try clear hk); (try clear hi)))
    go_ret
    exact ⟨by first | rfl | (simp [errW_none, errW_some] <;> rfl) | (simp [*, errW_none, errW_some] <;> rfl), by repeat (first | (with_reducible first | exact HB.out | apply ea | apply en | apply ed | refine es ?_ GE548.out) | exact HB.out)⟩
def edit_Follow.j0 : Nat → Int → Bool → Int → ByteArray → List (S100) → ByteArray → List (S100) → Option (Int)
  | 0, _, _, _, _, _, _, _ => none
  | k + 1, x1, x5, x552000, x552001, x552002, x552003, x552004 => if x5 = true then (some x1) else (if x1 ≥ (wrap64 (x552000 + (x552001.size : Int))) then (some (wrap64 ((wrap64 (x1 + (x552003.size : Int))) - (x552001.size : Int)))) else (some (mn x1 (wrap64 (x552000 + (x552003.size : Int))))))
def edit_Follow.f (k : Nat) (a0_0 : Int) (a0_1 : ByteArray) (l0_2 : List (S100)) (a0_3 : ByteArray) (l0_4 : List (S100)) (a1 : Int) : Option (Int) := (edit_good.f k a0_0 a0_1 l0_2 a0_3 l0_4).bind fun t552 => (if t552 = true then (if a1 > 4096 then (edit_Follow.j0 k a1 true a0_0 a0_1 l0_2 a0_3 l0_4) else (edit_Follow.j0 k a1 (decide (a1 ≤ a0_0)) a0_0 a0_1 l0_2 a0_3 l0_4)) else (edit_Follow.j0 k a1 true a0_0 a0_1 l0_2 a0_3 l0_4))
theorem edit_Follow.mono_l : ∀ k, (∀ y0 y1 y2 y3 y4 y5 y6, LeO (edit_Follow.j0 k y0 y1 y2 y3 y4 y5 y6) (edit_Follow.j0 (k + 1) y0 y1 y2 y3 y4 y5 y6))
  | 0 => fun _ _ _ _ _ _ _ r h => by simp [edit_Follow.j0] at h
  | k + 1 => by
    have ih0 := edit_Follow.mono_l k
    · intro y0 y1 y2 y3 y4 y5 y6
      unfold edit_Follow.j0
      repeat' first
      | (with_reducible exact ih0 _ _ _ _ _ _ _)
      | (with_reducible exact edit_good.mono _ _ _ _ _ _)
      | (with_reducible exact LeO.refl _)
      | (with_reducible exact LeO.none _)
      | (with_reducible refine LeO.ite ?_ ?_)
      | (with_reducible refine LeO.bind ?_ (fun _ => ?_))
      | exact ih0 _ _ _ _ _ _ _
      | exact edit_good.mono _ _ _ _ _ _
      | exact LeO.none _
      | refine LeO.ite ?_ ?_
      | refine LeO.bind ?_ (fun _ => ?_)
theorem edit_Follow.mono : ∀ a0 a1 a2 a3 a4 a5 k, LeO (edit_Follow.f k a0 a1 a2 a3 a4 a5) (edit_Follow.f (k + 1) a0 a1 a2 a3 a4 a5) := by
  intro a0 a1 a2 a3 a4 a5 k
  have ih0 := edit_Follow.mono_l k
  unfold edit_Follow.f
  repeat' first
      | (with_reducible exact ih0 _ _ _ _ _ _ _)
      | (with_reducible exact edit_good.mono _ _ _ _ _ _)
      | (with_reducible exact LeO.refl _)
      | (with_reducible exact LeO.none _)
      | (with_reducible refine LeO.ite ?_ ?_)
      | (with_reducible refine LeO.bind ?_ (fun _ => ?_))
      | exact ih0 _ _ _ _ _ _ _
      | exact edit_good.mono _ _ _ _ _ _
      | exact LeO.none _
      | refine LeO.ite ?_ ?_
      | refine LeO.bind ?_ (fun _ => ?_)
set_option maxHeartbeats 8000000 in
set_option maxRecDepth 100000 in
theorem edit_Follow.calls (k : Nat) (a0_0 : Int) (a0_1 : ByteArray) (A0_2 : Option Addr) (c0_2 : Nat) (l0_2 : List (S100)) (a0_3 : ByteArray) (A0_4 : Option Addr) (c0_4 : Nat) (l0_4 : List (S100)) (a1 : Int) (r : Int) (w : World) (hr0_2 : Kd.C k100 w A0_2 l0_2.length l0_2) (hc0_2 : l0_2.length ≤ c0_2) (hr0_4 : Kd.C k100 w A0_4 l0_4.length l0_4) (hc0_4 : l0_4.length ≤ c0_4) (h : edit_Follow.f k a0_0 a0_1 l0_2 a0_3 l0_4 a1 = some r) :
    Calls Try.prog 62 #[.agg #[.int .i64 a0_0, .string a0_1, .slice A0_2 l0_2.length c0_2, .string a0_3, .slice A0_4 l0_4.length c0_4], .int .i64 a1] w fun e w' => e = .returned (.int .i64 r) ∧ Below w.heap.size w w' := by
  have hu64 := Try.underlying64
  have HR0_2 := aM hr0_2
  have HC0_2 := aM hc0_2
  clear hr0_2 hc0_2
  have HR0_4 := aM hr0_4
  have HC0_4 := aM hc0_4
  clear hr0_4 hc0_4
  have HB := aM (Below.refl w.heap.size w)
  have H : ((edit_good.f k a0_0 a0_1 l0_2 a0_3 l0_4).bind fun t552 => (if t552 = true then (if a1 > 4096 then (edit_Follow.j0 k a1 true a0_0 a0_1 l0_2 a0_3 l0_4) else (edit_Follow.j0 k a1 (decide (a1 ≤ a0_0)) a0_0 a0_1 l0_2 a0_3 l0_4)) else (edit_Follow.j0 k a1 true a0_0 a0_1 l0_2 a0_3 l0_4))) = some r := h
  clear h
  have HC3 := aM H
  clear H
  go_enter Try.func62, Try.ntmps62
  go_upto_region 1 with (first | ((with_reducible refine gate_dst (N := 2) rfl ?_); refine box_event ?hg (N := 2) ?hd (cs := #[.int .i64 a0_0, .string a0_1, .slice A0_2 l0_2.length c0_2, .string a0_3, .slice A0_4 l0_4.length c0_4]) (t := 64) ?hr ?_; (case hd => rfl); (case hg => rfl); (case hr => first | (go_simp; done) | (go_simp; rfl)); intro gb551 hg w4 hbox hb; have n0_ := aM (bP (by repeat (first | (with_reducible first | exact HB.out | apply ea | apply en | apply ed) | exact HB.out)) hb); have n1_ := aM (hbox); have n2_ := aM ((by rw [hg]; exact (bZ (by repeat (first | (with_reducible first | exact HB.out | apply ea | apply en | apply ed) | exact HB.out))) : w.heap.size ≤ gb551)); have n3_ := aM ((by rw [hg]; exact (bZ (by repeat (first | (with_reducible first | exact HB.out | apply ea | apply en | apply ed) | exact HB.out))) : w.heap.size ≤ gb551)); clear HB; have HB := n0_; have BK551 := n1_; have GW551 := n2_; have GE551 := n3_; clear n0_ n1_ n2_ n3_; clear hb hbox hg))
  (try simp only [Act.put, List.setIfInBounds_toArray, List.set_cons_zero, List.set_cons_succ])
  go_cut [5] (fun v5 wc => ∃ (kq : Nat) (x5_2 : Bool), v5 = .bool x5_2 ∧ Aside0 (edit_Follow.j0 kq a1 x5_2 a0_0 a0_1 l0_2 a0_3 l0_4 = some r) ∧ Aside0 (kq ≤ k) ∧ Aside0 (wc.heap[gb551]? = some (.cells #[.int .i64 a0_0, .string a0_1, (.slice A0_2 l0_2.length c0_2), .string a0_3, (.slice A0_4 l0_4.length c0_4)] 64 (0, 0))) ∧ Aside0 (Below w.heap.size w wc))
  case first =>
    have H := HC3.out
    clear HC3
    replace H := Option.bind_eq_some_iff.mp H
    obtain ⟨t552, A50, H⟩ := H
    replace H : (if t552 = true then (if a1 > 4096 then (edit_Follow.j0 k a1 true a0_0 a0_1 l0_2 a0_3 l0_4) else (edit_Follow.j0 k a1 (decide (a1 ≤ a0_0)) a0_0 a0_1 l0_2 a0_3 l0_4)) else (edit_Follow.j0 k a1 true a0_0 a0_1 l0_2 a0_3 l0_4)) = some r := H
    have A5 := aM A50
    clear A50
    by_cases c6 : t552 = true
    · subst c6
      have H1 : (if a1 > 4096 then (edit_Follow.j0 k a1 true a0_0 a0_1 l0_2 a0_3 l0_4) else (edit_Follow.j0 k a1 (decide (a1 ≤ a0_0)) a0_0 a0_1 l0_2 a0_3 l0_4)) = some r := by rw [if_pos rfl] at H; exact H
      clear H
      have H := H1
      clear H1
      by_cases c7 : a1 > 4096
      · rw [if_pos c7] at H
        have c7b0 : decide (4096 < a1) = true := decide_eq_true c7
        clear c7
        (first | rw [c7b0] | (simp only [i64_w, i32_w]; rw [c7b0]) | skip)
        have H' := aM H
        clear H
        have hcz8_0 : w4.cell? ⟨gb551, 0, none⟩ = some (.int .i64 a0_0) := (bC BK551.out 0).trans rfl
        have hcz8_1 : w4.cell? ⟨gb551, 1, none⟩ = some (.string a0_1) := (bC BK551.out 1).trans rfl
        have hcz8_2 : w4.cell? ⟨gb551, 2, none⟩ = some (.slice A0_2 l0_2.length c0_2) := (bC BK551.out 2).trans rfl
        have hcz8_3 : w4.cell? ⟨gb551, 3, none⟩ = some (.string a0_3) := (bC BK551.out 3).trans rfl
        have hcz8_4 : w4.cell? ⟨gb551, 4, none⟩ = some (.slice A0_4 l0_4.length c0_4) := (bC BK551.out 4).trans rfl
        have hfz8_0 := bF BK551.out 0
        have hfz8_1 := bF BK551.out 1
        have hfz8_2 := bF BK551.out 2
        have hfz8_3 := bF BK551.out 3
        have hfz8_4 := bF BK551.out 4
        go_wp2_with (first | ((with_reducible refine gate_callee (f := 99) rfl ?_); refine goesL_ (some 7) rfl rfl Try.func99 (by kernel_rfl) rfl #[.agg #[.int .i64 a0_0, .string a0_1, .slice A0_2 l0_2.length c0_2, .string a0_3, .slice A0_4 l0_4.length c0_4]] rfl (by (try simp only [List.map_toArray, List.map_cons, List.map_nil]); first | done | rfl | (simp only [List.length_drop, List.length_take]; rfl)) ?_; (with_reducible refine (edit_good.calls k a0_0 a0_1 _ _ l0_2 a0_3 _ _ l0_4 true _ ?side1 ?side2 ?side3 ?side4 A5.out).mono ?_); (case side1 => repeat (first | exact (cB_ HR0_2.out HB.out) | (with_reducible refine Kd.C_alloc ?_ _) | (with_reducible refine Kd.C_drewN ?_ _) | (with_reducible refine Kd.C_drew ?_))); (case side2 => exact HC0_2.out); (case side3 => repeat (first | exact (cB_ HR0_4.out HB.out) | (with_reducible refine Kd.C_alloc ?_ _) | (with_reducible refine Kd.C_drewN ?_ _) | (with_reducible refine Kd.C_drew ?_))); (case side4 => exact HC0_4.out); rintro e w9 ⟨rfl, hb⟩; refine ⟨_, rfl, ?_⟩; have n0_ := aM (bB (g := gb551) (o := .cells #[.int .i64 a0_0, .string a0_1, .slice A0_2 l0_2.length c0_2, .string a0_3, .slice A0_4 l0_4.length c0_4] 64 (0, 0)) (by (with_reducible repeat (first | refine qn ?_ _ | refine qd ?_ | refine qa ?_ _)); exact BK551.out) hb); have n1_ := aM (bP (by repeat (first | (with_reducible first | exact HB.out | apply ea | apply en | apply ed | refine es ?_ GE551.out) | exact HB.out)) hb); clear BK551; clear HB; have BK551 := n0_; have HB := n1_; clear n0_ n1_; (try clear hb); (try clear hb2); (try clear hk); (try clear hi)))
        go_meet
        case rel => exact ⟨_, (true), (by first | rfl | (simp; done) | (simp [*]; done)), H', ⟨by first | omega | exact Nat.le_refl _⟩, ⟨by (with_reducible repeat (first | refine qn ?_ _ | refine qd ?_ | refine qa ?_ _)); exact BK551.out⟩, ⟨by repeat (first | (with_reducible first | exact HB.out | apply ea | apply en | apply ed | refine es ?_ GE551.out) | exact HB.out)⟩⟩
      · rw [if_neg c7] at H
        have c7b0 : decide (4096 < a1) = false := decide_eq_false c7
        clear c7
        (first | rw [c7b0] | (simp only [i64_w, i32_w]; rw [c7b0]) | skip)
        have H' := aM H
        clear H
        have hcz10_0 : w4.cell? ⟨gb551, 0, none⟩ = some (.int .i64 a0_0) := (bC BK551.out 0).trans rfl
        have hcz10_1 : w4.cell? ⟨gb551, 1, none⟩ = some (.string a0_1) := (bC BK551.out 1).trans rfl
        have hcz10_2 : w4.cell? ⟨gb551, 2, none⟩ = some (.slice A0_2 l0_2.length c0_2) := (bC BK551.out 2).trans rfl
        have hcz10_3 : w4.cell? ⟨gb551, 3, none⟩ = some (.string a0_3) := (bC BK551.out 3).trans rfl
        have hcz10_4 : w4.cell? ⟨gb551, 4, none⟩ = some (.slice A0_4 l0_4.length c0_4) := (bC BK551.out 4).trans rfl
        have hfz10_0 := bF BK551.out 0
        have hfz10_1 := bF BK551.out 1
        have hfz10_2 := bF BK551.out 2
        have hfz10_3 := bF BK551.out 3
        have hfz10_4 := bF BK551.out 4
        go_wp2_with (first | ((with_reducible refine gate_callee (f := 99) rfl ?_); refine goesL_ (some 7) rfl rfl Try.func99 (by kernel_rfl) rfl #[.agg #[.int .i64 a0_0, .string a0_1, .slice A0_2 l0_2.length c0_2, .string a0_3, .slice A0_4 l0_4.length c0_4]] rfl (by (try simp only [List.map_toArray, List.map_cons, List.map_nil]); first | done | rfl | (simp only [List.length_drop, List.length_take]; rfl)) ?_; (with_reducible refine (edit_good.calls k a0_0 a0_1 _ _ l0_2 a0_3 _ _ l0_4 true _ ?side1 ?side2 ?side3 ?side4 A5.out).mono ?_); (case side1 => repeat (first | exact (cB_ HR0_2.out HB.out) | (with_reducible refine Kd.C_alloc ?_ _) | (with_reducible refine Kd.C_drewN ?_ _) | (with_reducible refine Kd.C_drew ?_))); (case side2 => exact HC0_2.out); (case side3 => repeat (first | exact (cB_ HR0_4.out HB.out) | (with_reducible refine Kd.C_alloc ?_ _) | (with_reducible refine Kd.C_drewN ?_ _) | (with_reducible refine Kd.C_drew ?_))); (case side4 => exact HC0_4.out); rintro e w11 ⟨rfl, hb⟩; refine ⟨_, rfl, ?_⟩; have n0_ := aM (bB (g := gb551) (o := .cells #[.int .i64 a0_0, .string a0_1, .slice A0_2 l0_2.length c0_2, .string a0_3, .slice A0_4 l0_4.length c0_4] 64 (0, 0)) (by (with_reducible repeat (first | refine qn ?_ _ | refine qd ?_ | refine qa ?_ _)); exact BK551.out) hb); have n1_ := aM (bP (by repeat (first | (with_reducible first | exact HB.out | apply ea | apply en | apply ed | refine es ?_ GE551.out) | exact HB.out)) hb); clear BK551; clear HB; have BK551 := n0_; have HB := n1_; clear n0_ n1_; (try clear hb); (try clear hb2); (try clear hk); (try clear hi); have hcz12_0 : w11.cell? ⟨gb551, 0, none⟩ = some (.int .i64 a0_0) := (bC BK551.out 0).trans rfl; have hcz12_1 : w11.cell? ⟨gb551, 1, none⟩ = some (.string a0_1) := (bC BK551.out 1).trans rfl; have hcz12_2 : w11.cell? ⟨gb551, 2, none⟩ = some (.slice A0_2 l0_2.length c0_2) := (bC BK551.out 2).trans rfl; have hcz12_3 : w11.cell? ⟨gb551, 3, none⟩ = some (.string a0_3) := (bC BK551.out 3).trans rfl; have hcz12_4 : w11.cell? ⟨gb551, 4, none⟩ = some (.slice A0_4 l0_4.length c0_4) := (bC BK551.out 4).trans rfl; have hfz12_0 := bF BK551.out 0; have hfz12_1 := bF BK551.out 1; have hfz12_2 := bF BK551.out 2; have hfz12_3 := bF BK551.out 3; have hfz12_4 := bF BK551.out 4))
        go_meet
        case rel => exact ⟨_, (decide (a1 ≤ a0_0)), (by first | rfl | (simp; done) | (simp [*]; done)), H', ⟨by first | omega | exact Nat.le_refl _⟩, ⟨by (with_reducible repeat (first | refine qn ?_ _ | refine qd ?_ | refine qa ?_ _)); exact BK551.out⟩, ⟨by repeat (first | (with_reducible first | exact HB.out | apply ea | apply en | apply ed | refine es ?_ GE551.out) | exact HB.out)⟩⟩
    · replace c6 := Bool.eq_false_iff.mpr c6
      subst c6
      have H1 : (edit_Follow.j0 k a1 true a0_0 a0_1 l0_2 a0_3 l0_4) = some r := by rw [if_neg (show ¬ (false = true) by decide)] at H; exact H
      clear H
      have H := H1
      clear H1
      have H' := aM H
      clear H
      have hcz13_0 : w4.cell? ⟨gb551, 0, none⟩ = some (.int .i64 a0_0) := (bC BK551.out 0).trans rfl
      have hcz13_1 : w4.cell? ⟨gb551, 1, none⟩ = some (.string a0_1) := (bC BK551.out 1).trans rfl
      have hcz13_2 : w4.cell? ⟨gb551, 2, none⟩ = some (.slice A0_2 l0_2.length c0_2) := (bC BK551.out 2).trans rfl
      have hcz13_3 : w4.cell? ⟨gb551, 3, none⟩ = some (.string a0_3) := (bC BK551.out 3).trans rfl
      have hcz13_4 : w4.cell? ⟨gb551, 4, none⟩ = some (.slice A0_4 l0_4.length c0_4) := (bC BK551.out 4).trans rfl
      have hfz13_0 := bF BK551.out 0
      have hfz13_1 := bF BK551.out 1
      have hfz13_2 := bF BK551.out 2
      have hfz13_3 := bF BK551.out 3
      have hfz13_4 := bF BK551.out 4
      go_wp2_with (first | ((with_reducible refine gate_callee (f := 99) rfl ?_); refine goesL_ (some 7) rfl rfl Try.func99 (by kernel_rfl) rfl #[.agg #[.int .i64 a0_0, .string a0_1, .slice A0_2 l0_2.length c0_2, .string a0_3, .slice A0_4 l0_4.length c0_4]] rfl (by (try simp only [List.map_toArray, List.map_cons, List.map_nil]); first | done | rfl | (simp only [List.length_drop, List.length_take]; rfl)) ?_; (with_reducible refine (edit_good.calls k a0_0 a0_1 _ _ l0_2 a0_3 _ _ l0_4 false _ ?side1 ?side2 ?side3 ?side4 A5.out).mono ?_); (case side1 => repeat (first | exact (cB_ HR0_2.out HB.out) | (with_reducible refine Kd.C_alloc ?_ _) | (with_reducible refine Kd.C_drewN ?_ _) | (with_reducible refine Kd.C_drew ?_))); (case side2 => exact HC0_2.out); (case side3 => repeat (first | exact (cB_ HR0_4.out HB.out) | (with_reducible refine Kd.C_alloc ?_ _) | (with_reducible refine Kd.C_drewN ?_ _) | (with_reducible refine Kd.C_drew ?_))); (case side4 => exact HC0_4.out); rintro e w14 ⟨rfl, hb⟩; refine ⟨_, rfl, ?_⟩; have n0_ := aM (bB (g := gb551) (o := .cells #[.int .i64 a0_0, .string a0_1, .slice A0_2 l0_2.length c0_2, .string a0_3, .slice A0_4 l0_4.length c0_4] 64 (0, 0)) (by (with_reducible repeat (first | refine qn ?_ _ | refine qd ?_ | refine qa ?_ _)); exact BK551.out) hb); have n1_ := aM (bP (by repeat (first | (with_reducible first | exact HB.out | apply ea | apply en | apply ed | refine es ?_ GE551.out) | exact HB.out)) hb); clear BK551; clear HB; have BK551 := n0_; have HB := n1_; clear n0_ n1_; (try clear hb); (try clear hb2); (try clear hk); (try clear hi)))
      go_meet
      case rel => exact ⟨_, (true), (by first | rfl | (simp; done) | (simp [*]; done)), H', ⟨by first | omega | exact Nat.le_refl _⟩, ⟨by (with_reducible repeat (first | refine qn ?_ _ | refine qd ?_ | refine qa ?_ _)); exact BK551.out⟩, ⟨by repeat (first | (with_reducible first | exact HB.out | apply ea | apply en | apply ed | refine es ?_ GE551.out) | exact HB.out)⟩⟩
  case rest =>
    clear HC3
    try clear p2
    try clear c6
    try clear c7
    try clear c7b0
    try clear c9
    try clear hcz10_0
    try clear hcz10_1
    try clear hcz10_2
    try clear hcz10_3
    try clear hcz10_4
    try clear hcz12_0
    try clear hcz12_1
    try clear hcz12_2
    try clear hcz12_3
    try clear hcz12_4
    try clear hcz13_0
    try clear hcz13_1
    try clear hcz13_2
    try clear hcz13_3
    try clear hcz13_4
    try clear hcz8_0
    try clear hcz8_1
    try clear hcz8_2
    try clear hcz8_3
    try clear hcz8_4
    try clear hfz10_0
    try clear hfz10_1
    try clear hfz10_2
    try clear hfz10_3
    try clear hfz10_4
    try clear hfz12_0
    try clear hfz12_1
    try clear hfz12_2
    try clear hfz12_3
    try clear hfz12_4
    try clear hfz13_0
    try clear hfz13_1
    try clear hfz13_2
    try clear hfz13_3
    try clear hfz13_4
    try clear hfz8_0
    try clear hfz8_1
    try clear hfz8_2
    try clear hfz8_3
    try clear hfz8_4
    obtain ⟨kq, x5_2, rfl, HA, HJ2, BK551, HB⟩ := hcut
    cases kq with
    | zero => exact absurd HA.out (by simp [edit_Follow.j0])
    | succ kj2 =>
      have H := HA.out
      clear HA
      simp only [edit_Follow.j0] at H
      by_cases c15 : x5_2 = true
      · subst c15
        have H1 : (some a1) = some r := by rw [if_pos rfl] at H; exact H
        clear H
        have H := H1
        clear H1
        obtain rfl := Option.some.inj H
        go_wp2
        go_ret
        exact ⟨by first | rfl | (simp [errW_none, errW_some] <;> rfl) | (simp [*, errW_none, errW_some] <;> rfl), by repeat (first | (with_reducible first | exact HB.out | apply ea | apply en | apply ed | refine es ?_ GE551.out) | exact HB.out)⟩
      · replace c15 := Bool.eq_false_iff.mpr c15
        subst c15
        have H1 : (if a1 ≥ (wrap64 (a0_0 + (a0_1.size : Int))) then (some (wrap64 ((wrap64 (a1 + (a0_3.size : Int))) - (a0_1.size : Int)))) else (some (mn a1 (wrap64 (a0_0 + (a0_3.size : Int)))))) = some r := by rw [if_neg (show ¬ (false = true) by decide)] at H; exact H
        clear H
        have H := H1
        clear H1
        by_cases c16 : a1 ≥ (wrap64 (a0_0 + (a0_1.size : Int)))
        · rw [if_pos c16] at H
          have c16b0 : decide ((wrap64 (a0_0 + (a0_1.size : Int))) ≤ a1) = true := decide_eq_true c16
          clear c16
          obtain rfl := Option.some.inj H
          have hcz17_0 : wc.cell? ⟨gb551, 0, none⟩ = some (.int .i64 a0_0) := (bC BK551.out 0).trans rfl
          have hcz17_1 : wc.cell? ⟨gb551, 1, none⟩ = some (.string a0_1) := (bC BK551.out 1).trans rfl
          have hcz17_2 : wc.cell? ⟨gb551, 2, none⟩ = some (.slice A0_2 l0_2.length c0_2) := (bC BK551.out 2).trans rfl
          have hcz17_3 : wc.cell? ⟨gb551, 3, none⟩ = some (.string a0_3) := (bC BK551.out 3).trans rfl
          have hcz17_4 : wc.cell? ⟨gb551, 4, none⟩ = some (.slice A0_4 l0_4.length c0_4) := (bC BK551.out 4).trans rfl
          have hfz17_0 := bF BK551.out 0
          have hfz17_1 := bF BK551.out 1
          have hfz17_2 := bF BK551.out 2
          have hfz17_3 := bF BK551.out 3
          have hfz17_4 := bF BK551.out 4
          go_wp2
          go_ret
          exact ⟨by first | rfl | (simp [errW_none, errW_some] <;> rfl) | (simp [*, errW_none, errW_some] <;> rfl), by repeat (first | (with_reducible first | exact HB.out | apply ea | apply en | apply ed | refine es ?_ GE551.out) | exact HB.out)⟩
        · rw [if_neg c16] at H
          have c16b0 : decide ((wrap64 (a0_0 + (a0_1.size : Int))) ≤ a1) = false := decide_eq_false c16
          clear c16
          obtain ⟨ji18, hji18⟩ : ∃ j_ : Int, (mn a1 (wrap64 (a0_0 + (a0_3.size : Int)))) = j_ := ⟨_, rfl⟩
          replace H : (some ji18) = some r := by first | (rw [hji18] at H; exact H) | (simp only [hji18] at H ⊢; exact H)
          have hji18_ : (if (wrap64 (a0_0 + (a0_3.size : Int))) < a1 then (wrap64 (a0_0 + (a0_3.size : Int))) else a1) = ji18 := hji18
          obtain rfl := Option.some.inj H
          have hcz19_0 : wc.cell? ⟨gb551, 0, none⟩ = some (.int .i64 a0_0) := (bC BK551.out 0).trans rfl
          have hcz19_1 : wc.cell? ⟨gb551, 1, none⟩ = some (.string a0_1) := (bC BK551.out 1).trans rfl
          have hcz19_2 : wc.cell? ⟨gb551, 2, none⟩ = some (.slice A0_2 l0_2.length c0_2) := (bC BK551.out 2).trans rfl
          have hcz19_3 : wc.cell? ⟨gb551, 3, none⟩ = some (.string a0_3) := (bC BK551.out 3).trans rfl
          have hcz19_4 : wc.cell? ⟨gb551, 4, none⟩ = some (.slice A0_4 l0_4.length c0_4) := (bC BK551.out 4).trans rfl
          have hfz19_0 := bF BK551.out 0
          have hfz19_1 := bF BK551.out 1
          have hfz19_2 := bF BK551.out 2
          have hfz19_3 := bF BK551.out 3
          have hfz19_4 := bF BK551.out 4
          go_wp2
          go_ret
          exact ⟨by first | rfl | (simp [errW_none, errW_some] <;> rfl) | (simp only [← hji18]; first | rfl | (simp [errW_none, errW_some] <;> rfl)) | (simp [*, errW_none, errW_some] <;> rfl), by repeat (first | (with_reducible first | exact HB.out | apply ea | apply en | apply ed | refine es ?_ GE551.out) | exact HB.out)⟩
end Go.Proofs.Ythpjagblnddjaaa.PB
end

section
namespace Go.Proofs.Ythpjagblnddjaaa.PB
open Go.RowKit Go.Proofs.YthpjagblnddjaaaW.PrintWords Go.Proofs.YthpjagblnddjaaaW.PrintLast Go.Proofs.YthpjagblnddjaaaW.PrintMore
attribute [local go_sem] max2_int min2_int max_two min_two max_three min_three max_four min_four   
set_option linter.unusedVariables false
set_option linter.unusedSimpArgs false
def edit_Apply.f (k : Nat) (a0_0 : ByteArray) (l0_1 : List (S100)) (a1_0 : Int) (a1_1 : ByteArray) (l1_2 : List (S100)) (a1_3 : ByteArray) (l1_4 : List (S100)) : Option (ByteArray × (List (S100)) × Int) := (edit_good.f k a1_0 a1_1 l1_2 a1_3 l1_4).bind fun t556 => (if t556 = true then ((strip_Cut.f k a0_0 l0_1 a1_0 (wrap64 (a1_0 + (a1_1.size : Int)))).bind fun bt557 => (if bt557.2.2 = 0 then ((strip_Same.f k bt557.1 bt557.2.1 a1_1 l1_2).bind fun t563 => (if t563 = true then ((strip_Splice.f k a0_0 l0_1 a1_0 (wrap64 (a1_0 + (a1_1.size : Int))) a1_3 l1_4).bind fun bt564 => (some (bt564.1, bt564.2.1, bt564.2.2))) else (some ((⟨#[]⟩ : ByteArray), ([] : List (S100)), 7)))) else (some ((⟨#[]⟩ : ByteArray), ([] : List (S100)), bt557.2.2)))) else (some ((⟨#[]⟩ : ByteArray), ([] : List (S100)), 2)))
theorem edit_Apply.mono : ∀ a0 a1 a2 a3 a4 a5 a6 k, LeO (edit_Apply.f k a0 a1 a2 a3 a4 a5 a6) (edit_Apply.f (k + 1) a0 a1 a2 a3 a4 a5 a6) := by
  intro a0 a1 a2 a3 a4 a5 a6 k
  unfold edit_Apply.f
  repeat' first
      | (with_reducible exact edit_good.mono _ _ _ _ _ _)
      | (with_reducible exact strip_Cut.mono _ _ _ _ _)
      | (with_reducible exact strip_Same.mono _ _ _ _ _)
      | (with_reducible exact strip_Splice.mono _ _ _ _ _ _ _)
      | (with_reducible exact LeO.refl _)
      | (with_reducible exact LeO.none _)
      | (with_reducible refine LeO.ite ?_ ?_)
      | (with_reducible refine LeO.bind ?_ (fun _ => ?_))
      | exact edit_good.mono _ _ _ _ _ _
      | exact strip_Cut.mono _ _ _ _ _
      | exact strip_Same.mono _ _ _ _ _
      | exact strip_Splice.mono _ _ _ _ _ _ _
      | exact LeO.none _
      | refine LeO.ite ?_ ?_
      | refine LeO.bind ?_ (fun _ => ?_)
set_option maxHeartbeats 8000000 in
set_option maxRecDepth 100000 in
theorem edit_Apply.calls (k : Nat) (a0_0 : ByteArray) (A0_1 : Option Addr) (c0_1 : Nat) (l0_1 : List (S100)) (a1_0 : Int) (a1_1 : ByteArray) (A1_2 : Option Addr) (c1_2 : Nat) (l1_2 : List (S100)) (a1_3 : ByteArray) (A1_4 : Option Addr) (c1_4 : Nat) (l1_4 : List (S100)) (r1 : ByteArray) (r2 : List (S100)) (r3 : Int) (w : World) (hr0_1 : Kd.C k100 w A0_1 l0_1.length l0_1) (hc0_1 : l0_1.length ≤ c0_1) (hr1_2 : Kd.C k100 w A1_2 l1_2.length l1_2) (hc1_2 : l1_2.length ≤ c1_2) (hr1_4 : Kd.C k100 w A1_4 l1_4.length l1_4) (hc1_4 : l1_4.length ≤ c1_4) (h : edit_Apply.f k a0_0 l0_1 a1_0 a1_1 l1_2 a1_3 l1_4 = some (r1, r2, r3)) :
    Calls Try.prog 65 #[.agg #[.string a0_0, .slice A0_1 l0_1.length c0_1], .agg #[.int .i64 a1_0, .string a1_1, .slice A1_2 l1_2.length c1_2, .string a1_3, .slice A1_4 l1_4.length c1_4]] w fun e w' => ∃ v1_ : Value, e = .returned (.tuple #[.agg #[.string r1, v1_], .int .i64 r3]) ∧ Kd.R k100 100 w' w.heap.size (fun _ => True) v1_ r2 ∧ Below w.heap.size w w' := by
  have hu51 := Try.underlying51
  have hu64 := Try.underlying64
  have HR0_1 := aM hr0_1
  have HC0_1 := aM hc0_1
  clear hr0_1 hc0_1
  have HR1_2 := aM hr1_2
  have HC1_2 := aM hc1_2
  clear hr1_2 hc1_2
  have HR1_4 := aM hr1_4
  have HC1_4 := aM hc1_4
  clear hr1_4 hc1_4
  have HB := aM (Below.refl w.heap.size w)
  have H : ((edit_good.f k a1_0 a1_1 l1_2 a1_3 l1_4).bind fun t556 => (if t556 = true then ((strip_Cut.f k a0_0 l0_1 a1_0 (wrap64 (a1_0 + (a1_1.size : Int)))).bind fun bt557 => (if bt557.2.2 = 0 then ((strip_Same.f k bt557.1 bt557.2.1 a1_1 l1_2).bind fun t563 => (if t563 = true then ((strip_Splice.f k a0_0 l0_1 a1_0 (wrap64 (a1_0 + (a1_1.size : Int))) a1_3 l1_4).bind fun bt564 => (some (bt564.1, bt564.2.1, bt564.2.2))) else (some ((⟨#[]⟩ : ByteArray), ([] : List (S100)), 7)))) else (some ((⟨#[]⟩ : ByteArray), ([] : List (S100)), bt557.2.2)))) else (some ((⟨#[]⟩ : ByteArray), ([] : List (S100)), 2)))) = some (r1, r2, r3) := h
  clear h
  replace H := Option.bind_eq_some_iff.mp H
  obtain ⟨t556, A30, H⟩ := H
  replace H : (if t556 = true then ((strip_Cut.f k a0_0 l0_1 a1_0 (wrap64 (a1_0 + (a1_1.size : Int)))).bind fun bt557 => (if bt557.2.2 = 0 then ((strip_Same.f k bt557.1 bt557.2.1 a1_1 l1_2).bind fun t563 => (if t563 = true then ((strip_Splice.f k a0_0 l0_1 a1_0 (wrap64 (a1_0 + (a1_1.size : Int))) a1_3 l1_4).bind fun bt564 => (some (bt564.1, bt564.2.1, bt564.2.2))) else (some ((⟨#[]⟩ : ByteArray), ([] : List (S100)), 7)))) else (some ((⟨#[]⟩ : ByteArray), ([] : List (S100)), bt557.2.2)))) else (some ((⟨#[]⟩ : ByteArray), ([] : List (S100)), 2))) = some (r1, r2, r3) := H
  have A3 := aM A30
  clear A30
  by_cases c4 : t556 = true
  · subst c4
    have H1 : ((strip_Cut.f k a0_0 l0_1 a1_0 (wrap64 (a1_0 + (a1_1.size : Int)))).bind fun bt557 => (if bt557.2.2 = 0 then ((strip_Same.f k bt557.1 bt557.2.1 a1_1 l1_2).bind fun t563 => (if t563 = true then ((strip_Splice.f k a0_0 l0_1 a1_0 (wrap64 (a1_0 + (a1_1.size : Int))) a1_3 l1_4).bind fun bt564 => (some (bt564.1, bt564.2.1, bt564.2.2))) else (some ((⟨#[]⟩ : ByteArray), ([] : List (S100)), 7)))) else (some ((⟨#[]⟩ : ByteArray), ([] : List (S100)), bt557.2.2)))) = some (r1, r2, r3) := by rw [if_pos rfl] at H; exact H
    clear H
    have H := H1
    clear H1
    replace H := Option.bind_eq_some_iff.mp H
    obtain ⟨⟨t557, t558, t561⟩, A50, H⟩ := H
    replace H : (if t561 = 0 then ((strip_Same.f k t557 t558 a1_1 l1_2).bind fun t563 => (if t563 = true then ((strip_Splice.f k a0_0 l0_1 a1_0 (wrap64 (a1_0 + (a1_1.size : Int))) a1_3 l1_4).bind fun bt564 => (some (bt564.1, bt564.2.1, bt564.2.2))) else (some ((⟨#[]⟩ : ByteArray), ([] : List (S100)), 7)))) else (some ((⟨#[]⟩ : ByteArray), ([] : List (S100)), t561))) = some (r1, r2, r3) := H
    have A5 := aM A50
    clear A50
    by_cases c6 : t561 = 0
    · rw [if_pos c6] at H
      have c6b0 : (t561 == 0) = true := beq_iff_eq.mpr c6
      have c6b1 : (t561 != 0) = false := bne_eq_false_iff_eq.mpr c6
      clear c6
      replace H := Option.bind_eq_some_iff.mp H
      obtain ⟨t563, A70, H⟩ := H
      replace H : (if t563 = true then ((strip_Splice.f k a0_0 l0_1 a1_0 (wrap64 (a1_0 + (a1_1.size : Int))) a1_3 l1_4).bind fun bt564 => (some (bt564.1, bt564.2.1, bt564.2.2))) else (some ((⟨#[]⟩ : ByteArray), ([] : List (S100)), 7))) = some (r1, r2, r3) := H
      have A7 := aM A70
      clear A70
      by_cases c8 : t563 = true
      · subst c8
        have H1 : ((strip_Splice.f k a0_0 l0_1 a1_0 (wrap64 (a1_0 + (a1_1.size : Int))) a1_3 l1_4).bind fun bt564 => (some (bt564.1, bt564.2.1, bt564.2.2))) = some (r1, r2, r3) := by rw [if_pos rfl] at H; exact H
        clear H
        have H := H1
        clear H1
        replace H := Option.bind_eq_some_iff.mp H
        obtain ⟨⟨t564, t565, t568⟩, A90, H⟩ := H
        replace H : (some (t564, t565, t568)) = some (r1, r2, r3) := H
        have A9 := aM A90
        clear A90
        simp only [Option.some.injEq, Prod.mk.injEq] at H
        obtain ⟨rfl, rfl, rfl⟩ := H
        go_enter Try.func65, Try.ntmps65
        go_wp2_with (first | ((with_reducible refine gate_dst (N := 2) rfl ?_); refine box_event ?hg (N := 2) ?hd (cs := #[.string a0_0, .slice A0_1 l0_1.length c0_1]) (t := 51) ?hr ?_; (case hd => rfl); (case hg => rfl); (case hr => first | (go_simp; done) | (go_simp; rfl)); intro gb553 hg w10 hbox hb; have n0_ := aM (bP (by repeat (first | (with_reducible first | exact HB.out | apply ea | apply en | apply ed) | exact HB.out)) hb); have n1_ := aM (hbox); have n2_ := aM ((by rw [hg]; exact (bZ (by repeat (first | (with_reducible first | exact HB.out | apply ea | apply en | apply ed) | exact HB.out))) : w.heap.size ≤ gb553)); have n3_ := aM ((by rw [hg]; exact (bZ (by repeat (first | (with_reducible first | exact HB.out | apply ea | apply en | apply ed) | exact HB.out))) : w.heap.size ≤ gb553)); clear HB; have HB := n0_; have BK553 := n1_; have GW553 := n2_; have GE553 := n3_; clear n0_ n1_ n2_ n3_; clear hb hbox hg) | ((with_reducible refine gate_dst (N := 3) rfl ?_); refine box_event ?hg (N := 3) ?hd (cs := #[.int .i64 a1_0, .string a1_1, .slice A1_2 l1_2.length c1_2, .string a1_3, .slice A1_4 l1_4.length c1_4]) (t := 64) ?hr ?_; (case hd => rfl); (case hg => rfl); (case hr => first | (go_simp; done) | (go_simp; rfl)); intro gb554 hg w11 hbox hb; have n0_ := aM (bB (g := gb553) (o := .cells #[.string a0_0, .slice A0_1 l0_1.length c0_1] 51 (0, 0)) (by (with_reducible repeat (first | refine qn ?_ _ | refine qd ?_ | refine qa ?_ _)); exact BK553.out) hb); have n1_ := aM (bP (by repeat (first | (with_reducible first | exact HB.out | apply ea | apply en | apply ed | refine es ?_ GE553.out) | exact HB.out)) hb); have n2_ := aM (hbox); have n3_ := aM ((by rw [hg]; exact (bZ (by repeat (first | (with_reducible first | exact HB.out | apply ea | apply en | apply ed | refine es ?_ GE553.out) | exact HB.out))) : w.heap.size ≤ gb554)); have n4_ := aM ((by rw [hg]; exact (bZ (by repeat (first | (with_reducible first | exact HB.out | apply ea | apply en | apply ed | refine es ?_ GE553.out) | exact HB.out))) : w.heap.size ≤ gb554)); have n5_ := aM ((by rw [hg]; exact Nat.ne_of_lt (blk_lt (g := gb553) (o := .cells #[.string a0_0, .slice A0_1 l0_1.length c0_1] 51 (0, 0)) (by (with_reducible repeat (first | refine qn ?_ _ | refine qd ?_ | refine qa ?_ _)); exact BK553.out)) : gb553 ≠ gb554)); have n6_ := aM ((by rw [hg]; exact Nat.ne_of_gt (blk_lt (g := gb553) (o := .cells #[.string a0_0, .slice A0_1 l0_1.length c0_1] 51 (0, 0)) (by (with_reducible repeat (first | refine qn ?_ _ | refine qd ?_ | refine qa ?_ _)); exact BK553.out)) : gb554 ≠ gb553)); clear BK553; clear HB; have BK553 := n0_; have HB := n1_; have BK554 := n2_; have GW554 := n3_; have GE554 := n4_; have NB553_554 := n5_; have NB554_553 := n6_; clear n0_ n1_ n2_ n3_ n4_ n5_ n6_; clear hb hbox hg) | ((with_reducible refine gate_dst (N := 4) rfl ?_); refine box_event ?hg (N := 4) ?hd (cs := #[.string (⟨#[]⟩ : ByteArray), .slice none 0 0]) (t := 51) ?hr ?_; (case hd => rfl); (case hg => rfl); (case hr => first | (go_simp; done) | (go_simp; rfl)); intro gb555 hg w12 hbox hb; have n0_ := aM (bB (g := gb553) (o := .cells #[.string a0_0, .slice A0_1 l0_1.length c0_1] 51 (0, 0)) (by (with_reducible repeat (first | refine qn ?_ _ | refine qd ?_ | refine qa ?_ _)); exact BK553.out) hb); have n1_ := aM (bB (g := gb554) (o := .cells #[.int .i64 a1_0, .string a1_1, .slice A1_2 l1_2.length c1_2, .string a1_3, .slice A1_4 l1_4.length c1_4] 64 (0, 0)) (by (with_reducible repeat (first | refine qn ?_ _ | refine qd ?_ | refine qa ?_ _)); exact BK554.out) hb); have n2_ := aM (bP (by repeat (first | (with_reducible first | exact HB.out | apply ea | apply en | apply ed | refine es ?_ GE553.out | refine es ?_ GE554.out) | exact HB.out)) hb); have n3_ := aM (hbox); have n4_ := aM ((by rw [hg]; exact (bZ (by repeat (first | (with_reducible first | exact HB.out | apply ea | apply en | apply ed | refine es ?_ GE553.out | refine es ?_ GE554.out) | exact HB.out))) : w.heap.size ≤ gb555)); have n5_ := aM ((by rw [hg]; exact (bZ (by repeat (first | (with_reducible first | exact HB.out | apply ea | apply en | apply ed | refine es ?_ GE553.out | refine es ?_ GE554.out) | exact HB.out))) : w.heap.size ≤ gb555)); have n6_ := aM ((by rw [hg]; exact Nat.ne_of_lt (blk_lt (g := gb553) (o := .cells #[.string a0_0, .slice A0_1 l0_1.length c0_1] 51 (0, 0)) (by (with_reducible repeat (first | refine qn ?_ _ | refine qd ?_ | refine qa ?_ _)); exact BK553.out)) : gb553 ≠ gb555)); have n7_ := aM ((by rw [hg]; exact Nat.ne_of_gt (blk_lt (g := gb553) (o := .cells #[.string a0_0, .slice A0_1 l0_1.length c0_1] 51 (0, 0)) (by (with_reducible repeat (first | refine qn ?_ _ | refine qd ?_ | refine qa ?_ _)); exact BK553.out)) : gb555 ≠ gb553)); have n8_ := aM ((by rw [hg]; exact Nat.ne_of_lt (blk_lt (g := gb554) (o := .cells #[.int .i64 a1_0, .string a1_1, .slice A1_2 l1_2.length c1_2, .string a1_3, .slice A1_4 l1_4.length c1_4] 64 (0, 0)) (by (with_reducible repeat (first | refine qn ?_ _ | refine qd ?_ | refine qa ?_ _)); exact BK554.out)) : gb554 ≠ gb555)); have n9_ := aM ((by rw [hg]; exact Nat.ne_of_gt (blk_lt (g := gb554) (o := .cells #[.int .i64 a1_0, .string a1_1, .slice A1_2 l1_2.length c1_2, .string a1_3, .slice A1_4 l1_4.length c1_4] 64 (0, 0)) (by (with_reducible repeat (first | refine qn ?_ _ | refine qd ?_ | refine qa ?_ _)); exact BK554.out)) : gb555 ≠ gb554)); clear BK553; clear BK554; clear HB; have BK553 := n0_; have BK554 := n1_; have HB := n2_; have BK555 := n3_; have GW555 := n4_; have GE555 := n5_; have NB553_555 := n6_; have NB555_553 := n7_; have NB554_555 := n8_; have NB555_554 := n9_; clear n0_ n1_ n2_ n3_ n4_ n5_ n6_ n7_ n8_ n9_; clear hb hbox hg; have hnb13 := NB554_553.out; have hnc13 := NB553_554.out; have hnb14 := NB554_555.out; have hnc14 := NB555_554.out; have hcz15_0 : w12.cell? ⟨gb554, 0, none⟩ = some (.int .i64 a1_0) := (bC BK554.out 0).trans rfl; have hcz15_1 : w12.cell? ⟨gb554, 1, none⟩ = some (.string a1_1) := (bC BK554.out 1).trans rfl; have hcz15_2 : w12.cell? ⟨gb554, 2, none⟩ = some (.slice A1_2 l1_2.length c1_2) := (bC BK554.out 2).trans rfl; have hcz15_3 : w12.cell? ⟨gb554, 3, none⟩ = some (.string a1_3) := (bC BK554.out 3).trans rfl; have hcz15_4 : w12.cell? ⟨gb554, 4, none⟩ = some (.slice A1_4 l1_4.length c1_4) := (bC BK554.out 4).trans rfl; have hfz15_0 := bF BK554.out 0; have hfz15_1 := bF BK554.out 1; have hfz15_2 := bF BK554.out 2; have hfz15_3 := bF BK554.out 3; have hfz15_4 := bF BK554.out 4) | ((with_reducible refine gate_callee (f := 99) rfl ?_); refine goesL_ (some 10) rfl rfl Try.func99 (by kernel_rfl) rfl #[.agg #[.int .i64 a1_0, .string a1_1, .slice A1_2 l1_2.length c1_2, .string a1_3, .slice A1_4 l1_4.length c1_4]] rfl (by (try simp only [List.map_toArray, List.map_cons, List.map_nil]); first | done | rfl | (simp only [List.length_drop, List.length_take]; rfl)) ?_; (with_reducible refine (edit_good.calls k a1_0 a1_1 _ _ l1_2 a1_3 _ _ l1_4 true _ ?side1 ?side2 ?side3 ?side4 A3.out).mono ?_); (case side1 => repeat (first | exact (cB_ HR1_2.out HB.out) | (with_reducible refine Kd.C_alloc ?_ _) | (with_reducible refine Kd.C_drewN ?_ _) | (with_reducible refine Kd.C_drew ?_))); (case side2 => exact HC1_2.out); (case side3 => repeat (first | exact (cB_ HR1_4.out HB.out) | (with_reducible refine Kd.C_alloc ?_ _) | (with_reducible refine Kd.C_drewN ?_ _) | (with_reducible refine Kd.C_drew ?_))); (case side4 => exact HC1_4.out); rintro e w16 ⟨rfl, hb⟩; refine ⟨_, rfl, ?_⟩; have n0_ := aM (bB (g := gb553) (o := .cells #[.string a0_0, .slice A0_1 l0_1.length c0_1] 51 (0, 0)) (by (with_reducible repeat (first | refine qn ?_ _ | refine qd ?_ | refine qa ?_ _)); exact BK553.out) hb); have n1_ := aM (bB (g := gb554) (o := .cells #[.int .i64 a1_0, .string a1_1, .slice A1_2 l1_2.length c1_2, .string a1_3, .slice A1_4 l1_4.length c1_4] 64 (0, 0)) (by (with_reducible repeat (first | refine qn ?_ _ | refine qd ?_ | refine qa ?_ _)); exact BK554.out) hb); have n2_ := aM (bB (g := gb555) (o := .cells #[.string (⟨#[]⟩ : ByteArray), .slice none 0 0] 51 (0, 0)) (by (with_reducible repeat (first | refine qn ?_ _ | refine qd ?_ | refine qa ?_ _)); exact BK555.out) hb); have n3_ := aM (bP (by repeat (first | (with_reducible first | exact HB.out | apply ea | apply en | apply ed | refine es ?_ GE553.out | refine es ?_ GE554.out | refine es ?_ GE555.out) | exact HB.out)) hb); clear BK553; clear BK554; clear BK555; clear HB; have BK553 := n0_; have BK554 := n1_; have BK555 := n2_; have HB := n3_; clear n0_ n1_ n2_ n3_; (try clear hb); (try clear hb2); (try clear hk); (try clear hi); have hcz17_0 : w16.cell? ⟨gb554, 0, none⟩ = some (.int .i64 a1_0) := (bC BK554.out 0).trans rfl; have hcz17_1 : w16.cell? ⟨gb554, 1, none⟩ = some (.string a1_1) := (bC BK554.out 1).trans rfl; have hcz17_2 : w16.cell? ⟨gb554, 2, none⟩ = some (.slice A1_2 l1_2.length c1_2) := (bC BK554.out 2).trans rfl; have hcz17_3 : w16.cell? ⟨gb554, 3, none⟩ = some (.string a1_3) := (bC BK554.out 3).trans rfl; have hcz17_4 : w16.cell? ⟨gb554, 4, none⟩ = some (.slice A1_4 l1_4.length c1_4) := (bC BK554.out 4).trans rfl; have hfz17_0 := bF BK554.out 0; have hfz17_1 := bF BK554.out 1; have hfz17_2 := bF BK554.out 2; have hfz17_3 := bF BK554.out 3; have hfz17_4 := bF BK554.out 4; have hnb18 := NB553_555.out; have hnc18 := NB555_553.out; have hcz19_0 : w16.cell? ⟨gb553, 0, none⟩ = some (.string a0_0) := (bC BK553.out 0).trans rfl; have hcz19_1 : w16.cell? ⟨gb553, 1, none⟩ = some (.slice A0_1 l0_1.length c0_1) := (bC BK553.out 1).trans rfl; have hfz19_0 := bF BK553.out 0; have hfz19_1 := bF BK553.out 1) | ((with_reducible refine gate_callee (f := 73) rfl ?_); refine goesL_ (some 25) rfl rfl Try.func73 (by kernel_rfl) rfl #[.agg #[.string a0_0, .slice A0_1 l0_1.length c0_1], .int .i64 a1_0, .int .i64 (wrap64 (a1_0 + (a1_1.size : Int)))] rfl (by (try simp only [List.map_toArray, List.map_cons, List.map_nil]); first | done | rfl | (simp only [List.length_drop, List.length_take]; rfl)) ?_; (with_reducible refine (strip_Cut.calls k a0_0 _ _ l0_1 a1_0 (wrap64 (a1_0 + (a1_1.size : Int))) t557 t558 t561 _ ?side1 ?side2 A5.out).mono ?_); (case side1 => repeat (first | exact (cB_ HR0_1.out HB.out) | (with_reducible refine Kd.C_alloc ?_ _) | (with_reducible refine Kd.C_drewN ?_ _) | (with_reducible refine Kd.C_drew ?_))); (case side2 => exact HC0_1.out); rintro e w20 ⟨v559, rfl, ho0, hb⟩; refine ⟨_, rfl, ?_⟩; have n0_ := aM (rL ho0 (bZ (by repeat (first | (with_reducible first | exact HB.out | apply ea | apply en | apply ed | refine es ?_ GE553.out | refine es ?_ GE554.out | refine es ?_ GE555.out) | exact HB.out)))); have n1_ := aM (bB (g := gb553) (o := .cells #[.string a0_0, .slice A0_1 l0_1.length c0_1] 51 (0, 0)) (by (with_reducible repeat (first | refine qn ?_ _ | refine qd ?_ | refine qa ?_ _)); exact BK553.out) hb); have n2_ := aM (bB (g := gb554) (o := .cells #[.int .i64 a1_0, .string a1_1, .slice A1_2 l1_2.length c1_2, .string a1_3, .slice A1_4 l1_4.length c1_4] 64 (0, 0)) (by (with_reducible repeat (first | refine qn ?_ _ | refine qd ?_ | refine qa ?_ _)); exact BK554.out) hb); have n3_ := aM (bB (g := gb555) (o := .cells #[.string (⟨#[]⟩ : ByteArray), .slice none 0 0] 51 (0, 0)) (by (with_reducible repeat (first | refine qn ?_ _ | refine qd ?_ | refine qa ?_ _)); exact BK555.out) hb); have n4_ := aM (bP (by repeat (first | (with_reducible first | exact HB.out | apply ea | apply en | apply ed | refine es ?_ GE553.out | refine es ?_ GE554.out | refine es ?_ GE555.out) | exact HB.out)) hb); clear BK553; clear BK554; clear BK555; clear HB; have HO560 := n0_; have BK553 := n1_; have BK554 := n2_; have BK555 := n3_; have HB := n4_; clear n0_ n1_ n2_ n3_ n4_; (try clear hb); (try clear hb2); (try clear hk); (try clear hi); (try clear ho0)) | ((with_reducible refine gate_dst (N := 7) rfl ?_); refine box_event ?hg (N := 7) ?hd (cs := #[.string (⟨#[]⟩ : ByteArray), .slice none 0 0]) (t := 51) ?hr ?_; (case hd => rfl); (case hg => rfl); (case hr => first | (go_simp; done) | (go_simp; rfl)); intro gb562 hg w21 hbox hb; have n0_ := aM (Kd.R_below (by (with_reducible repeat (first | apply ra | apply rn | apply rd_)); exact HO560.out) hb); have n1_ := aM (bB (g := gb553) (o := .cells #[.string a0_0, .slice A0_1 l0_1.length c0_1] 51 (0, 0)) (by (with_reducible repeat (first | refine qn ?_ _ | refine qd ?_ | refine qa ?_ _)); exact BK553.out) hb); have n2_ := aM (bB (g := gb554) (o := .cells #[.int .i64 a1_0, .string a1_1, .slice A1_2 l1_2.length c1_2, .string a1_3, .slice A1_4 l1_4.length c1_4] 64 (0, 0)) (by (with_reducible repeat (first | refine qn ?_ _ | refine qd ?_ | refine qa ?_ _)); exact BK554.out) hb); have n3_ := aM (bB (g := gb555) (o := .cells #[.string (⟨#[]⟩ : ByteArray), .slice none 0 0] 51 (0, 0)) (by (with_reducible repeat (first | refine qn ?_ _ | refine qd ?_ | refine qa ?_ _)); exact BK555.out) hb); have n4_ := aM (bP (by repeat (first | (with_reducible first | exact HB.out | apply ea | apply en | apply ed | refine es ?_ GE553.out | refine es ?_ GE554.out | refine es ?_ GE555.out) | exact HB.out)) hb); have n5_ := aM (hbox); have n6_ := aM ((by rw [hg]; exact (bZ (by repeat (first | (with_reducible first | exact HB.out | apply ea | apply en | apply ed | refine es ?_ GE553.out | refine es ?_ GE554.out | refine es ?_ GE555.out) | exact HB.out))) : w.heap.size ≤ gb562)); have n7_ := aM ((by rw [hg]; exact (bZ (by repeat (first | (with_reducible first | exact HB.out | apply ea | apply en | apply ed | refine es ?_ GE553.out | refine es ?_ GE554.out | refine es ?_ GE555.out) | exact HB.out))) : w.heap.size ≤ gb562)); have n8_ := aM ((by rw [hg]; exact Nat.ne_of_lt (blk_lt (g := gb553) (o := .cells #[.string a0_0, .slice A0_1 l0_1.length c0_1] 51 (0, 0)) (by (with_reducible repeat (first | refine qn ?_ _ | refine qd ?_ | refine qa ?_ _)); exact BK553.out)) : gb553 ≠ gb562)); have n9_ := aM ((by rw [hg]; exact Nat.ne_of_gt (blk_lt (g := gb553) (o := .cells #[.string a0_0, .slice A0_1 l0_1.length c0_1] 51 (0, 0)) (by (with_reducible repeat (first | refine qn ?_ _ | refine qd ?_ | refine qa ?_ _)); exact BK553.out)) : gb562 ≠ gb553)); have n10_ := aM ((by rw [hg]; exact Nat.ne_of_lt (blk_lt (g := gb554) (o := .cells #[.int .i64 a1_0, .string a1_1, .slice A1_2 l1_2.length c1_2, .string a1_3, .slice A1_4 l1_4.length c1_4] 64 (0, 0)) (by (with_reducible repeat (first | refine qn ?_ _ | refine qd ?_ | refine qa ?_ _)); exact BK554.out)) : gb554 ≠ gb562)); have n11_ := aM ((by rw [hg]; exact Nat.ne_of_gt (blk_lt (g := gb554) (o := .cells #[.int .i64 a1_0, .string a1_1, .slice A1_2 l1_2.length c1_2, .string a1_3, .slice A1_4 l1_4.length c1_4] 64 (0, 0)) (by (with_reducible repeat (first | refine qn ?_ _ | refine qd ?_ | refine qa ?_ _)); exact BK554.out)) : gb562 ≠ gb554)); have n12_ := aM ((by rw [hg]; exact Nat.ne_of_lt (blk_lt (g := gb555) (o := .cells #[.string (⟨#[]⟩ : ByteArray), .slice none 0 0] 51 (0, 0)) (by (with_reducible repeat (first | refine qn ?_ _ | refine qd ?_ | refine qa ?_ _)); exact BK555.out)) : gb555 ≠ gb562)); have n13_ := aM ((by rw [hg]; exact Nat.ne_of_gt (blk_lt (g := gb555) (o := .cells #[.string (⟨#[]⟩ : ByteArray), .slice none 0 0] 51 (0, 0)) (by (with_reducible repeat (first | refine qn ?_ _ | refine qd ?_ | refine qa ?_ _)); exact BK555.out)) : gb562 ≠ gb555)); clear HO560; clear BK553; clear BK554; clear BK555; clear HB; have HO560 := n0_; have BK553 := n1_; have BK554 := n2_; have BK555 := n3_; have HB := n4_; have BK562 := n5_; have GW562 := n6_; have GE562 := n7_; have NB553_562 := n8_; have NB562_553 := n9_; have NB554_562 := n10_; have NB562_554 := n11_; have NB555_562 := n12_; have NB562_555 := n13_; clear n0_ n1_ n2_ n3_ n4_ n5_ n6_ n7_ n8_ n9_ n10_ n11_ n12_ n13_; clear hb hbox hg; have hnb22 := NB562_553.out; have hnc22 := NB553_562.out; have hnb23 := NB562_554.out; have hnc23 := NB554_562.out; have hnb24 := NB562_555.out; have hnc24 := NB555_562.out; have hcz25_0 : w21.cell? ⟨gb562, 0, none⟩ = some (.string (⟨#[]⟩ : ByteArray)) := (bC BK562.out 0).trans rfl; have hcz25_1 : w21.cell? ⟨gb562, 1, none⟩ = some (.slice none 0 0) := (bC BK562.out 1).trans rfl; have hfz25_0 := bF BK562.out 0; have hfz25_1 := bF BK562.out 1; obtain ⟨Ao26, co26, eo26⟩ := Kd.R_slice HO560.out; subst eo26; have hcz27_0 : w21.cell? ⟨gb554, 0, none⟩ = some (.int .i64 a1_0) := (bC BK554.out 0).trans rfl; have hcz27_1 : w21.cell? ⟨gb554, 1, none⟩ = some (.string a1_1) := (bC BK554.out 1).trans rfl; have hcz27_2 : w21.cell? ⟨gb554, 2, none⟩ = some (.slice A1_2 l1_2.length c1_2) := (bC BK554.out 2).trans rfl; have hcz27_3 : w21.cell? ⟨gb554, 3, none⟩ = some (.string a1_3) := (bC BK554.out 3).trans rfl; have hcz27_4 : w21.cell? ⟨gb554, 4, none⟩ = some (.slice A1_4 l1_4.length c1_4) := (bC BK554.out 4).trans rfl; have hfz27_0 := bF BK554.out 0; have hfz27_1 := bF BK554.out 1; have hfz27_2 := bF BK554.out 2; have hfz27_3 := bF BK554.out 3; have hfz27_4 := bF BK554.out 4) | ((with_reducible refine gate_callee (f := 71) rfl ?_); refine goesL_ (some 37) rfl rfl Try.func71 (by kernel_rfl) rfl #[.agg #[.string t557, .slice Ao26 t558.length co26], .agg #[.string a1_1, .slice A1_2 l1_2.length c1_2]] rfl (by (try simp only [List.map_toArray, List.map_cons, List.map_nil]); first | done | rfl | (simp only [List.length_drop, List.length_take]; rfl)) ?_; (with_reducible refine (strip_Same.calls k t557 _ _ t558 a1_1 _ _ l1_2 true _ ?side1 ?side2 ?side3 ?side4 A7.out).mono ?_); (case side1 => refine (rR (e := 100) (base := w.heap.size) (ok := fun k_ => True) (n := t558.length) (c := co26) ?_).2.2; exact (by (with_reducible repeat (first | apply ra | apply rn | apply rd_)); exact (rM (rF (p := ⟨gb562, 1, none⟩) (rF (p := ⟨gb562, 0, none⟩) (rT HO560.out BK562.out (by decide)) (fun _ hk => hk.2) (.string t557)) (fun _ hk => hk.2) (.slice Ao26 t558.length co26)) (fun _ h_ => h_.1)))); (case side2 => exact (rR HO560.out).2.1); (case side3 => exact cB_ HR1_2.out (by repeat (first | (with_reducible first | exact HB.out | apply ea | apply en | apply ed | refine es ?_ GE553.out | refine es ?_ GE554.out | refine es ?_ GE555.out | refine es ?_ GE562.out) | exact HB.out))); (case side4 => exact HC1_2.out); rintro e w28 ⟨rfl, hb⟩; refine ⟨_, rfl, ?_⟩; have n0_ := aM (Kd.R_below (by (with_reducible repeat (first | apply ra | apply rn | apply rd_)); exact (rM (rF (p := ⟨gb562, 1, none⟩) (rF (p := ⟨gb562, 0, none⟩) (rT HO560.out BK562.out (by decide)) (fun _ hk => hk.2) (.string t557)) (fun _ hk => hk.2) (.slice Ao26 t558.length co26)) (fun _ h_ => h_.1))) hb); have n1_ := aM (bB (g := gb553) (o := .cells #[.string a0_0, .slice A0_1 l0_1.length c0_1] 51 (0, 0)) (by (with_reducible repeat (first | refine qn ?_ _ | refine qd ?_ | refine qa ?_ _)); refine bR ?_ NB553_562.out _; (with_reducible repeat (first | refine qn ?_ _ | refine qd ?_ | refine qa ?_ _)); refine bR ?_ NB553_562.out _; (with_reducible repeat (first | refine qn ?_ _ | refine qd ?_ | refine qa ?_ _)); exact BK553.out) hb); have n2_ := aM (bB (g := gb554) (o := .cells #[.int .i64 a1_0, .string a1_1, .slice A1_2 l1_2.length c1_2, .string a1_3, .slice A1_4 l1_4.length c1_4] 64 (0, 0)) (by (with_reducible repeat (first | refine qn ?_ _ | refine qd ?_ | refine qa ?_ _)); refine bR ?_ NB554_562.out _; (with_reducible repeat (first | refine qn ?_ _ | refine qd ?_ | refine qa ?_ _)); refine bR ?_ NB554_562.out _; (with_reducible repeat (first | refine qn ?_ _ | refine qd ?_ | refine qa ?_ _)); exact BK554.out) hb); have n3_ := aM (bB (g := gb555) (o := .cells #[.string (⟨#[]⟩ : ByteArray), .slice none 0 0] 51 (0, 0)) (by (with_reducible repeat (first | refine qn ?_ _ | refine qd ?_ | refine qa ?_ _)); refine bR ?_ NB555_562.out _; (with_reducible repeat (first | refine qn ?_ _ | refine qd ?_ | refine qa ?_ _)); refine bR ?_ NB555_562.out _; (with_reducible repeat (first | refine qn ?_ _ | refine qd ?_ | refine qa ?_ _)); exact BK555.out) hb); have n4_ := aM (bB (g := gb562) (o := .cells #[.string t557, .slice Ao26 t558.length co26] 51 (0, 0)) (by (with_reducible repeat (first | refine qn ?_ _ | refine qd ?_ | refine qa ?_ _)); refine bU (cs := #[.string t557, .slice none 0 0]) ?_ 1 _ rfl; (with_reducible repeat (first | refine qn ?_ _ | refine qd ?_ | refine qa ?_ _)); refine bU (cs := #[.string (⟨#[]⟩ : ByteArray), .slice none 0 0]) ?_ 0 _ rfl; (with_reducible repeat (first | refine qn ?_ _ | refine qd ?_ | refine qa ?_ _)); exact BK562.out) hb); have n5_ := aM (bP (by repeat (first | (with_reducible first | exact HB.out | apply ea | apply en | apply ed | refine es ?_ GE553.out | refine es ?_ GE554.out | refine es ?_ GE555.out | refine es ?_ GE562.out) | exact HB.out)) hb); clear HO560; clear BK553; clear BK554; clear BK555; clear BK562; clear HB; have HO560 := n0_; have BK553 := n1_; have BK554 := n2_; have BK555 := n3_; have BK562 := n4_; have HB := n5_; clear n0_ n1_ n2_ n3_ n4_ n5_; (try clear hb); (try clear hb2); (try clear hk); (try clear hi); have hcz29_0 : w28.cell? ⟨gb553, 0, none⟩ = some (.string a0_0) := (bC BK553.out 0).trans rfl; have hcz29_1 : w28.cell? ⟨gb553, 1, none⟩ = some (.slice A0_1 l0_1.length c0_1) := (bC BK553.out 1).trans rfl; have hfz29_0 := bF BK553.out 0; have hfz29_1 := bF BK553.out 1; have hcz30_0 : w28.cell? ⟨gb554, 0, none⟩ = some (.int .i64 a1_0) := (bC BK554.out 0).trans rfl; have hcz30_1 : w28.cell? ⟨gb554, 1, none⟩ = some (.string a1_1) := (bC BK554.out 1).trans rfl; have hcz30_2 : w28.cell? ⟨gb554, 2, none⟩ = some (.slice A1_2 l1_2.length c1_2) := (bC BK554.out 2).trans rfl; have hcz30_3 : w28.cell? ⟨gb554, 3, none⟩ = some (.string a1_3) := (bC BK554.out 3).trans rfl; have hcz30_4 : w28.cell? ⟨gb554, 4, none⟩ = some (.slice A1_4 l1_4.length c1_4) := (bC BK554.out 4).trans rfl; have hfz30_0 := bF BK554.out 0; have hfz30_1 := bF BK554.out 1; have hfz30_2 := bF BK554.out 2; have hfz30_3 := bF BK554.out 3; have hfz30_4 := bF BK554.out 4) | ((with_reducible refine gate_callee (f := 53) rfl ?_); refine goesL_ (some 46) rfl rfl Try.func53 (by kernel_rfl) rfl #[.agg #[.string a0_0, .slice A0_1 l0_1.length c0_1], .int .i64 a1_0, .int .i64 (wrap64 (a1_0 + (a1_1.size : Int))), .agg #[.string a1_3, .slice A1_4 l1_4.length c1_4]] rfl (by (try simp only [List.map_toArray, List.map_cons, List.map_nil]); first | done | rfl | (simp only [List.length_drop, List.length_take]; rfl)) ?_; (with_reducible refine (strip_Splice.calls k a0_0 _ _ l0_1 a1_0 (wrap64 (a1_0 + (a1_1.size : Int))) a1_3 _ _ l1_4 t564 t565 t568 _ ?side1 ?side2 ?side3 ?side4 A9.out).mono ?_); (case side1 => repeat (first | exact (cB_ HR0_1.out HB.out) | (with_reducible refine Kd.C_alloc ?_ _) | (with_reducible refine Kd.C_drewN ?_ _) | (with_reducible refine Kd.C_drew ?_))); (case side2 => exact HC0_1.out); (case side3 => repeat (first | exact (cB_ HR1_4.out HB.out) | (with_reducible refine Kd.C_alloc ?_ _) | (with_reducible refine Kd.C_drewN ?_ _) | (with_reducible refine Kd.C_drew ?_))); (case side4 => exact HC1_4.out); rintro e w31 ⟨v566, rfl, ho0, hb⟩; refine ⟨_, rfl, ?_⟩; have n0_ := aM (rE (by (with_reducible repeat (first | apply ra | apply rn | apply rd_)); exact HO560.out) (Kd.R_base ho0) hb); have n1_ := aM (rL (Kd.R_new' ho0 (Kd.R_lt (by (with_reducible repeat (first | apply ra | apply rn | apply rd_)); exact HO560.out))) (bZ (by repeat (first | (with_reducible first | exact HB.out | apply ea | apply en | apply ed | refine es ?_ GE553.out | refine es ?_ GE554.out | refine es ?_ GE555.out | refine es ?_ GE562.out) | exact HB.out)))); have n2_ := aM (bB (g := gb553) (o := .cells #[.string a0_0, .slice A0_1 l0_1.length c0_1] 51 (0, 0)) (by (with_reducible repeat (first | refine qn ?_ _ | refine qd ?_ | refine qa ?_ _)); exact BK553.out) hb); have n3_ := aM (bB (g := gb554) (o := .cells #[.int .i64 a1_0, .string a1_1, .slice A1_2 l1_2.length c1_2, .string a1_3, .slice A1_4 l1_4.length c1_4] 64 (0, 0)) (by (with_reducible repeat (first | refine qn ?_ _ | refine qd ?_ | refine qa ?_ _)); exact BK554.out) hb); have n4_ := aM (bB (g := gb555) (o := .cells #[.string (⟨#[]⟩ : ByteArray), .slice none 0 0] 51 (0, 0)) (by (with_reducible repeat (first | refine qn ?_ _ | refine qd ?_ | refine qa ?_ _)); exact BK555.out) hb); have n5_ := aM (bB (g := gb562) (o := .cells #[.string t557, .slice Ao26 t558.length co26] 51 (0, 0)) (by (with_reducible repeat (first | refine qn ?_ _ | refine qd ?_ | refine qa ?_ _)); exact BK562.out) hb); have n6_ := aM (bP (by repeat (first | (with_reducible first | exact HB.out | apply ea | apply en | apply ed | refine es ?_ GE553.out | refine es ?_ GE554.out | refine es ?_ GE555.out | refine es ?_ GE562.out) | exact HB.out)) hb); clear HO560; clear BK553; clear BK554; clear BK555; clear BK562; clear HB; have HO560 := n0_; have HO567 := n1_; have BK553 := n2_; have BK554 := n3_; have BK555 := n4_; have BK562 := n5_; have HB := n6_; clear n0_ n1_ n2_ n3_ n4_ n5_ n6_; (try clear hb); (try clear hb2); (try clear hk); (try clear hi); (try clear ho0); have hcz32_0 : w31.cell? ⟨gb555, 0, none⟩ = some (.string (⟨#[]⟩ : ByteArray)) := (bC BK555.out 0).trans rfl; have hcz32_1 : w31.cell? ⟨gb555, 1, none⟩ = some (.slice none 0 0) := (bC BK555.out 1).trans rfl; have hfz32_0 := bF BK555.out 0; have hfz32_1 := bF BK555.out 1; obtain ⟨Ao33, co33, eo33⟩ := Kd.R_slice HO567.out; subst eo33))
        refine bodyPost_ret (results_ct rfl _ _ gb555 51 #[.string t564, .slice Ao33 t565.length co33] (0, 0) _ rfl (by (with_reducible repeat (first | refine qn ?_ _ | refine qd ?_ | refine qa ?_ _)); refine bU (cs := #[.string t564, .slice none 0 0]) ?_ 1 _ rfl; (with_reducible repeat (first | refine qn ?_ _ | refine qd ?_ | refine qa ?_ _)); refine bU (cs := #[.string (⟨#[]⟩ : ByteArray), .slice none 0 0]) ?_ 0 _ rfl; (with_reducible repeat (first | refine qn ?_ _ | refine qd ?_ | refine qa ?_ _)); exact BK555.out) Try.underlying51 rfl (by kernel_rfl)) rfl ?_
        exact ⟨_, by first | rfl | (simp [errW_none, errW_some] <;> rfl) | (simp [*, errW_none, errW_some] <;> rfl), by (with_reducible repeat (first | apply ra | apply rn | apply rd_)); exact rM (rF (p := ⟨gb555, 1, none⟩) (rF (p := ⟨gb555, 0, none⟩) (rT HO567.out BK555.out (by decide)) (fun _ hk => hk.2) (.string t564)) (fun _ hk => hk.2) (.slice Ao33 t565.length co33)) (fun _ hk => trivial), by repeat (first | (with_reducible first | exact HB.out | apply ea | apply en | apply ed | refine es ?_ GE553.out | refine es ?_ GE554.out | refine es ?_ GE555.out | refine es ?_ GE562.out) | exact HB.out)⟩
      · replace c8 := Bool.eq_false_iff.mpr c8
        subst c8
        have H1 : (some ((⟨#[]⟩ : ByteArray), ([] : List (S100)), 7)) = some (r1, r2, r3) := by rw [if_neg (show ¬ (false = true) by decide)] at H; exact H
        clear H
        have H := H1
        clear H1
        simp only [Option.some.injEq, Prod.mk.injEq] at H
        obtain ⟨rfl, rfl, rfl⟩ := H
        go_enter Try.func65, Try.ntmps65
        go_wp2_with (first | ((with_reducible refine gate_dst (N := 2) rfl ?_); refine box_event ?hg (N := 2) ?hd (cs := #[.string a0_0, .slice A0_1 l0_1.length c0_1]) (t := 51) ?hr ?_; (case hd => rfl); (case hg => rfl); (case hr => first | (go_simp; done) | (go_simp; rfl)); intro gb553 hg w34 hbox hb; have n0_ := aM (bP (by repeat (first | (with_reducible first | exact HB.out | apply ea | apply en | apply ed) | exact HB.out)) hb); have n1_ := aM (hbox); have n2_ := aM ((by rw [hg]; exact (bZ (by repeat (first | (with_reducible first | exact HB.out | apply ea | apply en | apply ed) | exact HB.out))) : w.heap.size ≤ gb553)); have n3_ := aM ((by rw [hg]; exact (bZ (by repeat (first | (with_reducible first | exact HB.out | apply ea | apply en | apply ed) | exact HB.out))) : w.heap.size ≤ gb553)); clear HB; have HB := n0_; have BK553 := n1_; have GW553 := n2_; have GE553 := n3_; clear n0_ n1_ n2_ n3_; clear hb hbox hg) | ((with_reducible refine gate_dst (N := 3) rfl ?_); refine box_event ?hg (N := 3) ?hd (cs := #[.int .i64 a1_0, .string a1_1, .slice A1_2 l1_2.length c1_2, .string a1_3, .slice A1_4 l1_4.length c1_4]) (t := 64) ?hr ?_; (case hd => rfl); (case hg => rfl); (case hr => first | (go_simp; done) | (go_simp; rfl)); intro gb554 hg w35 hbox hb; have n0_ := aM (bB (g := gb553) (o := .cells #[.string a0_0, .slice A0_1 l0_1.length c0_1] 51 (0, 0)) (by (with_reducible repeat (first | refine qn ?_ _ | refine qd ?_ | refine qa ?_ _)); exact BK553.out) hb); have n1_ := aM (bP (by repeat (first | (with_reducible first | exact HB.out | apply ea | apply en | apply ed | refine es ?_ GE553.out) | exact HB.out)) hb); have n2_ := aM (hbox); have n3_ := aM ((by rw [hg]; exact (bZ (by repeat (first | (with_reducible first | exact HB.out | apply ea | apply en | apply ed | refine es ?_ GE553.out) | exact HB.out))) : w.heap.size ≤ gb554)); have n4_ := aM ((by rw [hg]; exact (bZ (by repeat (first | (with_reducible first | exact HB.out | apply ea | apply en | apply ed | refine es ?_ GE553.out) | exact HB.out))) : w.heap.size ≤ gb554)); have n5_ := aM ((by rw [hg]; exact Nat.ne_of_lt (blk_lt (g := gb553) (o := .cells #[.string a0_0, .slice A0_1 l0_1.length c0_1] 51 (0, 0)) (by (with_reducible repeat (first | refine qn ?_ _ | refine qd ?_ | refine qa ?_ _)); exact BK553.out)) : gb553 ≠ gb554)); have n6_ := aM ((by rw [hg]; exact Nat.ne_of_gt (blk_lt (g := gb553) (o := .cells #[.string a0_0, .slice A0_1 l0_1.length c0_1] 51 (0, 0)) (by (with_reducible repeat (first | refine qn ?_ _ | refine qd ?_ | refine qa ?_ _)); exact BK553.out)) : gb554 ≠ gb553)); clear BK553; clear HB; have BK553 := n0_; have HB := n1_; have BK554 := n2_; have GW554 := n3_; have GE554 := n4_; have NB553_554 := n5_; have NB554_553 := n6_; clear n0_ n1_ n2_ n3_ n4_ n5_ n6_; clear hb hbox hg) | ((with_reducible refine gate_dst (N := 4) rfl ?_); refine box_event ?hg (N := 4) ?hd (cs := #[.string (⟨#[]⟩ : ByteArray), .slice none 0 0]) (t := 51) ?hr ?_; (case hd => rfl); (case hg => rfl); (case hr => first | (go_simp; done) | (go_simp; rfl)); intro gb555 hg w36 hbox hb; have n0_ := aM (bB (g := gb553) (o := .cells #[.string a0_0, .slice A0_1 l0_1.length c0_1] 51 (0, 0)) (by (with_reducible repeat (first | refine qn ?_ _ | refine qd ?_ | refine qa ?_ _)); exact BK553.out) hb); have n1_ := aM (bB (g := gb554) (o := .cells #[.int .i64 a1_0, .string a1_1, .slice A1_2 l1_2.length c1_2, .string a1_3, .slice A1_4 l1_4.length c1_4] 64 (0, 0)) (by (with_reducible repeat (first | refine qn ?_ _ | refine qd ?_ | refine qa ?_ _)); exact BK554.out) hb); have n2_ := aM (bP (by repeat (first | (with_reducible first | exact HB.out | apply ea | apply en | apply ed | refine es ?_ GE553.out | refine es ?_ GE554.out) | exact HB.out)) hb); have n3_ := aM (hbox); have n4_ := aM ((by rw [hg]; exact (bZ (by repeat (first | (with_reducible first | exact HB.out | apply ea | apply en | apply ed | refine es ?_ GE553.out | refine es ?_ GE554.out) | exact HB.out))) : w.heap.size ≤ gb555)); have n5_ := aM ((by rw [hg]; exact (bZ (by repeat (first | (with_reducible first | exact HB.out | apply ea | apply en | apply ed | refine es ?_ GE553.out | refine es ?_ GE554.out) | exact HB.out))) : w.heap.size ≤ gb555)); have n6_ := aM ((by rw [hg]; exact Nat.ne_of_lt (blk_lt (g := gb553) (o := .cells #[.string a0_0, .slice A0_1 l0_1.length c0_1] 51 (0, 0)) (by (with_reducible repeat (first | refine qn ?_ _ | refine qd ?_ | refine qa ?_ _)); exact BK553.out)) : gb553 ≠ gb555)); have n7_ := aM ((by rw [hg]; exact Nat.ne_of_gt (blk_lt (g := gb553) (o := .cells #[.string a0_0, .slice A0_1 l0_1.length c0_1] 51 (0, 0)) (by (with_reducible repeat (first | refine qn ?_ _ | refine qd ?_ | refine qa ?_ _)); exact BK553.out)) : gb555 ≠ gb553)); have n8_ := aM ((by rw [hg]; exact Nat.ne_of_lt (blk_lt (g := gb554) (o := .cells #[.int .i64 a1_0, .string a1_1, .slice A1_2 l1_2.length c1_2, .string a1_3, .slice A1_4 l1_4.length c1_4] 64 (0, 0)) (by (with_reducible repeat (first | refine qn ?_ _ | refine qd ?_ | refine qa ?_ _)); exact BK554.out)) : gb554 ≠ gb555)); have n9_ := aM ((by rw [hg]; exact Nat.ne_of_gt (blk_lt (g := gb554) (o := .cells #[.int .i64 a1_0, .string a1_1, .slice A1_2 l1_2.length c1_2, .string a1_3, .slice A1_4 l1_4.length c1_4] 64 (0, 0)) (by (with_reducible repeat (first | refine qn ?_ _ | refine qd ?_ | refine qa ?_ _)); exact BK554.out)) : gb555 ≠ gb554)); clear BK553; clear BK554; clear HB; have BK553 := n0_; have BK554 := n1_; have HB := n2_; have BK555 := n3_; have GW555 := n4_; have GE555 := n5_; have NB553_555 := n6_; have NB555_553 := n7_; have NB554_555 := n8_; have NB555_554 := n9_; clear n0_ n1_ n2_ n3_ n4_ n5_ n6_ n7_ n8_ n9_; clear hb hbox hg; have hnb37 := NB554_553.out; have hnc37 := NB553_554.out; have hnb38 := NB554_555.out; have hnc38 := NB555_554.out; have hcz39_0 : w36.cell? ⟨gb554, 0, none⟩ = some (.int .i64 a1_0) := (bC BK554.out 0).trans rfl; have hcz39_1 : w36.cell? ⟨gb554, 1, none⟩ = some (.string a1_1) := (bC BK554.out 1).trans rfl; have hcz39_2 : w36.cell? ⟨gb554, 2, none⟩ = some (.slice A1_2 l1_2.length c1_2) := (bC BK554.out 2).trans rfl; have hcz39_3 : w36.cell? ⟨gb554, 3, none⟩ = some (.string a1_3) := (bC BK554.out 3).trans rfl; have hcz39_4 : w36.cell? ⟨gb554, 4, none⟩ = some (.slice A1_4 l1_4.length c1_4) := (bC BK554.out 4).trans rfl; have hfz39_0 := bF BK554.out 0; have hfz39_1 := bF BK554.out 1; have hfz39_2 := bF BK554.out 2; have hfz39_3 := bF BK554.out 3; have hfz39_4 := bF BK554.out 4) | ((with_reducible refine gate_callee (f := 99) rfl ?_); refine goesL_ (some 10) rfl rfl Try.func99 (by kernel_rfl) rfl #[.agg #[.int .i64 a1_0, .string a1_1, .slice A1_2 l1_2.length c1_2, .string a1_3, .slice A1_4 l1_4.length c1_4]] rfl (by (try simp only [List.map_toArray, List.map_cons, List.map_nil]); first | done | rfl | (simp only [List.length_drop, List.length_take]; rfl)) ?_; (with_reducible refine (edit_good.calls k a1_0 a1_1 _ _ l1_2 a1_3 _ _ l1_4 true _ ?side1 ?side2 ?side3 ?side4 A3.out).mono ?_); (case side1 => repeat (first | exact (cB_ HR1_2.out HB.out) | (with_reducible refine Kd.C_alloc ?_ _) | (with_reducible refine Kd.C_drewN ?_ _) | (with_reducible refine Kd.C_drew ?_))); (case side2 => exact HC1_2.out); (case side3 => repeat (first | exact (cB_ HR1_4.out HB.out) | (with_reducible refine Kd.C_alloc ?_ _) | (with_reducible refine Kd.C_drewN ?_ _) | (with_reducible refine Kd.C_drew ?_))); (case side4 => exact HC1_4.out); rintro e w40 ⟨rfl, hb⟩; refine ⟨_, rfl, ?_⟩; have n0_ := aM (bB (g := gb553) (o := .cells #[.string a0_0, .slice A0_1 l0_1.length c0_1] 51 (0, 0)) (by (with_reducible repeat (first | refine qn ?_ _ | refine qd ?_ | refine qa ?_ _)); exact BK553.out) hb); have n1_ := aM (bB (g := gb554) (o := .cells #[.int .i64 a1_0, .string a1_1, .slice A1_2 l1_2.length c1_2, .string a1_3, .slice A1_4 l1_4.length c1_4] 64 (0, 0)) (by (with_reducible repeat (first | refine qn ?_ _ | refine qd ?_ | refine qa ?_ _)); exact BK554.out) hb); have n2_ := aM (bB (g := gb555) (o := .cells #[.string (⟨#[]⟩ : ByteArray), .slice none 0 0] 51 (0, 0)) (by (with_reducible repeat (first | refine qn ?_ _ | refine qd ?_ | refine qa ?_ _)); exact BK555.out) hb); have n3_ := aM (bP (by repeat (first | (with_reducible first | exact HB.out | apply ea | apply en | apply ed | refine es ?_ GE553.out | refine es ?_ GE554.out | refine es ?_ GE555.out) | exact HB.out)) hb); clear BK553; clear BK554; clear BK555; clear HB; have BK553 := n0_; have BK554 := n1_; have BK555 := n2_; have HB := n3_; clear n0_ n1_ n2_ n3_; (try clear hb); (try clear hb2); (try clear hk); (try clear hi); have hcz41_0 : w40.cell? ⟨gb554, 0, none⟩ = some (.int .i64 a1_0) := (bC BK554.out 0).trans rfl; have hcz41_1 : w40.cell? ⟨gb554, 1, none⟩ = some (.string a1_1) := (bC BK554.out 1).trans rfl; have hcz41_2 : w40.cell? ⟨gb554, 2, none⟩ = some (.slice A1_2 l1_2.length c1_2) := (bC BK554.out 2).trans rfl; have hcz41_3 : w40.cell? ⟨gb554, 3, none⟩ = some (.string a1_3) := (bC BK554.out 3).trans rfl; have hcz41_4 : w40.cell? ⟨gb554, 4, none⟩ = some (.slice A1_4 l1_4.length c1_4) := (bC BK554.out 4).trans rfl; have hfz41_0 := bF BK554.out 0; have hfz41_1 := bF BK554.out 1; have hfz41_2 := bF BK554.out 2; have hfz41_3 := bF BK554.out 3; have hfz41_4 := bF BK554.out 4; have hnb42 := NB553_555.out; have hnc42 := NB555_553.out; have hcz43_0 : w40.cell? ⟨gb553, 0, none⟩ = some (.string a0_0) := (bC BK553.out 0).trans rfl; have hcz43_1 : w40.cell? ⟨gb553, 1, none⟩ = some (.slice A0_1 l0_1.length c0_1) := (bC BK553.out 1).trans rfl; have hfz43_0 := bF BK553.out 0; have hfz43_1 := bF BK553.out 1) | ((with_reducible refine gate_callee (f := 73) rfl ?_); refine goesL_ (some 25) rfl rfl Try.func73 (by kernel_rfl) rfl #[.agg #[.string a0_0, .slice A0_1 l0_1.length c0_1], .int .i64 a1_0, .int .i64 (wrap64 (a1_0 + (a1_1.size : Int)))] rfl (by (try simp only [List.map_toArray, List.map_cons, List.map_nil]); first | done | rfl | (simp only [List.length_drop, List.length_take]; rfl)) ?_; (with_reducible refine (strip_Cut.calls k a0_0 _ _ l0_1 a1_0 (wrap64 (a1_0 + (a1_1.size : Int))) t557 t558 t561 _ ?side1 ?side2 A5.out).mono ?_); (case side1 => repeat (first | exact (cB_ HR0_1.out HB.out) | (with_reducible refine Kd.C_alloc ?_ _) | (with_reducible refine Kd.C_drewN ?_ _) | (with_reducible refine Kd.C_drew ?_))); (case side2 => exact HC0_1.out); rintro e w44 ⟨v559, rfl, ho0, hb⟩; refine ⟨_, rfl, ?_⟩; have n0_ := aM (rL ho0 (bZ (by repeat (first | (with_reducible first | exact HB.out | apply ea | apply en | apply ed | refine es ?_ GE553.out | refine es ?_ GE554.out | refine es ?_ GE555.out) | exact HB.out)))); have n1_ := aM (bB (g := gb553) (o := .cells #[.string a0_0, .slice A0_1 l0_1.length c0_1] 51 (0, 0)) (by (with_reducible repeat (first | refine qn ?_ _ | refine qd ?_ | refine qa ?_ _)); exact BK553.out) hb); have n2_ := aM (bB (g := gb554) (o := .cells #[.int .i64 a1_0, .string a1_1, .slice A1_2 l1_2.length c1_2, .string a1_3, .slice A1_4 l1_4.length c1_4] 64 (0, 0)) (by (with_reducible repeat (first | refine qn ?_ _ | refine qd ?_ | refine qa ?_ _)); exact BK554.out) hb); have n3_ := aM (bB (g := gb555) (o := .cells #[.string (⟨#[]⟩ : ByteArray), .slice none 0 0] 51 (0, 0)) (by (with_reducible repeat (first | refine qn ?_ _ | refine qd ?_ | refine qa ?_ _)); exact BK555.out) hb); have n4_ := aM (bP (by repeat (first | (with_reducible first | exact HB.out | apply ea | apply en | apply ed | refine es ?_ GE553.out | refine es ?_ GE554.out | refine es ?_ GE555.out) | exact HB.out)) hb); clear BK553; clear BK554; clear BK555; clear HB; have HO560 := n0_; have BK553 := n1_; have BK554 := n2_; have BK555 := n3_; have HB := n4_; clear n0_ n1_ n2_ n3_ n4_; (try clear hb); (try clear hb2); (try clear hk); (try clear hi); (try clear ho0)) | ((with_reducible refine gate_dst (N := 7) rfl ?_); refine box_event ?hg (N := 7) ?hd (cs := #[.string (⟨#[]⟩ : ByteArray), .slice none 0 0]) (t := 51) ?hr ?_; (case hd => rfl); (case hg => rfl); (case hr => first | (go_simp; done) | (go_simp; rfl)); intro gb562 hg w45 hbox hb; have n0_ := aM (Kd.R_below (by (with_reducible repeat (first | apply ra | apply rn | apply rd_)); exact HO560.out) hb); have n1_ := aM (bB (g := gb553) (o := .cells #[.string a0_0, .slice A0_1 l0_1.length c0_1] 51 (0, 0)) (by (with_reducible repeat (first | refine qn ?_ _ | refine qd ?_ | refine qa ?_ _)); exact BK553.out) hb); have n2_ := aM (bB (g := gb554) (o := .cells #[.int .i64 a1_0, .string a1_1, .slice A1_2 l1_2.length c1_2, .string a1_3, .slice A1_4 l1_4.length c1_4] 64 (0, 0)) (by (with_reducible repeat (first | refine qn ?_ _ | refine qd ?_ | refine qa ?_ _)); exact BK554.out) hb); have n3_ := aM (bB (g := gb555) (o := .cells #[.string (⟨#[]⟩ : ByteArray), .slice none 0 0] 51 (0, 0)) (by (with_reducible repeat (first | refine qn ?_ _ | refine qd ?_ | refine qa ?_ _)); exact BK555.out) hb); have n4_ := aM (bP (by repeat (first | (with_reducible first | exact HB.out | apply ea | apply en | apply ed | refine es ?_ GE553.out | refine es ?_ GE554.out | refine es ?_ GE555.out) | exact HB.out)) hb); have n5_ := aM (hbox); have n6_ := aM ((by rw [hg]; exact (bZ (by repeat (first | (with_reducible first | exact HB.out | apply ea | apply en | apply ed | refine es ?_ GE553.out | refine es ?_ GE554.out | refine es ?_ GE555.out) | exact HB.out))) : w.heap.size ≤ gb562)); have n7_ := aM ((by rw [hg]; exact (bZ (by repeat (first | (with_reducible first | exact HB.out | apply ea | apply en | apply ed | refine es ?_ GE553.out | refine es ?_ GE554.out | refine es ?_ GE555.out) | exact HB.out))) : w.heap.size ≤ gb562)); have n8_ := aM ((by rw [hg]; exact Nat.ne_of_lt (blk_lt (g := gb553) (o := .cells #[.string a0_0, .slice A0_1 l0_1.length c0_1] 51 (0, 0)) (by (with_reducible repeat (first | refine qn ?_ _ | refine qd ?_ | refine qa ?_ _)); exact BK553.out)) : gb553 ≠ gb562)); have n9_ := aM ((by rw [hg]; exact Nat.ne_of_gt (blk_lt (g := gb553) (o := .cells #[.string a0_0, .slice A0_1 l0_1.length c0_1] 51 (0, 0)) (by (with_reducible repeat (first | refine qn ?_ _ | refine qd ?_ | refine qa ?_ _)); exact BK553.out)) : gb562 ≠ gb553)); have n10_ := aM ((by rw [hg]; exact Nat.ne_of_lt (blk_lt (g := gb554) (o := .cells #[.int .i64 a1_0, .string a1_1, .slice A1_2 l1_2.length c1_2, .string a1_3, .slice A1_4 l1_4.length c1_4] 64 (0, 0)) (by (with_reducible repeat (first | refine qn ?_ _ | refine qd ?_ | refine qa ?_ _)); exact BK554.out)) : gb554 ≠ gb562)); have n11_ := aM ((by rw [hg]; exact Nat.ne_of_gt (blk_lt (g := gb554) (o := .cells #[.int .i64 a1_0, .string a1_1, .slice A1_2 l1_2.length c1_2, .string a1_3, .slice A1_4 l1_4.length c1_4] 64 (0, 0)) (by (with_reducible repeat (first | refine qn ?_ _ | refine qd ?_ | refine qa ?_ _)); exact BK554.out)) : gb562 ≠ gb554)); have n12_ := aM ((by rw [hg]; exact Nat.ne_of_lt (blk_lt (g := gb555) (o := .cells #[.string (⟨#[]⟩ : ByteArray), .slice none 0 0] 51 (0, 0)) (by (with_reducible repeat (first | refine qn ?_ _ | refine qd ?_ | refine qa ?_ _)); exact BK555.out)) : gb555 ≠ gb562)); have n13_ := aM ((by rw [hg]; exact Nat.ne_of_gt (blk_lt (g := gb555) (o := .cells #[.string (⟨#[]⟩ : ByteArray), .slice none 0 0] 51 (0, 0)) (by (with_reducible repeat (first | refine qn ?_ _ | refine qd ?_ | refine qa ?_ _)); exact BK555.out)) : gb562 ≠ gb555)); clear HO560; clear BK553; clear BK554; clear BK555; clear HB; have HO560 := n0_; have BK553 := n1_; have BK554 := n2_; have BK555 := n3_; have HB := n4_; have BK562 := n5_; have GW562 := n6_; have GE562 := n7_; have NB553_562 := n8_; have NB562_553 := n9_; have NB554_562 := n10_; have NB562_554 := n11_; have NB555_562 := n12_; have NB562_555 := n13_; clear n0_ n1_ n2_ n3_ n4_ n5_ n6_ n7_ n8_ n9_ n10_ n11_ n12_ n13_; clear hb hbox hg; have hnb46 := NB562_553.out; have hnc46 := NB553_562.out; have hnb47 := NB562_554.out; have hnc47 := NB554_562.out; have hnb48 := NB562_555.out; have hnc48 := NB555_562.out; have hcz49_0 : w45.cell? ⟨gb562, 0, none⟩ = some (.string (⟨#[]⟩ : ByteArray)) := (bC BK562.out 0).trans rfl; have hcz49_1 : w45.cell? ⟨gb562, 1, none⟩ = some (.slice none 0 0) := (bC BK562.out 1).trans rfl; have hfz49_0 := bF BK562.out 0; have hfz49_1 := bF BK562.out 1; obtain ⟨Ao50, co50, eo50⟩ := Kd.R_slice HO560.out; subst eo50; have hcz51_0 : w45.cell? ⟨gb554, 0, none⟩ = some (.int .i64 a1_0) := (bC BK554.out 0).trans rfl; have hcz51_1 : w45.cell? ⟨gb554, 1, none⟩ = some (.string a1_1) := (bC BK554.out 1).trans rfl; have hcz51_2 : w45.cell? ⟨gb554, 2, none⟩ = some (.slice A1_2 l1_2.length c1_2) := (bC BK554.out 2).trans rfl; have hcz51_3 : w45.cell? ⟨gb554, 3, none⟩ = some (.string a1_3) := (bC BK554.out 3).trans rfl; have hcz51_4 : w45.cell? ⟨gb554, 4, none⟩ = some (.slice A1_4 l1_4.length c1_4) := (bC BK554.out 4).trans rfl; have hfz51_0 := bF BK554.out 0; have hfz51_1 := bF BK554.out 1; have hfz51_2 := bF BK554.out 2; have hfz51_3 := bF BK554.out 3; have hfz51_4 := bF BK554.out 4) | ((with_reducible refine gate_callee (f := 71) rfl ?_); refine goesL_ (some 37) rfl rfl Try.func71 (by kernel_rfl) rfl #[.agg #[.string t557, .slice Ao50 t558.length co50], .agg #[.string a1_1, .slice A1_2 l1_2.length c1_2]] rfl (by (try simp only [List.map_toArray, List.map_cons, List.map_nil]); first | done | rfl | (simp only [List.length_drop, List.length_take]; rfl)) ?_; (with_reducible refine (strip_Same.calls k t557 _ _ t558 a1_1 _ _ l1_2 false _ ?side1 ?side2 ?side3 ?side4 A7.out).mono ?_); (case side1 => refine (rR (e := 100) (base := w.heap.size) (ok := fun k_ => True) (n := t558.length) (c := co50) ?_).2.2; exact (by (with_reducible repeat (first | apply ra | apply rn | apply rd_)); exact (rM (rF (p := ⟨gb562, 1, none⟩) (rF (p := ⟨gb562, 0, none⟩) (rT HO560.out BK562.out (by decide)) (fun _ hk => hk.2) (.string t557)) (fun _ hk => hk.2) (.slice Ao50 t558.length co50)) (fun _ h_ => h_.1)))); (case side2 => exact (rR HO560.out).2.1); (case side3 => exact cB_ HR1_2.out (by repeat (first | (with_reducible first | exact HB.out | apply ea | apply en | apply ed | refine es ?_ GE553.out | refine es ?_ GE554.out | refine es ?_ GE555.out | refine es ?_ GE562.out) | exact HB.out))); (case side4 => exact HC1_2.out); rintro e w52 ⟨rfl, hb⟩; refine ⟨_, rfl, ?_⟩; have n0_ := aM (Kd.R_below (by (with_reducible repeat (first | apply ra | apply rn | apply rd_)); exact (rM (rF (p := ⟨gb562, 1, none⟩) (rF (p := ⟨gb562, 0, none⟩) (rT HO560.out BK562.out (by decide)) (fun _ hk => hk.2) (.string t557)) (fun _ hk => hk.2) (.slice Ao50 t558.length co50)) (fun _ h_ => h_.1))) hb); have n1_ := aM (bB (g := gb553) (o := .cells #[.string a0_0, .slice A0_1 l0_1.length c0_1] 51 (0, 0)) (by (with_reducible repeat (first | refine qn ?_ _ | refine qd ?_ | refine qa ?_ _)); refine bR ?_ NB553_562.out _; (with_reducible repeat (first | refine qn ?_ _ | refine qd ?_ | refine qa ?_ _)); refine bR ?_ NB553_562.out _; (with_reducible repeat (first | refine qn ?_ _ | refine qd ?_ | refine qa ?_ _)); exact BK553.out) hb); have n2_ := aM (bB (g := gb554) (o := .cells #[.int .i64 a1_0, .string a1_1, .slice A1_2 l1_2.length c1_2, .string a1_3, .slice A1_4 l1_4.length c1_4] 64 (0, 0)) (by (with_reducible repeat (first | refine qn ?_ _ | refine qd ?_ | refine qa ?_ _)); refine bR ?_ NB554_562.out _; (with_reducible repeat (first | refine qn ?_ _ | refine qd ?_ | refine qa ?_ _)); refine bR ?_ NB554_562.out _; (with_reducible repeat (first | refine qn ?_ _ | refine qd ?_ | refine qa ?_ _)); exact BK554.out) hb); have n3_ := aM (bB (g := gb555) (o := .cells #[.string (⟨#[]⟩ : ByteArray), .slice none 0 0] 51 (0, 0)) (by (with_reducible repeat (first | refine qn ?_ _ | refine qd ?_ | refine qa ?_ _)); refine bR ?_ NB555_562.out _; (with_reducible repeat (first | refine qn ?_ _ | refine qd ?_ | refine qa ?_ _)); refine bR ?_ NB555_562.out _; (with_reducible repeat (first | refine qn ?_ _ | refine qd ?_ | refine qa ?_ _)); exact BK555.out) hb); have n4_ := aM (bB (g := gb562) (o := .cells #[.string t557, .slice Ao50 t558.length co50] 51 (0, 0)) (by (with_reducible repeat (first | refine qn ?_ _ | refine qd ?_ | refine qa ?_ _)); refine bU (cs := #[.string t557, .slice none 0 0]) ?_ 1 _ rfl; (with_reducible repeat (first | refine qn ?_ _ | refine qd ?_ | refine qa ?_ _)); refine bU (cs := #[.string (⟨#[]⟩ : ByteArray), .slice none 0 0]) ?_ 0 _ rfl; (with_reducible repeat (first | refine qn ?_ _ | refine qd ?_ | refine qa ?_ _)); exact BK562.out) hb); have n5_ := aM (bP (by repeat (first | (with_reducible first | exact HB.out | apply ea | apply en | apply ed | refine es ?_ GE553.out | refine es ?_ GE554.out | refine es ?_ GE555.out | refine es ?_ GE562.out) | exact HB.out)) hb); clear HO560; clear BK553; clear BK554; clear BK555; clear BK562; clear HB; have HO560 := n0_; have BK553 := n1_; have BK554 := n2_; have BK555 := n3_; have BK562 := n4_; have HB := n5_; clear n0_ n1_ n2_ n3_ n4_ n5_; (try clear hb); (try clear hb2); (try clear hk); (try clear hi); have hcz53_0 : w52.cell? ⟨gb555, 0, none⟩ = some (.string (⟨#[]⟩ : ByteArray)) := (bC BK555.out 0).trans rfl; have hcz53_1 : w52.cell? ⟨gb555, 1, none⟩ = some (.slice none 0 0) := (bC BK555.out 1).trans rfl; have hfz53_0 := bF BK555.out 0; have hfz53_1 := bF BK555.out 1))
        refine bodyPost_ret (results_ct rfl _ _ gb555 51 #[.string (⟨#[]⟩ : ByteArray), .slice none 0 0] (0, 0) _ rfl (by (with_reducible repeat (first | refine qn ?_ _ | refine qd ?_ | refine qa ?_ _)); refine bU (cs := #[.string (⟨#[]⟩ : ByteArray), .slice none 0 0]) ?_ 1 _ rfl; (with_reducible repeat (first | refine qn ?_ _ | refine qd ?_ | refine qa ?_ _)); refine bU (cs := #[.string (⟨#[]⟩ : ByteArray), .slice none 0 0]) ?_ 0 _ rfl; (with_reducible repeat (first | refine qn ?_ _ | refine qd ?_ | refine qa ?_ _)); exact BK555.out) Try.underlying51 rfl (by kernel_rfl)) rfl ?_
        exact ⟨_, by first | rfl | (simp [errW_none, errW_some] <;> rfl) | (simp [*, errW_none, errW_some] <;> rfl), by first | exact Kd.R_nil _ _ _ _ _ | exact Kd.N_nil _ _ _ _ _ | exact Kd.V_nil _ _ _ _ _ | exact Kd.Q_nil _ _ _ _ _ | exact Kd.S_nil _ _ _ _ _, by repeat (first | (with_reducible first | exact HB.out | apply ea | apply en | apply ed | refine es ?_ GE553.out | refine es ?_ GE554.out | refine es ?_ GE555.out | refine es ?_ GE562.out) | exact HB.out)⟩
    · rw [if_neg c6] at H
      have c6b0 : (t561 == 0) = false := beq_eq_false_iff_ne.mpr c6
      have c6b1 : (t561 != 0) = true := bne_iff_ne.mpr c6
      simp only [Option.some.injEq, Prod.mk.injEq] at H
      obtain ⟨rfl, rfl, rfl⟩ := H
      go_enter Try.func65, Try.ntmps65
      go_wp2_with (first | ((with_reducible refine gate_dst (N := 2) rfl ?_); refine box_event ?hg (N := 2) ?hd (cs := #[.string a0_0, .slice A0_1 l0_1.length c0_1]) (t := 51) ?hr ?_; (case hd => rfl); (case hg => rfl); (case hr => first | (go_simp; done) | (go_simp; rfl)); intro gb553 hg w54 hbox hb; have n0_ := aM (bP (by repeat (first | (with_reducible first | exact HB.out | apply ea | apply en | apply ed) | exact HB.out)) hb); have n1_ := aM (hbox); have n2_ := aM ((by rw [hg]; exact (bZ (by repeat (first | (with_reducible first | exact HB.out | apply ea | apply en | apply ed) | exact HB.out))) : w.heap.size ≤ gb553)); have n3_ := aM ((by rw [hg]; exact (bZ (by repeat (first | (with_reducible first | exact HB.out | apply ea | apply en | apply ed) | exact HB.out))) : w.heap.size ≤ gb553)); clear HB; have HB := n0_; have BK553 := n1_; have GW553 := n2_; have GE553 := n3_; clear n0_ n1_ n2_ n3_; clear hb hbox hg) | ((with_reducible refine gate_dst (N := 3) rfl ?_); refine box_event ?hg (N := 3) ?hd (cs := #[.int .i64 a1_0, .string a1_1, .slice A1_2 l1_2.length c1_2, .string a1_3, .slice A1_4 l1_4.length c1_4]) (t := 64) ?hr ?_; (case hd => rfl); (case hg => rfl); (case hr => first | (go_simp; done) | (go_simp; rfl)); intro gb554 hg w55 hbox hb; have n0_ := aM (bB (g := gb553) (o := .cells #[.string a0_0, .slice A0_1 l0_1.length c0_1] 51 (0, 0)) (by (with_reducible repeat (first | refine qn ?_ _ | refine qd ?_ | refine qa ?_ _)); exact BK553.out) hb); have n1_ := aM (bP (by repeat (first | (with_reducible first | exact HB.out | apply ea | apply en | apply ed | refine es ?_ GE553.out) | exact HB.out)) hb); have n2_ := aM (hbox); have n3_ := aM ((by rw [hg]; exact (bZ (by repeat (first | (with_reducible first | exact HB.out | apply ea | apply en | apply ed | refine es ?_ GE553.out) | exact HB.out))) : w.heap.size ≤ gb554)); have n4_ := aM ((by rw [hg]; exact (bZ (by repeat (first | (with_reducible first | exact HB.out | apply ea | apply en | apply ed | refine es ?_ GE553.out) | exact HB.out))) : w.heap.size ≤ gb554)); have n5_ := aM ((by rw [hg]; exact Nat.ne_of_lt (blk_lt (g := gb553) (o := .cells #[.string a0_0, .slice A0_1 l0_1.length c0_1] 51 (0, 0)) (by (with_reducible repeat (first | refine qn ?_ _ | refine qd ?_ | refine qa ?_ _)); exact BK553.out)) : gb553 ≠ gb554)); have n6_ := aM ((by rw [hg]; exact Nat.ne_of_gt (blk_lt (g := gb553) (o := .cells #[.string a0_0, .slice A0_1 l0_1.length c0_1] 51 (0, 0)) (by (with_reducible repeat (first | refine qn ?_ _ | refine qd ?_ | refine qa ?_ _)); exact BK553.out)) : gb554 ≠ gb553)); clear BK553; clear HB; have BK553 := n0_; have HB := n1_; have BK554 := n2_; have GW554 := n3_; have GE554 := n4_; have NB553_554 := n5_; have NB554_553 := n6_; clear n0_ n1_ n2_ n3_ n4_ n5_ n6_; clear hb hbox hg) | ((with_reducible refine gate_dst (N := 4) rfl ?_); refine box_event ?hg (N := 4) ?hd (cs := #[.string (⟨#[]⟩ : ByteArray), .slice none 0 0]) (t := 51) ?hr ?_; (case hd => rfl); (case hg => rfl); (case hr => first | (go_simp; done) | (go_simp; rfl)); intro gb555 hg w56 hbox hb; have n0_ := aM (bB (g := gb553) (o := .cells #[.string a0_0, .slice A0_1 l0_1.length c0_1] 51 (0, 0)) (by (with_reducible repeat (first | refine qn ?_ _ | refine qd ?_ | refine qa ?_ _)); exact BK553.out) hb); have n1_ := aM (bB (g := gb554) (o := .cells #[.int .i64 a1_0, .string a1_1, .slice A1_2 l1_2.length c1_2, .string a1_3, .slice A1_4 l1_4.length c1_4] 64 (0, 0)) (by (with_reducible repeat (first | refine qn ?_ _ | refine qd ?_ | refine qa ?_ _)); exact BK554.out) hb); have n2_ := aM (bP (by repeat (first | (with_reducible first | exact HB.out | apply ea | apply en | apply ed | refine es ?_ GE553.out | refine es ?_ GE554.out) | exact HB.out)) hb); have n3_ := aM (hbox); have n4_ := aM ((by rw [hg]; exact (bZ (by repeat (first | (with_reducible first | exact HB.out | apply ea | apply en | apply ed | refine es ?_ GE553.out | refine es ?_ GE554.out) | exact HB.out))) : w.heap.size ≤ gb555)); have n5_ := aM ((by rw [hg]; exact (bZ (by repeat (first | (with_reducible first | exact HB.out | apply ea | apply en | apply ed | refine es ?_ GE553.out | refine es ?_ GE554.out) | exact HB.out))) : w.heap.size ≤ gb555)); have n6_ := aM ((by rw [hg]; exact Nat.ne_of_lt (blk_lt (g := gb553) (o := .cells #[.string a0_0, .slice A0_1 l0_1.length c0_1] 51 (0, 0)) (by (with_reducible repeat (first | refine qn ?_ _ | refine qd ?_ | refine qa ?_ _)); exact BK553.out)) : gb553 ≠ gb555)); have n7_ := aM ((by rw [hg]; exact Nat.ne_of_gt (blk_lt (g := gb553) (o := .cells #[.string a0_0, .slice A0_1 l0_1.length c0_1] 51 (0, 0)) (by (with_reducible repeat (first | refine qn ?_ _ | refine qd ?_ | refine qa ?_ _)); exact BK553.out)) : gb555 ≠ gb553)); have n8_ := aM ((by rw [hg]; exact Nat.ne_of_lt (blk_lt (g := gb554) (o := .cells #[.int .i64 a1_0, .string a1_1, .slice A1_2 l1_2.length c1_2, .string a1_3, .slice A1_4 l1_4.length c1_4] 64 (0, 0)) (by (with_reducible repeat (first | refine qn ?_ _ | refine qd ?_ | refine qa ?_ _)); exact BK554.out)) : gb554 ≠ gb555)); have n9_ := aM ((by rw [hg]; exact Nat.ne_of_gt (blk_lt (g := gb554) (o := .cells #[.int .i64 a1_0, .string a1_1, .slice A1_2 l1_2.length c1_2, .string a1_3, .slice A1_4 l1_4.length c1_4] 64 (0, 0)) (by (with_reducible repeat (first | refine qn ?_ _ | refine qd ?_ | refine qa ?_ _)); exact BK554.out)) : gb555 ≠ gb554)); clear BK553; clear BK554; clear HB; have BK553 := n0_; have BK554 := n1_; have HB := n2_; have BK555 := n3_; have GW555 := n4_; have GE555 := n5_; have NB553_555 := n6_; have NB555_553 := n7_; have NB554_555 := n8_; have NB555_554 := n9_; clear n0_ n1_ n2_ n3_ n4_ n5_ n6_ n7_ n8_ n9_; clear hb hbox hg; have hnb57 := NB554_553.out; have hnc57 := NB553_554.out; have hnb58 := NB554_555.out; have hnc58 := NB555_554.out; have hcz59_0 : w56.cell? ⟨gb554, 0, none⟩ = some (.int .i64 a1_0) := (bC BK554.out 0).trans rfl; have hcz59_1 : w56.cell? ⟨gb554, 1, none⟩ = some (.string a1_1) := (bC BK554.out 1).trans rfl; have hcz59_2 : w56.cell? ⟨gb554, 2, none⟩ = some (.slice A1_2 l1_2.length c1_2) := (bC BK554.out 2).trans rfl; have hcz59_3 : w56.cell? ⟨gb554, 3, none⟩ = some (.string a1_3) := (bC BK554.out 3).trans rfl; have hcz59_4 : w56.cell? ⟨gb554, 4, none⟩ = some (.slice A1_4 l1_4.length c1_4) := (bC BK554.out 4).trans rfl; have hfz59_0 := bF BK554.out 0; have hfz59_1 := bF BK554.out 1; have hfz59_2 := bF BK554.out 2; have hfz59_3 := bF BK554.out 3; have hfz59_4 := bF BK554.out 4) | ((with_reducible refine gate_callee (f := 99) rfl ?_); refine goesL_ (some 10) rfl rfl Try.func99 (by kernel_rfl) rfl #[.agg #[.int .i64 a1_0, .string a1_1, .slice A1_2 l1_2.length c1_2, .string a1_3, .slice A1_4 l1_4.length c1_4]] rfl (by (try simp only [List.map_toArray, List.map_cons, List.map_nil]); first | done | rfl | (simp only [List.length_drop, List.length_take]; rfl)) ?_; (with_reducible refine (edit_good.calls k a1_0 a1_1 _ _ l1_2 a1_3 _ _ l1_4 true _ ?side1 ?side2 ?side3 ?side4 A3.out).mono ?_); (case side1 => repeat (first | exact (cB_ HR1_2.out HB.out) | (with_reducible refine Kd.C_alloc ?_ _) | (with_reducible refine Kd.C_drewN ?_ _) | (with_reducible refine Kd.C_drew ?_))); (case side2 => exact HC1_2.out); (case side3 => repeat (first | exact (cB_ HR1_4.out HB.out) | (with_reducible refine Kd.C_alloc ?_ _) | (with_reducible refine Kd.C_drewN ?_ _) | (with_reducible refine Kd.C_drew ?_))); (case side4 => exact HC1_4.out); rintro e w60 ⟨rfl, hb⟩; refine ⟨_, rfl, ?_⟩; have n0_ := aM (bB (g := gb553) (o := .cells #[.string a0_0, .slice A0_1 l0_1.length c0_1] 51 (0, 0)) (by (with_reducible repeat (first | refine qn ?_ _ | refine qd ?_ | refine qa ?_ _)); exact BK553.out) hb); have n1_ := aM (bB (g := gb554) (o := .cells #[.int .i64 a1_0, .string a1_1, .slice A1_2 l1_2.length c1_2, .string a1_3, .slice A1_4 l1_4.length c1_4] 64 (0, 0)) (by (with_reducible repeat (first | refine qn ?_ _ | refine qd ?_ | refine qa ?_ _)); exact BK554.out) hb); have n2_ := aM (bB (g := gb555) (o := .cells #[.string (⟨#[]⟩ : ByteArray), .slice none 0 0] 51 (0, 0)) (by (with_reducible repeat (first | refine qn ?_ _ | refine qd ?_ | refine qa ?_ _)); exact BK555.out) hb); have n3_ := aM (bP (by repeat (first | (with_reducible first | exact HB.out | apply ea | apply en | apply ed | refine es ?_ GE553.out | refine es ?_ GE554.out | refine es ?_ GE555.out) | exact HB.out)) hb); clear BK553; clear BK554; clear BK555; clear HB; have BK553 := n0_; have BK554 := n1_; have BK555 := n2_; have HB := n3_; clear n0_ n1_ n2_ n3_; (try clear hb); (try clear hb2); (try clear hk); (try clear hi); have hcz61_0 : w60.cell? ⟨gb554, 0, none⟩ = some (.int .i64 a1_0) := (bC BK554.out 0).trans rfl; have hcz61_1 : w60.cell? ⟨gb554, 1, none⟩ = some (.string a1_1) := (bC BK554.out 1).trans rfl; have hcz61_2 : w60.cell? ⟨gb554, 2, none⟩ = some (.slice A1_2 l1_2.length c1_2) := (bC BK554.out 2).trans rfl; have hcz61_3 : w60.cell? ⟨gb554, 3, none⟩ = some (.string a1_3) := (bC BK554.out 3).trans rfl; have hcz61_4 : w60.cell? ⟨gb554, 4, none⟩ = some (.slice A1_4 l1_4.length c1_4) := (bC BK554.out 4).trans rfl; have hfz61_0 := bF BK554.out 0; have hfz61_1 := bF BK554.out 1; have hfz61_2 := bF BK554.out 2; have hfz61_3 := bF BK554.out 3; have hfz61_4 := bF BK554.out 4; have hnb62 := NB553_555.out; have hnc62 := NB555_553.out; have hcz63_0 : w60.cell? ⟨gb553, 0, none⟩ = some (.string a0_0) := (bC BK553.out 0).trans rfl; have hcz63_1 : w60.cell? ⟨gb553, 1, none⟩ = some (.slice A0_1 l0_1.length c0_1) := (bC BK553.out 1).trans rfl; have hfz63_0 := bF BK553.out 0; have hfz63_1 := bF BK553.out 1) | ((with_reducible refine gate_callee (f := 73) rfl ?_); refine goesL_ (some 25) rfl rfl Try.func73 (by kernel_rfl) rfl #[.agg #[.string a0_0, .slice A0_1 l0_1.length c0_1], .int .i64 a1_0, .int .i64 (wrap64 (a1_0 + (a1_1.size : Int)))] rfl (by (try simp only [List.map_toArray, List.map_cons, List.map_nil]); first | done | rfl | (simp only [List.length_drop, List.length_take]; rfl)) ?_; (with_reducible refine (strip_Cut.calls k a0_0 _ _ l0_1 a1_0 (wrap64 (a1_0 + (a1_1.size : Int))) t557 t558 t561 _ ?side1 ?side2 A5.out).mono ?_); (case side1 => repeat (first | exact (cB_ HR0_1.out HB.out) | (with_reducible refine Kd.C_alloc ?_ _) | (with_reducible refine Kd.C_drewN ?_ _) | (with_reducible refine Kd.C_drew ?_))); (case side2 => exact HC0_1.out); rintro e w64 ⟨v559, rfl, ho0, hb⟩; refine ⟨_, rfl, ?_⟩; have n0_ := aM (rL ho0 (bZ (by repeat (first | (with_reducible first | exact HB.out | apply ea | apply en | apply ed | refine es ?_ GE553.out | refine es ?_ GE554.out | refine es ?_ GE555.out) | exact HB.out)))); have n1_ := aM (bB (g := gb553) (o := .cells #[.string a0_0, .slice A0_1 l0_1.length c0_1] 51 (0, 0)) (by (with_reducible repeat (first | refine qn ?_ _ | refine qd ?_ | refine qa ?_ _)); exact BK553.out) hb); have n2_ := aM (bB (g := gb554) (o := .cells #[.int .i64 a1_0, .string a1_1, .slice A1_2 l1_2.length c1_2, .string a1_3, .slice A1_4 l1_4.length c1_4] 64 (0, 0)) (by (with_reducible repeat (first | refine qn ?_ _ | refine qd ?_ | refine qa ?_ _)); exact BK554.out) hb); have n3_ := aM (bB (g := gb555) (o := .cells #[.string (⟨#[]⟩ : ByteArray), .slice none 0 0] 51 (0, 0)) (by (with_reducible repeat (first | refine qn ?_ _ | refine qd ?_ | refine qa ?_ _)); exact BK555.out) hb); have n4_ := aM (bP (by repeat (first | (with_reducible first | exact HB.out | apply ea | apply en | apply ed | refine es ?_ GE553.out | refine es ?_ GE554.out | refine es ?_ GE555.out) | exact HB.out)) hb); clear BK553; clear BK554; clear BK555; clear HB; have HO560 := n0_; have BK553 := n1_; have BK554 := n2_; have BK555 := n3_; have HB := n4_; clear n0_ n1_ n2_ n3_ n4_; (try clear hb); (try clear hb2); (try clear hk); (try clear hi); (try clear ho0)) | ((with_reducible refine gate_dst (N := 7) rfl ?_); refine box_event ?hg (N := 7) ?hd (cs := #[.string (⟨#[]⟩ : ByteArray), .slice none 0 0]) (t := 51) ?hr ?_; (case hd => rfl); (case hg => rfl); (case hr => first | (go_simp; done) | (go_simp; rfl)); intro gb562 hg w65 hbox hb; have n0_ := aM (Kd.R_below (by (with_reducible repeat (first | apply ra | apply rn | apply rd_)); exact HO560.out) hb); have n1_ := aM (bB (g := gb553) (o := .cells #[.string a0_0, .slice A0_1 l0_1.length c0_1] 51 (0, 0)) (by (with_reducible repeat (first | refine qn ?_ _ | refine qd ?_ | refine qa ?_ _)); exact BK553.out) hb); have n2_ := aM (bB (g := gb554) (o := .cells #[.int .i64 a1_0, .string a1_1, .slice A1_2 l1_2.length c1_2, .string a1_3, .slice A1_4 l1_4.length c1_4] 64 (0, 0)) (by (with_reducible repeat (first | refine qn ?_ _ | refine qd ?_ | refine qa ?_ _)); exact BK554.out) hb); have n3_ := aM (bB (g := gb555) (o := .cells #[.string (⟨#[]⟩ : ByteArray), .slice none 0 0] 51 (0, 0)) (by (with_reducible repeat (first | refine qn ?_ _ | refine qd ?_ | refine qa ?_ _)); exact BK555.out) hb); have n4_ := aM (bP (by repeat (first | (with_reducible first | exact HB.out | apply ea | apply en | apply ed | refine es ?_ GE553.out | refine es ?_ GE554.out | refine es ?_ GE555.out) | exact HB.out)) hb); have n5_ := aM (hbox); have n6_ := aM ((by rw [hg]; exact (bZ (by repeat (first | (with_reducible first | exact HB.out | apply ea | apply en | apply ed | refine es ?_ GE553.out | refine es ?_ GE554.out | refine es ?_ GE555.out) | exact HB.out))) : w.heap.size ≤ gb562)); have n7_ := aM ((by rw [hg]; exact (bZ (by repeat (first | (with_reducible first | exact HB.out | apply ea | apply en | apply ed | refine es ?_ GE553.out | refine es ?_ GE554.out | refine es ?_ GE555.out) | exact HB.out))) : w.heap.size ≤ gb562)); have n8_ := aM ((by rw [hg]; exact Nat.ne_of_lt (blk_lt (g := gb553) (o := .cells #[.string a0_0, .slice A0_1 l0_1.length c0_1] 51 (0, 0)) (by (with_reducible repeat (first | refine qn ?_ _ | refine qd ?_ | refine qa ?_ _)); exact BK553.out)) : gb553 ≠ gb562)); have n9_ := aM ((by rw [hg]; exact Nat.ne_of_gt (blk_lt (g := gb553) (o := .cells #[.string a0_0, .slice A0_1 l0_1.length c0_1] 51 (0, 0)) (by (with_reducible repeat (first | refine qn ?_ _ | refine qd ?_ | refine qa ?_ _)); exact BK553.out)) : gb562 ≠ gb553)); have n10_ := aM ((by rw [hg]; exact Nat.ne_of_lt (blk_lt (g := gb554) (o := .cells #[.int .i64 a1_0, .string a1_1, .slice A1_2 l1_2.length c1_2, .string a1_3, .slice A1_4 l1_4.length c1_4] 64 (0, 0)) (by (with_reducible repeat (first | refine qn ?_ _ | refine qd ?_ | refine qa ?_ _)); exact BK554.out)) : gb554 ≠ gb562)); have n11_ := aM ((by rw [hg]; exact Nat.ne_of_gt (blk_lt (g := gb554) (o := .cells #[.int .i64 a1_0, .string a1_1, .slice A1_2 l1_2.length c1_2, .string a1_3, .slice A1_4 l1_4.length c1_4] 64 (0, 0)) (by (with_reducible repeat (first | refine qn ?_ _ | refine qd ?_ | refine qa ?_ _)); exact BK554.out)) : gb562 ≠ gb554)); have n12_ := aM ((by rw [hg]; exact Nat.ne_of_lt (blk_lt (g := gb555) (o := .cells #[.string (⟨#[]⟩ : ByteArray), .slice none 0 0] 51 (0, 0)) (by (with_reducible repeat (first | refine qn ?_ _ | refine qd ?_ | refine qa ?_ _)); exact BK555.out)) : gb555 ≠ gb562)); have n13_ := aM ((by rw [hg]; exact Nat.ne_of_gt (blk_lt (g := gb555) (o := .cells #[.string (⟨#[]⟩ : ByteArray), .slice none 0 0] 51 (0, 0)) (by (with_reducible repeat (first | refine qn ?_ _ | refine qd ?_ | refine qa ?_ _)); exact BK555.out)) : gb562 ≠ gb555)); clear HO560; clear BK553; clear BK554; clear BK555; clear HB; have HO560 := n0_; have BK553 := n1_; have BK554 := n2_; have BK555 := n3_; have HB := n4_; have BK562 := n5_; have GW562 := n6_; have GE562 := n7_; have NB553_562 := n8_; have NB562_553 := n9_; have NB554_562 := n10_; have NB562_554 := n11_; have NB555_562 := n12_; have NB562_555 := n13_; clear n0_ n1_ n2_ n3_ n4_ n5_ n6_ n7_ n8_ n9_ n10_ n11_ n12_ n13_; clear hb hbox hg; have hnb66 := NB562_553.out; have hnc66 := NB553_562.out; have hnb67 := NB562_554.out; have hnc67 := NB554_562.out; have hnb68 := NB562_555.out; have hnc68 := NB555_562.out; have hcz69_0 : w65.cell? ⟨gb562, 0, none⟩ = some (.string (⟨#[]⟩ : ByteArray)) := (bC BK562.out 0).trans rfl; have hcz69_1 : w65.cell? ⟨gb562, 1, none⟩ = some (.slice none 0 0) := (bC BK562.out 1).trans rfl; have hfz69_0 := bF BK562.out 0; have hfz69_1 := bF BK562.out 1; obtain ⟨Ao70, co70, eo70⟩ := Kd.R_slice HO560.out; subst eo70; have hcz71_0 : w65.cell? ⟨gb555, 0, none⟩ = some (.string (⟨#[]⟩ : ByteArray)) := (bC BK555.out 0).trans rfl; have hcz71_1 : w65.cell? ⟨gb555, 1, none⟩ = some (.slice none 0 0) := (bC BK555.out 1).trans rfl; have hfz71_0 := bF BK555.out 0; have hfz71_1 := bF BK555.out 1))
      refine bodyPost_ret (results_ct rfl _ _ gb555 51 #[.string (⟨#[]⟩ : ByteArray), .slice none 0 0] (0, 0) _ rfl (by (with_reducible repeat (first | refine qn ?_ _ | refine qd ?_ | refine qa ?_ _)); refine bU (cs := #[.string (⟨#[]⟩ : ByteArray), .slice none 0 0]) ?_ 1 _ rfl; (with_reducible repeat (first | refine qn ?_ _ | refine qd ?_ | refine qa ?_ _)); refine bU (cs := #[.string (⟨#[]⟩ : ByteArray), .slice none 0 0]) ?_ 0 _ rfl; (with_reducible repeat (first | refine qn ?_ _ | refine qd ?_ | refine qa ?_ _)); refine bR ?_ NB555_562.out _; (with_reducible repeat (first | refine qn ?_ _ | refine qd ?_ | refine qa ?_ _)); refine bR ?_ NB555_562.out _; (with_reducible repeat (first | refine qn ?_ _ | refine qd ?_ | refine qa ?_ _)); exact BK555.out) Try.underlying51 rfl (by kernel_rfl)) rfl ?_
      exact ⟨_, by first | rfl | (simp [errW_none, errW_some] <;> rfl) | (simp [*, errW_none, errW_some] <;> rfl), by first | exact Kd.R_nil _ _ _ _ _ | exact Kd.N_nil _ _ _ _ _ | exact Kd.V_nil _ _ _ _ _ | exact Kd.Q_nil _ _ _ _ _ | exact Kd.S_nil _ _ _ _ _, by repeat (first | (with_reducible first | exact HB.out | apply ea | apply en | apply ed | refine es ?_ GE553.out | refine es ?_ GE554.out | refine es ?_ GE555.out | refine es ?_ GE562.out) | exact HB.out)⟩
  · replace c4 := Bool.eq_false_iff.mpr c4
    subst c4
    have H1 : (some ((⟨#[]⟩ : ByteArray), ([] : List (S100)), 2)) = some (r1, r2, r3) := by rw [if_neg (show ¬ (false = true) by decide)] at H; exact H
    clear H
    have H := H1
    clear H1
    simp only [Option.some.injEq, Prod.mk.injEq] at H
    obtain ⟨rfl, rfl, rfl⟩ := H
    go_enter Try.func65, Try.ntmps65
    go_wp2_with (first | ((with_reducible refine gate_dst (N := 2) rfl ?_); refine box_event ?hg (N := 2) ?hd (cs := #[.string a0_0, .slice A0_1 l0_1.length c0_1]) (t := 51) ?hr ?_; (case hd => rfl); (case hg => rfl); (case hr => first | (go_simp; done) | (go_simp; rfl)); intro gb553 hg w72 hbox hb; have n0_ := aM (bP (by repeat (first | (with_reducible first | exact HB.out | apply ea | apply en | apply ed) | exact HB.out)) hb); have n1_ := aM (hbox); have n2_ := aM ((by rw [hg]; exact (bZ (by repeat (first | (with_reducible first | exact HB.out | apply ea | apply en | apply ed) | exact HB.out))) : w.heap.size ≤ gb553)); have n3_ := aM ((by rw [hg]; exact (bZ (by repeat (first | (with_reducible first | exact HB.out | apply ea | apply en | apply ed) | exact HB.out))) : w.heap.size ≤ gb553)); clear HB; have HB := n0_; have BK553 := n1_; have GW553 := n2_; have GE553 := n3_; clear n0_ n1_ n2_ n3_; clear hb hbox hg) | ((with_reducible refine gate_dst (N := 3) rfl ?_); refine box_event ?hg (N := 3) ?hd (cs := #[.int .i64 a1_0, .string a1_1, .slice A1_2 l1_2.length c1_2, .string a1_3, .slice A1_4 l1_4.length c1_4]) (t := 64) ?hr ?_; (case hd => rfl); (case hg => rfl); (case hr => first | (go_simp; done) | (go_simp; rfl)); intro gb554 hg w73 hbox hb; have n0_ := aM (bB (g := gb553) (o := .cells #[.string a0_0, .slice A0_1 l0_1.length c0_1] 51 (0, 0)) (by (with_reducible repeat (first | refine qn ?_ _ | refine qd ?_ | refine qa ?_ _)); exact BK553.out) hb); have n1_ := aM (bP (by repeat (first | (with_reducible first | exact HB.out | apply ea | apply en | apply ed | refine es ?_ GE553.out) | exact HB.out)) hb); have n2_ := aM (hbox); have n3_ := aM ((by rw [hg]; exact (bZ (by repeat (first | (with_reducible first | exact HB.out | apply ea | apply en | apply ed | refine es ?_ GE553.out) | exact HB.out))) : w.heap.size ≤ gb554)); have n4_ := aM ((by rw [hg]; exact (bZ (by repeat (first | (with_reducible first | exact HB.out | apply ea | apply en | apply ed | refine es ?_ GE553.out) | exact HB.out))) : w.heap.size ≤ gb554)); have n5_ := aM ((by rw [hg]; exact Nat.ne_of_lt (blk_lt (g := gb553) (o := .cells #[.string a0_0, .slice A0_1 l0_1.length c0_1] 51 (0, 0)) (by (with_reducible repeat (first | refine qn ?_ _ | refine qd ?_ | refine qa ?_ _)); exact BK553.out)) : gb553 ≠ gb554)); have n6_ := aM ((by rw [hg]; exact Nat.ne_of_gt (blk_lt (g := gb553) (o := .cells #[.string a0_0, .slice A0_1 l0_1.length c0_1] 51 (0, 0)) (by (with_reducible repeat (first | refine qn ?_ _ | refine qd ?_ | refine qa ?_ _)); exact BK553.out)) : gb554 ≠ gb553)); clear BK553; clear HB; have BK553 := n0_; have HB := n1_; have BK554 := n2_; have GW554 := n3_; have GE554 := n4_; have NB553_554 := n5_; have NB554_553 := n6_; clear n0_ n1_ n2_ n3_ n4_ n5_ n6_; clear hb hbox hg) | ((with_reducible refine gate_dst (N := 4) rfl ?_); refine box_event ?hg (N := 4) ?hd (cs := #[.string (⟨#[]⟩ : ByteArray), .slice none 0 0]) (t := 51) ?hr ?_; (case hd => rfl); (case hg => rfl); (case hr => first | (go_simp; done) | (go_simp; rfl)); intro gb555 hg w74 hbox hb; have n0_ := aM (bB (g := gb553) (o := .cells #[.string a0_0, .slice A0_1 l0_1.length c0_1] 51 (0, 0)) (by (with_reducible repeat (first | refine qn ?_ _ | refine qd ?_ | refine qa ?_ _)); exact BK553.out) hb); have n1_ := aM (bB (g := gb554) (o := .cells #[.int .i64 a1_0, .string a1_1, .slice A1_2 l1_2.length c1_2, .string a1_3, .slice A1_4 l1_4.length c1_4] 64 (0, 0)) (by (with_reducible repeat (first | refine qn ?_ _ | refine qd ?_ | refine qa ?_ _)); exact BK554.out) hb); have n2_ := aM (bP (by repeat (first | (with_reducible first | exact HB.out | apply ea | apply en | apply ed | refine es ?_ GE553.out | refine es ?_ GE554.out) | exact HB.out)) hb); have n3_ := aM (hbox); have n4_ := aM ((by rw [hg]; exact (bZ (by repeat (first | (with_reducible first | exact HB.out | apply ea | apply en | apply ed | refine es ?_ GE553.out | refine es ?_ GE554.out) | exact HB.out))) : w.heap.size ≤ gb555)); have n5_ := aM ((by rw [hg]; exact (bZ (by repeat (first | (with_reducible first | exact HB.out | apply ea | apply en | apply ed | refine es ?_ GE553.out | refine es ?_ GE554.out) | exact HB.out))) : w.heap.size ≤ gb555)); have n6_ := aM ((by rw [hg]; exact Nat.ne_of_lt (blk_lt (g := gb553) (o := .cells #[.string a0_0, .slice A0_1 l0_1.length c0_1] 51 (0, 0)) (by (with_reducible repeat (first | refine qn ?_ _ | refine qd ?_ | refine qa ?_ _)); exact BK553.out)) : gb553 ≠ gb555)); have n7_ := aM ((by rw [hg]; exact Nat.ne_of_gt (blk_lt (g := gb553) (o := .cells #[.string a0_0, .slice A0_1 l0_1.length c0_1] 51 (0, 0)) (by (with_reducible repeat (first | refine qn ?_ _ | refine qd ?_ | refine qa ?_ _)); exact BK553.out)) : gb555 ≠ gb553)); have n8_ := aM ((by rw [hg]; exact Nat.ne_of_lt (blk_lt (g := gb554) (o := .cells #[.int .i64 a1_0, .string a1_1, .slice A1_2 l1_2.length c1_2, .string a1_3, .slice A1_4 l1_4.length c1_4] 64 (0, 0)) (by (with_reducible repeat (first | refine qn ?_ _ | refine qd ?_ | refine qa ?_ _)); exact BK554.out)) : gb554 ≠ gb555)); have n9_ := aM ((by rw [hg]; exact Nat.ne_of_gt (blk_lt (g := gb554) (o := .cells #[.int .i64 a1_0, .string a1_1, .slice A1_2 l1_2.length c1_2, .string a1_3, .slice A1_4 l1_4.length c1_4] 64 (0, 0)) (by (with_reducible repeat (first | refine qn ?_ _ | refine qd ?_ | refine qa ?_ _)); exact BK554.out)) : gb555 ≠ gb554)); clear BK553; clear BK554; clear HB; have BK553 := n0_; have BK554 := n1_; have HB := n2_; have BK555 := n3_; have GW555 := n4_; have GE555 := n5_; have NB553_555 := n6_; have NB555_553 := n7_; have NB554_555 := n8_; have NB555_554 := n9_; clear n0_ n1_ n2_ n3_ n4_ n5_ n6_ n7_ n8_ n9_; clear hb hbox hg; have hnb75 := NB554_553.out; have hnc75 := NB553_554.out; have hnb76 := NB554_555.out; have hnc76 := NB555_554.out; have hcz77_0 : w74.cell? ⟨gb554, 0, none⟩ = some (.int .i64 a1_0) := (bC BK554.out 0).trans rfl; have hcz77_1 : w74.cell? ⟨gb554, 1, none⟩ = some (.string a1_1) := (bC BK554.out 1).trans rfl; have hcz77_2 : w74.cell? ⟨gb554, 2, none⟩ = some (.slice A1_2 l1_2.length c1_2) := (bC BK554.out 2).trans rfl; have hcz77_3 : w74.cell? ⟨gb554, 3, none⟩ = some (.string a1_3) := (bC BK554.out 3).trans rfl; have hcz77_4 : w74.cell? ⟨gb554, 4, none⟩ = some (.slice A1_4 l1_4.length c1_4) := (bC BK554.out 4).trans rfl; have hfz77_0 := bF BK554.out 0; have hfz77_1 := bF BK554.out 1; have hfz77_2 := bF BK554.out 2; have hfz77_3 := bF BK554.out 3; have hfz77_4 := bF BK554.out 4) | ((with_reducible refine gate_callee (f := 99) rfl ?_); refine goesL_ (some 10) rfl rfl Try.func99 (by kernel_rfl) rfl #[.agg #[.int .i64 a1_0, .string a1_1, .slice A1_2 l1_2.length c1_2, .string a1_3, .slice A1_4 l1_4.length c1_4]] rfl (by (try simp only [List.map_toArray, List.map_cons, List.map_nil]); first | done | rfl | (simp only [List.length_drop, List.length_take]; rfl)) ?_; (with_reducible refine (edit_good.calls k a1_0 a1_1 _ _ l1_2 a1_3 _ _ l1_4 false _ ?side1 ?side2 ?side3 ?side4 A3.out).mono ?_); (case side1 => repeat (first | exact (cB_ HR1_2.out HB.out) | (with_reducible refine Kd.C_alloc ?_ _) | (with_reducible refine Kd.C_drewN ?_ _) | (with_reducible refine Kd.C_drew ?_))); (case side2 => exact HC1_2.out); (case side3 => repeat (first | exact (cB_ HR1_4.out HB.out) | (with_reducible refine Kd.C_alloc ?_ _) | (with_reducible refine Kd.C_drewN ?_ _) | (with_reducible refine Kd.C_drew ?_))); (case side4 => exact HC1_4.out); rintro e w78 ⟨rfl, hb⟩; refine ⟨_, rfl, ?_⟩; have n0_ := aM (bB (g := gb553) (o := .cells #[.string a0_0, .slice A0_1 l0_1.length c0_1] 51 (0, 0)) (by (with_reducible repeat (first | refine qn ?_ _ | refine qd ?_ | refine qa ?_ _)); exact BK553.out) hb); have n1_ := aM (bB (g := gb554) (o := .cells #[.int .i64 a1_0, .string a1_1, .slice A1_2 l1_2.length c1_2, .string a1_3, .slice A1_4 l1_4.length c1_4] 64 (0, 0)) (by (with_reducible repeat (first | refine qn ?_ _ | refine qd ?_ | refine qa ?_ _)); exact BK554.out) hb); have n2_ := aM (bB (g := gb555) (o := .cells #[.string (⟨#[]⟩ : ByteArray), .slice none 0 0] 51 (0, 0)) (by (with_reducible repeat (first | refine qn ?_ _ | refine qd ?_ | refine qa ?_ _)); exact BK555.out) hb); have n3_ := aM (bP (by repeat (first | (with_reducible first | exact HB.out | apply ea | apply en | apply ed | refine es ?_ GE553.out | refine es ?_ GE554.out | refine es ?_ GE555.out) | exact HB.out)) hb); clear BK553; clear BK554; clear BK555; clear HB; have BK553 := n0_; have BK554 := n1_; have BK555 := n2_; have HB := n3_; clear n0_ n1_ n2_ n3_; (try clear hb); (try clear hb2); (try clear hk); (try clear hi); have hnb79 := NB555_553.out; have hnc79 := NB553_555.out; have hcz80_0 : w78.cell? ⟨gb555, 0, none⟩ = some (.string (⟨#[]⟩ : ByteArray)) := (bC BK555.out 0).trans rfl; have hcz80_1 : w78.cell? ⟨gb555, 1, none⟩ = some (.slice none 0 0) := (bC BK555.out 1).trans rfl; have hfz80_0 := bF BK555.out 0; have hfz80_1 := bF BK555.out 1))
    refine bodyPost_ret (results_ct rfl _ _ gb555 51 #[.string (⟨#[]⟩ : ByteArray), .slice none 0 0] (0, 0) _ rfl (by (with_reducible repeat (first | refine qn ?_ _ | refine qd ?_ | refine qa ?_ _)); refine bU (cs := #[.string (⟨#[]⟩ : ByteArray), .slice none 0 0]) ?_ 1 _ rfl; (with_reducible repeat (first | refine qn ?_ _ | refine qd ?_ | refine qa ?_ _)); refine bU (cs := #[.string (⟨#[]⟩ : ByteArray), .slice none 0 0]) ?_ 0 _ rfl; (with_reducible repeat (first | refine qn ?_ _ | refine qd ?_ | refine qa ?_ _)); exact BK555.out) Try.underlying51 rfl (by kernel_rfl)) rfl ?_
    exact ⟨_, by first | rfl | (simp [errW_none, errW_some] <;> rfl) | (simp [*, errW_none, errW_some] <;> rfl), by first | exact Kd.R_nil _ _ _ _ _ | exact Kd.N_nil _ _ _ _ _ | exact Kd.V_nil _ _ _ _ _ | exact Kd.Q_nil _ _ _ _ _ | exact Kd.S_nil _ _ _ _ _, by repeat (first | (with_reducible first | exact HB.out | apply ea | apply en | apply ed | refine es ?_ GE553.out | refine es ?_ GE554.out | refine es ?_ GE555.out) | exact HB.out)⟩
end Go.Proofs.Ythpjagblnddjaaa.PB
end
