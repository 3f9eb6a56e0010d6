/- What the row hangs on, part 3. -/
import Derived.Laws.BitsAllLaws
import Derived.Lib.DecodeN
import Derived.Test.YtjkfkiebhgkolaaGreatDoorQOperSpans2
section
namespace Go.Proofs.YtjkfkiebhgkolaaGreatDoor.PB
open Go.RowKit Go.Proofs.YtjkfkiebhgkolaaGreatDoorW.PrintWords Go.Proofs.YtjkfkiebhgkolaaGreatDoorW.PrintLast Go.Proofs.YtjkfkiebhgkolaaGreatDoorW.PrintMore
attribute [local go_sem] max2_int min2_int max_two min_two max_three min_three max_four min_four   
set_option linter.unusedVariables false
set_option linter.unusedSimpArgs false
def strip_Splice.j0 : Nat → Int → Int → Bool → ByteArray → List (S68) → ByteArray → List (S68) → Option (ByteArray × (List (S68)) × Int)
 | 0, _, _, _, _, _, _, _ => none
 | k + 1, x1, x2, x21, x123000, x123001, x124000, x124001 => if x21 = true then (some ((⟨#[]⟩ : ByteArray), ([] : List (S68)), 2)) else ((runs_Splice.f k x123001 x1 x2 x124001).bind fun bt127 => (if bt127.2 = 0 then (if 0 ≤ x1 then (if x1 ≤ (x123000.size : Int) then (if (x123000.extract 0 (x1 : Int).toNat).size + x124000.size ≤ 9223372036854775807 then (if 0 ≤ x2 then (if x2 ≤ (x123000.size : Int) then (if ((x123000.extract 0 (x1 : Int).toNat) ++ x124000).size + (x123000.extract (x2 : Int).toNat x123000.size).size ≤ 9223372036854775807 then (some (((x123000.extract 0 (x1 : Int).toNat) ++ x124000) ++ (x123000.extract (x2 : Int).toNat x123000.size), bt127.1, 0)) else (none)) else (none)) else (none)) else (none)) else (none)) else (none)) else (some ((⟨#[]⟩ : ByteArray), ([] : List (S68)), bt127.2))))
def strip_Splice.f (k : Nat) (a0_0 : ByteArray) (l0_1 : List (S68)) (a1 : Int) (a2 : Int) (a3_0 : ByteArray) (l3_1 : List (S68)) : Option (ByteArray × (List (S68)) × Int) := (strip_within.f k a0_0 l0_1 a1 a2).bind fun t125 => (if t125 = true then ((strip_Good.f k a3_0 l3_1).bind fun t126 => (strip_Splice.j0 k a1 a2 (!t126) a0_0 l0_1 a3_0 l3_1)) else (strip_Splice.j0 k a1 a2 true a0_0 l0_1 a3_0 l3_1))
def strip_Splice.T6 : Bool × List (List Nat × List Nat) := (true, [([], []), ([0], [0]), ([], []), ([1, 2], [1, 2]), ([], []), ([4], [4]), ([3, 5], [3, 5]), ([], []), ([7], [7]), ([], []), ([8, 9], [8, 9]), ([6, 10], [6, 10]), ([], []), ([11, 12], [11, 12]), ([13, 0, 1, 2, 3, 4, 5, 6, 7, 8, 9, 10, 11, 12, 13], [13]), ([14, 0, 1, 2, 3, 4, 5, 6, 7, 8, 9, 10, 11, 12, 13, 14], [])])
def strip_Splice.B6 : List Nat := [0, 1, 0, 7, 0, 16, 63, 0, 128, 0, 896, 2047, 0, 8191, 16383, 32767]
theorem strip_Splice.tab6 : rtab .any (opsOf Tryz.f147 6) = strip_Splice.T6 := by kernel_rfl
theorem strip_Splice.bits6 : waitsOk strip_Splice.T6.2 strip_Splice.B6 = true := by kernel_rfl
set_option maxHeartbeats 8000000 in
set_option maxRecDepth 100000 in
theorem strip_Splice.calls (k : Nat) (a0_0 : ByteArray) (A0_1 : Option Addr) (c0_1 : Nat) (l0_1 : List (S68)) (a1 : Int) (a2 : Int) (a3_0 : ByteArray) (A3_1 : Option Addr) (c3_1 : Nat) (l3_1 : List (S68)) (r1 : ByteArray) (r2 : List (S68)) (r3 : Int) (w : World) (hr0_1 : Kd.C k68 w A0_1 l0_1.length l0_1) (hc0_1 : l0_1.length ≤ c0_1) (hr3_1 : Kd.C k68 w A3_1 l3_1.length l3_1) (hc3_1 : l3_1.length ≤ c3_1) (h : strip_Splice.f k a0_0 l0_1 a1 a2 a3_0 l3_1 = some (r1, r2, r3)) :
  Calls Tryz.prog 147 #[.agg #[.string a0_0, .slice A0_1 l0_1.length c0_1], .int .i64 a1, .int .i64 a2, .agg #[.string a3_0, .slice A3_1 l3_1.length c3_1]] w fun e w' => ∃ v1_ : Value, e = .returned (.tuple #[.agg #[.string r1, v1_], .int .i64 r3]) ∧ Kd.R k68 68 w' w.heap.size (fun _ => True) v1_ r2 ∧ Below w.heap.size w w' := by
 have hu24 := Tryz.underlying24
 have HR0_1 := aM hr0_1
 have HC0_1 := aM hc0_1
 clear hr0_1 hc0_1
 have HR3_1 := aM hr3_1
 have HC3_1 := aM hc3_1
 clear hr3_1 hc3_1
 have HB := aM (Below.refl w.heap.size w)
 have H : ((strip_within.f k a0_0 l0_1 a1 a2).bind fun t125 => (if t125 = true then ((strip_Good.f k a3_0 l3_1).bind fun t126 => (strip_Splice.j0 k a1 a2 (!t126) a0_0 l0_1 a3_0 l3_1)) else (strip_Splice.j0 k a1 a2 true a0_0 l0_1 a3_0 l3_1))) = some (r1, r2, r3) := h
 clear h
 have HC5 := aM H
 clear H
 go_enter Tryz.func147, Tryz.ntmps147
 go_upto_region 1 with (first | ((with_reducible refine gate_dst (N := 4) rfl ?_); refine box_event ?hg (N := 4) ?hd (cs := #[.string a0_0, .slice A0_1 l0_1.length c0_1]) (t := 24) ?hr ?_; (case hd | hg => rfl); (case hr => first | (go_simp; done) | (go_simp; rfl)); intro gb122 hg w6 hbox hb; have n0_ := aM (bP (ey HB.out) hb); have n1_ := aM (hbox); have n2_ := aM ((by rw [hg]; exact (bZ (ey HB.out)) : w.heap.size ≤ gb122)); have n3_ := n2_; clear HB; have HB := n0_; have BK122 := n1_; have GW122 := n2_; have GE122 := n3_; clear n0_ n1_ n2_ n3_; clear hb hbox hg) | ((with_reducible refine gate_dst (N := 7) rfl ?_); refine box_event ?hg (N := 7) ?hd (cs := #[.string a3_0, .slice A3_1 l3_1.length c3_1]) (t := 24) ?hr ?_; (case hd | hg => rfl); (case hr => first | (go_simp; done) | (go_simp; rfl)); intro gb123 hg w7 hbox hb; have n0_ := aM (bB (g := gb122) (qy BK122.out) hb); have n1_ := aM (bP (by repeat (first | (with_reducible first | exact HB.out | apply ea | apply en | apply ed | refine es ?_ GE122.out) | exact HB.out)) hb); have n2_ := aM (hbox); have n3_ := aM ((by rw [hg]; exact (bZ (by repeat (first | (with_reducible first | exact HB.out | apply ea | apply en | apply ed | refine es ?_ GE122.out) | exact HB.out))) : w.heap.size ≤ gb123)); have n4_ := n3_; have n5_ := aM ((by rw [hg]; exact Nat.ne_of_lt (blk_lt (g := gb122) (qy BK122.out)) : gb122 ≠ gb123)); have n6_ := aM ((by rw [hg]; exact Nat.ne_of_gt (blk_lt (g := gb122) (qy BK122.out)) : gb123 ≠ gb122)); clear BK122 HB; have BK122 := n0_; have HB := n1_; have BK123 := n2_; have GW123 := n3_; have GE123 := n4_; have NB122_123 := n5_; have NB123_122 := n6_; clear n0_ n1_ n2_ n3_ n4_ n5_ n6_; clear hb hbox hg) | ((with_reducible refine gate_dst (N := 8) rfl ?_); refine box_event ?hg (N := 8) ?hd (cs := #[.string (⟨#[]⟩ : ByteArray), .slice none 0 0]) (t := 24) ?hr ?_; (case hd | hg => rfl); (case hr => first | (go_simp; done) | (go_simp; rfl)); intro gb124 hg w8 hbox hb; have n0_ := aM (bB (g := gb122) (qy BK122.out) hb); have n1_ := aM (bB (g := gb123) (qy BK123.out) hb); have n2_ := aM (bP (by repeat (first | (with_reducible first | exact HB.out | apply ea | apply en | apply ed | refine es ?_ GE122.out | refine es ?_ GE123.out) | exact HB.out)) hb); have n3_ := aM (hbox); have n4_ := aM ((by rw [hg]; exact (bZ (by repeat (first | (with_reducible first | exact HB.out | apply ea | apply en | apply ed | refine es ?_ GE122.out | refine es ?_ GE123.out) | exact HB.out))) : w.heap.size ≤ gb124)); have n5_ := n4_; have n6_ := aM ((by rw [hg]; exact Nat.ne_of_lt (blk_lt (g := gb122) (qy BK122.out)) : gb122 ≠ gb124)); have n7_ := aM ((by rw [hg]; exact Nat.ne_of_gt (blk_lt (g := gb122) (qy BK122.out)) : gb124 ≠ gb122)); have n8_ := aM ((by rw [hg]; exact Nat.ne_of_lt (blk_lt (g := gb123) (qy BK123.out)) : gb123 ≠ gb124)); have n9_ := aM ((by rw [hg]; exact Nat.ne_of_gt (blk_lt (g := gb123) (qy BK123.out)) : gb124 ≠ gb123)); clear BK122 BK123 HB; have BK122 := n0_; have BK123 := n1_; have HB := n2_; have BK124 := n3_; have GW124 := n4_; have GE124 := n5_; have NB122_124 := n6_; have NB124_122 := n7_; have NB123_124 := n8_; have NB124_123 := n9_; clear n0_ n1_ n2_ n3_ n4_ n5_ n6_ n7_ n8_ n9_; clear hb hbox hg))
 (try simp only [Act.put, sA, sZ, sS])
 go_cut [21] (fun v21 wc => ∃ (kq : Nat) (x21_4 : Bool), v21 = .bool x21_4 ∧ Aside0 (strip_Splice.j0 kq a1 a2 x21_4 a0_0 l0_1 a3_0 l3_1 = some (r1, r2, r3)) ∧ Aside0 (kq ≤ k) ∧ Aside0 (wc.heap[gb122]? = some (.cells #[.string a0_0, (.slice A0_1 l0_1.length c0_1)] 24 (0, 0))) ∧ Aside0 (wc.heap[gb123]? = some (.cells #[.string a3_0, (.slice A3_1 l3_1.length c3_1)] 24 (0, 0))) ∧ Aside0 (wc.heap[gb124]? = some (.cells #[.string (⟨#[]⟩ : ByteArray), (.slice none 0 0)] 24 (0, 0))) ∧ Aside0 (Below w.heap.size w wc))
 case first =>
  have H := HC5.out
  clear HC5
  replace H := Option.bind_eq_some_iff.mp H
  obtain ⟨t125, A90, H⟩ := H
  replace H : (if t125 = true then ((strip_Good.f k a3_0 l3_1).bind fun t126 => (strip_Splice.j0 k a1 a2 (!t126) a0_0 l0_1 a3_0 l3_1)) else (strip_Splice.j0 k a1 a2 true a0_0 l0_1 a3_0 l3_1)) = some (r1, r2, r3) := H
  have A9 := aM A90
  clear A90
  by_cases c10 : t125 = true
  ·subst c10
   have H1 : ((strip_Good.f k a3_0 l3_1).bind fun t126 => (strip_Splice.j0 k a1 a2 (!t126) a0_0 l0_1 a3_0 l3_1)) = some (r1, r2, r3) := by rw [if_pos rfl] at H; exact H
   clear H
   have H := H1
   clear H1
   replace H := Option.bind_eq_some_iff.mp H
   obtain ⟨t126, A110, H⟩ := H
   replace H : (strip_Splice.j0 k a1 a2 (!t126) a0_0 l0_1 a3_0 l3_1) = some (r1, r2, r3) := H
   have A11 := aM A110
   clear A110
   have H' := aM H
   clear H
   have hnb12 := NB122_123.out
   have hnc12 := NB123_122.out
   have hnb13 := NB122_124.out
   have hnc13 := NB124_122.out
   have hcz14_0 := zC BK122.out 0 (.string a0_0)
   have hcz14_1 := zC BK122.out 1 (.slice A0_1 l0_1.length c0_1)
   have hfz14_0 := bF BK122.out 0
   have hfz14_1 := bF BK122.out 1
   go_wp2_with (first | ((with_reducible refine gate_callee (f := 123) rfl ?_); refine goesL_ (some 15) rfl rfl Tryz.func123 (by kernel_rfl) rfl #[.agg #[.string a0_0, .slice A0_1 l0_1.length c0_1], .int .i64 a1, .int .i64 a2] rfl (by (try simp only [mT, mC, mN]); first | done | rfl | (simp only [lD, lT]; rfl)) ?_; (with_reducible refine (strip_within.calls k a0_0 _ _ l0_1 a1 a2 true _ ?side1 ?side2 A9.out).mono ?_); (case side1 => repeat (first | exact (cB_ HR0_1.out HB.out) | (with_reducible refine Kd.C_alloc ?_ _) | (with_reducible refine Kd.C_drewN ?_ _) | (with_reducible refine Kd.C_drew ?_))); (case side2 => exact HC0_1.out); rintro e w15 ⟨rfl, hb⟩; refine ⟨_, rfl, ?_⟩; have n0_ := aM (bB (g := gb122) (qy BK122.out) hb); have n1_ := aM (bB (g := gb123) (qy BK123.out) hb); have n2_ := aM (bB (g := gb124) (qy BK124.out) hb); have n3_ := aM (bP (by repeat (first | (with_reducible first | exact HB.out | apply ea | apply en | apply ed | refine es ?_ GE122.out | refine es ?_ GE123.out | refine es ?_ GE124.out) | exact HB.out)) hb); clear BK122 BK123 BK124 HB; have BK122 := n0_; have BK123 := n1_; have BK124 := n2_; have HB := n3_; clear n0_ n1_ n2_ n3_; (try clear hb); (try clear hb2); (try clear hk); (try clear hi); have hnb16 := NB123_124.out; have hnc16 := NB124_123.out; have hcz17_0 := zC BK123.out 0 (.string a3_0); have hcz17_1 := zC BK123.out 1 (.slice A3_1 l3_1.length c3_1); have hfz17_0 := bF BK123.out 0; have hfz17_1 := bF BK123.out 1) | (go_at_call 59; (with_reducible refine (strip_Good.calls k a3_0 _ _ l3_1 t126 _ ?side1 ?side2 A11.out).mono ?_); (case side1 => repeat (first | exact (cB_ HR3_1.out HB.out) | (with_reducible refine Kd.C_alloc ?_ _) | (with_reducible refine Kd.C_drewN ?_ _) | (with_reducible refine Kd.C_drew ?_))); (case side2 => exact HC3_1.out); rintro e w18 ⟨rfl, hb⟩; have n0_ := aM (bB (g := gb122) (qy BK122.out) hb); have n1_ := aM (bB (g := gb123) (qy BK123.out) hb); have n2_ := aM (bB (g := gb124) (qy BK124.out) hb); have n3_ := aM (bP (by repeat (first | (with_reducible first | exact HB.out | apply ea | apply en | apply ed | refine es ?_ GE122.out | refine es ?_ GE123.out | refine es ?_ GE124.out) | exact HB.out)) hb); clear BK122 BK123 BK124 HB; have BK122 := n0_; have BK123 := n1_; have BK124 := n2_; have HB := n3_; clear n0_ n1_ n2_ n3_; (try clear hb); (try clear hb2); (try clear hk); (try clear hi)))
   go_meet
   case rel => exact ⟨_, (!t126), (by first | rfl | (simp; done) | (simp [*]; done)), H', ⟨by first | omega | exact Nat.le_refl _⟩, ⟨by exact qy BK122.out⟩, ⟨by exact qy BK123.out⟩, ⟨by exact qy BK124.out⟩, ⟨by repeat (first | (with_reducible first | exact HB.out | apply ea | apply en | apply ed | refine es ?_ GE122.out | refine es ?_ GE123.out | refine es ?_ GE124.out) | exact HB.out)⟩⟩
  ·replace c10 := Bool.eq_false_iff.mpr c10
   subst c10
   have H1 : (strip_Splice.j0 k a1 a2 true a0_0 l0_1 a3_0 l3_1) = some (r1, r2, r3) := by rw [if_neg (show ¬ (false = true) by decide)] at H; exact H
   clear H
   have H := H1
   clear H1
   have H' := aM H
   clear H
   have hnb19 := NB122_123.out
   have hnc19 := NB123_122.out
   have hnb20 := NB122_124.out
   have hnc20 := NB124_122.out
   have hcz21_0 := zC BK122.out 0 (.string a0_0)
   have hcz21_1 := zC BK122.out 1 (.slice A0_1 l0_1.length c0_1)
   have hfz21_0 := bF BK122.out 0
   have hfz21_1 := bF BK122.out 1
   go_wp2_with (first | ((with_reducible refine gate_callee (f := 123) rfl ?_); refine goesL_ (some 15) rfl rfl Tryz.func123 (by kernel_rfl) rfl #[.agg #[.string a0_0, .slice A0_1 l0_1.length c0_1], .int .i64 a1, .int .i64 a2] rfl (by (try simp only [mT, mC, mN]); first | done | rfl | (simp only [lD, lT]; rfl)) ?_; (with_reducible refine (strip_within.calls k a0_0 _ _ l0_1 a1 a2 false _ ?side1 ?side2 A9.out).mono ?_); (case side1 => repeat (first | exact (cB_ HR0_1.out HB.out) | (with_reducible refine Kd.C_alloc ?_ _) | (with_reducible refine Kd.C_drewN ?_ _) | (with_reducible refine Kd.C_drew ?_))); (case side2 => exact HC0_1.out); rintro e w22 ⟨rfl, hb⟩; refine ⟨_, rfl, ?_⟩; have n0_ := aM (bB (g := gb122) (qy BK122.out) hb); have n1_ := aM (bB (g := gb123) (qy BK123.out) hb); have n2_ := aM (bB (g := gb124) (qy BK124.out) hb); have n3_ := aM (bP (by repeat (first | (with_reducible first | exact HB.out | apply ea | apply en | apply ed | refine es ?_ GE122.out | refine es ?_ GE123.out | refine es ?_ GE124.out) | exact HB.out)) hb); clear BK122 BK123 BK124 HB; have BK122 := n0_; have BK123 := n1_; have BK124 := n2_; have HB := n3_; clear n0_ n1_ n2_ n3_; (try clear hb); (try clear hb2); (try clear hk); (try clear hi)))
   go_meet
   case rel => exact ⟨_, (true), (by first | rfl | (simp; done) | (simp [*]; done)), H', ⟨by first | omega | exact Nat.le_refl _⟩, ⟨by exact qy BK122.out⟩, ⟨by exact qy BK123.out⟩, ⟨by exact qy BK124.out⟩, ⟨by repeat (first | (with_reducible first | exact HB.out | apply ea | apply en | apply ed | refine es ?_ GE122.out | refine es ?_ GE123.out | refine es ?_ GE124.out) | exact HB.out)⟩⟩
 case rest =>
  clear HC5
  try clear c1
  try clear c2
  try clear p2
  try clear c3
  try clear c10
  try clear c12
  try clear c13
  try clear c14
  try clear c16
  try clear c19
  try clear c20
  try clear hcz14_0
  try clear hcz14_1
  try clear hcz17_0
  try clear hcz17_1
  try clear hcz21_0
  try clear hcz21_1
  try clear hfz14_0
  try clear hfz14_1
  try clear hfz17_0
  try clear hfz17_1
  try clear hfz21_0
  try clear hfz21_1
  obtain ⟨kq, x21_4, rfl, HA, HJ4, BK122, BK123, BK124, HB⟩ := hcut
  cases kq with
  | zero => exact absurd HA.out (by simp [strip_Splice.j0])
  | succ kj4 =>
   have H := HA.out
   clear HA
   simp only [strip_Splice.j0] at H
   by_cases c23 : x21_4 = true
   ·subst c23
    have H1 : (some ((⟨#[]⟩ : ByteArray), ([] : List (S68)), 2)) = some (r1, r2, r3) := by rw [if_pos rfl] at H; exact H
    clear H
    have H := H1
    clear H1
    simp only [Option.some.injEq, Prod.mk.injEq] at H
    obtain ⟨rfl, rfl, rfl⟩ := H
    have hnb24 := NB124_122.out
    have hnc24 := NB122_124.out
    have hnb25 := NB124_123.out
    have hnc25 := NB123_124.out
    have hcz26_0 := zC BK124.out 0 (.string (⟨#[]⟩ : ByteArray))
    have hcz26_1 := zC BK124.out 1 (.slice none 0 0)
    have hfz26_0 := bF BK124.out 0
    have hfz26_1 := bF BK124.out 1
    go_wp2
    refine bodyPost_ret (results_ct rfl _ _ gb124 24 #[.string (⟨#[]⟩ : ByteArray), .slice none 0 0] (0, 0) _ rfl (by (with_reducible repeat (first | apply qn | apply qd | apply qa)); refine bU (cs := #[.string (⟨#[]⟩ : ByteArray), .slice none 0 0]) ?_ 1 _ rfl; (with_reducible repeat (first | apply qn | apply qd | apply qa)); refine bU (cs := #[.string (⟨#[]⟩ : ByteArray), .slice none 0 0]) ?_ 0 _ rfl; exact qy BK124.out) Tryz.underlying24 rfl (by kernel_rfl)) rfl ?_
    exact ⟨_, by first | rfl | (simp [errW_none, errW_some] <;> rfl) | (simp [*, errW_none, errW_some] <;> rfl), by first | exact Kd.R_nil _ _ _ _ _ | exact Kd.N_nil _ _ _ _ _ | exact Kd.V_nil _ _ _ _ _ | exact Kd.Q_nil _ _ _ _ _ | exact Kd.S_nil _ _ _ _ _, by repeat (first | (with_reducible first | exact HB.out | apply ea | apply en | apply ed | refine es ?_ GE122.out | refine es ?_ GE123.out | refine es ?_ GE124.out) | exact HB.out)⟩
   ·replace c23 := Bool.eq_false_iff.mpr c23
    subst c23
    have H1 : ((runs_Splice.f kj4 l0_1 a1 a2 l3_1).bind fun bt127 => (if bt127.2 = 0 then (if 0 ≤ a1 then (if a1 ≤ (a0_0.size : Int) then (if (a0_0.extract 0 (a1 : Int).toNat).size + a3_0.size ≤ 9223372036854775807 then (if 0 ≤ a2 then (if a2 ≤ (a0_0.size : Int) then (if ((a0_0.extract 0 (a1 : Int).toNat) ++ a3_0).size + (a0_0.extract (a2 : Int).toNat a0_0.size).size ≤ 9223372036854775807 then (some (((a0_0.extract 0 (a1 : Int).toNat) ++ a3_0) ++ (a0_0.extract (a2 : Int).toNat a0_0.size), bt127.1, 0)) else (none)) else (none)) else (none)) else (none)) else (none)) else (none)) else (some ((⟨#[]⟩ : ByteArray), ([] : List (S68)), bt127.2)))) = some (r1, r2, r3) := by rw [if_neg (show ¬ (false = true) by decide)] at H; exact H
    clear H
    have H := H1
    clear H1
    replace H := Option.bind_eq_some_iff.mp H
    obtain ⟨⟨t127, t128⟩, A270, H⟩ := H
    replace H : (if t128 = 0 then (if 0 ≤ a1 then (if a1 ≤ (a0_0.size : Int) then (if (a0_0.extract 0 (a1 : Int).toNat).size + a3_0.size ≤ 9223372036854775807 then (if 0 ≤ a2 then (if a2 ≤ (a0_0.size : Int) then (if ((a0_0.extract 0 (a1 : Int).toNat) ++ a3_0).size + (a0_0.extract (a2 : Int).toNat a0_0.size).size ≤ 9223372036854775807 then (some (((a0_0.extract 0 (a1 : Int).toNat) ++ a3_0) ++ (a0_0.extract (a2 : Int).toNat a0_0.size), t127, 0)) else (none)) else (none)) else (none)) else (none)) else (none)) else (none)) else (some ((⟨#[]⟩ : ByteArray), ([] : List (S68)), t128))) = some (r1, r2, r3) := H
    have A27 := aM A270
    clear A270
    by_cases c28 : t128 = 0
    ·rw [if_pos c28] at H
     have c28b0 : (t128 == 0) = true := beq_iff_eq.mpr c28
     have c28b1 : (t128 != 0) = false := bne_eq_false_iff_eq.mpr c28
     clear c28
     by_cases c29 : 0 ≤ a1
     ·rw [if_pos c29] at H
      have c29b0 := eq_true c29
      have c29b1 : decide (0 ≤ a1) = true := decide_eq_true c29
      clear c29
      by_cases c30 : a1 ≤ (a0_0.size : Int)
      ·rw [if_pos c30] at H
       have c30b0 := eq_true c30
       have c30b1 : decide (a1 ≤ (a0_0.size : Int)) = true := decide_eq_true c30
       clear c30
       by_cases c31 : (a0_0.extract 0 (a1 : Int).toNat).size + a3_0.size ≤ 9223372036854775807
       ·rw [if_pos c31] at H
        have c31b0 := eq_true c31
        have c31b1 : decide ((a0_0.extract 0 (a1 : Int).toNat).size + a3_0.size ≤ 9223372036854775807) = true := decide_eq_true c31
        try have c31b2 : (9223372036854775807 < (a0_0.extract 0 (a1 : Int).toNat).size + a3_0.size) = False := eq_false (Nat.not_lt.2 c31)
        try (have c31e_ := Nat.not_lt.2 c31; simp only [ByteArray.size_append] at c31e_; have c31f_ := eq_false c31e_; clear c31e_)
        try (have c31c_ := c31; simp [go_sem, c29b0, c30b0] at c31c_; have c31d_ := eq_false (Nat.not_lt.2 c31c_); clear c31c_)
        by_cases c32 : 0 ≤ a2
        ·rw [if_pos c32] at H
         have c32b0 := eq_true c32
         have c32b1 : decide (0 ≤ a2) = true := decide_eq_true c32
         clear c32
         by_cases c33 : a2 ≤ (a0_0.size : Int)
         ·rw [if_pos c33] at H
          have c33b0 := eq_true c33
          have c33b1 : decide (a2 ≤ (a0_0.size : Int)) = true := decide_eq_true c33
          clear c33
          by_cases c34 : ((a0_0.extract 0 (a1 : Int).toNat) ++ a3_0).size + (a0_0.extract (a2 : Int).toNat a0_0.size).size ≤ 9223372036854775807
          ·rw [if_pos c34] at H
           have c34b0 := eq_true c34
           have c34b1 : decide (((a0_0.extract 0 (a1 : Int).toNat) ++ a3_0).size + (a0_0.extract (a2 : Int).toNat a0_0.size).size ≤ 9223372036854775807) = true := decide_eq_true c34
           try have c34b2 : (9223372036854775807 < ((a0_0.extract 0 (a1 : Int).toNat) ++ a3_0).size + (a0_0.extract (a2 : Int).toNat a0_0.size).size) = False := eq_false (Nat.not_lt.2 c34)
           try (have c34e_ := Nat.not_lt.2 c34; simp only [ByteArray.size_append] at c34e_; have c34f_ := eq_false c34e_; clear c34e_)
           try (have c34c_ := c34; simp [go_sem, c29b0, c30b0, c31b0, c32b0, c33b0] at c34c_; have c34d_ := eq_false (Nat.not_lt.2 c34c_); clear c34c_)
           simp only [Option.some.injEq, Prod.mk.injEq] at H
           obtain ⟨rfl, rfl, rfl⟩ := H
           have hnb35 := NB122_123.out
           have hnc35 := NB123_122.out
           have hnb36 := NB122_124.out
           have hnc36 := NB124_122.out
           have hcz37_0 := zC BK122.out 0 (.string a0_0)
           have hcz37_1 := zC BK122.out 1 (.slice A0_1 l0_1.length c0_1)
           have hfz37_0 := bF BK122.out 0
           have hfz37_1 := bF BK122.out 1
           have hnb38 := NB123_124.out
           have hnc38 := NB124_123.out
           have hcz39_0 := zC BK123.out 0 (.string a3_0)
           have hcz39_1 := zC BK123.out 1 (.slice A3_1 l3_1.length c3_1)
           have hfz39_0 := bF BK123.out 0
           have hfz39_1 := bF BK123.out 1
           try go_wp2_with (first | ((with_reducible refine gate_callee (f := 164) rfl ?_); refine goesL_ (some 30) rfl rfl Tryz.func164 (by kernel_rfl) rfl #[.slice A0_1 l0_1.length c0_1, .int .i64 a1, .int .i64 a2, .slice A3_1 l3_1.length c3_1] rfl (by (try simp only [mT, mC, mN]); first | done | rfl | (simp only [lD, lT]; rfl)) ?_; (with_reducible refine (runs_Splice.calls kj4 _ _ l0_1 a1 a2 _ _ l3_1 t127 t128 _ ?side1 ?side2 ?side3 ?side4 A27.out).mono ?_); (case side1 => repeat (first | exact (cB_ HR0_1.out HB.out) | (with_reducible refine Kd.C_alloc ?_ _) | (with_reducible refine Kd.C_drewN ?_ _) | (with_reducible refine Kd.C_drew ?_))); (case side2 => exact HC0_1.out); (case side3 => repeat (first | exact (cB_ HR3_1.out HB.out) | (with_reducible refine Kd.C_alloc ?_ _) | (with_reducible refine Kd.C_drewN ?_ _) | (with_reducible refine Kd.C_drew ?_))); (case side4 => exact HC3_1.out); rintro e w40 ⟨v129, rfl, ho0, hb⟩; refine ⟨_, rfl, ?_⟩; have n0_ := aM (rL ho0 (bZ (by repeat (first | (with_reducible first | exact HB.out | apply ea | apply en | apply ed | refine es ?_ GE122.out | refine es ?_ GE123.out | refine es ?_ GE124.out) | exact HB.out)))); have n1_ := aM (bB (g := gb122) (qy BK122.out) hb); have n2_ := aM (bB (g := gb123) (qy BK123.out) hb); have n3_ := aM (bB (g := gb124) (qy BK124.out) hb); have n4_ := aM (bP (by repeat (first | (with_reducible first | exact HB.out | apply ea | apply en | apply ed | refine es ?_ GE122.out | refine es ?_ GE123.out | refine es ?_ GE124.out) | exact HB.out)) hb); clear BK122 BK123 BK124 HB; have HO130 := n0_; have BK122 := n1_; have BK123 := n2_; have BK124 := n3_; have HB := n4_; clear n0_ n1_ n2_ n3_ n4_; (try clear hb); (try clear hb2); (try clear hk); (try clear hi); (try clear ho0)))
           have n0_ := aM (Kd.R_drew HO130.out)
           have n1_ := aM (blk_drew BK122.out)
           have n2_ := aM (blk_drew BK123.out)
           have n3_ := aM (blk_drew BK124.out)
           have n4_ := aM (below_drew1 HB.out)
           clear HO130
           clear BK122
           clear BK123
           clear BK124
           clear HB
           have HO130 := n0_
           have BK122 := n1_
           have BK123 := n2_
           have BK124 := n3_
           have HB := n4_
           clear n0_ n1_ n2_ n3_ n4_
           obtain ⟨Ao42, co42, eo42⟩ := Kd.R_slice HO130.out
           (first | subst eo42 | (injection eo42 with f1_ f2_ f3_; have f4_ := f1_.symm; have f5_ := f3_.symm; clear f1_ f2_ f3_; subst f4_; subst f5_))
           refine start_ (n := 16) (S := fun w' => w'.cell? ⟨gb122, 0, none⟩ = some (.string a0_0) ∧ w'.cell? ⟨gb122, 1, none⟩ = some (.slice A0_1 l0_1.length c0_1) ∧ w'.cell? ⟨gb123, 0, none⟩ = some (.string a3_0) ∧ w'.cell? ⟨gb123, 1, none⟩ = some (.slice A3_1 l3_1.length c3_1)) (ds := []) b18_ (by kernel_rfl) rfl rfl ⟨(bC BK122.out 0).trans rfl, (bC BK122.out 1).trans rfl, (bC BK123.out 0).trans rfl, (bC BK123.out 1).trans rfl⟩ (fun hHeld => ?_); refine with_tabW strip_Splice.tab6 strip_Splice.bits6 (fun HT_ HW_ => ?_)
           generalize w40.drew = w41 at HO130 BK122 BK123 BK124 HB hHeld ⊢
           refine pure_ (i := 0) (N := some 37) (v := ?_) (a' := ?_) b19_ rfl rfl (any_of HT_.out (by kernel_rfl)) (fun _ _ _ h => h) (Or.inl ⟨by rfl, ?_⟩) ?_ ?_
           rotate_left
           ·intro w'
            go_simp
            with_reducible rfl
           rotate_left
           ·simp only [Act.put, sA, sZ, sS, i64_w, i32_w]
            rfl
           refine pure_ (i := 2) (N := some 39) (v := ?_) (a' := ?_) b20_ rfl rfl (any_of HT_.out (by kernel_rfl)) (fun _ _ _ h => h) (Or.inl ⟨by rfl, ?_⟩) ?_ ?_
           rotate_left
           ·intro w'
            go_simp
            with_reducible rfl
           rotate_left
           ·simp only [Act.put, sA, sZ, sS, i64_w, i32_w]
            rfl
           refine pure_ (i := 4) (N := some 41) (v := ?_) (a' := ?_) b21_ rfl rfl (any_of HT_.out (by kernel_rfl)) (fun _ _ _ h => h) (Or.inl ⟨by rfl, ?_⟩) ?_ ?_
           rotate_left
           ·intro w'
            go_simp
            with_reducible rfl
           rotate_left
           ·simp only [Act.put, sA, sZ, sS, i64_w, i32_w]
            rfl
           refine pure_ (i := 7) (N := some 44) (v := ?_) (a' := ?_) b22_ rfl rfl (any_of HT_.out (by kernel_rfl)) (fun _ _ _ h => h) (Or.inl ⟨by rfl, ?_⟩) ?_ ?_
           rotate_left
           ·intro w'
            go_simp
            with_reducible rfl
           rotate_left
           ·simp only [Act.put, sA, sZ, sS, i64_w, i32_w]
            rfl
           refine pure_ (i := 9) (N := some 46) (v := ?_) (a' := ?_) b23_ rfl rfl (any_of HT_.out (by kernel_rfl)) (fun _ _ _ h => h) (Or.inl ⟨by rfl, ?_⟩) ?_ ?_
           rotate_left
           ·intro w'
            go_simp
            with_reducible rfl
           rotate_left
           ·simp only [Act.put, sA, sZ, sS, i64_w, i32_w]
            rfl
           refine pure_ (i := 12) (N := some 49) (v := ?_) (a' := ?_) b24_ rfl rfl (any_of HT_.out (by kernel_rfl)) (fun _ _ _ h => h) (Or.inl ⟨by rfl, ?_⟩) ?_ ?_
           rotate_left
           ·intro w'
            go_simp
            with_reducible rfl
           rotate_left
           ·simp only [Act.put, sA, sZ, sS, i64_w, i32_w]
            rfl
           refine take_ (i := 1) (N := some 38) (v := ?_) (a' := ?_) b25_ rfl rfl (take_ofW HT_.out HW_.out (by kernel_rfl)) (fun _ _ _ h => h) (Or.inl ⟨by rfl, ?_⟩) hHeld ?_ ?_
           rotate_left
           ·rintro w' ⟨s0, s1, s2, s3⟩
            go_simp
            with_reducible rfl
           rotate_left
           ·simp only [Act.put, sA, sZ, sS, i64_w, i32_w]
            rfl
           refine pure_ (i := 3) (N := some 40) (v := ?_) (a' := ?_) b26_ rfl rfl (any_of HT_.out (by kernel_rfl)) (fun _ _ _ h => h) (Or.inl ⟨by rfl, ?_⟩) ?_ ?_
           rotate_left
           ·intro w'
            go_simp
            with_reducible rfl
           rotate_left
           ·simp only [Act.put, sA, sZ, sS, i64_w, i32_w]
            rfl
           refine take_ (i := 5) (N := some 42) (v := ?_) (a' := ?_) b27_ rfl rfl (take_ofW HT_.out HW_.out (by kernel_rfl)) (fun _ _ _ h => h) (Or.inl ⟨by rfl, ?_⟩) hHeld ?_ ?_
           rotate_left
           ·rintro w' ⟨s0, s1, s2, s3⟩
            go_simp
            with_reducible rfl
           rotate_left
           ·simp only [Act.put, sA, sZ, sS, i64_w, i32_w]
            rfl
           refine pure_ (i := 6) (N := some 43) (v := ?_) (a' := ?_) b28_ rfl rfl (any_of HT_.out (by kernel_rfl)) (fun _ _ _ h => h) (Or.inl ⟨by rfl, ?_⟩) ?_ ?_
           rotate_left
           ·intro w'
            go_simp
            with_reducible rfl
           rotate_left
           ·simp only [Act.put, sA, sZ, sS, i64_w, i32_w]
            rfl
           refine take_ (i := 8) (N := some 45) (v := ?_) (a' := ?_) b29_ rfl rfl (take_ofW HT_.out HW_.out (by kernel_rfl)) (fun _ _ _ h => h) (Or.inl ⟨by rfl, ?_⟩) hHeld ?_ ?_
           rotate_left
           ·rintro w' ⟨s0, s1, s2, s3⟩
            go_simp
            with_reducible rfl
           rotate_left
           ·simp only [Act.put, sA, sZ, sS, i64_w, i32_w]
            rfl
           refine pure_ (i := 10) (N := some 47) (v := ?_) (a' := ?_) b30_ rfl rfl (any_of HT_.out (by kernel_rfl)) (fun _ _ _ h => h) (Or.inl ⟨by rfl, ?_⟩) ?_ ?_
           rotate_left
           ·intro w'
            go_simp
            with_reducible rfl
           rotate_left
           ·simp only [Act.put, sA, sZ, sS, i64_w, i32_w]
            rfl
           refine pure_ (i := 11) (N := some 48) (v := ?_) (a' := ?_) b31_ rfl rfl (any_of HT_.out (by kernel_rfl)) (fun _ _ _ h => h) (Or.inl ⟨by rfl, ?_⟩) ?_ ?_
           rotate_left
           ·intro w'
            go_simp
            with_reducible rfl
           rotate_left
           ·simp only [Act.put, sA, sZ, sS, i64_w, i32_w]
            rfl
           refine pure_ (i := 13) (N := some 50) (v := ?_) (a' := ?_) b32_ rfl rfl (any_of HT_.out (by kernel_rfl)) (fun _ _ _ h => h) (Or.inl ⟨by rfl, ?_⟩) ?_ ?_
           rotate_left
           ·intro w'
            go_simp
            with_reducible rfl
           rotate_left
           ·simp only [Act.put, sA, sZ, sS, i64_w, i32_w]
            rfl
           refine one_ (i := 14) (N := none) b33_ rfl rfl (one_of HT_.out (by kernel_rfl)) (by decide) (fun K hK => ?_)
           have hs43 : w41.cell? ⟨gb124, 0, none⟩ = some (.string (⟨#[]⟩ : ByteArray)) := (bC BK124.out 0).trans rfl
           have hfs43 := bF BK124.out 0
           have hns43_0 := NB122_124.out
           have hns43_1 := NB123_124.out
           have hms43_0 := NB124_122.out
           have hms43_1 := NB124_123.out
           have hs44 : w41.cell? ⟨gb124, 1, none⟩ = some (.slice none 0 0) := (bC BK124.out 1).trans rfl
           have hfs44 := bF BK124.out 1
           have hns44_0 := NB122_124.out
           have hns44_1 := NB123_124.out
           have hms44_0 := NB124_122.out
           have hms44_1 := NB124_123.out
           refine skip_ (w1 := ?_) (by rfl) rfl ?_ ?_
           rotate_left
           ·go_simp
            rfl
           refine hK.out _ _ ⟨((cell_far (p := ⟨gb124, _, none⟩) NB122_124.out _).trans (((cell_far (p := ⟨gb124, _, none⟩) NB122_124.out _).trans (hHeld.1)))), ((cell_far (p := ⟨gb124, _, none⟩) NB122_124.out _).trans (((cell_far (p := ⟨gb124, _, none⟩) NB122_124.out _).trans (hHeld.2.1)))), ((cell_far (p := ⟨gb124, _, none⟩) NB123_124.out _).trans (((cell_far (p := ⟨gb124, _, none⟩) NB123_124.out _).trans (hHeld.2.2.1)))), ((cell_far (p := ⟨gb124, _, none⟩) NB123_124.out _).trans (((cell_far (p := ⟨gb124, _, none⟩) NB123_124.out _).trans (hHeld.2.2.2))))⟩ (fun hHeld => ?_)
           clear hK K
           refine pure_ (i := 15) (N := some 9) (v := ?_) (a' := ?_) b34_ rfl rfl (any_of HT_.out (by kernel_rfl)) (fun _ _ _ h => h) (Or.inl ⟨by rfl, ?_⟩) ?_ ?_
           rotate_left
           ·intro w'
            go_simp
            with_reducible rfl
           rotate_left
           ·simp only [Act.put, sA, sZ, sS, i64_w, i32_w]
            rfl
           refine done_ (done_of HT_.out (by kernel_rfl)) ?_
           try go_wp2
           refine bodyPost_ret (results_ct rfl _ _ gb124 24 #[.string (((a0_0.extract 0 (a1 : Int).toNat) ++ a3_0) ++ (a0_0.extract (a2 : Int).toNat a0_0.size)), .slice Ao42 t127.length co42] (0, 0) _ rfl (by (with_reducible repeat (first | apply qn | apply qd | apply qa)); refine bU (cs := #[.string (((a0_0.extract 0 (a1 : Int).toNat) ++ a3_0) ++ (a0_0.extract (a2 : Int).toNat a0_0.size)), .slice none 0 0]) ?_ 1 _ rfl; (with_reducible repeat (first | apply qn | apply qd | apply qa)); refine bU (cs := #[.string (⟨#[]⟩ : ByteArray), .slice none 0 0]) ?_ 0 _ rfl; exact qy BK124.out) Tryz.underlying24 rfl (by kernel_rfl)) rfl ?_
           exact ⟨_, by first | rfl | (simp [errW_none, errW_some] <;> rfl) | (simp [*, errW_none, errW_some] <;> rfl), by (with_reducible repeat (first | apply ra | apply rn | apply rd_)); exact rM (rF (p := ⟨gb124, 1, none⟩) (rF (p := ⟨gb124, 0, none⟩) (rT HO130.out BK124.out (by decide)) (fun _ hk => hk.2) (.string (((a0_0.extract 0 (a1 : Int).toNat) ++ a3_0) ++ (a0_0.extract (a2 : Int).toNat a0_0.size)))) (fun _ hk => hk.2) (.slice Ao42 t127.length co42)) (fun _ hk => trivial), by repeat (first | (with_reducible first | exact HB.out | apply ea | apply en | apply ed | refine es ?_ GE122.out | refine es ?_ GE123.out | refine es ?_ GE124.out) | exact HB.out)⟩
          ·rw [if_neg c34] at H
           exact absurd H (by simp)
         ·rw [if_neg c33] at H
          exact absurd H (by simp)
        ·rw [if_neg c32] at H
         exact absurd H (by simp)
       ·rw [if_neg c31] at H
        exact absurd H (by simp)
      ·rw [if_neg c30] at H
       exact absurd H (by simp)
     ·rw [if_neg c29] at H
      exact absurd H (by simp)
    ·rw [if_neg c28] at H
     have c28b0 : (t128 == 0) = false := beq_eq_false_iff_ne.mpr c28
     have c28b1 : (t128 != 0) = true := bne_iff_ne.mpr c28
     simp only [Option.some.injEq, Prod.mk.injEq] at H
     obtain ⟨rfl, rfl, rfl⟩ := H
     have hnb45 := NB122_123.out
     have hnc45 := NB123_122.out
     have hnb46 := NB122_124.out
     have hnc46 := NB124_122.out
     have hcz47_0 := zC BK122.out 0 (.string a0_0)
     have hcz47_1 := zC BK122.out 1 (.slice A0_1 l0_1.length c0_1)
     have hfz47_0 := bF BK122.out 0
     have hfz47_1 := bF BK122.out 1
     have hnb48 := NB123_124.out
     have hnc48 := NB124_123.out
     have hcz49_0 := zC BK123.out 0 (.string a3_0)
     have hcz49_1 := zC BK123.out 1 (.slice A3_1 l3_1.length c3_1)
     have hfz49_0 := bF BK123.out 0
     have hfz49_1 := bF BK123.out 1
     go_wp2_with (first | ((with_reducible refine gate_callee (f := 164) rfl ?_); refine goesL_ (some 30) rfl rfl Tryz.func164 (by kernel_rfl) rfl #[.slice A0_1 l0_1.length c0_1, .int .i64 a1, .int .i64 a2, .slice A3_1 l3_1.length c3_1] rfl (by (try simp only [mT, mC, mN]); first | done | rfl | (simp only [lD, lT]; rfl)) ?_; (with_reducible refine (runs_Splice.calls kj4 _ _ l0_1 a1 a2 _ _ l3_1 t127 t128 _ ?side1 ?side2 ?side3 ?side4 A27.out).mono ?_); (case side1 => repeat (first | exact (cB_ HR0_1.out HB.out) | (with_reducible refine Kd.C_alloc ?_ _) | (with_reducible refine Kd.C_drewN ?_ _) | (with_reducible refine Kd.C_drew ?_))); (case side2 => exact HC0_1.out); (case side3 => repeat (first | exact (cB_ HR3_1.out HB.out) | (with_reducible refine Kd.C_alloc ?_ _) | (with_reducible refine Kd.C_drewN ?_ _) | (with_reducible refine Kd.C_drew ?_))); (case side4 => exact HC3_1.out); rintro e w50 ⟨v129, rfl, ho0, hb⟩; refine ⟨_, rfl, ?_⟩; have n0_ := aM (rL ho0 (bZ (by repeat (first | (with_reducible first | exact HB.out | apply ea | apply en | apply ed | refine es ?_ GE122.out | refine es ?_ GE123.out | refine es ?_ GE124.out) | exact HB.out)))); have n1_ := aM (bB (g := gb122) (qy BK122.out) hb); have n2_ := aM (bB (g := gb123) (qy BK123.out) hb); have n3_ := aM (bB (g := gb124) (qy BK124.out) hb); have n4_ := aM (bP (by repeat (first | (with_reducible first | exact HB.out | apply ea | apply en | apply ed | refine es ?_ GE122.out | refine es ?_ GE123.out | refine es ?_ GE124.out) | exact HB.out)) hb); clear BK122 BK123 BK124 HB; have HO130 := n0_; have BK122 := n1_; have BK123 := n2_; have BK124 := n3_; have HB := n4_; clear n0_ n1_ n2_ n3_ n4_; (try clear hb); (try clear hb2); (try clear hk); (try clear hi); (try clear ho0); have hcz51_0 := zC BK124.out 0 (.string (⟨#[]⟩ : ByteArray)); have hcz51_1 := zC BK124.out 1 (.slice none 0 0); have hfz51_0 := bF BK124.out 0; have hfz51_1 := bF BK124.out 1))
     refine bodyPost_ret (results_ct rfl _ _ gb124 24 #[.string (⟨#[]⟩ : ByteArray), .slice none 0 0] (0, 0) _ rfl (by (with_reducible repeat (first | apply qn | apply qd | apply qa)); refine bU (cs := #[.string (⟨#[]⟩ : ByteArray), .slice none 0 0]) ?_ 1 _ rfl; (with_reducible repeat (first | apply qn | apply qd | apply qa)); refine bU (cs := #[.string (⟨#[]⟩ : ByteArray), .slice none 0 0]) ?_ 0 _ rfl; exact qy BK124.out) Tryz.underlying24 rfl (by kernel_rfl)) rfl ?_
     exact ⟨_, by first | rfl | (simp [errW_none, errW_some] <;> rfl) | (simp [*, errW_none, errW_some] <;> rfl), by first | exact Kd.R_nil _ _ _ _ _ | exact Kd.N_nil _ _ _ _ _ | exact Kd.V_nil _ _ _ _ _ | exact Kd.Q_nil _ _ _ _ _ | exact Kd.S_nil _ _ _ _ _, by repeat (first | (with_reducible first | exact HB.out | apply ea | apply en | apply ed | refine es ?_ GE122.out | refine es ?_ GE123.out | refine es ?_ GE124.out) | exact HB.out)⟩
end Go.Proofs.YtjkfkiebhgkolaaGreatDoor.PB
end

section
namespace Go.Proofs.YtjkfkiebhgkolaaGreatDoor.PB
open Go.RowKit Go.Proofs.YtjkfkiebhgkolaaGreatDoorW.PrintWords Go.Proofs.YtjkfkiebhgkolaaGreatDoorW.PrintLast Go.Proofs.YtjkfkiebhgkolaaGreatDoorW.PrintMore
attribute [local go_sem] max2_int min2_int max_two min_two max_three min_three max_four min_four   
set_option linter.unusedVariables false
set_option linter.unusedSimpArgs false
def strip_Cat.f (k : Nat) (a0_0 : ByteArray) (l0_1 : List (S68)) (a1_0 : ByteArray) (l1_1 : List (S68)) : Option (ByteArray × (List (S68)) × Int) := (strip_Splice.f k a0_0 l0_1 (a0_0.size : Int) (a0_0.size : Int) a1_0 l1_1).bind fun bt192 => (some (bt192.1, bt192.2.1, bt192.2.2))
set_option maxHeartbeats 8000000 in
set_option maxRecDepth 100000 in
theorem strip_Cat.calls (k : Nat) (a0_0 : ByteArray) (A0_1 : Option Addr) (c0_1 : Nat) (l0_1 : List (S68)) (a1_0 : ByteArray) (A1_1 : Option Addr) (c1_1 : Nat) (l1_1 : List (S68)) (r1 : ByteArray) (r2 : List (S68)) (r3 : Int) (w : World) (hr0_1 : Kd.C k68 w A0_1 l0_1.length l0_1) (hc0_1 : l0_1.length ≤ c0_1) (hr1_1 : Kd.C k68 w A1_1 l1_1.length l1_1) (hc1_1 : l1_1.length ≤ c1_1) (h : strip_Cat.f k a0_0 l0_1 a1_0 l1_1 = some (r1, r2, r3)) :
  Calls Tryz.prog 115 #[.agg #[.string a0_0, .slice A0_1 l0_1.length c0_1], .agg #[.string a1_0, .slice A1_1 l1_1.length c1_1]] w fun e w' => ∃ v1_ : Value, e = .returned (.tuple #[.agg #[.string r1, v1_], .int .i64 r3]) ∧ Kd.R k68 68 w' w.heap.size (fun _ => True) v1_ r2 ∧ Below w.heap.size w w' := by
 have hu24 := Tryz.underlying24
 have HR0_1 := aM hr0_1
 have HC0_1 := aM hc0_1
 clear hr0_1 hc0_1
 have HR1_1 := aM hr1_1
 have HC1_1 := aM hc1_1
 clear hr1_1 hc1_1
 have HB := aM (Below.refl w.heap.size w)
 have H : ((strip_Splice.f k a0_0 l0_1 (a0_0.size : Int) (a0_0.size : Int) a1_0 l1_1).bind fun bt192 => (some (bt192.1, bt192.2.1, bt192.2.2))) = some (r1, r2, r3) := h
 clear h
 replace H := Option.bind_eq_some_iff.mp H
 obtain ⟨⟨t192, t193, t196⟩, A30, H⟩ := H
 replace H : (some (t192, t193, t196)) = some (r1, r2, r3) := H
 have A3 := aM A30
 clear A30
 simp only [Option.some.injEq, Prod.mk.injEq] at H
 obtain ⟨rfl, rfl, rfl⟩ := H
 go_enter Tryz.func115, Tryz.ntmps115
 go_wp2_with (first | ((with_reducible refine gate_dst (N := 2) rfl ?_); refine box_event ?hg (N := 2) ?hd (cs := #[.string a0_0, .slice A0_1 l0_1.length c0_1]) (t := 24) ?hr ?_; (case hd | hg => rfl); (case hr => first | (go_simp; done) | (go_simp; rfl)); intro gb189 hg w4 hbox hb; have n0_ := aM (bP (ey HB.out) hb); have n1_ := aM (hbox); have n2_ := aM ((by rw [hg]; exact (bZ (ey HB.out)) : w.heap.size ≤ gb189)); have n3_ := n2_; clear HB; have HB := n0_; have BK189 := n1_; have GW189 := n2_; have GE189 := n3_; clear n0_ n1_ n2_ n3_; clear hb hbox hg) | ((with_reducible refine gate_dst (N := 3) rfl ?_); refine box_event ?hg (N := 3) ?hd (cs := #[.string a1_0, .slice A1_1 l1_1.length c1_1]) (t := 24) ?hr ?_; (case hd | hg => rfl); (case hr => first | (go_simp; done) | (go_simp; rfl)); intro gb190 hg w5 hbox hb; have n0_ := aM (bB (g := gb189) (qy BK189.out) hb); have n1_ := aM (bP (by repeat (first | (with_reducible first | exact HB.out | apply ea | apply en | apply ed | refine es ?_ GE189.out) | exact HB.out)) hb); have n2_ := aM (hbox); have n3_ := aM ((by rw [hg]; exact (bZ (by repeat (first | (with_reducible first | exact HB.out | apply ea | apply en | apply ed | refine es ?_ GE189.out) | exact HB.out))) : w.heap.size ≤ gb190)); have n4_ := n3_; have n5_ := aM ((by rw [hg]; exact Nat.ne_of_lt (blk_lt (g := gb189) (qy BK189.out)) : gb189 ≠ gb190)); have n6_ := aM ((by rw [hg]; exact Nat.ne_of_gt (blk_lt (g := gb189) (qy BK189.out)) : gb190 ≠ gb189)); clear BK189 HB; have BK189 := n0_; have HB := n1_; have BK190 := n2_; have GW190 := n3_; have GE190 := n4_; have NB189_190 := n5_; have NB190_189 := n6_; clear n0_ n1_ n2_ n3_ n4_ n5_ n6_; clear hb hbox hg) | ((with_reducible refine gate_dst (N := 4) rfl ?_); refine box_event ?hg (N := 4) ?hd (cs := #[.string (⟨#[]⟩ : ByteArray), .slice none 0 0]) (t := 24) ?hr ?_; (case hd | hg => rfl); (case hr => first | (go_simp; done) | (go_simp; rfl)); intro gb191 hg w6 hbox hb; have n0_ := aM (bB (g := gb189) (qy BK189.out) hb); have n1_ := aM (bB (g := gb190) (qy BK190.out) hb); have n2_ := aM (bP (by repeat (first | (with_reducible first | exact HB.out | apply ea | apply en | apply ed | refine es ?_ GE189.out | refine es ?_ GE190.out) | exact HB.out)) hb); have n3_ := aM (hbox); have n4_ := aM ((by rw [hg]; exact (bZ (by repeat (first | (with_reducible first | exact HB.out | apply ea | apply en | apply ed | refine es ?_ GE189.out | refine es ?_ GE190.out) | exact HB.out))) : w.heap.size ≤ gb191)); have n5_ := n4_; have n6_ := aM ((by rw [hg]; exact Nat.ne_of_lt (blk_lt (g := gb189) (qy BK189.out)) : gb189 ≠ gb191)); have n7_ := aM ((by rw [hg]; exact Nat.ne_of_gt (blk_lt (g := gb189) (qy BK189.out)) : gb191 ≠ gb189)); have n8_ := aM ((by rw [hg]; exact Nat.ne_of_lt (blk_lt (g := gb190) (qy BK190.out)) : gb190 ≠ gb191)); have n9_ := aM ((by rw [hg]; exact Nat.ne_of_gt (blk_lt (g := gb190) (qy BK190.out)) : gb191 ≠ gb190)); clear BK189 BK190 HB; have BK189 := n0_; have BK190 := n1_; have HB := n2_; have BK191 := n3_; have GW191 := n4_; have GE191 := n5_; have NB189_191 := n6_; have NB191_189 := n7_; have NB190_191 := n8_; have NB191_190 := n9_; clear n0_ n1_ n2_ n3_ n4_ n5_ n6_ n7_ n8_ n9_; clear hb hbox hg; have hnb7 := NB189_190.out; have hnc7 := NB190_189.out; have hnb8 := NB189_191.out; have hnc8 := NB191_189.out; have hcz9_0 := zC BK189.out 0 (.string a0_0); have hcz9_1 := zC BK189.out 1 (.slice A0_1 l0_1.length c0_1); have hfz9_0 := bF BK189.out 0; have hfz9_1 := bF BK189.out 1; have hnb10 := NB190_191.out; have hnc10 := NB191_190.out; have hcz11_0 := zC BK190.out 0 (.string a1_0); have hcz11_1 := zC BK190.out 1 (.slice A1_1 l1_1.length c1_1); have hfz11_0 := bF BK190.out 0; have hfz11_1 := bF BK190.out 1) | ((with_reducible refine gate_callee (f := 147) rfl ?_); refine goesL_ (some 14) rfl rfl Tryz.func147 (by kernel_rfl) rfl #[.agg #[.string a0_0, .slice A0_1 l0_1.length c0_1], .int .i64 (a0_0.size : Int), .int .i64 (a0_0.size : Int), .agg #[.string a1_0, .slice A1_1 l1_1.length c1_1]] rfl (by (try simp only [mT, mC, mN]); first | done | rfl | (simp only [lD, lT]; rfl)) ?_; (with_reducible refine (strip_Splice.calls k a0_0 _ _ l0_1 (a0_0.size : Int) (a0_0.size : Int) a1_0 _ _ l1_1 t192 t193 t196 _ ?side1 ?side2 ?side3 ?side4 A3.out).mono ?_); (case side1 => repeat (first | exact (cB_ HR0_1.out HB.out) | (with_reducible refine Kd.C_alloc ?_ _) | (with_reducible refine Kd.C_drewN ?_ _) | (with_reducible refine Kd.C_drew ?_))); (case side2 => exact HC0_1.out); (case side3 => repeat (first | exact (cB_ HR1_1.out HB.out) | (with_reducible refine Kd.C_alloc ?_ _) | (with_reducible refine Kd.C_drewN ?_ _) | (with_reducible refine Kd.C_drew ?_))); (case side4 => exact HC1_1.out); rintro e w12 ⟨v194, rfl, ho0, hb⟩; refine ⟨_, rfl, ?_⟩; have n0_ := aM (rL ho0 (bZ (by repeat (first | (with_reducible first | exact HB.out | apply ea | apply en | apply ed | refine es ?_ GE189.out | refine es ?_ GE190.out | refine es ?_ GE191.out) | exact HB.out)))); have n1_ := aM (bB (g := gb189) (qy BK189.out) hb); have n2_ := aM (bB (g := gb190) (qy BK190.out) hb); have n3_ := aM (bB (g := gb191) (qy BK191.out) hb); have n4_ := aM (bP (by repeat (first | (with_reducible first | exact HB.out | apply ea | apply en | apply ed | refine es ?_ GE189.out | refine es ?_ GE190.out | refine es ?_ GE191.out) | exact HB.out)) hb); clear BK189 BK190 BK191 HB; have HO195 := n0_; have BK189 := n1_; have BK190 := n2_; have BK191 := n3_; have HB := n4_; clear n0_ n1_ n2_ n3_ n4_; (try clear hb); (try clear hb2); (try clear hk); (try clear hi); (try clear ho0); have hcz13_0 := zC BK191.out 0 (.string (⟨#[]⟩ : ByteArray)); have hcz13_1 := zC BK191.out 1 (.slice none 0 0); have hfz13_0 := bF BK191.out 0; have hfz13_1 := bF BK191.out 1; obtain ⟨Ao14, co14, eo14⟩ := Kd.R_slice HO195.out; subst eo14))
 refine bodyPost_ret (results_ct rfl _ _ gb191 24 #[.string t192, .slice Ao14 t193.length co14] (0, 0) _ rfl (by (with_reducible repeat (first | apply qn | apply qd | apply qa)); refine bU (cs := #[.string t192, .slice none 0 0]) ?_ 1 _ rfl; (with_reducible repeat (first | apply qn | apply qd | apply qa)); refine bU (cs := #[.string (⟨#[]⟩ : ByteArray), .slice none 0 0]) ?_ 0 _ rfl; exact qy BK191.out) Tryz.underlying24 rfl (by kernel_rfl)) rfl ?_
 exact ⟨_, by first | rfl | (simp [errW_none, errW_some] <;> rfl) | (simp [*, errW_none, errW_some] <;> rfl), by (with_reducible repeat (first | apply ra | apply rn | apply rd_)); exact rM (rF (p := ⟨gb191, 1, none⟩) (rF (p := ⟨gb191, 0, none⟩) (rT HO195.out BK191.out (by decide)) (fun _ hk => hk.2) (.string t192)) (fun _ hk => hk.2) (.slice Ao14 t193.length co14)) (fun _ hk => trivial), by repeat (first | (with_reducible first | exact HB.out | apply ea | apply en | apply ed | refine es ?_ GE189.out | refine es ?_ GE190.out | refine es ?_ GE191.out) | exact HB.out)⟩
end Go.Proofs.YtjkfkiebhgkolaaGreatDoor.PB
end

section
namespace Go.Proofs.YtjkfkiebhgkolaaGreatDoor.PB
open Go.RowKit Go.Proofs.YtjkfkiebhgkolaaGreatDoorW.PrintWords Go.Proofs.YtjkfkiebhgkolaaGreatDoorW.PrintLast Go.Proofs.YtjkfkiebhgkolaaGreatDoorW.PrintMore
attribute [local go_sem] max2_int min2_int max_two min_two max_three min_three max_four min_four   
set_option linter.unusedVariables false
set_option linter.unusedSimpArgs false
def strip_Cut.f (k : Nat) (a0_0 : ByteArray) (l0_1 : List (S68)) (a1 : Int) (a2 : Int) : Option (ByteArray × (List (S68)) × Int) := (strip_within.f k a0_0 l0_1 a1 a2).bind fun t117 => (if t117 = true then ((runs_Slice.f k l0_1 a1 a2).bind fun bt118 => (if 0 ≤ a1 then (if a1 ≤ a2 then (if a2 ≤ (a0_0.size : Int) then (some (a0_0.extract (a1 : Int).toNat (a2 : Int).toNat, bt118.1, bt118.2)) else (none)) else (none)) else (none))) else (some ((⟨#[]⟩ : ByteArray), ([] : List (S68)), 2)))
set_option maxHeartbeats 8000000 in
set_option maxRecDepth 100000 in
theorem strip_Cut.calls (k : Nat) (a0_0 : ByteArray) (A0_1 : Option Addr) (c0_1 : Nat) (l0_1 : List (S68)) (a1 : Int) (a2 : Int) (r1 : ByteArray) (r2 : List (S68)) (r3 : Int) (w : World) (hr0_1 : Kd.C k68 w A0_1 l0_1.length l0_1) (hc0_1 : l0_1.length ≤ c0_1) (h : strip_Cut.f k a0_0 l0_1 a1 a2 = some (r1, r2, r3)) :
  Calls Tryz.prog 74 #[.agg #[.string a0_0, .slice A0_1 l0_1.length c0_1], .int .i64 a1, .int .i64 a2] w fun e w' => ∃ v1_ : Value, e = .returned (.tuple #[.agg #[.string r1, v1_], .int .i64 r3]) ∧ Kd.R k68 68 w' w.heap.size (fun _ => True) v1_ r2 ∧ Below w.heap.size w w' := by
 have hu24 := Tryz.underlying24
 have HR0_1 := aM hr0_1
 have HC0_1 := aM hc0_1
 clear hr0_1 hc0_1
 have HB := aM (Below.refl w.heap.size w)
 have H : ((strip_within.f k a0_0 l0_1 a1 a2).bind fun t117 => (if t117 = true then ((runs_Slice.f k l0_1 a1 a2).bind fun bt118 => (if 0 ≤ a1 then (if a1 ≤ a2 then (if a2 ≤ (a0_0.size : Int) then (some (a0_0.extract (a1 : Int).toNat (a2 : Int).toNat, bt118.1, bt118.2)) else (none)) else (none)) else (none))) else (some ((⟨#[]⟩ : ByteArray), ([] : List (S68)), 2)))) = some (r1, r2, r3) := h
 clear h
 replace H := Option.bind_eq_some_iff.mp H
 obtain ⟨t117, A40, H⟩ := H
 replace H : (if t117 = true then ((runs_Slice.f k l0_1 a1 a2).bind fun bt118 => (if 0 ≤ a1 then (if a1 ≤ a2 then (if a2 ≤ (a0_0.size : Int) then (some (a0_0.extract (a1 : Int).toNat (a2 : Int).toNat, bt118.1, bt118.2)) else (none)) else (none)) else (none))) else (some ((⟨#[]⟩ : ByteArray), ([] : List (S68)), 2))) = some (r1, r2, r3) := H
 have A4 := aM A40
 clear A40
 by_cases c5 : t117 = true
 ·subst c5
  have H1 : ((runs_Slice.f k l0_1 a1 a2).bind fun bt118 => (if 0 ≤ a1 then (if a1 ≤ a2 then (if a2 ≤ (a0_0.size : Int) then (some (a0_0.extract (a1 : Int).toNat (a2 : Int).toNat, bt118.1, bt118.2)) else (none)) else (none)) else (none))) = some (r1, r2, r3) := by rw [if_pos rfl] at H; exact H
  clear H
  have H := H1
  clear H1
  replace H := Option.bind_eq_some_iff.mp H
  obtain ⟨⟨t118, t119⟩, A60, H⟩ := H
  replace H : (if 0 ≤ a1 then (if a1 ≤ a2 then (if a2 ≤ (a0_0.size : Int) then (some (a0_0.extract (a1 : Int).toNat (a2 : Int).toNat, t118, t119)) else (none)) else (none)) else (none)) = some (r1, r2, r3) := H
  have A6 := aM A60
  clear A60
  by_cases c7 : 0 ≤ a1
  ·rw [if_pos c7] at H
   have c7b0 := eq_true c7
   have c7b1 : decide (0 ≤ a1) = true := decide_eq_true c7
   clear c7
   by_cases c8 : a1 ≤ a2
   ·rw [if_pos c8] at H
    have c8b0 := eq_true c8
    have c8b1 : decide (a1 ≤ a2) = true := decide_eq_true c8
    clear c8
    by_cases c9 : a2 ≤ (a0_0.size : Int)
    ·rw [if_pos c9] at H
     have c9b0 := eq_true c9
     have c9b1 : decide (a2 ≤ (a0_0.size : Int)) = true := decide_eq_true c9
     clear c9
     simp only [Option.some.injEq, Prod.mk.injEq] at H
     obtain ⟨rfl, rfl, rfl⟩ := H
     go_enter Tryz.func74, Tryz.ntmps74
     go_wp2_with (first | ((with_reducible refine gate_dst (N := 3) rfl ?_); refine box_event ?hg (N := 3) ?hd (cs := #[.string a0_0, .slice A0_1 l0_1.length c0_1]) (t := 24) ?hr ?_; (case hd | hg => rfl); (case hr => first | (go_simp; done) | (go_simp; rfl)); intro gb115 hg w10 hbox hb; have n0_ := aM (bP (ey HB.out) hb); have n1_ := aM (hbox); have n2_ := aM ((by rw [hg]; exact (bZ (ey HB.out)) : w.heap.size ≤ gb115)); have n3_ := n2_; clear HB; have HB := n0_; have BK115 := n1_; have GW115 := n2_; have GE115 := n3_; clear n0_ n1_ n2_ n3_; clear hb hbox hg) | ((with_reducible refine gate_dst (N := 6) rfl ?_); refine box_event ?hg (N := 6) ?hd (cs := #[.string (⟨#[]⟩ : ByteArray), .slice none 0 0]) (t := 24) ?hr ?_; (case hd | hg => rfl); (case hr => first | (go_simp; done) | (go_simp; rfl)); intro gb116 hg w11 hbox hb; have n0_ := aM (bB (g := gb115) (qy BK115.out) hb); have n1_ := aM (bP (by repeat (first | (with_reducible first | exact HB.out | apply ea | apply en | apply ed | refine es ?_ GE115.out) | exact HB.out)) hb); have n2_ := aM (hbox); have n3_ := aM ((by rw [hg]; exact (bZ (by repeat (first | (with_reducible first | exact HB.out | apply ea | apply en | apply ed | refine es ?_ GE115.out) | exact HB.out))) : w.heap.size ≤ gb116)); have n4_ := n3_; have n5_ := aM ((by rw [hg]; exact Nat.ne_of_lt (blk_lt (g := gb115) (qy BK115.out)) : gb115 ≠ gb116)); have n6_ := aM ((by rw [hg]; exact Nat.ne_of_gt (blk_lt (g := gb115) (qy BK115.out)) : gb116 ≠ gb115)); clear BK115 HB; have BK115 := n0_; have HB := n1_; have BK116 := n2_; have GW116 := n3_; have GE116 := n4_; have NB115_116 := n5_; have NB116_115 := n6_; clear n0_ n1_ n2_ n3_ n4_ n5_ n6_; clear hb hbox hg; have hnb12 := NB115_116.out; have hnc12 := NB116_115.out; have hcz13_0 := zC BK115.out 0 (.string a0_0); have hcz13_1 := zC BK115.out 1 (.slice A0_1 l0_1.length c0_1); have hfz13_0 := bF BK115.out 0; have hfz13_1 := bF BK115.out 1) | ((with_reducible refine gate_callee (f := 123) rfl ?_); refine goesL_ (some 13) rfl rfl Tryz.func123 (by kernel_rfl) rfl #[.agg #[.string a0_0, .slice A0_1 l0_1.length c0_1], .int .i64 a1, .int .i64 a2] rfl (by (try simp only [mT, mC, mN]); first | done | rfl | (simp only [lD, lT]; rfl)) ?_; (with_reducible refine (strip_within.calls k a0_0 _ _ l0_1 a1 a2 true _ ?side1 ?side2 A4.out).mono ?_); (case side1 => repeat (first | exact (cB_ HR0_1.out HB.out) | (with_reducible refine Kd.C_alloc ?_ _) | (with_reducible refine Kd.C_drewN ?_ _) | (with_reducible refine Kd.C_drew ?_))); (case side2 => exact HC0_1.out); rintro e w14 ⟨rfl, hb⟩; refine ⟨_, rfl, ?_⟩; have n0_ := aM (bB (g := gb115) (qy BK115.out) hb); have n1_ := aM (bB (g := gb116) (qy BK116.out) hb); have n2_ := aM (bP (by repeat (first | (with_reducible first | exact HB.out | apply ea | apply en | apply ed | refine es ?_ GE115.out | refine es ?_ GE116.out) | exact HB.out)) hb); clear BK115 BK116 HB; have BK115 := n0_; have BK116 := n1_; have HB := n2_; clear n0_ n1_ n2_; (try clear hb); (try clear hb2); (try clear hk); (try clear hi); have hcz15_0 := zC BK115.out 0 (.string a0_0); have hcz15_1 := zC BK115.out 1 (.slice A0_1 l0_1.length c0_1); have hfz15_0 := bF BK115.out 0; have hfz15_1 := bF BK115.out 1) | ((with_reducible refine gate_callee (f := 124) rfl ?_); refine goesL_ (some 21) rfl rfl Tryz.func124 (by kernel_rfl) rfl #[.slice A0_1 l0_1.length c0_1, .int .i64 a1, .int .i64 a2] rfl (by (try simp only [mT, mC, mN]); first | done | rfl | (simp only [lD, lT]; rfl)) ?_; (with_reducible refine (runs_Slice.calls k _ _ l0_1 a1 a2 t118 t119 _ ?side1 ?side2 A6.out).mono ?_); (case side1 => repeat (first | exact (cB_ HR0_1.out HB.out) | (with_reducible refine Kd.C_alloc ?_ _) | (with_reducible refine Kd.C_drewN ?_ _) | (with_reducible refine Kd.C_drew ?_))); (case side2 => exact HC0_1.out); rintro e w16 ⟨v120, rfl, ho0, hb⟩; refine ⟨_, rfl, ?_⟩; have n0_ := aM (rL ho0 (bZ (by repeat (first | (with_reducible first | exact HB.out | apply ea | apply en | apply ed | refine es ?_ GE115.out | refine es ?_ GE116.out) | exact HB.out)))); have n1_ := aM (bB (g := gb115) (qy BK115.out) hb); have n2_ := aM (bB (g := gb116) (qy BK116.out) hb); have n3_ := aM (bP (by repeat (first | (with_reducible first | exact HB.out | apply ea | apply en | apply ed | refine es ?_ GE115.out | refine es ?_ GE116.out) | exact HB.out)) hb); clear BK115 BK116 HB; have HO121 := n0_; have BK115 := n1_; have BK116 := n2_; have HB := n3_; clear n0_ n1_ n2_ n3_; (try clear hb); (try clear hb2); (try clear hk); (try clear hi); (try clear ho0); have hcz17_0 := zC BK115.out 0 (.string a0_0); have hcz17_1 := zC BK115.out 1 (.slice A0_1 l0_1.length c0_1); have hfz17_0 := bF BK115.out 0; have hfz17_1 := bF BK115.out 1; obtain ⟨Ao18, co18, eo18⟩ := Kd.R_slice HO121.out; subst eo18; have hcz19_0 := zC BK116.out 0 (.string (⟨#[]⟩ : ByteArray)); have hcz19_1 := zC BK116.out 1 (.slice none 0 0); have hfz19_0 := bF BK116.out 0; have hfz19_1 := bF BK116.out 1))
     refine bodyPost_ret (results_ct rfl _ _ gb116 24 #[.string (a0_0.extract (a1 : Int).toNat (a2 : Int).toNat), .slice Ao18 t118.length co18] (0, 0) _ rfl (by (with_reducible repeat (first | apply qn | apply qd | apply qa)); refine bU (cs := #[.string (a0_0.extract (a1 : Int).toNat (a2 : Int).toNat), .slice none 0 0]) ?_ 1 _ rfl; (with_reducible repeat (first | apply qn | apply qd | apply qa)); refine bU (cs := #[.string (⟨#[]⟩ : ByteArray), .slice none 0 0]) ?_ 0 _ rfl; exact qy BK116.out) Tryz.underlying24 rfl (by kernel_rfl)) rfl ?_
     exact ⟨_, by first | rfl | (simp [errW_none, errW_some] <;> rfl) | (simp [*, errW_none, errW_some] <;> rfl), by (with_reducible repeat (first | apply ra | apply rn | apply rd_)); exact rM (rF (p := ⟨gb116, 1, none⟩) (rF (p := ⟨gb116, 0, none⟩) (rT HO121.out BK116.out (by decide)) (fun _ hk => hk.2) (.string (a0_0.extract (a1 : Int).toNat (a2 : Int).toNat))) (fun _ hk => hk.2) (.slice Ao18 t118.length co18)) (fun _ hk => trivial), by repeat (first | (with_reducible first | exact HB.out | apply ea | apply en | apply ed | refine es ?_ GE115.out | refine es ?_ GE116.out) | exact HB.out)⟩
    ·rw [if_neg c9] at H
     exact absurd H (by simp)
   ·rw [if_neg c8] at H
    exact absurd H (by simp)
  ·rw [if_neg c7] at H
   exact absurd H (by simp)
 ·replace c5 := Bool.eq_false_iff.mpr c5
  subst c5
  have H1 : (some ((⟨#[]⟩ : ByteArray), ([] : List (S68)), 2)) = some (r1, r2, r3) := by rw [if_neg (show ¬ (false = true) by decide)] at H; exact H
  clear H
  have H := H1
  clear H1
  simp only [Option.some.injEq, Prod.mk.injEq] at H
  obtain ⟨rfl, rfl, rfl⟩ := H
  go_enter Tryz.func74, Tryz.ntmps74
  go_wp2_with (first | ((with_reducible refine gate_dst (N := 3) rfl ?_); refine box_event ?hg (N := 3) ?hd (cs := #[.string a0_0, .slice A0_1 l0_1.length c0_1]) (t := 24) ?hr ?_; (case hd | hg => rfl); (case hr => first | (go_simp; done) | (go_simp; rfl)); intro gb115 hg w20 hbox hb; have n0_ := aM (bP (ey HB.out) hb); have n1_ := aM (hbox); have n2_ := aM ((by rw [hg]; exact (bZ (ey HB.out)) : w.heap.size ≤ gb115)); have n3_ := n2_; clear HB; have HB := n0_; have BK115 := n1_; have GW115 := n2_; have GE115 := n3_; clear n0_ n1_ n2_ n3_; clear hb hbox hg) | ((with_reducible refine gate_dst (N := 6) rfl ?_); refine box_event ?hg (N := 6) ?hd (cs := #[.string (⟨#[]⟩ : ByteArray), .slice none 0 0]) (t := 24) ?hr ?_; (case hd | hg => rfl); (case hr => first | (go_simp; done) | (go_simp; rfl)); intro gb116 hg w21 hbox hb; have n0_ := aM (bB (g := gb115) (qy BK115.out) hb); have n1_ := aM (bP (by repeat (first | (with_reducible first | exact HB.out | apply ea | apply en | apply ed | refine es ?_ GE115.out) | exact HB.out)) hb); have n2_ := aM (hbox); have n3_ := aM ((by rw [hg]; exact (bZ (by repeat (first | (with_reducible first | exact HB.out | apply ea | apply en | apply ed | refine es ?_ GE115.out) | exact HB.out))) : w.heap.size ≤ gb116)); have n4_ := n3_; have n5_ := aM ((by rw [hg]; exact Nat.ne_of_lt (blk_lt (g := gb115) (qy BK115.out)) : gb115 ≠ gb116)); have n6_ := aM ((by rw [hg]; exact Nat.ne_of_gt (blk_lt (g := gb115) (qy BK115.out)) : gb116 ≠ gb115)); clear BK115 HB; have BK115 := n0_; have HB := n1_; have BK116 := n2_; have GW116 := n3_; have GE116 := n4_; have NB115_116 := n5_; have NB116_115 := n6_; clear n0_ n1_ n2_ n3_ n4_ n5_ n6_; clear hb hbox hg; have hnb22 := NB115_116.out; have hnc22 := NB116_115.out; have hcz23_0 := zC BK115.out 0 (.string a0_0); have hcz23_1 := zC BK115.out 1 (.slice A0_1 l0_1.length c0_1); have hfz23_0 := bF BK115.out 0; have hfz23_1 := bF BK115.out 1) | ((with_reducible refine gate_callee (f := 123) rfl ?_); refine goesL_ (some 13) rfl rfl Tryz.func123 (by kernel_rfl) rfl #[.agg #[.string a0_0, .slice A0_1 l0_1.length c0_1], .int .i64 a1, .int .i64 a2] rfl (by (try simp only [mT, mC, mN]); first | done | rfl | (simp only [lD, lT]; rfl)) ?_; (with_reducible refine (strip_within.calls k a0_0 _ _ l0_1 a1 a2 false _ ?side1 ?side2 A4.out).mono ?_); (case side1 => repeat (first | exact (cB_ HR0_1.out HB.out) | (with_reducible refine Kd.C_alloc ?_ _) | (with_reducible refine Kd.C_drewN ?_ _) | (with_reducible refine Kd.C_drew ?_))); (case side2 => exact HC0_1.out); rintro e w24 ⟨rfl, hb⟩; refine ⟨_, rfl, ?_⟩; have n0_ := aM (bB (g := gb115) (qy BK115.out) hb); have n1_ := aM (bB (g := gb116) (qy BK116.out) hb); have n2_ := aM (bP (by repeat (first | (with_reducible first | exact HB.out | apply ea | apply en | apply ed | refine es ?_ GE115.out | refine es ?_ GE116.out) | exact HB.out)) hb); clear BK115 BK116 HB; have BK115 := n0_; have BK116 := n1_; have HB := n2_; clear n0_ n1_ n2_; (try clear hb); (try clear hb2); (try clear hk); (try clear hi); have hcz25_0 := zC BK116.out 0 (.string (⟨#[]⟩ : ByteArray)); have hcz25_1 := zC BK116.out 1 (.slice none 0 0); have hfz25_0 := bF BK116.out 0; have hfz25_1 := bF BK116.out 1))
  refine bodyPost_ret (results_ct rfl _ _ gb116 24 #[.string (⟨#[]⟩ : ByteArray), .slice none 0 0] (0, 0) _ rfl (by (with_reducible repeat (first | apply qn | apply qd | apply qa)); refine bU (cs := #[.string (⟨#[]⟩ : ByteArray), .slice none 0 0]) ?_ 1 _ rfl; (with_reducible repeat (first | apply qn | apply qd | apply qa)); refine bU (cs := #[.string (⟨#[]⟩ : ByteArray), .slice none 0 0]) ?_ 0 _ rfl; exact qy BK116.out) Tryz.underlying24 rfl (by kernel_rfl)) rfl ?_
  exact ⟨_, by first | rfl | (simp [errW_none, errW_some] <;> rfl) | (simp [*, errW_none, errW_some] <;> rfl), by first | exact Kd.R_nil _ _ _ _ _ | exact Kd.N_nil _ _ _ _ _ | exact Kd.V_nil _ _ _ _ _ | exact Kd.Q_nil _ _ _ _ _ | exact Kd.S_nil _ _ _ _ _, by repeat (first | (with_reducible first | exact HB.out | apply ea | apply en | apply ed | refine es ?_ GE115.out | refine es ?_ GE116.out) | exact HB.out)⟩
end Go.Proofs.YtjkfkiebhgkolaaGreatDoor.PB
end

section
namespace Go.Proofs.YtjkfkiebhgkolaaGreatDoor.PB
open Go.RowKit Go.Proofs.YtjkfkiebhgkolaaGreatDoorW.PrintWords
set_option linter.unusedVariables false
theorem run_ev (a b : List S68) (hl : a.length ≤ big) : Ev (fun k => api_Run.f k a b) (decide (a = b)) := by
 unfold big at hl
 unfold api_Run.f
 by_cases hab : a.length = b.length
 ·refine Ev.pos (by omega) ?_
  have loop : ∀ (d i : Nat), i + d = a.length → Ev (fun k => api_Run.l0 k a b (a.length : Int) (i : Int)) (decide (a.drop i = b.drop i)) := by
   intro d
   induction d with
   | zero =>
    intro i hi
    refine Ev.step (fun k => by simp only [api_Run.l0]; rfl) ?_
    refine Ev.neg (by omega) ?_
    rw [List.drop_eq_nil_of_le (by omega), List.drop_eq_nil_of_le (by omega)]
    exact Ev.now _
   | succ d ih =>
    intro i hi
    have hlt : i < a.length := by omega
    refine Ev.step (fun k => by simp only [api_Run.l0]; rfl) ?_
    refine Ev.pos (by omega) (Ev.pos (by omega) (Ev.pos (by omega) (Ev.pos (by omega) ?_)))
    rw [dropT hlt, dropT (show i < b.length by omega), rdT, rdT, w1 hlt (by omega)]
    by_cases he : a.getD i z68 = b.getD i z68
    ·rw [he]
     refine Ev.neg (by simp) ?_
     exact ev_val (ih (i + 1) (by omega)) (by simp)
    ·refine Ev.pos ?_ ?_
     ·have : ¬ ((a.getD i z68).f0 = (b.getD i z68).f0 ∧ (a.getD i z68).f1 = (b.getD i z68).f1) := fun h => he (by
       cases hx : a.getD i z68; cases hy : b.getD i z68; rw [hx, hy] at h; simp at h; rw [h.1, h.2])
      simp only [Bool.or_eq_true, Bool.not_eq_true', beq_eq_false_iff_ne]
      by_cases h1 : (a.getD i z68).f0 = (b.getD i z68).f0
      ·exact .inr (fun h2 => this ⟨h1, h2⟩)
      ·exact .inl h1
     ·exact ev_val (Ev.now _) (by simp; intro h; exact absurd h he)
  exact loop a.length 0 (by omega)
 ·refine Ev.neg (by omega) ?_
  exact ev_val (Ev.now _) (by simp; intro h; exact hab (by rw [h]))
def goodT (s : ByteArray) (l : List S68) : Bool := good l && decide (tot l = (s.size : Int))
theorem goodT_iff {s : ByteArray} {l : List S68} : goodT s l = true ↔ good l = true ∧ tot l = (s.size : Int) := by simp [goodT]
theorem goodT_facts {s : ByteArray} {l : List S68} (h : goodT s l = true) : good l = true ∧ nrm l ∧ (bytes l).length = s.size ∧ s.size ≤ 4096 ∧ tot l = (s.size : Int) := by
 obtain ⟨h1, h2⟩ := goodT_iff.1 h
 obtain ⟨h3, h4, h5⟩ := good_facts h1
 exact ⟨h1, h3, by omega, by omega, h2⟩
theorem goodT_ev (s : ByteArray) (l : List S68) (hl : l.length ≤ big) : Ev (fun k => strip_Good.f k s l) (goodT s l) := by
 unfold strip_Good.f
 refine Ev.bind (good_ev l hl) ?_
 by_cases hg : good l = true
 ·rw [hg]
  exact Ev.pos rfl (Ev.bind (total_ev l hl) (ev_val (Ev.now _) (by rw [Bool.eq_iff_iff]; simp [goodT, hg])))
 ·exact Ev.neg hg (ev_val (Ev.now _) (by simp [goodT, hg]))
def withinT (s : ByteArray) (l : List S68) (a b : Int) : Bool := goodT s l && (decide (0 ≤ a) && (decide (a ≤ b) && decide (b ≤ (s.size : Int))))
theorem withinT_iff {s : ByteArray} {l : List S68} {a b : Int} : withinT s l a b = true ↔ goodT s l = true ∧ 0 ≤ a ∧ a ≤ b ∧ b ≤ (s.size : Int) := by simp [withinT]
theorem withinT_ev (s : ByteArray) (l : List S68) (hl : l.length ≤ big) (a b : Int) : Ev (fun k => strip_within.f k s l a b) (withinT s l a b) := by
 unfold strip_within.f
 refine Ev.bind (goodT_ev s l hl) ?_
 by_cases hg : goodT s l = true
 ·refine Ev.pos hg ?_
  by_cases h0 : 0 ≤ a
  ·refine Ev.pos h0 ?_
   by_cases h1 : a ≤ b
   ·exact Ev.pos h1 (ev_val (Ev.now _) (by simp [withinT, hg, h0, h1]))
   ·exact Ev.neg h1 (ev_val (Ev.now _) (by simp [withinT, h1]))
  ·exact Ev.neg h0 (ev_val (Ev.now _) (by simp [withinT, h0]))
 ·exact Ev.neg hg (ev_val (Ev.now _) (by simp [withinT, hg]))
theorem withinT_facts {s : ByteArray} {l : List S68} {a b : Int} (h : withinT s l a b = true) : ∃ i j : Nat, a = i ∧ b = j ∧ i ≤ j ∧ j ≤ s.size ∧ goodT s l = true ∧ withinB l a b = true := by
 obtain ⟨h1, h2, h3, h4⟩ := withinT_iff.1 h
 obtain ⟨g1, g2, g3, g4, g5⟩ := goodT_facts h1
 obtain ⟨i, rfl⟩ := Int.eq_ofNat_of_zero_le h2
 obtain ⟨j, rfl⟩ := Int.eq_ofNat_of_zero_le (show 0 ≤ b by omega)
 exact ⟨i, j, rfl, rfl, by omega, by omega, h1, withinB_iff.2 ⟨g1, by omega, by omega, by omega⟩⟩
abbrev TX := ByteArray × List S68 × Int
def makeS (s : ByteArray) (y : Int) : TX := if (s.size : Int) > 4096 then (⟨#[]⟩, [], 3) else (s, pack (List.replicate s.size y), 0)
theorem normal_one (y : Int) (n : Nat) : normalS [⟨y, (n : Int)⟩] = if (n : Int) > 4096 then ([], 3) else (pack (List.replicate n y), 0) := by
 unfold normalS
 rw [if_neg (fun ⟨j, hj, hh⟩ => by
  have : j = 0 := by simpa using hj
  subst this
  have : ((n : Nat) : Int) < 0 := hh
  omega)]
 have ht : tot [(⟨y, (n : Int)⟩ : S68)] = if (n : Int) > 4096 then 4097 else (n : Int) := by
  simp only [tot, totF]
  by_cases h : (n : Int) > 4096
  ·rw [if_pos h, if_pos (by omega)]
  ·rw [if_neg h, if_neg (by omega), if_neg (by omega)]; omega
 rw [ht]
 by_cases h : (n : Int) > 4096
 ·rw [if_pos h, if_pos h, if_pos (by omega)]
 ·rw [if_neg h, if_neg h, if_neg h]
  simp [bytes]
theorem make_ev (s : ByteArray) (y : Int) : Ev (fun k => strip_Make.f k s y) (makeS s y) := by
 unfold strip_Make.f makeS
 refine Ev.bind (normal_ev _ (by simp [big])) ?_
 rw [normal_one]
 by_cases h : (s.size : Int) > 4096
 ·rw [if_pos h, if_pos h]
  exact Ev.neg (by decide) (Ev.now _)
 ·rw [if_neg h, if_neg h]
  exact Ev.pos rfl (Ev.now _)
def sameT (s : ByteArray) (l : List S68) (t : ByteArray) (m : List S68) : Bool := if s.toList = t.toList then decide (l = m) else false
theorem same4_ev (s : ByteArray) (l : List S68) (t : ByteArray) (m : List S68) (hl : l.length ≤ big) : Ev (fun k => strip_Same.f k s l t m) (sameT s l t m) := by
 unfold strip_Same.f sameT
 exact Ev.ite (fun _ => Ev.bind (run_ev l m hl) (Ev.now _)) (fun _ => Ev.now _)
def cutS (s : ByteArray) (l : List S68) (a b : Int) : TX := if withinT s l a b = true then (s.extract a.toNat b.toNat, pack (((bytes l).take b.toNat).drop a.toNat), 0) else (⟨#[]⟩, [], 2)
theorem cut_ev (s : ByteArray) (l : List S68) (hl : l.length ≤ big) (a b : Int) : Ev (fun k => strip_Cut.f k s l a b) (cutS s l a b) := by
 unfold strip_Cut.f cutS
 refine Ev.bind (withinT_ev s l hl a b) ?_
 refine Ev.ite (fun hw => ?_) (fun _ => Ev.now _)
 obtain ⟨h1, h2, h3, h4⟩ := withinT_iff.1 hw
 obtain ⟨i, j, rfl, rfl, hij, hj, hg, hwb⟩ := withinT_facts hw
 refine Ev.bind (slice_ev l hl _ _) (Ev.pos h2 (Ev.pos h3 (Ev.pos h4 (ev_val (Ev.now _) ?_))))
 unfold sliceS
 rw [if_pos hwb]
def spliceT (s : ByteArray) (l : List S68) (a b : Int) (x : ByteArray) (m : List S68) : TX :=
 if withinT s l a b = true then (if goodT x m = true then (if (s.size : Int) - (b - a) + (x.size : Int) > 4096 then (⟨#[]⟩, [], 3) else
  (s.extract 0 a.toNat ++ x ++ s.extract b.toNat s.size, pack ((bytes l).take a.toNat ++ bytes m ++ (bytes l).drop b.toNat), 0)) else (⟨#[]⟩, [], 2)) else (⟨#[]⟩, [], 2)
theorem ext_size (s : ByteArray) (i j : Nat) : (s.extract i j).size ≤ s.size := by rw [ByteArray.size_extract]; omega
theorem splice4_ev (s : ByteArray) (l : List S68) (hl : l.length ≤ big) (a b : Int) (x : ByteArray) (m : List S68) (hm : m.length ≤ big) : Ev (fun k => strip_Splice.f k s l a b x m) (spliceT s l a b x m) := by
 unfold strip_Splice.f spliceT
 refine Ev.bind (withinT_ev s l hl a b) ?_
 have bad : Ev (fun k => strip_Splice.j0 k a b true s l x m) (⟨#[]⟩, [], 2) := by
  refine Ev.step (fun k => by simp only [strip_Splice.j0]; rfl) ?_
  exact Ev.pos (by simp) (Ev.now _)
 refine Ev.ite (fun hw => ?_) (fun _ => bad)
 refine Ev.bind (goodT_ev x m hm) ?_
 by_cases hg : goodT x m = true
 ·rw [if_pos hg, hg]
  refine Ev.step (fun k => by simp only [strip_Splice.j0]; rfl) ?_
  refine Ev.neg (by simp) (Ev.bind (splice_ev l hl a b m hm) ?_)
  obtain ⟨h1, h2, h3, h4⟩ := withinT_iff.1 hw
  obtain ⟨i, j, rfl, rfl, hij, hj, hgl, hwb⟩ := withinT_facts hw
  obtain ⟨g1, g2, g3, g4, g5⟩ := goodT_facts hgl
  obtain ⟨q1, q2, q3, q4, q5⟩ := goodT_facts hg
  have he : spliceS l (i : Int) (j : Int) m = if (s.size : Int) - ((j : Int) - (i : Int)) + (x.size : Int) > 4096 then ([], 3) else (pack ((bytes l).take (i : Int).toNat ++ bytes m ++ (bytes l).drop (j : Int).toNat), 0) := by
   unfold spliceS
   rw [if_pos hwb, if_pos q1, g5, q5]
  rw [he]
  by_cases hb : (s.size : Int) - ((j : Int) - (i : Int)) + (x.size : Int) > 4096
  ·rw [if_pos hb, if_pos hb]
   exact Ev.neg (by decide) (Ev.now _)
  ·rw [if_neg hb, if_neg hb]
   have e1 := ext_size s 0 (i : Int).toNat
   have e2 := ext_size s (j : Int).toNat s.size
   refine Ev.pos rfl (Ev.pos h2 (Ev.pos (by omega) (Ev.pos (by omega) (Ev.pos (by omega) (Ev.pos h4 (Ev.pos ?_ (Ev.now _)))))))
   rw [ByteArray.size_append]
   omega
 ·rw [if_neg hg, show goodT x m = false by simpa using hg]
  exact bad
theorem spliceT_len (s : ByteArray) (l : List S68) (a b : Int) (x : ByteArray) (m : List S68) : (spliceT s l a b x m).2.1.length ≤ 20000 := by
 unfold spliceT
 split
 ·rename_i hw
  split
  ·rename_i hg
   split
   ·simp
   ·obtain ⟨i, j, rfl, rfl, hij, hj, hgl, hwb⟩ := withinT_facts hw
    obtain ⟨g1, g2, g3, g4, g5⟩ := goodT_facts hgl
    obtain ⟨q1, q2, q3, q4, q5⟩ := goodT_facts hg
    have := pack_len ((bytes l).take (i : Int).toNat ++ bytes m ++ (bytes l).drop (j : Int).toNat)
    simp only [List.length_append, List.length_take, List.length_drop] at this
    show (pack _).length ≤ 20000
    omega
  ·simp
 ·simp
def catT (s : ByteArray) (l : List S68) (x : ByteArray) (m : List S68) : TX := spliceT s l (s.size : Int) (s.size : Int) x m
theorem cat4_ev (s : ByteArray) (l : List S68) (hl : l.length ≤ big) (x : ByteArray) (m : List S68) (hm : m.length ≤ big) : Ev (fun k => strip_Cat.f k s l x m) (catT s l x m) := by
 unfold strip_Cat.f catT
 exact Ev.bind (splice4_ev s l hl _ _ x m hm) (Ev.now _)
theorem catT_len (s : ByteArray) (l : List S68) (x : ByteArray) (m : List S68) : (catT s l x m).2.1.length ≤ 20000 := spliceT_len _ _ _ _ _ _
theorem cutS_len (s : ByteArray) (l : List S68) (a b : Int) : (cutS s l a b).2.1.length ≤ 20000 := by
 unfold cutS
 split
 ·rename_i hw
  obtain ⟨i, j, rfl, rfl, hij, hj, hgl, hwb⟩ := withinT_facts hw
  obtain ⟨g1, g2, g3, g4, g5⟩ := goodT_facts hgl
  have := pack_len (((bytes l).take (j : Int).toNat).drop (i : Int).toNat)
  rw [List.length_drop, List.length_take] at this
  show (pack _).length ≤ 20000
  omega
 ·simp
theorem makeS_len (s : ByteArray) (y : Int) : (makeS s y).2.1.length ≤ 20000 := by
 unfold makeS
 split
 ·simp
 ·have := pack_len (List.replicate s.size y)
  rw [List.length_replicate] at this
  show (pack _).length ≤ 20000
  omega
theorem toList_loop (a : ByteArray) : ∀ (n i : Nat) (r : List UInt8), i + n = a.size → ByteArray.toList.loop a i r = r.reverse ++ a.data.toList.drop i
 | 0, i, r, h => by
  unfold ByteArray.toList.loop
  rw [if_neg (by omega), List.drop_eq_nil_of_le (by rw [Array.length_toList]; show a.size ≤ i; omega), List.append_nil]
 | n + 1, i, r, h => by
  unfold ByteArray.toList.loop
  have hi : i < a.data.toList.length := by rw [Array.length_toList]; show i < a.size; omega
  rw [if_pos (by omega), toList_loop a n (i + 1) _ (by omega), List.reverse_cons, List.append_assoc, List.drop_eq_getElem_cons hi]
  congr 1
  show [a.get! i] ++ _ = _
  rw [List.singleton_append]
  congr 1
  show a.data[i]! = _
  rw [getElem!_pos a.data i (by rw [Array.length_toList] at hi; exact hi)]
  simp
theorem toList_data (a : ByteArray) : a.toList = a.data.toList := by
 unfold ByteArray.toList
 rw [toList_loop a a.size 0 [] (by omega)]
 rfl
theorem toList_inj {a b : ByteArray} (h : a.toList = b.toList) : a = b := by
 rw [toList_data, toList_data] at h
 exact ByteArray.ext (Array.toList_inj.1 h)
end Go.Proofs.YtjkfkiebhgkolaaGreatDoor.PB
end

section
namespace Go.Proofs.YtjkfkiebhgkolaaGreatDoor.PB
open Go.RowKit Go.Proofs.YtjkfkiebhgkolaaGreatDoorW.PrintWords Go.Proofs.YtjkfkiebhgkolaaGreatDoorW.PrintLast Go.Proofs.YtjkfkiebhgkolaaGreatDoorW.PrintMore
attribute [local go_sem] max2_int min2_int max_two min_two max_three min_three max_four min_four   
set_option linter.unusedVariables false
set_option linter.unusedSimpArgs false
def label_Below.f (a0 : Int) (a1 : Int) : Option (Bool) := some ((Go.bits .andNot .u64 a0 a1) == 0)
set_option maxHeartbeats 8000000 in
set_option maxRecDepth 100000 in
theorem label_Below.calls (a0 : Int) (a1 : Int) (r : Bool) (w : World) (h : label_Below.f a0 a1 = some r) :
  Calls Tryz.prog 122 #[.int .u64 a0, .int .u64 a1] w fun e w' => e = .returned (.bool r) ∧ Drawn0 w w' := by
 have H : (some ((Go.bits .andNot .u64 a0 a1) == 0)) = some r := h
 clear h
 obtain rfl := Option.some.inj H
 go_enter Tryz.func122, Tryz.ntmps122
 go_wp2
 go_ret
 exact ⟨by first | rfl | (simp; done) | (simp [*]; done), by repeat (first | exact Drawn0.refl _ | apply Drawn0.step)⟩
end Go.Proofs.YtjkfkiebhgkolaaGreatDoor.PB
end

section
namespace Go.Proofs.YtjkfkiebhgkolaaGreatDoor.PB
open Go.RowKit Go.Proofs.YtjkfkiebhgkolaaGreatDoorW.PrintWords Go.Proofs.YtjkfkiebhgkolaaGreatDoorW.PrintLast Go.Proofs.YtjkfkiebhgkolaaGreatDoorW.PrintMore
set_option linter.unusedVariables false
set_option linter.unusedSimpArgs false
def BRow (w : World) (g : Nat) (b : List Int) : Prop := ∃ cs t fr, w.heap[g]? = some (.cells cs t fr) ∧ b.length ≤ fr.1 ∧ ∀ i, i < b.length → cs[i]? = some (.int .u8 (b.getD i 0))
theorem BRow.lt {w : World} {g : Nat} {b : List Int} (h : BRow w g b) : g < w.heap.size := by obtain ⟨cs, t, fr, hc, _⟩ := h; exact blk_lt hc
theorem BRow.cell {w : World} {g : Nat} {b : List Int} (h : BRow w g b) {i : Nat} (hi : i < b.length) : w.cell? ⟨g, i, none⟩ = some (.int .u8 (b.getD i 0)) := by
  obtain ⟨cs, t, fr, hc, _, hb⟩ := h
  exact (cell_of_row w g i cs t fr hc).trans (hb i hi)
theorem BRow.frozen {w : World} {g : Nat} {b : List Int} (h : BRow w g b) {i : Nat} (hi : i < b.length) : w.frozen? ⟨g, i, none⟩ = false := by
  obtain ⟨cs, t, ⟨f1, f2⟩, hc, hf, hb⟩ := h
  simp only at hf
  simp [World.frozen?, hc]
  omega
theorem BRow.of {w w' : World} {g : Nat} {b : List Int} (h : BRow w g b) (he : w'.heap[g]? = w.heap[g]?) : BRow w' g b := by
  obtain ⟨cs, t, fr, hc, hr⟩ := h
  exact ⟨cs, t, fr, he.trans hc, hr⟩
theorem BRow.alloc {w : World} {g : Nat} {b : List Int} (h : BRow w g b) (o : Obj) : BRow (w.alloc o) g b := h.of (Below.heap_alloc _ _ _ h.lt)
theorem BRow.drewN {w : World} {g : Nat} {b : List Int} (h : BRow w g b) (n : Nat) : BRow (w.drewN n) g b := h.of rfl
theorem BRow.set {w : World} {g : Nat} {b : List Int} (h : BRow w g b) {i : Nat} (hi : i < b.length) (x : Int) : BRow (w.setCell ⟨g, i, none⟩ (.int .u8 x)) g (b.set i x) := by
  obtain ⟨cs, t, fr, hc, hf, hb⟩ := h
  refine ⟨cs.setIfInBounds i (.int .u8 x), t, fr, by simp [World.setCell, Array.getElem?_modify, hc], by rw [List.length_set]; exact hf, fun j hj => ?_⟩
  rw [List.length_set] at hj
  have h1 := hb j hj
  obtain ⟨hlt, _⟩ := Array.getElem?_eq_some_iff.1 h1
  by_cases he : i = j
  · subst he
    rw [List.getD_eq_getElem?_getD, List.getElem?_set_self hj, Array.getElem?_setIfInBounds]
    simp [hlt]
  · rw [List.getD_eq_getElem?_getD, List.getElem?_set_ne he, ← List.getD_eq_getElem?_getD, Array.getElem?_setIfInBounds, if_neg he]
    exact h1
theorem BRow.reads {w : World} {g : Nat} {b : List Int} (h : BRow w g b) (hn : b.length ≤ 9223372036854775807) : ReadsInt w .u8 (some ⟨g, 0, none⟩) b.length b :=
  ⟨rfl, hn, fun _ => ⟨_, rfl, fun j hj => by
    have := h.cell hj
    by_cases h0 : j = 0
    · subst h0; simpa [Addr.add] using this
    · simpa [Addr.add, h0] using this⟩⟩
theorem bytesOf_len (s : ByteArray) : (bytesOf s).length = s.size := by unfold bytesOf; rw [List.length_map, Array.length_toList]; rfl
theorem bytesOf_getD (s : ByteArray) (i : Nat) (hi : i < s.size) : (bytesOf s).getD i 0 = ((s.data.toList.getD i 0).toNat : Int) := by
  have hd : i < s.data.toList.length := by rw [Array.length_toList]; exact hi
  unfold bytesOf
  rw [List.getD_eq_getElem?_getD, List.getElem?_map, List.getD_eq_getElem?_getD, List.getElem?_eq_getElem hd]
  rfl
theorem BRow.new (w : World) (e : TypeId) (s : ByteArray) : BRow (Lib.bytesWorld w e s) w.heap.size (bytesOf s) := by
  refine ⟨_, _, _, Lib.bytesWorld_at_new w e s, ?_, fun i hi => ?_⟩
  · show (bytesOf s).length ≤ (Lib.bytesCells w e s).size
    rw [bytesOf_len]
    unfold Lib.bytesCells
    rw [Array.size_append, Array.size_map]
    exact Nat.le_add_right _ _
  · rw [bytesOf_len] at hi
    have h1 := Lib.bytesWorld_cell w e s i hi
    rw [cell_of_row _ _ _ _ _ _ (Lib.bytesWorld_at_new w e s)] at h1
    rw [h1, bytesOf_getD _ _ hi]
theorem below_bytesWorld {w0 w : World} {B : Nat} (h : Below B w0 w) (hB : B ≤ w.heap.size) (e : TypeId) (s : ByteArray) : Below B w0 (Lib.bytesWorld w e s) :=
  h.trans ⟨rfl, rfl, rfl, by rw [Lib.bytesWorld_size]; omega, fun k hk => Lib.bytesWorld_at_old w e s k (by omega)⟩
def paintN : Nat → Nat → List Int → List Int
  | _, 0, b => b
  | p, n + 1, b => paintN (p + 1) n (b.set p 35)
def viewTo (y : Int) : List S68 → Nat → List Int → List Int
  | [], _, b => b
  | r :: l, p, b => viewTo y l (p + r.f1.toNat) (if (Go.bits .andNot .u64 r.f0 y == 0) = true then b else paintN p r.f1.toNat b)
def strip_View.f (k : Nat) (a0_0 : ByteArray) (l0_1 : List S68) (a1 : Int) : Option (ByteArray × Int) :=
  (strip_Good.f k a0_0 l0_1).bind fun t => if t = true then (if (∀ r ∈ l0_1, 0 ≤ r.f1) ∧ (bytes l0_1).length ≤ a0_0.size ∧ a0_0.size ≤ 1000000 then some (strOfNums (viewTo a1 l0_1 0 (bytesOf a0_0)), 0) else none) else some ((⟨#[]⟩ : ByteArray), 2)
set_option maxHeartbeats 4000000 in
set_option maxRecDepth 100000 in
theorem strip_View.calls (k : Nat) (a0_0 : ByteArray) (A0_1 : Option Addr) (c0_1 : Nat) (l0_1 : List S68) (a1 : Int) (r1 : ByteArray) (r2 : Int) (w : World) (hr0_1 : Kd.C k68 w A0_1 l0_1.length l0_1) (hc0_1 : l0_1.length ≤ c0_1) (h : strip_View.f k a0_0 l0_1 a1 = some (r1, r2)) :
    Calls Tryz.prog 71 #[.agg #[.string a0_0, .slice A0_1 l0_1.length c0_1], .int .u64 a1] w fun e w' => e = .returned (.tuple #[.string r1, .int .i64 r2]) ∧ Below w.heap.size w w' := by
  have hu51 := Tryz.underlying24
  have hu100 := Tryz.underlying68
  unfold strip_View.f at h
  obtain ⟨t, ht, h⟩ := Option.bind_eq_some_iff.1 h
  have HC := aM (fun W (hw : Below w.heap.size w W) => strip_Good.calls k a0_0 A0_1 c0_1 l0_1 t W (cB_ hr0_1 hw) hc0_1 ht)
  have HR := aM hr0_1
  clear hr0_1 ht
  cases t with
  | false =>
    simp only [Bool.false_eq_true, if_false, Option.some.injEq, Prod.mk.injEq] at h
    obtain ⟨rfl, rfl⟩ := h
    go_enter Tryz.func71, Tryz.ntmps71
    go_wp2_with fail
    refine (HC.out _ ((Below.refl _ _).alloc (Nat.le_refl _) _)).mono ?_
    rintro e w1 ⟨rfl, hb⟩
    have HB := aM hb
    clear hb
    go_wp2
    go_ret2
    exact ⟨rfl, ((Below.refl _ _).alloc (Nat.le_refl _) _).trans (HB.out.mono (by simp))⟩
  | true =>
    simp only [if_true] at h
    by_cases hg : (∀ r ∈ l0_1, 0 ≤ r.f1) ∧ (bytes l0_1).length ≤ a0_0.size ∧ a0_0.size ≤ 1000000
    case neg => rw [if_neg hg] at h; cases h
    rw [if_pos hg] at h
    simp only [Option.some.injEq, Prod.mk.injEq] at h
    obtain ⟨rfl, rfl⟩ := h
    have HG := aM hg
    clear hg
    have hmax : l0_1.length ≤ 9223372036854775807 := HR.out.2.1
    go_enter Tryz.func71, Tryz.ntmps71
    go_wp2_with fail
    refine (HC.out _ ((Below.refl _ _).alloc (Nat.le_refl _) _)).mono ?_
    rintro e w1 ⟨rfl, hb⟩
    have hbx := bB (blk_new w (.cells #[.string a0_0, .slice A0_1 l0_1.length c0_1] 24)) hb
    have hlt := blk_lt hbx
    have hc0 : w1.cell? ⟨w.heap.size, 0, none⟩ = some (.string a0_0) := (bC hbx 0).trans rfl
    have hc1 : (Lib.bytesWorld w1 5 a0_0).cell? ⟨w.heap.size, 1, none⟩ = some (.slice A0_1 l0_1.length c0_1) := (Lib.bytesWorld_old w1 5 a0_0 _ hlt).trans ((bC hbx 1).trans rfl)
    have HB := aM (below_bytesWorld (((Below.refl w.heap.size w).alloc (Nat.le_refl _) _).trans (hb.mono (by simp))) (by omega) 5 a0_0)
    have hcv := Lib.run_convert_string_bytes (P := Tryz.prog) w1 9 111 5 a0_0 Tryz.underlying9 Tryz.underlying111 Tryz.underlying5
    have HN := aM (BRow.new w1 5 a0_0)
    have hg0 : w.heap.size < w1.heap.size := hlt
    generalize grownCap w1 a0_0.size 0 5 = cap at hcv
    generalize Lib.bytesWorld w1 5 a0_0 = w2 at hc1 HB hcv HN
    generalize w1.heap.size = g at hcv HN hg0
    have HBL := aM (bytesOf_len a0_0)
    have hsz : a0_0.size ≤ 1000000 := HG.out.2.2
    clear hb hbx h hlt
    go_wp2
    go_loopw [7, 20] (fun p i wr => ∃ (k : Nat) (pz : Nat) (b : List Int), k ≤ l0_1.length ∧ i = .int .i64 k ∧ p = .int .i64 pz ∧ Aside0 (BRow wr g b) ∧ Aside0 (b.length = a0_0.size) ∧ Aside0 (Below w.heap.size w wr) ∧ Aside0 (g < wr.heap.size) ∧ Aside0 (pz + (bytes (l0_1.drop k)).length ≤ a0_0.size) ∧ Aside0 (viewTo a1 (l0_1.drop k) pz b = viewTo a1 l0_1 0 (bytesOf a0_0))) (fun _ i _ => l0_1.length - (intOf i).toNat)
    case atStart => exact ⟨0, 0, bytesOf a0_0, Nat.zero_le _, rfl, rfl, HN, HBL, HB, ⟨HN.out.lt⟩, ⟨by have := HG.out.2.1; simpa using this⟩, ⟨rfl⟩⟩
    case round =>
      obtain ⟨k, pz, b, hk, rfl, rfl, HN, HLN, HB, HGL, HP, HE⟩ := hrel
      by_cases hlt : k < l0_1.length
      · obtain ⟨ad, rfl, hx0, hx1⟩ := at_T68 HR.out (k : Int) (by omega) (by omega)
        replace hx0 := (HB.out.cell (World.block_lt_of_cell? w _ hx0)).trans hx0
        replace hx1 := (HB.out.cell (World.block_lt_of_cell? w _ hx1)).trans hx1
        simp only [Int.toNat_natCast] at hx0 hx1
        have hdr : l0_1.drop k = rd_T68 l0_1 (k : Int) :: l0_1.drop (k + 1) := by
          rw [List.drop_eq_getElem_cons hlt]; unfold rd_T68; rw [Int.toNat_natCast, List.getD_eq_getElem?_getD, List.getElem?_eq_getElem hlt]; rfl
        have hnn : 0 ≤ (rd_T68 l0_1 (k : Int)).f1 := HG.out.1 _ (List.mem_of_mem_drop (by rw [hdr]; exact List.mem_cons_self))
        have hp1 := HP.out
        have he1 := HE.out
        rw [hdr] at hp1 he1
        rw [bytes_cons, List.length_append, List.length_replicate] at hp1
        simp only [viewTo] at he1
        generalize (rd_T68 l0_1 (k : Int)).f0 = e0 at *
        generalize (rd_T68 l0_1 (k : Int)).f1 = e1 at *
        obtain ⟨n, rfl⟩ := Int.eq_ofNat_of_zero_le hnn
        rw [Int.toNat_natCast] at hp1 he1
        rw [← Nat.add_assoc] at hp1
        obtain ⟨m, hm⟩ : ∃ m, pz + n = m := ⟨_, rfl⟩
        rw [hm] at hp1 he1
        have hwr : wrap64 ((pz : Int) + (n : Int)) = (m : Int) := by unfold wrap64; omega
        have HBEL := aM (fun W => label_Below.calls e0 a1 (Go.bits .andNot .u64 e0 a1 == 0) W rfl)
        have HP1 := aM hp1
        have HM := aM hm
        clear hp1 hm hdr hnn HP HE
        by_cases hbel : (Go.bits .andNot .u64 e0 a1 == 0) = true
        · rw [if_pos hbel] at he1
          have HE1 := aM he1
          clear he1
          go_wp2_with ((with_reducible refine (HBEL.out _).mono ?_); rintro e w3 ⟨rfl, hd⟩; obtain ⟨⟨nq, rfl⟩⟩ := hd)
          go_roundw
          case rel => exact ⟨k + 1, m, b, by omega, by go_num, by first | rfl | (rw [hwr]), ⟨(HN.out.alloc _).drewN nq⟩, HLN, ⟨pw_below_drewN (HB.out.alloc HB.out.size _) nq⟩, ⟨by have := HGL.out; show g < (wr.alloc _).heap.size; simp; omega⟩, HP1, HE1⟩
          case measure => simp [intOf]; omega
        · have hbel' : (Go.bits .andNot .u64 e0 a1 == 0) = false := by simpa using hbel
          rw [if_neg hbel] at he1
          have HE1 := aM he1
          clear he1 hbel
          go_wp2_with ((with_reducible refine (HBEL.out _).mono ?_); rintro e w3 ⟨rfl, hd⟩; obtain ⟨⟨nq, rfl⟩⟩ := hd)
          have hcb : ((wr.alloc (.cells #[.int .u64 e0, .int .i64 (n : Int)] 68)).drewN nq).cell? ⟨wr.heap.size, 1, none⟩ = some (.int .i64 (n : Int)) := bC (blk_drewN (blk_new wr (.cells #[.int .u64 e0, .int .i64 (n : Int)] 68)) nq) 1
          have HCB := aM hcb
          have HN2 := aM ((HN.out.alloc (.cells #[.int .u64 e0, .int .i64 (n : Int)] 68)).drewN nq)
          have HB2 := aM (pw_below_drewN (HB.out.alloc HB.out.size (.cells #[.int .u64 e0, .int .i64 (n : Int)] 68)) nq)
          have HS2 := aM (show wr.heap.size < ((wr.alloc (.cells #[.int .u64 e0, .int .i64 (n : Int)] 68)).drewN nq).heap.size by show wr.heap.size < (wr.alloc _).heap.size; simp)
          have hgb : ¬ g = wr.heap.size := by have := HGL.out; omega
          generalize (wr.alloc (.cells #[.int .u64 e0, .int .i64 (n : Int)] 68)).drewN nq = w4 at HCB HN2 HB2 HS2 ⊢
          clear hcb
          generalize wr.heap.size = gb at HCB HS2 hgb ⊢
          go_loopw [10] (fun i wi => ∃ (q : Nat) (b' : List Int), q ≤ m ∧ i = .int .i64 q ∧ Aside0 (pz ≤ q) ∧ Aside0 (BRow wi g b') ∧ Aside0 (b'.length = a0_0.size) ∧ Aside0 (Below w.heap.size w wi) ∧ Aside0 (gb < wi.heap.size) ∧ Aside0 (wi.cell? ⟨gb, 1, none⟩ = some (.int .i64 (n : Int))) ∧ Aside0 (paintN q (m - q) b' = paintN pz n b)) (fun i _ => m - (intOf i).toNat)
          case atStart => exact ⟨pz, b, by have := HM.out; omega, rfl, ⟨Nat.le_refl _⟩, HN2, HLN, HB2, HS2, HCB, ⟨by have := HM.out; rw [show m - pz = n by omega]⟩⟩
          case round =>
            obtain ⟨q, b', hq, rfl, HQ, HN3, HLN3, HB3, HS3, HCB3, HE3⟩ := hrel
            have hcb3 := HCB3.out
            by_cases hqm : q < m
            · have hqs : q < b'.length := by have := HLN3.out; have := HP1.out; omega
              have hcq := HN3.out.cell hqs
              have hfq := HN3.out.frozen hqs
              have hqa : q < a0_0.size := by have := HLN3.out; omega
              have HNS := aM (HN3.out.set hqs 35)
              have HLS := aM (show (b'.set q 35).length = a0_0.size by rw [List.length_set]; exact HLN3.out)
              have HBS := aM (HB3.out.setCell (p := ⟨g, q, none⟩) (Nat.le_of_lt hg0) (.int .u8 35))
              have hce := cell_far (W := wr) (p := ⟨g, q, none⟩) (a := ⟨gb, 1, none⟩) (fun e => hgb (Eq.symm e)) (.int .u8 35)
              have HCS := aM (hce.trans HCB3.out)
              have HES := aM (show paintN (q + 1) (m - (q + 1)) (b'.set q 35) = paintN pz n b by
                have := HE3.out; rw [show m - q = (m - (q + 1)) + 1 by omega] at this; simpa only [paintN] using this)
              clear hce
              clear hqs
              go_wp2
              go_roundw
              case rel => exact ⟨q + 1, _, by omega, by go_num, ⟨by have := HQ.out; omega⟩, HNS, HLS, HBS, ⟨by have := HS3.out; simpa [World.setCell] using this⟩, HCS, HES⟩
              case measure => simp [intOf]; omega
            · have hqe : q = m := by omega
              subst hqe
              go_wp2
              go_roundw
              case rel => exact ⟨k + 1, q, b', by omega, by go_num, by first | rfl | (rw [hwr]), HN3, HLN3, HB3, ⟨HN3.out.lt⟩, HP1, ⟨by have := HE3.out; rw [Nat.sub_self] at this; simp only [paintN] at this; rw [this]; exact HE1.out⟩⟩
              case measure => simp [intOf]; omega
      · have hkl : k = l0_1.length := by omega
        subst hkl
        have he1 := HE.out
        rw [List.drop_length] at he1
        simp only [viewTo] at he1
        subst he1
        have hcs := string_of_reads (P := Tryz.prog) (src := 111) (dst := 9) (e := 5) (c := cap) Tryz.underlying111 Tryz.underlying5 Tryz.underlying9 (HN.out.reads (by have := HLN.out; omega))
        rw [HLN.out] at hcs
        go_wp2
        go_ret2
        exact ⟨rfl, HB.out⟩
end Go.Proofs.YtjkfkiebhgkolaaGreatDoor.PB
end

section
namespace Go.Proofs.YtjkfkiebhgkolaaGreatDoor.PB
open Go.RowKit Go.Proofs.YtjkfkiebhgkolaaGreatDoorW.PrintWords
set_option linter.unusedVariables false
def seen (x y : Int) : Bool := Go.bits .andNot .u64 x y == 0
def hide (y x c : Int) : Int := if seen x y = true then c else 35
def hideAll (y : Int) (L B : List Int) : List Int := List.zipWith (hide y) L B
theorem hideAll_len (y : Int) (L B : List Int) : (hideAll y L B).length = min L.length B.length := List.length_zipWith
theorem paintN_app : ∀ (n : Nat) (P B : List Int), n ≤ B.length → paintN P.length n (P ++ B) = P ++ (List.replicate n 35 ++ B.drop n)
 | 0, P, B, _ => by simp [paintN]
 | n + 1, P, [], h => by simp at h
 | n + 1, P, b :: B, h => by
  have := paintN_app n (P ++ [35]) B (by simpa using h)
  rw [List.length_append, List.length_singleton] at this
  simp only [paintN]
  rw [show (P ++ b :: B).set P.length 35 = P ++ [35] ++ B by simp, this]
  simp [List.replicate_succ]
theorem hide_rep (y x : Int) : ∀ (n : Nat) (B : List Int), n ≤ B.length → List.zipWith (hide y) (List.replicate n x) (B.take n) = if seen x y = true then B.take n else List.replicate n 35
 | 0, B, _ => by simp
 | n + 1, [], h => by simp at h
 | n + 1, b :: B, h => by
  rw [List.replicate_succ, List.take_succ_cons, List.zipWith_cons_cons, hide_rep y x n B (by simpa using h)]
  unfold hide
  by_cases hs : seen x y = true
  ·rw [if_pos hs, if_pos hs, if_pos hs]
  ·rw [if_neg hs, if_neg hs, if_neg hs, List.replicate_succ]
theorem viewTo_app (y : Int) : ∀ (l : List S68) (P B : List Int), B.length = (bytes l).length → viewTo y l P.length (P ++ B) = P ++ hideAll y (bytes l) B
 | [], P, B, h => by
  have : B = [] := List.eq_nil_of_length_eq_zero (by simpa [bytes] using h)
  subst this
  simp [viewTo, hideAll, bytes]
 | r :: l, P, B, h => by
  rw [bytes_cons, List.length_append, List.length_replicate] at h
  have hn : r.f1.toNat ≤ B.length := by omega
  have hz : hideAll y (bytes (r :: l)) B = List.zipWith (hide y) (List.replicate r.f1.toNat r.f0) (B.take r.f1.toNat) ++ hideAll y (bytes l) (B.drop r.f1.toNat) := by
   unfold hideAll
   rw [bytes_cons]
   conv => lhs; rw [← List.take_append_drop r.f1.toNat B]
   rw [List.zipWith_append]
   rw [List.length_replicate, List.length_take]
   omega
  rw [hz, hide_rep _ _ _ _ hn]
  simp only [viewTo]
  by_cases hs : seen r.f0 y = true
  ·rw [if_pos (show (Go.bits .andNot .u64 r.f0 y == 0) = true from hs), if_pos hs]
   have := viewTo_app y l (P ++ B.take r.f1.toNat) (B.drop r.f1.toNat) (by rw [List.length_drop]; omega)
   rw [List.length_append, List.length_take, show min r.f1.toNat B.length = r.f1.toNat by omega, List.append_assoc, List.take_append_drop, List.append_assoc] at this
   exact this
  ·rw [if_neg (show ¬ (Go.bits .andNot .u64 r.f0 y == 0) = true from hs), if_neg hs, paintN_app _ _ _ hn]
   have := viewTo_app y l (P ++ List.replicate r.f1.toNat 35) (B.drop r.f1.toNat) (by rw [List.length_drop]; omega)
   rw [List.length_append, List.length_replicate, List.append_assoc, List.append_assoc] at this
   exact this
def viewS (s : ByteArray) (l : List S68) (y : Int) : ByteArray × Int := if goodT s l = true then (strOfNums (hideAll y (bytes l) (bytesOf s)), 0) else (⟨#[]⟩, 2)
theorem view_ev (s : ByteArray) (l : List S68) (hl : l.length ≤ big) (y : Int) : Ev (fun k => strip_View.f k s l y) (viewS s l y) := by
 unfold strip_View.f viewS
 refine Ev.bind (goodT_ev s l hl) ?_
 refine Ev.ite (fun hg => ?_) (fun _ => Ev.now _)
 obtain ⟨g1, g2, g3, g4, g5⟩ := goodT_facts hg
 refine Ev.pos ⟨nrm_nonneg g2, by omega, by omega⟩ (ev_val (Ev.now _) ?_)
 have := viewTo_app y l [] (bytesOf s) (by rw [bytesOf_len, g3])
 simp only [List.length_nil, List.nil_append] at this
 rw [this]
theorem bt_bytesOf (s : ByteArray) (i : Nat) (hi : i < s.size) : (bytesOf s).getD i 0 = bt s (i : Int) := by
 rw [bytesOf_getD s i hi]
 unfold bt
 rw [dif_pos (show ((i : Int).toNat) < s.size by rw [Int.toNat_natCast]; exact hi)]
 have hd : i < s.data.toList.length := by rw [Array.length_toList]; exact hi
 rw [List.getD_eq_getElem?_getD, List.getElem?_eq_getElem hd]
 rfl
theorem strOf_bt (xs : List Int) (i : Nat) (hi : i < xs.length) (hr : 0 ≤ xs.getD i 0 ∧ xs.getD i 0 ≤ 255) : bt (strOfNums xs) (i : Int) = xs.getD i 0 := by
 have hs : i < (strOfNums xs).size := by rw [strOfNums_size]; exact hi
 rw [← bt_bytesOf _ _ hs, bytesOf_getD _ _ hs, strOfNums_data]
 have hg : xs.getD i 0 = xs[i] := by rw [List.getD_eq_getElem?_getD, List.getElem?_eq_getElem hi]; rfl
 rw [hg] at hr ⊢
 rw [List.getD_eq_getElem?_getD, List.getElem?_map, List.getElem?_eq_getElem hi]
 simp only [Option.map_some, Option.getD_some]
 rw [UInt8.toNat_ofNat']
 omega
theorem strOf_inj {xs ys : List Int} (hx : ∀ x ∈ xs, 0 ≤ x ∧ x ≤ 255) (hy : ∀ x ∈ ys, 0 ≤ x ∧ x ≤ 255) (h : strOfNums xs = strOfNums ys) : xs = ys := by
 have h1 : xs.length = ys.length := by rw [← strOfNums_size, ← strOfNums_size, h]
 apply List.ext_getElem? 
 intro i
 by_cases hi : i < xs.length
 ·have hg : ∀ (zs : List Int), i < zs.length → zs[i]? = some (zs.getD i 0) := fun zs hz => by rw [List.getD_eq_getElem?_getD, List.getElem?_eq_getElem hz]; rfl
  have hm : ∀ (zs : List Int), i < zs.length → zs.getD i 0 ∈ zs := fun zs hz => by rw [List.getD_eq_getElem?_getD, List.getElem?_eq_getElem hz]; exact List.getElem_mem hz
  rw [hg xs hi, hg ys (by omega), ← strOf_bt xs i hi (hx _ (hm xs hi)), ← strOf_bt ys i (by omega) (hy _ (hm ys (by omega))), h]
 ·rw [List.getElem?_eq_none (by omega), List.getElem?_eq_none (by omega)]
end Go.Proofs.YtjkfkiebhgkolaaGreatDoor.PB
end

section
namespace Go.Proofs.YtjkfkiebhgkolaaGreatDoor.PB
open Go.RowKit Go.Proofs.YtjkfkiebhgkolaaGreatDoorW.PrintWords
set_option linter.unusedVariables false
theorem len_big {n : Nat} (h : n ≤ 20000) : n ≤ big := by unfold big; omega
end Go.Proofs.YtjkfkiebhgkolaaGreatDoor.PB
end

section
namespace Go.Proofs.YtjkfkiebhgkolaaGreatDoor.PB
open Go.RowKit Go.Proofs.YtjkfkiebhgkolaaGreatDoorW.PrintWords Go.Proofs.YtjkfkiebhgkolaaGreatDoorW.PrintLast Go.Proofs.YtjkfkiebhgkolaaGreatDoorW.PrintMore
set_option linter.unusedVariables false
set_option linter.unusedSimpArgs false
def edit_own.f (a0_0 : ByteArray) (l0_1 : List S68) : Option (ByteArray × List S68) := if l0_1.length * 16 ≤ 140737488355328 then some (a0_0, l0_1) else none
set_option maxHeartbeats 4000000 in
set_option maxRecDepth 100000 in
theorem edit_own.calls (a0_0 : ByteArray) (A0_1 : Option Addr) (c0_1 : Nat) (l0_1 : List S68) (r1 : ByteArray) (r2 : List S68) (w : World) (hr0_1 : Kd.C k68 w A0_1 l0_1.length l0_1) (hc0_1 : l0_1.length ≤ c0_1) (h : edit_own.f a0_0 l0_1 = some (r1, r2)) :
    Calls Tryz.prog 148 #[.agg #[.string a0_0, .slice A0_1 l0_1.length c0_1]] w fun e w' => ∃ v1_ : Value, e = .returned (.agg #[.string r1, v1_]) ∧ Kd.R k68 68 w' w.heap.size (fun _ => True) v1_ r2 ∧ Below w.heap.size w w' := by
  have hu24 := Tryz.underlying24
  unfold edit_own.f at h
  by_cases hl : l0_1.length * 16 ≤ 140737488355328
  case neg => rw [if_neg hl] at h; cases h
  rw [if_pos hl] at h
  simp only [Option.some.injEq, Prod.mk.injEq] at h
  obtain ⟨rfl, rfl⟩ := h
  have HR := aM hr0_1
  have HL := aM hl
  clear hr0_1 hl
  have HB := aM (Below.refl w.heap.size w)
  go_enter Tryz.func148, Tryz.ntmps148
  go_wp2_with fail
  have BK1 := aM (blk_drew (blk_alloc (blk_new w (.cells #[.string a0_0, .slice A0_1 l0_1.length c0_1] 24)) (.cells #[.string (⟨#[]⟩ : ByteArray), .slice none 0 0] 24)))
  have BK2 := aM (blk_drew (blk_new (w.alloc (.cells #[.string a0_0, .slice A0_1 l0_1.length c0_1] 24)) (.cells #[.string (⟨#[]⟩ : ByteArray), .slice none 0 0] 24)))
  have HB2 := aM (((((Below.refl w.heap.size w).alloc (Nat.le_refl _) (.cells #[.string a0_0, .slice A0_1 l0_1.length c0_1] 24)).alloc (by simp) (.cells #[.string (⟨#[]⟩ : ByteArray), .slice none 0 0] 24))).drew)
  rw [show (w.alloc (.cells #[.string a0_0, .slice A0_1 l0_1.length c0_1] 24)).heap.size = w.heap.size + 1 by simp] at BK2
  refine start_ (n := 7) (S := fun w' => w'.cell? ⟨w.heap.size, 0, none⟩ = some (.string a0_0) ∧ w'.cell? ⟨w.heap.size, 1, none⟩ = some (.slice A0_1 l0_1.length c0_1)) (ds := [6]) #[false, false, false, false, false, false, false] (by kernel_rfl) rfl rfl ⟨(bC BK1.out 0).trans rfl, (bC BK1.out 1).trans rfl⟩ (fun hHeld => ?_)
  generalize ((w.alloc (.cells #[.string a0_0, .slice A0_1 l0_1.length c0_1] 24)).alloc (.cells #[.string (⟨#[]⟩ : ByteArray), .slice none 0 0] 24)).drew = w2 at BK1 BK2 HB2 hHeld ⊢
  refine pure_ (i := 0) (N := some 3) (v := ?_) (a' := ?_) #[true, false, false, false, false, false, false] rfl rfl (by kernel_rfl) (fun _ _ _ h => h) (Or.inl ⟨by rfl, ?_⟩) ?_ ?_
  rotate_left
  · intro w'
    go_simp
    with_reducible rfl
  rotate_left
  · simp only [Act.put, List.setIfInBounds_toArray, List.set_cons_zero, List.set_cons_succ]
    rfl
  refine pure_ (i := 2) (N := some 5) (v := ?_) (a' := ?_) #[true, false, true, false, false, false, false] rfl rfl (by kernel_rfl) (fun _ _ _ h => h) (Or.inl ⟨by rfl, ?_⟩) ?_ ?_
  rotate_left
  · intro w'
    go_simp
    with_reducible rfl
  rotate_left
  · simp only [Act.put, List.setIfInBounds_toArray, List.set_cons_zero, List.set_cons_succ]
    rfl
  refine take_ (i := 1) (N := some 4) (v := ?_) (a' := ?_) #[true, true, true, false, false, false, false] rfl rfl (by kernel_rfl) (fun _ _ _ h => h) (Or.inl ⟨by rfl, ?_⟩) hHeld ?_ ?_
  rotate_left
  · rintro w' ⟨s0, s1⟩
    go_simp
    with_reducible rfl
  rotate_left
  · simp only [Act.put, List.setIfInBounds_toArray, List.set_cons_zero, List.set_cons_succ]
    rfl
  refine take_ (i := 3) (N := some 6) (v := ?_) (a' := ?_) #[true, true, true, true, false, false, false] rfl rfl (by kernel_rfl) (fun _ _ _ h => h) (Or.inl ⟨by rfl, ?_⟩) hHeld ?_ ?_
  rotate_left
  · rintro w' ⟨s0, s1⟩
    go_simp
    with_reducible rfl
  rotate_left
  · simp only [Act.put, List.setIfInBounds_toArray, List.set_cons_zero, List.set_cons_succ]
    rfl
  refine one_ (i := 4) (N := some 7) #[true, true, true, true, true, false, false] rfl rfl (by kernel_rfl) (by decide) (fun K hK => ?_)
  refine Kd.R_append_rows_step k68 (w0 := w) w.heap.size (by rfl) (.const (.slice none 0 0)) (.tmp 6) 22 68 (.agg #[(.int .u64 0), (.int .i64 0)]) 16 rfl Tryz.underlying22 info68 rfl (by decide) (by omega) (.slice none 0 0) [] l0_1 A0_1 l0_1.length c0_1 (fun _ => True) (fun _ => False) rfl rfl (Kd.R_nil _ _ _ _ _) (cB_ HR.out HB2.out) (fun x cs h => by rw [k68_open h]; exact k68_mkM _ _ _ x) (fun _ h => h.elim) (fun _ _ => trivial) HB2.out HB2.out.size (by simpa using HL.out) ?_
  intro v1 w3 ho hb hg1 hat
  rw [List.nil_append] at ho
  have BK3 := aM (blk_grown BK1.out hg1 (by simp [Value.ownBlock]))
  have BK4 := aM (blk_grown BK2.out hg1 (by simp [Value.ownBlock]))
  have HO := aM ho
  have HB3 := aM hb
  obtain ⟨A1, c1, rfl⟩ := Kd.R_slice ho
  clear ho hb hg1 hat
  refine hK.out _ _ ⟨(bC BK3.out 0).trans rfl, (bC BK3.out 1).trans rfl⟩ (fun hHeld => ?_)
  clear hK K
  refine norm_ (a' := ?_) ?_ ?_
  rotate_left
  · show Act.put _ (some 7) _ = _
    simp only [Act.put, List.setIfInBounds_toArray, List.set_cons_zero, List.set_cons_succ]
    rfl
  refine pure_ (i := 5) (N := some 8) (v := ?_) (a' := ?_) #[true, true, true, true, true, true, false] rfl rfl (by kernel_rfl) (fun _ _ _ h => h) (Or.inl ⟨by rfl, ?_⟩) ?_ ?_
  rotate_left
  · intro w'
    go_simp
    with_reducible rfl
  rotate_left
  · simp only [Act.put, List.setIfInBounds_toArray, List.set_cons_zero, List.set_cons_succ]
    rfl
  refine last_ (i := 6) (N := none) #[true, true, true, true, true, true, true] rfl rfl (by kernel_rfl) (by decide) (fun K hK => ?_)
  have hs0 : w3.cell? ⟨w.heap.size + 1, 0, none⟩ = some (.string (⟨#[]⟩ : ByteArray)) := (bC BK4.out 0).trans rfl
  have hf0 := bF BK4.out 0
  have hs1 : w3.cell? ⟨w.heap.size + 1, 1, none⟩ = some (.slice none 0 0) := (bC BK4.out 1).trans rfl
  have hf1 := bF BK4.out 1
  refine skip_ (w1 := ?_) (by rfl) rfl ?_ ?_
  rotate_left
  · go_simp
    rfl
  refine hK.out _ _ (done_ (by kernel_rfl) ?_)
  clear hK K
  go_wp2
  refine bodyPost_ret (results_cell_row rfl _ _ (w.heap.size + 1) 24 #[.string a0_0, .slice A1 l0_1.length c1] (0, 0) _ rfl (bU (cs := #[.string a0_0, .slice none 0 0]) (bU (cs := #[.string (⟨#[]⟩ : ByteArray), .slice none 0 0]) BK4.out 0 _ rfl) 1 _ rfl) Tryz.underlying24 rfl (by kernel_rfl)) rfl ?_
  exact ⟨_, rfl, rM (rF (p := ⟨w.heap.size + 1, 1, none⟩) (rF (p := ⟨w.heap.size + 1, 0, none⟩) (rT HO.out BK4.out (by decide)) (fun _ hk => hk.2) (.string a0_0)) (fun _ hk => hk.2) _) (fun _ hk => hk.1), (HB3.out.setCell (Nat.le_succ _) _).setCell (Nat.le_succ _) _⟩
end Go.Proofs.YtjkfkiebhgkolaaGreatDoor.PB
end

section
namespace Go.Proofs.YtjkfkiebhgkolaaGreatDoor.PB
open Go.RowKit Go.Proofs.YtjkfkiebhgkolaaGreatDoorW.PrintWords Go.Proofs.YtjkfkiebhgkolaaGreatDoorW.PrintLast Go.Proofs.YtjkfkiebhgkolaaGreatDoorW.PrintMore
attribute [local go_sem] max2_int min2_int max_two min_two max_three min_three max_four min_four   
set_option linter.unusedVariables false
set_option linter.unusedSimpArgs false
def edit_good.f (k : Nat) (a0_0 : Int) (a0_1 : ByteArray) (l0_2 : List (S68)) (a0_3 : ByteArray) (l0_4 : List (S68)) : Option (Bool) := (strip_Good.f k a0_1 l0_2).bind fun t151 => (if t151 = true then ((strip_Good.f k a0_3 l0_4).bind fun t152 => (if t152 = true then (if a0_0 ≥ 0 then (some (decide (a0_0 ≤ 4096))) else (some false)) else (some false))) else (some false))
set_option maxHeartbeats 8000000 in
set_option maxRecDepth 100000 in
theorem edit_good.calls (k : Nat) (a0_0 : Int) (a0_1 : ByteArray) (A0_2 : Option Addr) (c0_2 : Nat) (l0_2 : List (S68)) (a0_3 : ByteArray) (A0_4 : Option Addr) (c0_4 : Nat) (l0_4 : List (S68)) (r : Bool) (w : World) (hr0_2 : Kd.C k68 w A0_2 l0_2.length l0_2) (hc0_2 : l0_2.length ≤ c0_2) (hr0_4 : Kd.C k68 w A0_4 l0_4.length l0_4) (hc0_4 : l0_4.length ≤ c0_4) (h : edit_good.f k a0_0 a0_1 l0_2 a0_3 l0_4 = some r) :
  Calls Tryz.prog 149 #[.agg #[.int .i64 a0_0, .string a0_1, .slice A0_2 l0_2.length c0_2, .string a0_3, .slice A0_4 l0_4.length c0_4]] w fun e w' => e = .returned (.bool r) ∧ Below w.heap.size w w' := by
 have hu36 := Tryz.underlying36
 have hu24 := Tryz.underlying24
 have HR0_2 := aM hr0_2
 have HC0_2 := aM hc0_2
 clear hr0_2 hc0_2
 have HR0_4 := aM hr0_4
 have HC0_4 := aM hc0_4
 clear hr0_4 hc0_4
 have HB := aM (Below.refl w.heap.size w)
 have H : ((strip_Good.f k a0_1 l0_2).bind fun t151 => (if t151 = true then ((strip_Good.f k a0_3 l0_4).bind fun t152 => (if t152 = true then (if a0_0 ≥ 0 then (some (decide (a0_0 ≤ 4096))) else (some false)) else (some false))) else (some false))) = some r := h
 clear h
 replace H := Option.bind_eq_some_iff.mp H
 obtain ⟨t151, A20, H⟩ := H
 replace H : (if t151 = true then ((strip_Good.f k a0_3 l0_4).bind fun t152 => (if t152 = true then (if a0_0 ≥ 0 then (some (decide (a0_0 ≤ 4096))) else (some false)) else (some false))) else (some false)) = some r := H
 have A2 := aM A20
 clear A20
 by_cases c3 : t151 = true
 ·subst c3
  have H1 : ((strip_Good.f k a0_3 l0_4).bind fun t152 => (if t152 = true then (if a0_0 ≥ 0 then (some (decide (a0_0 ≤ 4096))) else (some false)) else (some false))) = some r := by rw [if_pos rfl] at H; exact H
  clear H
  have H := H1
  clear H1
  replace H := Option.bind_eq_some_iff.mp H
  obtain ⟨t152, A40, H⟩ := H
  replace H : (if t152 = true then (if a0_0 ≥ 0 then (some (decide (a0_0 ≤ 4096))) else (some false)) else (some false)) = some r := H
  have A4 := aM A40
  clear A40
  by_cases c5 : t152 = true
  ·subst c5
   have H1 : (if a0_0 ≥ 0 then (some (decide (a0_0 ≤ 4096))) else (some false)) = some r := by rw [if_pos rfl] at H; exact H
   clear H
   have H := H1
   clear H1
   by_cases c6 : a0_0 ≥ 0
   ·rw [if_pos c6] at H
    have c6b0 : decide (0 ≤ a0_0) = true := decide_eq_true c6
    clear c6
    obtain rfl := Option.some.inj H
    go_enter Tryz.func149, Tryz.ntmps149
    go_wp2_with (first | ((with_reducible refine gate_dst (N := 1) rfl ?_); refine box_event ?hg (N := 1) ?hd (cs := #[.int .i64 a0_0, .string a0_1, .slice A0_2 l0_2.length c0_2, .string a0_3, .slice A0_4 l0_4.length c0_4]) (t := 36) ?hr ?_; (case hd | hg => rfl); (case hr => first | (go_simp; done) | (go_simp; rfl)); intro gb150 hg w7 hbox hb; have n0_ := aM (bP (ey HB.out) hb); have n1_ := aM (hbox); have n2_ := aM ((by rw [hg]; exact (bZ (ey HB.out)) : w.heap.size ≤ gb150)); have n3_ := n2_; clear HB; have HB := n0_; have BK150 := n1_; have GW150 := n2_; have GE150 := n3_; clear n0_ n1_ n2_ n3_; clear hb hbox hg; have hcz8_0 := zC BK150.out 0 (.int .i64 a0_0); have hcz8_1 := zC BK150.out 1 (.string a0_1); have hcz8_2 := zC BK150.out 2 (.slice A0_2 l0_2.length c0_2); have hcz8_3 := zC BK150.out 3 (.string a0_3); have hcz8_4 := zC BK150.out 4 (.slice A0_4 l0_4.length c0_4); have hfz8_0 := bF BK150.out 0; have hfz8_1 := bF BK150.out 1; have hfz8_2 := bF BK150.out 2; have hfz8_3 := bF BK150.out 3; have hfz8_4 := bF BK150.out 4) | ((with_reducible refine gate_callee (f := 59) rfl ?_); refine goesL_ (some 5) rfl rfl Tryz.func59 (by kernel_rfl) rfl #[.agg #[.string a0_1, .slice A0_2 l0_2.length c0_2]] rfl (by (try simp only [mT, mC, mN]); first | done | rfl | (simp only [lD, lT]; rfl)) ?_; (with_reducible refine (strip_Good.calls k a0_1 _ _ l0_2 true _ ?side1 ?side2 A2.out).mono ?_); (case side1 => repeat (first | exact (cB_ HR0_2.out HB.out) | (with_reducible refine Kd.C_alloc ?_ _) | (with_reducible refine Kd.C_drewN ?_ _) | (with_reducible refine Kd.C_drew ?_))); (case side2 => exact HC0_2.out); rintro e w9 ⟨rfl, hb⟩; refine ⟨_, rfl, ?_⟩; have n0_ := aM (bB (g := gb150) (qy BK150.out) hb); have n1_ := aM (bP (by repeat (first | (with_reducible first | exact HB.out | apply ea | apply en | apply ed | refine es ?_ GE150.out) | exact HB.out)) hb); clear BK150 HB; have BK150 := n0_; have HB := n1_; clear n0_ n1_; (try clear hb); (try clear hb2); (try clear hk); (try clear hi); have hcz10_0 := zC BK150.out 0 (.int .i64 a0_0); have hcz10_1 := zC BK150.out 1 (.string a0_1); have hcz10_2 := zC BK150.out 2 (.slice A0_2 l0_2.length c0_2); have hcz10_3 := zC BK150.out 3 (.string a0_3); have hcz10_4 := zC BK150.out 4 (.slice A0_4 l0_4.length c0_4); have hfz10_0 := bF BK150.out 0; have hfz10_1 := bF BK150.out 1; have hfz10_2 := bF BK150.out 2; have hfz10_3 := bF BK150.out 3; have hfz10_4 := bF BK150.out 4) | (go_at_call 59; (with_reducible refine (strip_Good.calls k a0_3 _ _ l0_4 true _ ?side1 ?side2 A4.out).mono ?_); (case side1 => repeat (first | exact (cB_ HR0_4.out HB.out) | (with_reducible refine Kd.C_alloc ?_ _) | (with_reducible refine Kd.C_drewN ?_ _) | (with_reducible refine Kd.C_drew ?_))); (case side2 => exact HC0_4.out); rintro e w11 ⟨rfl, hb⟩; have n0_ := aM (bB (g := gb150) (qy BK150.out) hb); have n1_ := aM (bP (by repeat (first | (with_reducible first | exact HB.out | apply ea | apply en | apply ed | refine es ?_ GE150.out) | exact HB.out)) hb); clear BK150 HB; have BK150 := n0_; have HB := n1_; clear n0_ n1_; (try clear hb); (try clear hb2); (try clear hk); (try clear hi); have hcz12_0 := zC BK150.out 0 (.int .i64 a0_0); have hcz12_1 := zC BK150.out 1 (.string a0_1); have hcz12_2 := zC BK150.out 2 (.slice A0_2 l0_2.length c0_2); have hcz12_3 := zC BK150.out 3 (.string a0_3); have hcz12_4 := zC BK150.out 4 (.slice A0_4 l0_4.length c0_4); have hfz12_0 := bF BK150.out 0; have hfz12_1 := bF BK150.out 1; have hfz12_2 := bF BK150.out 2; have hfz12_3 := bF BK150.out 3; have hfz12_4 := bF BK150.out 4))
    go_ret
    exact ⟨by first | rfl | (simp [errW_none, errW_some] <;> rfl) | (simp [*, errW_none, errW_some] <;> rfl), by repeat (first | (with_reducible first | exact HB.out | apply ea | apply en | apply ed | refine es ?_ GE150.out) | exact HB.out)⟩
   ·rw [if_neg c6] at H
    have c6b0 : decide (0 ≤ a0_0) = false := decide_eq_false c6
    clear c6
    obtain rfl := Option.some.inj H
    go_enter Tryz.func149, Tryz.ntmps149
    go_wp2_with (first | ((with_reducible refine gate_dst (N := 1) rfl ?_); refine box_event ?hg (N := 1) ?hd (cs := #[.int .i64 a0_0, .string a0_1, .slice A0_2 l0_2.length c0_2, .string a0_3, .slice A0_4 l0_4.length c0_4]) (t := 36) ?hr ?_; (case hd | hg => rfl); (case hr => first | (go_simp; done) | (go_simp; rfl)); intro gb150 hg w13 hbox hb; have n0_ := aM (bP (ey HB.out) hb); have n1_ := aM (hbox); have n2_ := aM ((by rw [hg]; exact (bZ (ey HB.out)) : w.heap.size ≤ gb150)); have n3_ := n2_; clear HB; have HB := n0_; have BK150 := n1_; have GW150 := n2_; have GE150 := n3_; clear n0_ n1_ n2_ n3_; clear hb hbox hg; have hcz14_0 := zC BK150.out 0 (.int .i64 a0_0); have hcz14_1 := zC BK150.out 1 (.string a0_1); have hcz14_2 := zC BK150.out 2 (.slice A0_2 l0_2.length c0_2); have hcz14_3 := zC BK150.out 3 (.string a0_3); have hcz14_4 := zC BK150.out 4 (.slice A0_4 l0_4.length c0_4); have hfz14_0 := bF BK150.out 0; have hfz14_1 := bF BK150.out 1; have hfz14_2 := bF BK150.out 2; have hfz14_3 := bF BK150.out 3; have hfz14_4 := bF BK150.out 4) | ((with_reducible refine gate_callee (f := 59) rfl ?_); refine goesL_ (some 5) rfl rfl Tryz.func59 (by kernel_rfl) rfl #[.agg #[.string a0_1, .slice A0_2 l0_2.length c0_2]] rfl (by (try simp only [mT, mC, mN]); first | done | rfl | (simp only [lD, lT]; rfl)) ?_; (with_reducible refine (strip_Good.calls k a0_1 _ _ l0_2 true _ ?side1 ?side2 A2.out).mono ?_); (case side1 => repeat (first | exact (cB_ HR0_2.out HB.out) | (with_reducible refine Kd.C_alloc ?_ _) | (with_reducible refine Kd.C_drewN ?_ _) | (with_reducible refine Kd.C_drew ?_))); (case side2 => exact HC0_2.out); rintro e w15 ⟨rfl, hb⟩; refine ⟨_, rfl, ?_⟩; have n0_ := aM (bB (g := gb150) (qy BK150.out) hb); have n1_ := aM (bP (by repeat (first | (with_reducible first | exact HB.out | apply ea | apply en | apply ed | refine es ?_ GE150.out) | exact HB.out)) hb); clear BK150 HB; have BK150 := n0_; have HB := n1_; clear n0_ n1_; (try clear hb); (try clear hb2); (try clear hk); (try clear hi); have hcz16_0 := zC BK150.out 0 (.int .i64 a0_0); have hcz16_1 := zC BK150.out 1 (.string a0_1); have hcz16_2 := zC BK150.out 2 (.slice A0_2 l0_2.length c0_2); have hcz16_3 := zC BK150.out 3 (.string a0_3); have hcz16_4 := zC BK150.out 4 (.slice A0_4 l0_4.length c0_4); have hfz16_0 := bF BK150.out 0; have hfz16_1 := bF BK150.out 1; have hfz16_2 := bF BK150.out 2; have hfz16_3 := bF BK150.out 3; have hfz16_4 := bF BK150.out 4) | (go_at_call 59; (with_reducible refine (strip_Good.calls k a0_3 _ _ l0_4 true _ ?side1 ?side2 A4.out).mono ?_); (case side1 => repeat (first | exact (cB_ HR0_4.out HB.out) | (with_reducible refine Kd.C_alloc ?_ _) | (with_reducible refine Kd.C_drewN ?_ _) | (with_reducible refine Kd.C_drew ?_))); (case side2 => exact HC0_4.out); rintro e w17 ⟨rfl, hb⟩; have n0_ := aM (bB (g := gb150) (qy BK150.out) hb); have n1_ := aM (bP (by repeat (first | (with_reducible first | exact HB.out | apply ea | apply en | apply ed | refine es ?_ GE150.out) | exact HB.out)) hb); clear BK150 HB; have BK150 := n0_; have HB := n1_; clear n0_ n1_; (try clear hb); (try clear hb2); (try clear hk); (try clear hi); have hcz18_0 := zC BK150.out 0 (.int .i64 a0_0); have hcz18_1 := zC BK150.out 1 (.string a0_1); have hcz18_2 := zC BK150.out 2 (.slice A0_2 l0_2.length c0_2); have hcz18_3 := zC BK150.out 3 (.string a0_3); have hcz18_4 := zC BK150.out 4 (.slice A0_4 l0_4.length c0_4); have hfz18_0 := bF BK150.out 0; have hfz18_1 := bF BK150.out 1; have hfz18_2 := bF BK150.out 2; have hfz18_3 := bF BK150.out 3; have hfz18_4 := bF BK150.out 4))
    go_ret
    exact ⟨by first | rfl | (simp [errW_none, errW_some] <;> rfl) | (simp [*, errW_none, errW_some] <;> rfl), by repeat (first | (with_reducible first | exact HB.out | apply ea | apply en | apply ed | refine es ?_ GE150.out) | exact HB.out)⟩
  ·replace c5 := Bool.eq_false_iff.mpr c5
   subst c5
   have H1 : (some false) = some r := by rw [if_neg (show ¬ (false = true) by decide)] at H; exact H
   clear H
   have H := H1
   clear H1
   obtain rfl := Option.some.inj H
   go_enter Tryz.func149, Tryz.ntmps149
   go_wp2_with (first | ((with_reducible refine gate_dst (N := 1) rfl ?_); refine box_event ?hg (N := 1) ?hd (cs := #[.int .i64 a0_0, .string a0_1, .slice A0_2 l0_2.length c0_2, .string a0_3, .slice A0_4 l0_4.length c0_4]) (t := 36) ?hr ?_; (case hd | hg => rfl); (case hr => first | (go_simp; done) | (go_simp; rfl)); intro gb150 hg w19 hbox hb; have n0_ := aM (bP (ey HB.out) hb); have n1_ := aM (hbox); have n2_ := aM ((by rw [hg]; exact (bZ (ey HB.out)) : w.heap.size ≤ gb150)); have n3_ := n2_; clear HB; have HB := n0_; have BK150 := n1_; have GW150 := n2_; have GE150 := n3_; clear n0_ n1_ n2_ n3_; clear hb hbox hg; have hcz20_0 := zC BK150.out 0 (.int .i64 a0_0); have hcz20_1 := zC BK150.out 1 (.string a0_1); have hcz20_2 := zC BK150.out 2 (.slice A0_2 l0_2.length c0_2); have hcz20_3 := zC BK150.out 3 (.string a0_3); have hcz20_4 := zC BK150.out 4 (.slice A0_4 l0_4.length c0_4); have hfz20_0 := bF BK150.out 0; have hfz20_1 := bF BK150.out 1; have hfz20_2 := bF BK150.out 2; have hfz20_3 := bF BK150.out 3; have hfz20_4 := bF BK150.out 4) | ((with_reducible refine gate_callee (f := 59) rfl ?_); refine goesL_ (some 5) rfl rfl Tryz.func59 (by kernel_rfl) rfl #[.agg #[.string a0_1, .slice A0_2 l0_2.length c0_2]] rfl (by (try simp only [mT, mC, mN]); first | done | rfl | (simp only [lD, lT]; rfl)) ?_; (with_reducible refine (strip_Good.calls k a0_1 _ _ l0_2 true _ ?side1 ?side2 A2.out).mono ?_); (case side1 => repeat (first | exact (cB_ HR0_2.out HB.out) | (with_reducible refine Kd.C_alloc ?_ _) | (with_reducible refine Kd.C_drewN ?_ _) | (with_reducible refine Kd.C_drew ?_))); (case side2 => exact HC0_2.out); rintro e w21 ⟨rfl, hb⟩; refine ⟨_, rfl, ?_⟩; have n0_ := aM (bB (g := gb150) (qy BK150.out) hb); have n1_ := aM (bP (by repeat (first | (with_reducible first | exact HB.out | apply ea | apply en | apply ed | refine es ?_ GE150.out) | exact HB.out)) hb); clear BK150 HB; have BK150 := n0_; have HB := n1_; clear n0_ n1_; (try clear hb); (try clear hb2); (try clear hk); (try clear hi); have hcz22_0 := zC BK150.out 0 (.int .i64 a0_0); have hcz22_1 := zC BK150.out 1 (.string a0_1); have hcz22_2 := zC BK150.out 2 (.slice A0_2 l0_2.length c0_2); have hcz22_3 := zC BK150.out 3 (.string a0_3); have hcz22_4 := zC BK150.out 4 (.slice A0_4 l0_4.length c0_4); have hfz22_0 := bF BK150.out 0; have hfz22_1 := bF BK150.out 1; have hfz22_2 := bF BK150.out 2; have hfz22_3 := bF BK150.out 3; have hfz22_4 := bF BK150.out 4) | (go_at_call 59; (with_reducible refine (strip_Good.calls k a0_3 _ _ l0_4 false _ ?side1 ?side2 A4.out).mono ?_); (case side1 => repeat (first | exact (cB_ HR0_4.out HB.out) | (with_reducible refine Kd.C_alloc ?_ _) | (with_reducible refine Kd.C_drewN ?_ _) | (with_reducible refine Kd.C_drew ?_))); (case side2 => exact HC0_4.out); rintro e w23 ⟨rfl, hb⟩; have n0_ := aM (bB (g := gb150) (qy BK150.out) hb); have n1_ := aM (bP (by repeat (first | (with_reducible first | exact HB.out | apply ea | apply en | apply ed | refine es ?_ GE150.out) | exact HB.out)) hb); clear BK150 HB; have BK150 := n0_; have HB := n1_; clear n0_ n1_; (try clear hb); (try clear hb2); (try clear hk); (try clear hi)))
   go_ret
   exact ⟨by first | rfl | (simp [errW_none, errW_some] <;> rfl) | (simp [*, errW_none, errW_some] <;> rfl), by repeat (first | (with_reducible first | exact HB.out | apply ea | apply en | apply ed | refine es ?_ GE150.out) | exact HB.out)⟩
 ·replace c3 := Bool.eq_false_iff.mpr c3
  subst c3
  have H1 : (some false) = some r := by rw [if_neg (show ¬ (false = true) by decide)] at H; exact H
  clear H
  have H := H1
  clear H1
  obtain rfl := Option.some.inj H
  go_enter Tryz.func149, Tryz.ntmps149
  go_wp2_with (first | ((with_reducible refine gate_dst (N := 1) rfl ?_); refine box_event ?hg (N := 1) ?hd (cs := #[.int .i64 a0_0, .string a0_1, .slice A0_2 l0_2.length c0_2, .string a0_3, .slice A0_4 l0_4.length c0_4]) (t := 36) ?hr ?_; (case hd | hg => rfl); (case hr => first | (go_simp; done) | (go_simp; rfl)); intro gb150 hg w24 hbox hb; have n0_ := aM (bP (ey HB.out) hb); have n1_ := aM (hbox); have n2_ := aM ((by rw [hg]; exact (bZ (ey HB.out)) : w.heap.size ≤ gb150)); have n3_ := n2_; clear HB; have HB := n0_; have BK150 := n1_; have GW150 := n2_; have GE150 := n3_; clear n0_ n1_ n2_ n3_; clear hb hbox hg; have hcz25_0 := zC BK150.out 0 (.int .i64 a0_0); have hcz25_1 := zC BK150.out 1 (.string a0_1); have hcz25_2 := zC BK150.out 2 (.slice A0_2 l0_2.length c0_2); have hcz25_3 := zC BK150.out 3 (.string a0_3); have hcz25_4 := zC BK150.out 4 (.slice A0_4 l0_4.length c0_4); have hfz25_0 := bF BK150.out 0; have hfz25_1 := bF BK150.out 1; have hfz25_2 := bF BK150.out 2; have hfz25_3 := bF BK150.out 3; have hfz25_4 := bF BK150.out 4) | ((with_reducible refine gate_callee (f := 59) rfl ?_); refine goesL_ (some 5) rfl rfl Tryz.func59 (by kernel_rfl) rfl #[.agg #[.string a0_1, .slice A0_2 l0_2.length c0_2]] rfl (by (try simp only [mT, mC, mN]); first | done | rfl | (simp only [lD, lT]; rfl)) ?_; (with_reducible refine (strip_Good.calls k a0_1 _ _ l0_2 false _ ?side1 ?side2 A2.out).mono ?_); (case side1 => repeat (first | exact (cB_ HR0_2.out HB.out) | (with_reducible refine Kd.C_alloc ?_ _) | (with_reducible refine Kd.C_drewN ?_ _) | (with_reducible refine Kd.C_drew ?_))); (case side2 => exact HC0_2.out); rintro e w26 ⟨rfl, hb⟩; refine ⟨_, rfl, ?_⟩; have n0_ := aM (bB (g := gb150) (qy BK150.out) hb); have n1_ := aM (bP (by repeat (first | (with_reducible first | exact HB.out | apply ea | apply en | apply ed | refine es ?_ GE150.out) | exact HB.out)) hb); clear BK150 HB; have BK150 := n0_; have HB := n1_; clear n0_ n1_; (try clear hb); (try clear hb2); (try clear hk); (try clear hi)))
  go_ret
  exact ⟨by first | rfl | (simp [errW_none, errW_some] <;> rfl) | (simp [*, errW_none, errW_some] <;> rfl), by repeat (first | (with_reducible first | exact HB.out | apply ea | apply en | apply ed | refine es ?_ GE150.out) | exact HB.out)⟩
end Go.Proofs.YtjkfkiebhgkolaaGreatDoor.PB
end

section
namespace Go.Proofs.YtjkfkiebhgkolaaGreatDoor.PB
open Go.RowKit Go.Proofs.YtjkfkiebhgkolaaGreatDoorW.PrintWords Go.Proofs.YtjkfkiebhgkolaaGreatDoorW.PrintLast Go.Proofs.YtjkfkiebhgkolaaGreatDoorW.PrintMore
attribute [local go_sem] max2_int min2_int max_two min_two max_three min_three max_four min_four   
set_option linter.unusedVariables false
set_option linter.unusedSimpArgs false
def edit_Apply.f (k : Nat) (a0_0 : ByteArray) (l0_1 : List (S68)) (a1_0 : Int) (a1_1 : ByteArray) (l1_2 : List (S68)) (a1_3 : ByteArray) (l1_4 : List (S68)) : Option (ByteArray × (List (S68)) × Int) := (edit_good.f k a1_0 a1_1 l1_2 a1_3 l1_4).bind fun t161 => (if t161 = true then ((strip_Cut.f k a0_0 l0_1 a1_0 (wrap64 (a1_0 + (a1_1.size : Int)))).bind fun bt162 => (if bt162.2.2 = 0 then ((strip_Same.f k bt162.1 bt162.2.1 a1_1 l1_2).bind fun t168 => (if t168 = true then ((strip_Splice.f k a0_0 l0_1 a1_0 (wrap64 (a1_0 + (a1_1.size : Int))) a1_3 l1_4).bind fun bt169 => (some (bt169.1, bt169.2.1, bt169.2.2))) else (some ((⟨#[]⟩ : ByteArray), ([] : List (S68)), 7)))) else (some ((⟨#[]⟩ : ByteArray), ([] : List (S68)), bt162.2.2)))) else (some ((⟨#[]⟩ : ByteArray), ([] : List (S68)), 2)))
set_option maxHeartbeats 8000000 in
set_option maxRecDepth 100000 in
theorem edit_Apply.calls (k : Nat) (a0_0 : ByteArray) (A0_1 : Option Addr) (c0_1 : Nat) (l0_1 : List (S68)) (a1_0 : Int) (a1_1 : ByteArray) (A1_2 : Option Addr) (c1_2 : Nat) (l1_2 : List (S68)) (a1_3 : ByteArray) (A1_4 : Option Addr) (c1_4 : Nat) (l1_4 : List (S68)) (r1 : ByteArray) (r2 : List (S68)) (r3 : Int) (w : World) (hr0_1 : Kd.C k68 w A0_1 l0_1.length l0_1) (hc0_1 : l0_1.length ≤ c0_1) (hr1_2 : Kd.C k68 w A1_2 l1_2.length l1_2) (hc1_2 : l1_2.length ≤ c1_2) (hr1_4 : Kd.C k68 w A1_4 l1_4.length l1_4) (hc1_4 : l1_4.length ≤ c1_4) (h : edit_Apply.f k a0_0 l0_1 a1_0 a1_1 l1_2 a1_3 l1_4 = some (r1, r2, r3)) :
  Calls Tryz.prog 105 #[.agg #[.string a0_0, .slice A0_1 l0_1.length c0_1], .agg #[.int .i64 a1_0, .string a1_1, .slice A1_2 l1_2.length c1_2, .string a1_3, .slice A1_4 l1_4.length c1_4]] w fun e w' => ∃ v1_ : Value, e = .returned (.tuple #[.agg #[.string r1, v1_], .int .i64 r3]) ∧ Kd.R k68 68 w' w.heap.size (fun _ => True) v1_ r2 ∧ Below w.heap.size w w' := by
 have hu24 := Tryz.underlying24
 have hu36 := Tryz.underlying36
 have HR0_1 := aM hr0_1
 have HC0_1 := aM hc0_1
 clear hr0_1 hc0_1
 have HR1_2 := aM hr1_2
 have HC1_2 := aM hc1_2
 clear hr1_2 hc1_2
 have HR1_4 := aM hr1_4
 have HC1_4 := aM hc1_4
 clear hr1_4 hc1_4
 have HB := aM (Below.refl w.heap.size w)
 have H : ((edit_good.f k a1_0 a1_1 l1_2 a1_3 l1_4).bind fun t161 => (if t161 = true then ((strip_Cut.f k a0_0 l0_1 a1_0 (wrap64 (a1_0 + (a1_1.size : Int)))).bind fun bt162 => (if bt162.2.2 = 0 then ((strip_Same.f k bt162.1 bt162.2.1 a1_1 l1_2).bind fun t168 => (if t168 = true then ((strip_Splice.f k a0_0 l0_1 a1_0 (wrap64 (a1_0 + (a1_1.size : Int))) a1_3 l1_4).bind fun bt169 => (some (bt169.1, bt169.2.1, bt169.2.2))) else (some ((⟨#[]⟩ : ByteArray), ([] : List (S68)), 7)))) else (some ((⟨#[]⟩ : ByteArray), ([] : List (S68)), bt162.2.2)))) else (some ((⟨#[]⟩ : ByteArray), ([] : List (S68)), 2)))) = some (r1, r2, r3) := h
 clear h
 replace H := Option.bind_eq_some_iff.mp H
 obtain ⟨t161, A30, H⟩ := H
 replace H : (if t161 = true then ((strip_Cut.f k a0_0 l0_1 a1_0 (wrap64 (a1_0 + (a1_1.size : Int)))).bind fun bt162 => (if bt162.2.2 = 0 then ((strip_Same.f k bt162.1 bt162.2.1 a1_1 l1_2).bind fun t168 => (if t168 = true then ((strip_Splice.f k a0_0 l0_1 a1_0 (wrap64 (a1_0 + (a1_1.size : Int))) a1_3 l1_4).bind fun bt169 => (some (bt169.1, bt169.2.1, bt169.2.2))) else (some ((⟨#[]⟩ : ByteArray), ([] : List (S68)), 7)))) else (some ((⟨#[]⟩ : ByteArray), ([] : List (S68)), bt162.2.2)))) else (some ((⟨#[]⟩ : ByteArray), ([] : List (S68)), 2))) = some (r1, r2, r3) := H
 have A3 := aM A30
 clear A30
 by_cases c4 : t161 = true
 ·subst c4
  have H1 : ((strip_Cut.f k a0_0 l0_1 a1_0 (wrap64 (a1_0 + (a1_1.size : Int)))).bind fun bt162 => (if bt162.2.2 = 0 then ((strip_Same.f k bt162.1 bt162.2.1 a1_1 l1_2).bind fun t168 => (if t168 = true then ((strip_Splice.f k a0_0 l0_1 a1_0 (wrap64 (a1_0 + (a1_1.size : Int))) a1_3 l1_4).bind fun bt169 => (some (bt169.1, bt169.2.1, bt169.2.2))) else (some ((⟨#[]⟩ : ByteArray), ([] : List (S68)), 7)))) else (some ((⟨#[]⟩ : ByteArray), ([] : List (S68)), bt162.2.2)))) = some (r1, r2, r3) := by rw [if_pos rfl] at H; exact H
  clear H
  have H := H1
  clear H1
  replace H := Option.bind_eq_some_iff.mp H
  obtain ⟨⟨t162, t163, t166⟩, A50, H⟩ := H
  replace H : (if t166 = 0 then ((strip_Same.f k t162 t163 a1_1 l1_2).bind fun t168 => (if t168 = true then ((strip_Splice.f k a0_0 l0_1 a1_0 (wrap64 (a1_0 + (a1_1.size : Int))) a1_3 l1_4).bind fun bt169 => (some (bt169.1, bt169.2.1, bt169.2.2))) else (some ((⟨#[]⟩ : ByteArray), ([] : List (S68)), 7)))) else (some ((⟨#[]⟩ : ByteArray), ([] : List (S68)), t166))) = some (r1, r2, r3) := H
  have A5 := aM A50
  clear A50
  by_cases c6 : t166 = 0
  ·rw [if_pos c6] at H
   have c6b0 : (t166 == 0) = true := beq_iff_eq.mpr c6
   have c6b1 : (t166 != 0) = false := bne_eq_false_iff_eq.mpr c6
   clear c6
   replace H := Option.bind_eq_some_iff.mp H
   obtain ⟨t168, A70, H⟩ := H
   replace H : (if t168 = true then ((strip_Splice.f k a0_0 l0_1 a1_0 (wrap64 (a1_0 + (a1_1.size : Int))) a1_3 l1_4).bind fun bt169 => (some (bt169.1, bt169.2.1, bt169.2.2))) else (some ((⟨#[]⟩ : ByteArray), ([] : List (S68)), 7))) = some (r1, r2, r3) := H
   have A7 := aM A70
   clear A70
   by_cases c8 : t168 = true
   ·subst c8
    have H1 : ((strip_Splice.f k a0_0 l0_1 a1_0 (wrap64 (a1_0 + (a1_1.size : Int))) a1_3 l1_4).bind fun bt169 => (some (bt169.1, bt169.2.1, bt169.2.2))) = some (r1, r2, r3) := by rw [if_pos rfl] at H; exact H
    clear H
    have H := H1
    clear H1
    replace H := Option.bind_eq_some_iff.mp H
    obtain ⟨⟨t169, t170, t173⟩, A90, H⟩ := H
    replace H : (some (t169, t170, t173)) = some (r1, r2, r3) := H
    have A9 := aM A90
    clear A90
    simp only [Option.some.injEq, Prod.mk.injEq] at H
    obtain ⟨rfl, rfl, rfl⟩ := H
    go_enter Tryz.func105, Tryz.ntmps105
    go_wp2_with (first | ((with_reducible refine gate_dst (N := 2) rfl ?_); refine box_event ?hg (N := 2) ?hd (cs := #[.string a0_0, .slice A0_1 l0_1.length c0_1]) (t := 24) ?hr ?_; (case hd | hg => rfl); (case hr => first | (go_simp; done) | (go_simp; rfl)); intro gb158 hg w10 hbox hb; have n0_ := aM (bP (ey HB.out) hb); have n1_ := aM (hbox); have n2_ := aM ((by rw [hg]; exact (bZ (ey HB.out)) : w.heap.size ≤ gb158)); have n3_ := n2_; clear HB; have HB := n0_; have BK158 := n1_; have GW158 := n2_; have GE158 := n3_; clear n0_ n1_ n2_ n3_; clear hb hbox hg) | ((with_reducible refine gate_dst (N := 3) rfl ?_); refine box_event ?hg (N := 3) ?hd (cs := #[.int .i64 a1_0, .string a1_1, .slice A1_2 l1_2.length c1_2, .string a1_3, .slice A1_4 l1_4.length c1_4]) (t := 36) ?hr ?_; (case hd | hg => rfl); (case hr => first | (go_simp; done) | (go_simp; rfl)); intro gb159 hg w11 hbox hb; have n0_ := aM (bB (g := gb158) (qy BK158.out) hb); have n1_ := aM (bP (by repeat (first | (with_reducible first | exact HB.out | apply ea | apply en | apply ed | refine es ?_ GE158.out) | exact HB.out)) hb); have n2_ := aM (hbox); have n3_ := aM ((by rw [hg]; exact (bZ (by repeat (first | (with_reducible first | exact HB.out | apply ea | apply en | apply ed | refine es ?_ GE158.out) | exact HB.out))) : w.heap.size ≤ gb159)); have n4_ := n3_; have n5_ := aM ((by rw [hg]; exact Nat.ne_of_lt (blk_lt (g := gb158) (qy BK158.out)) : gb158 ≠ gb159)); have n6_ := aM ((by rw [hg]; exact Nat.ne_of_gt (blk_lt (g := gb158) (qy BK158.out)) : gb159 ≠ gb158)); clear BK158 HB; have BK158 := n0_; have HB := n1_; have BK159 := n2_; have GW159 := n3_; have GE159 := n4_; have NB158_159 := n5_; have NB159_158 := n6_; clear n0_ n1_ n2_ n3_ n4_ n5_ n6_; clear hb hbox hg) | ((with_reducible refine gate_dst (N := 4) rfl ?_); refine box_event ?hg (N := 4) ?hd (cs := #[.string (⟨#[]⟩ : ByteArray), .slice none 0 0]) (t := 24) ?hr ?_; (case hd | hg => rfl); (case hr => first | (go_simp; done) | (go_simp; rfl)); intro gb160 hg w12 hbox hb; have n0_ := aM (bB (g := gb158) (qy BK158.out) hb); have n1_ := aM (bB (g := gb159) (qy BK159.out) hb); have n2_ := aM (bP (by repeat (first | (with_reducible first | exact HB.out | apply ea | apply en | apply ed | refine es ?_ GE158.out | refine es ?_ GE159.out) | exact HB.out)) hb); have n3_ := aM (hbox); have n4_ := aM ((by rw [hg]; exact (bZ (by repeat (first | (with_reducible first | exact HB.out | apply ea | apply en | apply ed | refine es ?_ GE158.out | refine es ?_ GE159.out) | exact HB.out))) : w.heap.size ≤ gb160)); have n5_ := n4_; have n6_ := aM ((by rw [hg]; exact Nat.ne_of_lt (blk_lt (g := gb158) (qy BK158.out)) : gb158 ≠ gb160)); have n7_ := aM ((by rw [hg]; exact Nat.ne_of_gt (blk_lt (g := gb158) (qy BK158.out)) : gb160 ≠ gb158)); have n8_ := aM ((by rw [hg]; exact Nat.ne_of_lt (blk_lt (g := gb159) (qy BK159.out)) : gb159 ≠ gb160)); have n9_ := aM ((by rw [hg]; exact Nat.ne_of_gt (blk_lt (g := gb159) (qy BK159.out)) : gb160 ≠ gb159)); clear BK158 BK159 HB; have BK158 := n0_; have BK159 := n1_; have HB := n2_; have BK160 := n3_; have GW160 := n4_; have GE160 := n5_; have NB158_160 := n6_; have NB160_158 := n7_; have NB159_160 := n8_; have NB160_159 := n9_; clear n0_ n1_ n2_ n3_ n4_ n5_ n6_ n7_ n8_ n9_; clear hb hbox hg; have hnb13 := NB159_158.out; have hnc13 := NB158_159.out; have hnb14 := NB159_160.out; have hnc14 := NB160_159.out; have hcz15_0 := zC BK159.out 0 (.int .i64 a1_0); have hcz15_1 := zC BK159.out 1 (.string a1_1); have hcz15_2 := zC BK159.out 2 (.slice A1_2 l1_2.length c1_2); have hcz15_3 := zC BK159.out 3 (.string a1_3); have hcz15_4 := zC BK159.out 4 (.slice A1_4 l1_4.length c1_4); have hfz15_0 := bF BK159.out 0; have hfz15_1 := bF BK159.out 1; have hfz15_2 := bF BK159.out 2; have hfz15_3 := bF BK159.out 3; have hfz15_4 := bF BK159.out 4) | ((with_reducible refine gate_callee (f := 149) rfl ?_); refine goesL_ (some 10) rfl rfl Tryz.func149 (by kernel_rfl) rfl #[.agg #[.int .i64 a1_0, .string a1_1, .slice A1_2 l1_2.length c1_2, .string a1_3, .slice A1_4 l1_4.length c1_4]] rfl (by (try simp only [mT, mC, mN]); first | done | rfl | (simp only [lD, lT]; rfl)) ?_; (with_reducible refine (edit_good.calls k a1_0 a1_1 _ _ l1_2 a1_3 _ _ l1_4 true _ ?side1 ?side2 ?side3 ?side4 A3.out).mono ?_); (case side1 => repeat (first | exact (cB_ HR1_2.out HB.out) | (with_reducible refine Kd.C_alloc ?_ _) | (with_reducible refine Kd.C_drewN ?_ _) | (with_reducible refine Kd.C_drew ?_))); (case side2 => exact HC1_2.out); (case side3 => repeat (first | exact (cB_ HR1_4.out HB.out) | (with_reducible refine Kd.C_alloc ?_ _) | (with_reducible refine Kd.C_drewN ?_ _) | (with_reducible refine Kd.C_drew ?_))); (case side4 => exact HC1_4.out); rintro e w16 ⟨rfl, hb⟩; refine ⟨_, rfl, ?_⟩; have n0_ := aM (bB (g := gb158) (qy BK158.out) hb); have n1_ := aM (bB (g := gb159) (qy BK159.out) hb); have n2_ := aM (bB (g := gb160) (qy BK160.out) hb); have n3_ := aM (bP (by repeat (first | (with_reducible first | exact HB.out | apply ea | apply en | apply ed | refine es ?_ GE158.out | refine es ?_ GE159.out | refine es ?_ GE160.out) | exact HB.out)) hb); clear BK158 BK159 BK160 HB; have BK158 := n0_; have BK159 := n1_; have BK160 := n2_; have HB := n3_; clear n0_ n1_ n2_ n3_; (try clear hb); (try clear hb2); (try clear hk); (try clear hi); have hcz17_0 := zC BK159.out 0 (.int .i64 a1_0); have hcz17_1 := zC BK159.out 1 (.string a1_1); have hcz17_2 := zC BK159.out 2 (.slice A1_2 l1_2.length c1_2); have hcz17_3 := zC BK159.out 3 (.string a1_3); have hcz17_4 := zC BK159.out 4 (.slice A1_4 l1_4.length c1_4); have hfz17_0 := bF BK159.out 0; have hfz17_1 := bF BK159.out 1; have hfz17_2 := bF BK159.out 2; have hfz17_3 := bF BK159.out 3; have hfz17_4 := bF BK159.out 4; have hnb18 := NB158_160.out; have hnc18 := NB160_158.out; have hcz19_0 := zC BK158.out 0 (.string a0_0); have hcz19_1 := zC BK158.out 1 (.slice A0_1 l0_1.length c0_1); have hfz19_0 := bF BK158.out 0; have hfz19_1 := bF BK158.out 1) | ((with_reducible refine gate_callee (f := 74) rfl ?_); refine goesL_ (some 25) rfl rfl Tryz.func74 (by kernel_rfl) rfl #[.agg #[.string a0_0, .slice A0_1 l0_1.length c0_1], .int .i64 a1_0, .int .i64 (wrap64 (a1_0 + (a1_1.size : Int)))] rfl (by (try simp only [mT, mC, mN]); first | done | rfl | (simp only [lD, lT]; rfl)) ?_; (with_reducible refine (strip_Cut.calls k a0_0 _ _ l0_1 a1_0 (wrap64 (a1_0 + (a1_1.size : Int))) t162 t163 t166 _ ?side1 ?side2 A5.out).mono ?_); (case side1 => repeat (first | exact (cB_ HR0_1.out HB.out) | (with_reducible refine Kd.C_alloc ?_ _) | (with_reducible refine Kd.C_drewN ?_ _) | (with_reducible refine Kd.C_drew ?_))); (case side2 => exact HC0_1.out); rintro e w20 ⟨v164, rfl, ho0, hb⟩; refine ⟨_, rfl, ?_⟩; have n0_ := aM (rL ho0 (bZ (by repeat (first | (with_reducible first | exact HB.out | apply ea | apply en | apply ed | refine es ?_ GE158.out | refine es ?_ GE159.out | refine es ?_ GE160.out) | exact HB.out)))); have n1_ := aM (bB (g := gb158) (qy BK158.out) hb); have n2_ := aM (bB (g := gb159) (qy BK159.out) hb); have n3_ := aM (bB (g := gb160) (qy BK160.out) hb); have n4_ := aM (bP (by repeat (first | (with_reducible first | exact HB.out | apply ea | apply en | apply ed | refine es ?_ GE158.out | refine es ?_ GE159.out | refine es ?_ GE160.out) | exact HB.out)) hb); clear BK158 BK159 BK160 HB; have HO165 := n0_; have BK158 := n1_; have BK159 := n2_; have BK160 := n3_; have HB := n4_; clear n0_ n1_ n2_ n3_ n4_; (try clear hb); (try clear hb2); (try clear hk); (try clear hi); (try clear ho0)) | ((with_reducible refine gate_dst (N := 7) rfl ?_); refine box_event ?hg (N := 7) ?hd (cs := #[.string (⟨#[]⟩ : ByteArray), .slice none 0 0]) (t := 24) ?hr ?_; (case hd | hg => rfl); (case hr => first | (go_simp; done) | (go_simp; rfl)); intro gb167 hg w21 hbox hb; have n0_ := aM (Kd.R_below (ry HO165.out) hb); have n1_ := aM (bB (g := gb158) (qy BK158.out) hb); have n2_ := aM (bB (g := gb159) (qy BK159.out) hb); have n3_ := aM (bB (g := gb160) (qy BK160.out) hb); have n4_ := aM (bP (by repeat (first | (with_reducible first | exact HB.out | apply ea | apply en | apply ed | refine es ?_ GE158.out | refine es ?_ GE159.out | refine es ?_ GE160.out) | exact HB.out)) hb); have n5_ := aM (hbox); have n6_ := aM ((by rw [hg]; exact (bZ (by repeat (first | (with_reducible first | exact HB.out | apply ea | apply en | apply ed | refine es ?_ GE158.out | refine es ?_ GE159.out | refine es ?_ GE160.out) | exact HB.out))) : w.heap.size ≤ gb167)); have n7_ := n6_; have n8_ := aM ((by rw [hg]; exact Nat.ne_of_lt (blk_lt (g := gb158) (qy BK158.out)) : gb158 ≠ gb167)); have n9_ := aM ((by rw [hg]; exact Nat.ne_of_gt (blk_lt (g := gb158) (qy BK158.out)) : gb167 ≠ gb158)); have n10_ := aM ((by rw [hg]; exact Nat.ne_of_lt (blk_lt (g := gb159) (qy BK159.out)) : gb159 ≠ gb167)); have n11_ := aM ((by rw [hg]; exact Nat.ne_of_gt (blk_lt (g := gb159) (qy BK159.out)) : gb167 ≠ gb159)); have n12_ := aM ((by rw [hg]; exact Nat.ne_of_lt (blk_lt (g := gb160) (qy BK160.out)) : gb160 ≠ gb167)); have n13_ := aM ((by rw [hg]; exact Nat.ne_of_gt (blk_lt (g := gb160) (qy BK160.out)) : gb167 ≠ gb160)); clear HO165 BK158 BK159 BK160 HB; have HO165 := n0_; have BK158 := n1_; have BK159 := n2_; have BK160 := n3_; have HB := n4_; have BK167 := n5_; have GW167 := n6_; have GE167 := n7_; have NB158_167 := n8_; have NB167_158 := n9_; have NB159_167 := n10_; have NB167_159 := n11_; have NB160_167 := n12_; have NB167_160 := n13_; clear n0_ n1_ n2_ n3_ n4_ n5_ n6_ n7_ n8_ n9_ n10_ n11_ n12_ n13_; clear hb hbox hg; have hnb22 := NB167_158.out; have hnc22 := NB158_167.out; have hnb23 := NB167_159.out; have hnc23 := NB159_167.out; have hnb24 := NB167_160.out; have hnc24 := NB160_167.out; have hcz25_0 := zC BK167.out 0 (.string (⟨#[]⟩ : ByteArray)); have hcz25_1 := zC BK167.out 1 (.slice none 0 0); have hfz25_0 := bF BK167.out 0; have hfz25_1 := bF BK167.out 1; obtain ⟨Ao26, co26, eo26⟩ := Kd.R_slice HO165.out; subst eo26; have hcz27_0 := zC BK159.out 0 (.int .i64 a1_0); have hcz27_1 := zC BK159.out 1 (.string a1_1); have hcz27_2 := zC BK159.out 2 (.slice A1_2 l1_2.length c1_2); have hcz27_3 := zC BK159.out 3 (.string a1_3); have hcz27_4 := zC BK159.out 4 (.slice A1_4 l1_4.length c1_4); have hfz27_0 := bF BK159.out 0; have hfz27_1 := bF BK159.out 1; have hfz27_2 := bF BK159.out 2; have hfz27_3 := bF BK159.out 3; have hfz27_4 := bF BK159.out 4) | ((with_reducible refine gate_callee (f := 150) rfl ?_); refine goesL_ (some 37) rfl rfl Tryz.func150 (by kernel_rfl) rfl #[.agg #[.string t162, .slice Ao26 t163.length co26], .agg #[.string a1_1, .slice A1_2 l1_2.length c1_2]] rfl (by (try simp only [mT, mC, mN]); first | done | rfl | (simp only [lD, lT]; rfl)) ?_; (with_reducible refine (strip_Same.calls k t162 _ _ t163 a1_1 _ _ l1_2 true _ ?side1 ?side2 ?side3 ?side4 A7.out).mono ?_); (case side1 => refine (rR (e := 68) (base := w.heap.size) (ok := fun k_ => True) (n := t163.length) (c := co26) ?_).2.2; exact (by (with_reducible repeat (first | apply ra | apply rn | apply rd_)); exact (rM (rF (p := ⟨gb167, 1, none⟩) (rF (p := ⟨gb167, 0, none⟩) (rT HO165.out BK167.out (by decide)) (fun _ hk => hk.2) (.string t162)) (fun _ hk => hk.2) (.slice Ao26 t163.length co26)) (fun _ h_ => h_.1)))); (case side2 => exact (rR HO165.out).2.1); (case side3 => exact cB_ HR1_2.out (by repeat (first | (with_reducible first | exact HB.out | apply ea | apply en | apply ed | refine es ?_ GE158.out | refine es ?_ GE159.out | refine es ?_ GE160.out | refine es ?_ GE167.out) | exact HB.out))); (case side4 => exact HC1_2.out); rintro e w28 ⟨rfl, hb⟩; refine ⟨_, rfl, ?_⟩; have n0_ := aM (Kd.R_below (by (with_reducible repeat (first | apply ra | apply rn | apply rd_)); exact (rM (rF (p := ⟨gb167, 1, none⟩) (rF (p := ⟨gb167, 0, none⟩) (rT HO165.out BK167.out (by decide)) (fun _ hk => hk.2) (.string t162)) (fun _ hk => hk.2) (.slice Ao26 t163.length co26)) (fun _ h_ => h_.1))) hb); have n1_ := aM (bB (g := gb158) (o := .cells #[.string a0_0, .slice A0_1 l0_1.length c0_1] 24 (0, 0)) (by (with_reducible repeat (first | apply qn | apply qd | apply qa)); refine bR ?_ NB158_167.out _; (with_reducible repeat (first | apply qn | apply qd | apply qa)); refine bR ?_ NB158_167.out _; exact qy BK158.out) hb); have n2_ := aM (bB (g := gb159) (o := .cells #[.int .i64 a1_0, .string a1_1, .slice A1_2 l1_2.length c1_2, .string a1_3, .slice A1_4 l1_4.length c1_4] 36 (0, 0)) (by (with_reducible repeat (first | apply qn | apply qd | apply qa)); refine bR ?_ NB159_167.out _; (with_reducible repeat (first | apply qn | apply qd | apply qa)); refine bR ?_ NB159_167.out _; exact qy BK159.out) hb); have n3_ := aM (bB (g := gb160) (o := .cells #[.string (⟨#[]⟩ : ByteArray), .slice none 0 0] 24 (0, 0)) (by (with_reducible repeat (first | apply qn | apply qd | apply qa)); refine bR ?_ NB160_167.out _; (with_reducible repeat (first | apply qn | apply qd | apply qa)); refine bR ?_ NB160_167.out _; exact qy BK160.out) hb); have n4_ := aM (bB (g := gb167) (o := .cells #[.string t162, .slice Ao26 t163.length co26] 24 (0, 0)) (by (with_reducible repeat (first | apply qn | apply qd | apply qa)); refine bU (cs := #[.string t162, .slice none 0 0]) ?_ 1 _ rfl; (with_reducible repeat (first | apply qn | apply qd | apply qa)); refine bU (cs := #[.string (⟨#[]⟩ : ByteArray), .slice none 0 0]) ?_ 0 _ rfl; exact qy BK167.out) hb); have n5_ := aM (bP (by repeat (first | (with_reducible first | exact HB.out | apply ea | apply en | apply ed | refine es ?_ GE158.out | refine es ?_ GE159.out | refine es ?_ GE160.out | refine es ?_ GE167.out) | exact HB.out)) hb); clear HO165 BK158 BK159 BK160 BK167 HB; have HO165 := n0_; have BK158 := n1_; have BK159 := n2_; have BK160 := n3_; have BK167 := n4_; have HB := n5_; clear n0_ n1_ n2_ n3_ n4_ n5_; (try clear hb); (try clear hb2); (try clear hk); (try clear hi); have hcz29_0 := zC BK158.out 0 (.string a0_0); have hcz29_1 := zC BK158.out 1 (.slice A0_1 l0_1.length c0_1); have hfz29_0 := bF BK158.out 0; have hfz29_1 := bF BK158.out 1; have hcz30_0 := zC BK159.out 0 (.int .i64 a1_0); have hcz30_1 := zC BK159.out 1 (.string a1_1); have hcz30_2 := zC BK159.out 2 (.slice A1_2 l1_2.length c1_2); have hcz30_3 := zC BK159.out 3 (.string a1_3); have hcz30_4 := zC BK159.out 4 (.slice A1_4 l1_4.length c1_4); have hfz30_0 := bF BK159.out 0; have hfz30_1 := bF BK159.out 1; have hfz30_2 := bF BK159.out 2; have hfz30_3 := bF BK159.out 3; have hfz30_4 := bF BK159.out 4) | ((with_reducible refine gate_callee (f := 147) rfl ?_); refine goesL_ (some 46) rfl rfl Tryz.func147 (by kernel_rfl) rfl #[.agg #[.string a0_0, .slice A0_1 l0_1.length c0_1], .int .i64 a1_0, .int .i64 (wrap64 (a1_0 + (a1_1.size : Int))), .agg #[.string a1_3, .slice A1_4 l1_4.length c1_4]] rfl (by (try simp only [mT, mC, mN]); first | done | rfl | (simp only [lD, lT]; rfl)) ?_; (with_reducible refine (strip_Splice.calls k a0_0 _ _ l0_1 a1_0 (wrap64 (a1_0 + (a1_1.size : Int))) a1_3 _ _ l1_4 t169 t170 t173 _ ?side1 ?side2 ?side3 ?side4 A9.out).mono ?_); (case side1 => repeat (first | exact (cB_ HR0_1.out HB.out) | (with_reducible refine Kd.C_alloc ?_ _) | (with_reducible refine Kd.C_drewN ?_ _) | (with_reducible refine Kd.C_drew ?_))); (case side2 => exact HC0_1.out); (case side3 => repeat (first | exact (cB_ HR1_4.out HB.out) | (with_reducible refine Kd.C_alloc ?_ _) | (with_reducible refine Kd.C_drewN ?_ _) | (with_reducible refine Kd.C_drew ?_))); (case side4 => exact HC1_4.out); rintro e w31 ⟨v171, rfl, ho0, hb⟩; refine ⟨_, rfl, ?_⟩; have n0_ := aM (rE (ry HO165.out) (Kd.R_base ho0) hb); have n1_ := aM (rL (Kd.R_new' ho0 (Kd.R_lt (ry HO165.out))) (bZ (by repeat (first | (with_reducible first | exact HB.out | apply ea | apply en | apply ed | refine es ?_ GE158.out | refine es ?_ GE159.out | refine es ?_ GE160.out | refine es ?_ GE167.out) | exact HB.out)))); have n2_ := aM (bB (g := gb158) (qy BK158.out) hb); have n3_ := aM (bB (g := gb159) (qy BK159.out) hb); have n4_ := aM (bB (g := gb160) (qy BK160.out) hb); have n5_ := aM (bB (g := gb167) (qy BK167.out) hb); have n6_ := aM (bP (by repeat (first | (with_reducible first | exact HB.out | apply ea | apply en | apply ed | refine es ?_ GE158.out | refine es ?_ GE159.out | refine es ?_ GE160.out | refine es ?_ GE167.out) | exact HB.out)) hb); clear HO165 BK158 BK159 BK160 BK167 HB; have HO165 := n0_; have HO172 := n1_; have BK158 := n2_; have BK159 := n3_; have BK160 := n4_; have BK167 := n5_; have HB := n6_; clear n0_ n1_ n2_ n3_ n4_ n5_ n6_; (try clear hb); (try clear hb2); (try clear hk); (try clear hi); (try clear ho0); have hcz32_0 := zC BK160.out 0 (.string (⟨#[]⟩ : ByteArray)); have hcz32_1 := zC BK160.out 1 (.slice none 0 0); have hfz32_0 := bF BK160.out 0; have hfz32_1 := bF BK160.out 1; obtain ⟨Ao33, co33, eo33⟩ := Kd.R_slice HO172.out; subst eo33))
    refine bodyPost_ret (results_ct rfl _ _ gb160 24 #[.string t169, .slice Ao33 t170.length co33] (0, 0) _ rfl (by (with_reducible repeat (first | apply qn | apply qd | apply qa)); refine bU (cs := #[.string t169, .slice none 0 0]) ?_ 1 _ rfl; (with_reducible repeat (first | apply qn | apply qd | apply qa)); refine bU (cs := #[.string (⟨#[]⟩ : ByteArray), .slice none 0 0]) ?_ 0 _ rfl; exact qy BK160.out) Tryz.underlying24 rfl (by kernel_rfl)) rfl ?_
    exact ⟨_, by first | rfl | (simp [errW_none, errW_some] <;> rfl) | (simp [*, errW_none, errW_some] <;> rfl), by (with_reducible repeat (first | apply ra | apply rn | apply rd_)); exact rM (rF (p := ⟨gb160, 1, none⟩) (rF (p := ⟨gb160, 0, none⟩) (rT HO172.out BK160.out (by decide)) (fun _ hk => hk.2) (.string t169)) (fun _ hk => hk.2) (.slice Ao33 t170.length co33)) (fun _ hk => trivial), by repeat (first | (with_reducible first | exact HB.out | apply ea | apply en | apply ed | refine es ?_ GE158.out | refine es ?_ GE159.out | refine es ?_ GE160.out | refine es ?_ GE167.out) | exact HB.out)⟩
   ·replace c8 := Bool.eq_false_iff.mpr c8
    subst c8
    have H1 : (some ((⟨#[]⟩ : ByteArray), ([] : List (S68)), 7)) = some (r1, r2, r3) := by rw [if_neg (show ¬ (false = true) by decide)] at H; exact H
    clear H
    have H := H1
    clear H1
    simp only [Option.some.injEq, Prod.mk.injEq] at H
    obtain ⟨rfl, rfl, rfl⟩ := H
    go_enter Tryz.func105, Tryz.ntmps105
    go_wp2_with (first | ((with_reducible refine gate_dst (N := 2) rfl ?_); refine box_event ?hg (N := 2) ?hd (cs := #[.string a0_0, .slice A0_1 l0_1.length c0_1]) (t := 24) ?hr ?_; (case hd | hg => rfl); (case hr => first | (go_simp; done) | (go_simp; rfl)); intro gb158 hg w34 hbox hb; have n0_ := aM (bP (ey HB.out) hb); have n1_ := aM (hbox); have n2_ := aM ((by rw [hg]; exact (bZ (ey HB.out)) : w.heap.size ≤ gb158)); have n3_ := n2_; clear HB; have HB := n0_; have BK158 := n1_; have GW158 := n2_; have GE158 := n3_; clear n0_ n1_ n2_ n3_; clear hb hbox hg) | ((with_reducible refine gate_dst (N := 3) rfl ?_); refine box_event ?hg (N := 3) ?hd (cs := #[.int .i64 a1_0, .string a1_1, .slice A1_2 l1_2.length c1_2, .string a1_3, .slice A1_4 l1_4.length c1_4]) (t := 36) ?hr ?_; (case hd | hg => rfl); (case hr => first | (go_simp; done) | (go_simp; rfl)); intro gb159 hg w35 hbox hb; have n0_ := aM (bB (g := gb158) (qy BK158.out) hb); have n1_ := aM (bP (by repeat (first | (with_reducible first | exact HB.out | apply ea | apply en | apply ed | refine es ?_ GE158.out) | exact HB.out)) hb); have n2_ := aM (hbox); have n3_ := aM ((by rw [hg]; exact (bZ (by repeat (first | (with_reducible first | exact HB.out | apply ea | apply en | apply ed | refine es ?_ GE158.out) | exact HB.out))) : w.heap.size ≤ gb159)); have n4_ := n3_; have n5_ := aM ((by rw [hg]; exact Nat.ne_of_lt (blk_lt (g := gb158) (qy BK158.out)) : gb158 ≠ gb159)); have n6_ := aM ((by rw [hg]; exact Nat.ne_of_gt (blk_lt (g := gb158) (qy BK158.out)) : gb159 ≠ gb158)); clear BK158 HB; have BK158 := n0_; have HB := n1_; have BK159 := n2_; have GW159 := n3_; have GE159 := n4_; have NB158_159 := n5_; have NB159_158 := n6_; clear n0_ n1_ n2_ n3_ n4_ n5_ n6_; clear hb hbox hg) | ((with_reducible refine gate_dst (N := 4) rfl ?_); refine box_event ?hg (N := 4) ?hd (cs := #[.string (⟨#[]⟩ : ByteArray), .slice none 0 0]) (t := 24) ?hr ?_; (case hd | hg => rfl); (case hr => first | (go_simp; done) | (go_simp; rfl)); intro gb160 hg w36 hbox hb; have n0_ := aM (bB (g := gb158) (qy BK158.out) hb); have n1_ := aM (bB (g := gb159) (qy BK159.out) hb); have n2_ := aM (bP (by repeat (first | (with_reducible first | exact HB.out | apply ea | apply en | apply ed | refine es ?_ GE158.out | refine es ?_ GE159.out) | exact HB.out)) hb); have n3_ := aM (hbox); have n4_ := aM ((by rw [hg]; exact (bZ (by repeat (first | (with_reducible first | exact HB.out | apply ea | apply en | apply ed | refine es ?_ GE158.out | refine es ?_ GE159.out) | exact HB.out))) : w.heap.size ≤ gb160)); have n5_ := n4_; have n6_ := aM ((by rw [hg]; exact Nat.ne_of_lt (blk_lt (g := gb158) (qy BK158.out)) : gb158 ≠ gb160)); have n7_ := aM ((by rw [hg]; exact Nat.ne_of_gt (blk_lt (g := gb158) (qy BK158.out)) : gb160 ≠ gb158)); have n8_ := aM ((by rw [hg]; exact Nat.ne_of_lt (blk_lt (g := gb159) (qy BK159.out)) : gb159 ≠ gb160)); have n9_ := aM ((by rw [hg]; exact Nat.ne_of_gt (blk_lt (g := gb159) (qy BK159.out)) : gb160 ≠ gb159)); clear BK158 BK159 HB; have BK158 := n0_; have BK159 := n1_; have HB := n2_; have BK160 := n3_; have GW160 := n4_; have GE160 := n5_; have NB158_160 := n6_; have NB160_158 := n7_; have NB159_160 := n8_; have NB160_159 := n9_; clear n0_ n1_ n2_ n3_ n4_ n5_ n6_ n7_ n8_ n9_; clear hb hbox hg; have hnb37 := NB159_158.out; have hnc37 := NB158_159.out; have hnb38 := NB159_160.out; have hnc38 := NB160_159.out; have hcz39_0 := zC BK159.out 0 (.int .i64 a1_0); have hcz39_1 := zC BK159.out 1 (.string a1_1); have hcz39_2 := zC BK159.out 2 (.slice A1_2 l1_2.length c1_2); have hcz39_3 := zC BK159.out 3 (.string a1_3); have hcz39_4 := zC BK159.out 4 (.slice A1_4 l1_4.length c1_4); have hfz39_0 := bF BK159.out 0; have hfz39_1 := bF BK159.out 1; have hfz39_2 := bF BK159.out 2; have hfz39_3 := bF BK159.out 3; have hfz39_4 := bF BK159.out 4) | ((with_reducible refine gate_callee (f := 149) rfl ?_); refine goesL_ (some 10) rfl rfl Tryz.func149 (by kernel_rfl) rfl #[.agg #[.int .i64 a1_0, .string a1_1, .slice A1_2 l1_2.length c1_2, .string a1_3, .slice A1_4 l1_4.length c1_4]] rfl (by (try simp only [mT, mC, mN]); first | done | rfl | (simp only [lD, lT]; rfl)) ?_; (with_reducible refine (edit_good.calls k a1_0 a1_1 _ _ l1_2 a1_3 _ _ l1_4 true _ ?side1 ?side2 ?side3 ?side4 A3.out).mono ?_); (case side1 => repeat (first | exact (cB_ HR1_2.out HB.out) | (with_reducible refine Kd.C_alloc ?_ _) | (with_reducible refine Kd.C_drewN ?_ _) | (with_reducible refine Kd.C_drew ?_))); (case side2 => exact HC1_2.out); (case side3 => repeat (first | exact (cB_ HR1_4.out HB.out) | (with_reducible refine Kd.C_alloc ?_ _) | (with_reducible refine Kd.C_drewN ?_ _) | (with_reducible refine Kd.C_drew ?_))); (case side4 => exact HC1_4.out); rintro e w40 ⟨rfl, hb⟩; refine ⟨_, rfl, ?_⟩; have n0_ := aM (bB (g := gb158) (qy BK158.out) hb); have n1_ := aM (bB (g := gb159) (qy BK159.out) hb); have n2_ := aM (bB (g := gb160) (qy BK160.out) hb); have n3_ := aM (bP (by repeat (first | (with_reducible first | exact HB.out | apply ea | apply en | apply ed | refine es ?_ GE158.out | refine es ?_ GE159.out | refine es ?_ GE160.out) | exact HB.out)) hb); clear BK158 BK159 BK160 HB; have BK158 := n0_; have BK159 := n1_; have BK160 := n2_; have HB := n3_; clear n0_ n1_ n2_ n3_; (try clear hb); (try clear hb2); (try clear hk); (try clear hi); have hcz41_0 := zC BK159.out 0 (.int .i64 a1_0); have hcz41_1 := zC BK159.out 1 (.string a1_1); have hcz41_2 := zC BK159.out 2 (.slice A1_2 l1_2.length c1_2); have hcz41_3 := zC BK159.out 3 (.string a1_3); have hcz41_4 := zC BK159.out 4 (.slice A1_4 l1_4.length c1_4); have hfz41_0 := bF BK159.out 0; have hfz41_1 := bF BK159.out 1; have hfz41_2 := bF BK159.out 2; have hfz41_3 := bF BK159.out 3; have hfz41_4 := bF BK159.out 4; have hnb42 := NB158_160.out; have hnc42 := NB160_158.out; have hcz43_0 := zC BK158.out 0 (.string a0_0); have hcz43_1 := zC BK158.out 1 (.slice A0_1 l0_1.length c0_1); have hfz43_0 := bF BK158.out 0; have hfz43_1 := bF BK158.out 1) | ((with_reducible refine gate_callee (f := 74) rfl ?_); refine goesL_ (some 25) rfl rfl Tryz.func74 (by kernel_rfl) rfl #[.agg #[.string a0_0, .slice A0_1 l0_1.length c0_1], .int .i64 a1_0, .int .i64 (wrap64 (a1_0 + (a1_1.size : Int)))] rfl (by (try simp only [mT, mC, mN]); first | done | rfl | (simp only [lD, lT]; rfl)) ?_; (with_reducible refine (strip_Cut.calls k a0_0 _ _ l0_1 a1_0 (wrap64 (a1_0 + (a1_1.size : Int))) t162 t163 t166 _ ?side1 ?side2 A5.out).mono ?_); (case side1 => repeat (first | exact (cB_ HR0_1.out HB.out) | (with_reducible refine Kd.C_alloc ?_ _) | (with_reducible refine Kd.C_drewN ?_ _) | (with_reducible refine Kd.C_drew ?_))); (case side2 => exact HC0_1.out); rintro e w44 ⟨v164, rfl, ho0, hb⟩; refine ⟨_, rfl, ?_⟩; have n0_ := aM (rL ho0 (bZ (by repeat (first | (with_reducible first | exact HB.out | apply ea | apply en | apply ed | refine es ?_ GE158.out | refine es ?_ GE159.out | refine es ?_ GE160.out) | exact HB.out)))); have n1_ := aM (bB (g := gb158) (qy BK158.out) hb); have n2_ := aM (bB (g := gb159) (qy BK159.out) hb); have n3_ := aM (bB (g := gb160) (qy BK160.out) hb); have n4_ := aM (bP (by repeat (first | (with_reducible first | exact HB.out | apply ea | apply en | apply ed | refine es ?_ GE158.out | refine es ?_ GE159.out | refine es ?_ GE160.out) | exact HB.out)) hb); clear BK158 BK159 BK160 HB; have HO165 := n0_; have BK158 := n1_; have BK159 := n2_; have BK160 := n3_; have HB := n4_; clear n0_ n1_ n2_ n3_ n4_; (try clear hb); (try clear hb2); (try clear hk); (try clear hi); (try clear ho0)) | ((with_reducible refine gate_dst (N := 7) rfl ?_); refine box_event ?hg (N := 7) ?hd (cs := #[.string (⟨#[]⟩ : ByteArray), .slice none 0 0]) (t := 24) ?hr ?_; (case hd | hg => rfl); (case hr => first | (go_simp; done) | (go_simp; rfl)); intro gb167 hg w45 hbox hb; have n0_ := aM (Kd.R_below (ry HO165.out) hb); have n1_ := aM (bB (g := gb158) (qy BK158.out) hb); have n2_ := aM (bB (g := gb159) (qy BK159.out) hb); have n3_ := aM (bB (g := gb160) (qy BK160.out) hb); have n4_ := aM (bP (by repeat (first | (with_reducible first | exact HB.out | apply ea | apply en | apply ed | refine es ?_ GE158.out | refine es ?_ GE159.out | refine es ?_ GE160.out) | exact HB.out)) hb); have n5_ := aM (hbox); have n6_ := aM ((by rw [hg]; exact (bZ (by repeat (first | (with_reducible first | exact HB.out | apply ea | apply en | apply ed | refine es ?_ GE158.out | refine es ?_ GE159.out | refine es ?_ GE160.out) | exact HB.out))) : w.heap.size ≤ gb167)); have n7_ := n6_; have n8_ := aM ((by rw [hg]; exact Nat.ne_of_lt (blk_lt (g := gb158) (qy BK158.out)) : gb158 ≠ gb167)); have n9_ := aM ((by rw [hg]; exact Nat.ne_of_gt (blk_lt (g := gb158) (qy BK158.out)) : gb167 ≠ gb158)); have n10_ := aM ((by rw [hg]; exact Nat.ne_of_lt (blk_lt (g := gb159) (qy BK159.out)) : gb159 ≠ gb167)); have n11_ := aM ((by rw [hg]; exact Nat.ne_of_gt (blk_lt (g := gb159) (qy BK159.out)) : gb167 ≠ gb159)); have n12_ := aM ((by rw [hg]; exact Nat.ne_of_lt (blk_lt (g := gb160) (qy BK160.out)) : gb160 ≠ gb167)); have n13_ := aM ((by rw [hg]; exact Nat.ne_of_gt (blk_lt (g := gb160) (qy BK160.out)) : gb167 ≠ gb160)); clear HO165 BK158 BK159 BK160 HB; have HO165 := n0_; have BK158 := n1_; have BK159 := n2_; have BK160 := n3_; have HB := n4_; have BK167 := n5_; have GW167 := n6_; have GE167 := n7_; have NB158_167 := n8_; have NB167_158 := n9_; have NB159_167 := n10_; have NB167_159 := n11_; have NB160_167 := n12_; have NB167_160 := n13_; clear n0_ n1_ n2_ n3_ n4_ n5_ n6_ n7_ n8_ n9_ n10_ n11_ n12_ n13_; clear hb hbox hg; have hnb46 := NB167_158.out; have hnc46 := NB158_167.out; have hnb47 := NB167_159.out; have hnc47 := NB159_167.out; have hnb48 := NB167_160.out; have hnc48 := NB160_167.out; have hcz49_0 := zC BK167.out 0 (.string (⟨#[]⟩ : ByteArray)); have hcz49_1 := zC BK167.out 1 (.slice none 0 0); have hfz49_0 := bF BK167.out 0; have hfz49_1 := bF BK167.out 1; obtain ⟨Ao50, co50, eo50⟩ := Kd.R_slice HO165.out; subst eo50; have hcz51_0 := zC BK159.out 0 (.int .i64 a1_0); have hcz51_1 := zC BK159.out 1 (.string a1_1); have hcz51_2 := zC BK159.out 2 (.slice A1_2 l1_2.length c1_2); have hcz51_3 := zC BK159.out 3 (.string a1_3); have hcz51_4 := zC BK159.out 4 (.slice A1_4 l1_4.length c1_4); have hfz51_0 := bF BK159.out 0; have hfz51_1 := bF BK159.out 1; have hfz51_2 := bF BK159.out 2; have hfz51_3 := bF BK159.out 3; have hfz51_4 := bF BK159.out 4) | ((with_reducible refine gate_callee (f := 150) rfl ?_); refine goesL_ (some 37) rfl rfl Tryz.func150 (by kernel_rfl) rfl #[.agg #[.string t162, .slice Ao50 t163.length co50], .agg #[.string a1_1, .slice A1_2 l1_2.length c1_2]] rfl (by (try simp only [mT, mC, mN]); first | done | rfl | (simp only [lD, lT]; rfl)) ?_; (with_reducible refine (strip_Same.calls k t162 _ _ t163 a1_1 _ _ l1_2 false _ ?side1 ?side2 ?side3 ?side4 A7.out).mono ?_); (case side1 => refine (rR (e := 68) (base := w.heap.size) (ok := fun k_ => True) (n := t163.length) (c := co50) ?_).2.2; exact (by (with_reducible repeat (first | apply ra | apply rn | apply rd_)); exact (rM (rF (p := ⟨gb167, 1, none⟩) (rF (p := ⟨gb167, 0, none⟩) (rT HO165.out BK167.out (by decide)) (fun _ hk => hk.2) (.string t162)) (fun _ hk => hk.2) (.slice Ao50 t163.length co50)) (fun _ h_ => h_.1)))); (case side2 => exact (rR HO165.out).2.1); (case side3 => exact cB_ HR1_2.out (by repeat (first | (with_reducible first | exact HB.out | apply ea | apply en | apply ed | refine es ?_ GE158.out | refine es ?_ GE159.out | refine es ?_ GE160.out | refine es ?_ GE167.out) | exact HB.out))); (case side4 => exact HC1_2.out); rintro e w52 ⟨rfl, hb⟩; refine ⟨_, rfl, ?_⟩; have n0_ := aM (Kd.R_below (by (with_reducible repeat (first | apply ra | apply rn | apply rd_)); exact (rM (rF (p := ⟨gb167, 1, none⟩) (rF (p := ⟨gb167, 0, none⟩) (rT HO165.out BK167.out (by decide)) (fun _ hk => hk.2) (.string t162)) (fun _ hk => hk.2) (.slice Ao50 t163.length co50)) (fun _ h_ => h_.1))) hb); have n1_ := aM (bB (g := gb158) (o := .cells #[.string a0_0, .slice A0_1 l0_1.length c0_1] 24 (0, 0)) (by (with_reducible repeat (first | apply qn | apply qd | apply qa)); refine bR ?_ NB158_167.out _; (with_reducible repeat (first | apply qn | apply qd | apply qa)); refine bR ?_ NB158_167.out _; exact qy BK158.out) hb); have n2_ := aM (bB (g := gb159) (o := .cells #[.int .i64 a1_0, .string a1_1, .slice A1_2 l1_2.length c1_2, .string a1_3, .slice A1_4 l1_4.length c1_4] 36 (0, 0)) (by (with_reducible repeat (first | apply qn | apply qd | apply qa)); refine bR ?_ NB159_167.out _; (with_reducible repeat (first | apply qn | apply qd | apply qa)); refine bR ?_ NB159_167.out _; exact qy BK159.out) hb); have n3_ := aM (bB (g := gb160) (o := .cells #[.string (⟨#[]⟩ : ByteArray), .slice none 0 0] 24 (0, 0)) (by (with_reducible repeat (first | apply qn | apply qd | apply qa)); refine bR ?_ NB160_167.out _; (with_reducible repeat (first | apply qn | apply qd | apply qa)); refine bR ?_ NB160_167.out _; exact qy BK160.out) hb); have n4_ := aM (bB (g := gb167) (o := .cells #[.string t162, .slice Ao50 t163.length co50] 24 (0, 0)) (by (with_reducible repeat (first | apply qn | apply qd | apply qa)); refine bU (cs := #[.string t162, .slice none 0 0]) ?_ 1 _ rfl; (with_reducible repeat (first | apply qn | apply qd | apply qa)); refine bU (cs := #[.string (⟨#[]⟩ : ByteArray), .slice none 0 0]) ?_ 0 _ rfl; exact qy BK167.out) hb); have n5_ := aM (bP (by repeat (first | (with_reducible first | exact HB.out | apply ea | apply en | apply ed | refine es ?_ GE158.out | refine es ?_ GE159.out | refine es ?_ GE160.out | refine es ?_ GE167.out) | exact HB.out)) hb); clear HO165 BK158 BK159 BK160 BK167 HB; have HO165 := n0_; have BK158 := n1_; have BK159 := n2_; have BK160 := n3_; have BK167 := n4_; have HB := n5_; clear n0_ n1_ n2_ n3_ n4_ n5_; (try clear hb); (try clear hb2); (try clear hk); (try clear hi); have hcz53_0 := zC BK160.out 0 (.string (⟨#[]⟩ : ByteArray)); have hcz53_1 := zC BK160.out 1 (.slice none 0 0); have hfz53_0 := bF BK160.out 0; have hfz53_1 := bF BK160.out 1))
    refine bodyPost_ret (results_ct rfl _ _ gb160 24 #[.string (⟨#[]⟩ : ByteArray), .slice none 0 0] (0, 0) _ rfl (by (with_reducible repeat (first | apply qn | apply qd | apply qa)); refine bU (cs := #[.string (⟨#[]⟩ : ByteArray), .slice none 0 0]) ?_ 1 _ rfl; (with_reducible repeat (first | apply qn | apply qd | apply qa)); refine bU (cs := #[.string (⟨#[]⟩ : ByteArray), .slice none 0 0]) ?_ 0 _ rfl; exact qy BK160.out) Tryz.underlying24 rfl (by kernel_rfl)) rfl ?_
    exact ⟨_, by first | rfl | (simp [errW_none, errW_some] <;> rfl) | (simp [*, errW_none, errW_some] <;> rfl), by first | exact Kd.R_nil _ _ _ _ _ | exact Kd.N_nil _ _ _ _ _ | exact Kd.V_nil _ _ _ _ _ | exact Kd.Q_nil _ _ _ _ _ | exact Kd.S_nil _ _ _ _ _, by repeat (first | (with_reducible first | exact HB.out | apply ea | apply en | apply ed | refine es ?_ GE158.out | refine es ?_ GE159.out | refine es ?_ GE160.out | refine es ?_ GE167.out) | exact HB.out)⟩
  ·rw [if_neg c6] at H
   have c6b0 : (t166 == 0) = false := beq_eq_false_iff_ne.mpr c6
   have c6b1 : (t166 != 0) = true := bne_iff_ne.mpr c6
   simp only [Option.some.injEq, Prod.mk.injEq] at H
   obtain ⟨rfl, rfl, rfl⟩ := H
   go_enter Tryz.func105, Tryz.ntmps105
   go_wp2_with (first | ((with_reducible refine gate_dst (N := 2) rfl ?_); refine box_event ?hg (N := 2) ?hd (cs := #[.string a0_0, .slice A0_1 l0_1.length c0_1]) (t := 24) ?hr ?_; (case hd | hg => rfl); (case hr => first | (go_simp; done) | (go_simp; rfl)); intro gb158 hg w54 hbox hb; have n0_ := aM (bP (ey HB.out) hb); have n1_ := aM (hbox); have n2_ := aM ((by rw [hg]; exact (bZ (ey HB.out)) : w.heap.size ≤ gb158)); have n3_ := n2_; clear HB; have HB := n0_; have BK158 := n1_; have GW158 := n2_; have GE158 := n3_; clear n0_ n1_ n2_ n3_; clear hb hbox hg) | ((with_reducible refine gate_dst (N := 3) rfl ?_); refine box_event ?hg (N := 3) ?hd (cs := #[.int .i64 a1_0, .string a1_1, .slice A1_2 l1_2.length c1_2, .string a1_3, .slice A1_4 l1_4.length c1_4]) (t := 36) ?hr ?_; (case hd | hg => rfl); (case hr => first | (go_simp; done) | (go_simp; rfl)); intro gb159 hg w55 hbox hb; have n0_ := aM (bB (g := gb158) (qy BK158.out) hb); have n1_ := aM (bP (by repeat (first | (with_reducible first | exact HB.out | apply ea | apply en | apply ed | refine es ?_ GE158.out) | exact HB.out)) hb); have n2_ := aM (hbox); have n3_ := aM ((by rw [hg]; exact (bZ (by repeat (first | (with_reducible first | exact HB.out | apply ea | apply en | apply ed | refine es ?_ GE158.out) | exact HB.out))) : w.heap.size ≤ gb159)); have n4_ := n3_; have n5_ := aM ((by rw [hg]; exact Nat.ne_of_lt (blk_lt (g := gb158) (qy BK158.out)) : gb158 ≠ gb159)); have n6_ := aM ((by rw [hg]; exact Nat.ne_of_gt (blk_lt (g := gb158) (qy BK158.out)) : gb159 ≠ gb158)); clear BK158 HB; have BK158 := n0_; have HB := n1_; have BK159 := n2_; have GW159 := n3_; have GE159 := n4_; have NB158_159 := n5_; have NB159_158 := n6_; clear n0_ n1_ n2_ n3_ n4_ n5_ n6_; clear hb hbox hg) | ((with_reducible refine gate_dst (N := 4) rfl ?_); refine box_event ?hg (N := 4) ?hd (cs := #[.string (⟨#[]⟩ : ByteArray), .slice none 0 0]) (t := 24) ?hr ?_; (case hd | hg => rfl); (case hr => first | (go_simp; done) | (go_simp; rfl)); intro gb160 hg w56 hbox hb; have n0_ := aM (bB (g := gb158) (qy BK158.out) hb); have n1_ := aM (bB (g := gb159) (qy BK159.out) hb); have n2_ := aM (bP (by repeat (first | (with_reducible first | exact HB.out | apply ea | apply en | apply ed | refine es ?_ GE158.out | refine es ?_ GE159.out) | exact HB.out)) hb); have n3_ := aM (hbox); have n4_ := aM ((by rw [hg]; exact (bZ (by repeat (first | (with_reducible first | exact HB.out | apply ea | apply en | apply ed | refine es ?_ GE158.out | refine es ?_ GE159.out) | exact HB.out))) : w.heap.size ≤ gb160)); have n5_ := n4_; have n6_ := aM ((by rw [hg]; exact Nat.ne_of_lt (blk_lt (g := gb158) (qy BK158.out)) : gb158 ≠ gb160)); have n7_ := aM ((by rw [hg]; exact Nat.ne_of_gt (blk_lt (g := gb158) (qy BK158.out)) : gb160 ≠ gb158)); have n8_ := aM ((by rw [hg]; exact Nat.ne_of_lt (blk_lt (g := gb159) (qy BK159.out)) : gb159 ≠ gb160)); have n9_ := aM ((by rw [hg]; exact Nat.ne_of_gt (blk_lt (g := gb159) (qy BK159.out)) : gb160 ≠ gb159)); clear BK158 BK159 HB; have BK158 := n0_; have BK159 := n1_; have HB := n2_; have BK160 := n3_; have GW160 := n4_; have GE160 := n5_; have NB158_160 := n6_; have NB160_158 := n7_; have NB159_160 := n8_; have NB160_159 := n9_; clear n0_ n1_ n2_ n3_ n4_ n5_ n6_ n7_ n8_ n9_; clear hb hbox hg; have hnb57 := NB159_158.out; have hnc57 := NB158_159.out; have hnb58 := NB159_160.out; have hnc58 := NB160_159.out; have hcz59_0 := zC BK159.out 0 (.int .i64 a1_0); have hcz59_1 := zC BK159.out 1 (.string a1_1); have hcz59_2 := zC BK159.out 2 (.slice A1_2 l1_2.length c1_2); have hcz59_3 := zC BK159.out 3 (.string a1_3); have hcz59_4 := zC BK159.out 4 (.slice A1_4 l1_4.length c1_4); have hfz59_0 := bF BK159.out 0; have hfz59_1 := bF BK159.out 1; have hfz59_2 := bF BK159.out 2; have hfz59_3 := bF BK159.out 3; have hfz59_4 := bF BK159.out 4) | ((with_reducible refine gate_callee (f := 149) rfl ?_); refine goesL_ (some 10) rfl rfl Tryz.func149 (by kernel_rfl) rfl #[.agg #[.int .i64 a1_0, .string a1_1, .slice A1_2 l1_2.length c1_2, .string a1_3, .slice A1_4 l1_4.length c1_4]] rfl (by (try simp only [mT, mC, mN]); first | done | rfl | (simp only [lD, lT]; rfl)) ?_; (with_reducible refine (edit_good.calls k a1_0 a1_1 _ _ l1_2 a1_3 _ _ l1_4 true _ ?side1 ?side2 ?side3 ?side4 A3.out).mono ?_); (case side1 => repeat (first | exact (cB_ HR1_2.out HB.out) | (with_reducible refine Kd.C_alloc ?_ _) | (with_reducible refine Kd.C_drewN ?_ _) | (with_reducible refine Kd.C_drew ?_))); (case side2 => exact HC1_2.out); (case side3 => repeat (first | exact (cB_ HR1_4.out HB.out) | (with_reducible refine Kd.C_alloc ?_ _) | (with_reducible refine Kd.C_drewN ?_ _) | (with_reducible refine Kd.C_drew ?_))); (case side4 => exact HC1_4.out); rintro e w60 ⟨rfl, hb⟩; refine ⟨_, rfl, ?_⟩; have n0_ := aM (bB (g := gb158) (qy BK158.out) hb); have n1_ := aM (bB (g := gb159) (qy BK159.out) hb); have n2_ := aM (bB (g := gb160) (qy BK160.out) hb); have n3_ := aM (bP (by repeat (first | (with_reducible first | exact HB.out | apply ea | apply en | apply ed | refine es ?_ GE158.out | refine es ?_ GE159.out | refine es ?_ GE160.out) | exact HB.out)) hb); clear BK158 BK159 BK160 HB; have BK158 := n0_; have BK159 := n1_; have BK160 := n2_; have HB := n3_; clear n0_ n1_ n2_ n3_; (try clear hb); (try clear hb2); (try clear hk); (try clear hi); have hcz61_0 := zC BK159.out 0 (.int .i64 a1_0); have hcz61_1 := zC BK159.out 1 (.string a1_1); have hcz61_2 := zC BK159.out 2 (.slice A1_2 l1_2.length c1_2); have hcz61_3 := zC BK159.out 3 (.string a1_3); have hcz61_4 := zC BK159.out 4 (.slice A1_4 l1_4.length c1_4); have hfz61_0 := bF BK159.out 0; have hfz61_1 := bF BK159.out 1; have hfz61_2 := bF BK159.out 2; have hfz61_3 := bF BK159.out 3; have hfz61_4 := bF BK159.out 4; have hnb62 := NB158_160.out; have hnc62 := NB160_158.out; have hcz63_0 := zC BK158.out 0 (.string a0_0); have hcz63_1 := zC BK158.out 1 (.slice A0_1 l0_1.length c0_1); have hfz63_0 := bF BK158.out 0; have hfz63_1 := bF BK158.out 1) | ((with_reducible refine gate_callee (f := 74) rfl ?_); refine goesL_ (some 25) rfl rfl Tryz.func74 (by kernel_rfl) rfl #[.agg #[.string a0_0, .slice A0_1 l0_1.length c0_1], .int .i64 a1_0, .int .i64 (wrap64 (a1_0 + (a1_1.size : Int)))] rfl (by (try simp only [mT, mC, mN]); first | done | rfl | (simp only [lD, lT]; rfl)) ?_; (with_reducible refine (strip_Cut.calls k a0_0 _ _ l0_1 a1_0 (wrap64 (a1_0 + (a1_1.size : Int))) t162 t163 t166 _ ?side1 ?side2 A5.out).mono ?_); (case side1 => repeat (first | exact (cB_ HR0_1.out HB.out) | (with_reducible refine Kd.C_alloc ?_ _) | (with_reducible refine Kd.C_drewN ?_ _) | (with_reducible refine Kd.C_drew ?_))); (case side2 => exact HC0_1.out); rintro e w64 ⟨v164, rfl, ho0, hb⟩; refine ⟨_, rfl, ?_⟩; have n0_ := aM (rL ho0 (bZ (by repeat (first | (with_reducible first | exact HB.out | apply ea | apply en | apply ed | refine es ?_ GE158.out | refine es ?_ GE159.out | refine es ?_ GE160.out) | exact HB.out)))); have n1_ := aM (bB (g := gb158) (qy BK158.out) hb); have n2_ := aM (bB (g := gb159) (qy BK159.out) hb); have n3_ := aM (bB (g := gb160) (qy BK160.out) hb); have n4_ := aM (bP (by repeat (first | (with_reducible first | exact HB.out | apply ea | apply en | apply ed | refine es ?_ GE158.out | refine es ?_ GE159.out | refine es ?_ GE160.out) | exact HB.out)) hb); clear BK158 BK159 BK160 HB; have HO165 := n0_; have BK158 := n1_; have BK159 := n2_; have BK160 := n3_; have HB := n4_; clear n0_ n1_ n2_ n3_ n4_; (try clear hb); (try clear hb2); (try clear hk); (try clear hi); (try clear ho0)) | ((with_reducible refine gate_dst (N := 7) rfl ?_); refine box_event ?hg (N := 7) ?hd (cs := #[.string (⟨#[]⟩ : ByteArray), .slice none 0 0]) (t := 24) ?hr ?_; (case hd | hg => rfl); (case hr => first | (go_simp; done) | (go_simp; rfl)); intro gb167 hg w65 hbox hb; have n0_ := aM (Kd.R_below (ry HO165.out) hb); have n1_ := aM (bB (g := gb158) (qy BK158.out) hb); have n2_ := aM (bB (g := gb159) (qy BK159.out) hb); have n3_ := aM (bB (g := gb160) (qy BK160.out) hb); have n4_ := aM (bP (by repeat (first | (with_reducible first | exact HB.out | apply ea | apply en | apply ed | refine es ?_ GE158.out | refine es ?_ GE159.out | refine es ?_ GE160.out) | exact HB.out)) hb); have n5_ := aM (hbox); have n6_ := aM ((by rw [hg]; exact (bZ (by repeat (first | (with_reducible first | exact HB.out | apply ea | apply en | apply ed | refine es ?_ GE158.out | refine es ?_ GE159.out | refine es ?_ GE160.out) | exact HB.out))) : w.heap.size ≤ gb167)); have n7_ := n6_; have n8_ := aM ((by rw [hg]; exact Nat.ne_of_lt (blk_lt (g := gb158) (qy BK158.out)) : gb158 ≠ gb167)); have n9_ := aM ((by rw [hg]; exact Nat.ne_of_gt (blk_lt (g := gb158) (qy BK158.out)) : gb167 ≠ gb158)); have n10_ := aM ((by rw [hg]; exact Nat.ne_of_lt (blk_lt (g := gb159) (qy BK159.out)) : gb159 ≠ gb167)); have n11_ := aM ((by rw [hg]; exact Nat.ne_of_gt (blk_lt (g := gb159) (qy BK159.out)) : gb167 ≠ gb159)); have n12_ := aM ((by rw [hg]; exact Nat.ne_of_lt (blk_lt (g := gb160) (qy BK160.out)) : gb160 ≠ gb167)); have n13_ := aM ((by rw [hg]; exact Nat.ne_of_gt (blk_lt (g := gb160) (qy BK160.out)) : gb167 ≠ gb160)); clear HO165 BK158 BK159 BK160 HB; have HO165 := n0_; have BK158 := n1_; have BK159 := n2_; have BK160 := n3_; have HB := n4_; have BK167 := n5_; have GW167 := n6_; have GE167 := n7_; have NB158_167 := n8_; have NB167_158 := n9_; have NB159_167 := n10_; have NB167_159 := n11_; have NB160_167 := n12_; have NB167_160 := n13_; clear n0_ n1_ n2_ n3_ n4_ n5_ n6_ n7_ n8_ n9_ n10_ n11_ n12_ n13_; clear hb hbox hg; have hnb66 := NB167_158.out; have hnc66 := NB158_167.out; have hnb67 := NB167_159.out; have hnc67 := NB159_167.out; have hnb68 := NB167_160.out; have hnc68 := NB160_167.out; have hcz69_0 := zC BK167.out 0 (.string (⟨#[]⟩ : ByteArray)); have hcz69_1 := zC BK167.out 1 (.slice none 0 0); have hfz69_0 := bF BK167.out 0; have hfz69_1 := bF BK167.out 1; obtain ⟨Ao70, co70, eo70⟩ := Kd.R_slice HO165.out; subst eo70; have hcz71_0 := zC BK160.out 0 (.string (⟨#[]⟩ : ByteArray)); have hcz71_1 := zC BK160.out 1 (.slice none 0 0); have hfz71_0 := bF BK160.out 0; have hfz71_1 := bF BK160.out 1))
   refine bodyPost_ret (results_ct rfl _ _ gb160 24 #[.string (⟨#[]⟩ : ByteArray), .slice none 0 0] (0, 0) _ rfl (by (with_reducible repeat (first | apply qn | apply qd | apply qa)); refine bU (cs := #[.string (⟨#[]⟩ : ByteArray), .slice none 0 0]) ?_ 1 _ rfl; (with_reducible repeat (first | apply qn | apply qd | apply qa)); refine bU (cs := #[.string (⟨#[]⟩ : ByteArray), .slice none 0 0]) ?_ 0 _ rfl; (with_reducible repeat (first | apply qn | apply qd | apply qa)); refine bR ?_ NB160_167.out _; (with_reducible repeat (first | apply qn | apply qd | apply qa)); refine bR ?_ NB160_167.out _; exact qy BK160.out) Tryz.underlying24 rfl (by kernel_rfl)) rfl ?_
   exact ⟨_, by first | rfl | (simp [errW_none, errW_some] <;> rfl) | (simp [*, errW_none, errW_some] <;> rfl), by first | exact Kd.R_nil _ _ _ _ _ | exact Kd.N_nil _ _ _ _ _ | exact Kd.V_nil _ _ _ _ _ | exact Kd.Q_nil _ _ _ _ _ | exact Kd.S_nil _ _ _ _ _, by repeat (first | (with_reducible first | exact HB.out | apply ea | apply en | apply ed | refine es ?_ GE158.out | refine es ?_ GE159.out | refine es ?_ GE160.out | refine es ?_ GE167.out) | exact HB.out)⟩
 ·replace c4 := Bool.eq_false_iff.mpr c4
  subst c4
  have H1 : (some ((⟨#[]⟩ : ByteArray), ([] : List (S68)), 2)) = some (r1, r2, r3) := by rw [if_neg (show ¬ (false = true) by decide)] at H; exact H
  clear H
  have H := H1
  clear H1
  simp only [Option.some.injEq, Prod.mk.injEq] at H
  obtain ⟨rfl, rfl, rfl⟩ := H
  go_enter Tryz.func105, Tryz.ntmps105
  go_wp2_with (first | ((with_reducible refine gate_dst (N := 2) rfl ?_); refine box_event ?hg (N := 2) ?hd (cs := #[.string a0_0, .slice A0_1 l0_1.length c0_1]) (t := 24) ?hr ?_; (case hd | hg => rfl); (case hr => first | (go_simp; done) | (go_simp; rfl)); intro gb158 hg w72 hbox hb; have n0_ := aM (bP (ey HB.out) hb); have n1_ := aM (hbox); have n2_ := aM ((by rw [hg]; exact (bZ (ey HB.out)) : w.heap.size ≤ gb158)); have n3_ := n2_; clear HB; have HB := n0_; have BK158 := n1_; have GW158 := n2_; have GE158 := n3_; clear n0_ n1_ n2_ n3_; clear hb hbox hg) | ((with_reducible refine gate_dst (N := 3) rfl ?_); refine box_event ?hg (N := 3) ?hd (cs := #[.int .i64 a1_0, .string a1_1, .slice A1_2 l1_2.length c1_2, .string a1_3, .slice A1_4 l1_4.length c1_4]) (t := 36) ?hr ?_; (case hd | hg => rfl); (case hr => first | (go_simp; done) | (go_simp; rfl)); intro gb159 hg w73 hbox hb; have n0_ := aM (bB (g := gb158) (qy BK158.out) hb); have n1_ := aM (bP (by repeat (first | (with_reducible first | exact HB.out | apply ea | apply en | apply ed | refine es ?_ GE158.out) | exact HB.out)) hb); have n2_ := aM (hbox); have n3_ := aM ((by rw [hg]; exact (bZ (by repeat (first | (with_reducible first | exact HB.out | apply ea | apply en | apply ed | refine es ?_ GE158.out) | exact HB.out))) : w.heap.size ≤ gb159)); have n4_ := n3_; have n5_ := aM ((by rw [hg]; exact Nat.ne_of_lt (blk_lt (g := gb158) (qy BK158.out)) : gb158 ≠ gb159)); have n6_ := aM ((by rw [hg]; exact Nat.ne_of_gt (blk_lt (g := gb158) (qy BK158.out)) : gb159 ≠ gb158)); clear BK158 HB; have BK158 := n0_; have HB := n1_; have BK159 := n2_; have GW159 := n3_; have GE159 := n4_; have NB158_159 := n5_; have NB159_158 := n6_; clear n0_ n1_ n2_ n3_ n4_ n5_ n6_; clear hb hbox hg) | ((with_reducible refine gate_dst (N := 4) rfl ?_); refine box_event ?hg (N := 4) ?hd (cs := #[.string (⟨#[]⟩ : ByteArray), .slice none 0 0]) (t := 24) ?hr ?_; (case hd | hg => rfl); (case hr => first | (go_simp; done) | (go_simp; rfl)); intro gb160 hg w74 hbox hb; have n0_ := aM (bB (g := gb158) (qy BK158.out) hb); have n1_ := aM (bB (g := gb159) (qy BK159.out) hb); have n2_ := aM (bP (by repeat (first | (with_reducible first | exact HB.out | apply ea | apply en | apply ed | refine es ?_ GE158.out | refine es ?_ GE159.out) | exact HB.out)) hb); have n3_ := aM (hbox); have n4_ := aM ((by rw [hg]; exact (bZ (by repeat (first | (with_reducible first | exact HB.out | apply ea | apply en | apply ed | refine es ?_ GE158.out | refine es ?_ GE159.out) | exact HB.out))) : w.heap.size ≤ gb160)); have n5_ := n4_; have n6_ := aM ((by rw [hg]; exact Nat.ne_of_lt (blk_lt (g := gb158) (qy BK158.out)) : gb158 ≠ gb160)); have n7_ := aM ((by rw [hg]; exact Nat.ne_of_gt (blk_lt (g := gb158) (qy BK158.out)) : gb160 ≠ gb158)); have n8_ := aM ((by rw [hg]; exact Nat.ne_of_lt (blk_lt (g := gb159) (qy BK159.out)) : gb159 ≠ gb160)); have n9_ := aM ((by rw [hg]; exact Nat.ne_of_gt (blk_lt (g := gb159) (qy BK159.out)) : gb160 ≠ gb159)); clear BK158 BK159 HB; have BK158 := n0_; have BK159 := n1_; have HB := n2_; have BK160 := n3_; have GW160 := n4_; have GE160 := n5_; have NB158_160 := n6_; have NB160_158 := n7_; have NB159_160 := n8_; have NB160_159 := n9_; clear n0_ n1_ n2_ n3_ n4_ n5_ n6_ n7_ n8_ n9_; clear hb hbox hg; have hnb75 := NB159_158.out; have hnc75 := NB158_159.out; have hnb76 := NB159_160.out; have hnc76 := NB160_159.out; have hcz77_0 := zC BK159.out 0 (.int .i64 a1_0); have hcz77_1 := zC BK159.out 1 (.string a1_1); have hcz77_2 := zC BK159.out 2 (.slice A1_2 l1_2.length c1_2); have hcz77_3 := zC BK159.out 3 (.string a1_3); have hcz77_4 := zC BK159.out 4 (.slice A1_4 l1_4.length c1_4); have hfz77_0 := bF BK159.out 0; have hfz77_1 := bF BK159.out 1; have hfz77_2 := bF BK159.out 2; have hfz77_3 := bF BK159.out 3; have hfz77_4 := bF BK159.out 4) | ((with_reducible refine gate_callee (f := 149) rfl ?_); refine goesL_ (some 10) rfl rfl Tryz.func149 (by kernel_rfl) rfl #[.agg #[.int .i64 a1_0, .string a1_1, .slice A1_2 l1_2.length c1_2, .string a1_3, .slice A1_4 l1_4.length c1_4]] rfl (by (try simp only [mT, mC, mN]); first | done | rfl | (simp only [lD, lT]; rfl)) ?_; (with_reducible refine (edit_good.calls k a1_0 a1_1 _ _ l1_2 a1_3 _ _ l1_4 false _ ?side1 ?side2 ?side3 ?side4 A3.out).mono ?_); (case side1 => repeat (first | exact (cB_ HR1_2.out HB.out) | (with_reducible refine Kd.C_alloc ?_ _) | (with_reducible refine Kd.C_drewN ?_ _) | (with_reducible refine Kd.C_drew ?_))); (case side2 => exact HC1_2.out); (case side3 => repeat (first | exact (cB_ HR1_4.out HB.out) | (with_reducible refine Kd.C_alloc ?_ _) | (with_reducible refine Kd.C_drewN ?_ _) | (with_reducible refine Kd.C_drew ?_))); (case side4 => exact HC1_4.out); rintro e w78 ⟨rfl, hb⟩; refine ⟨_, rfl, ?_⟩; have n0_ := aM (bB (g := gb158) (qy BK158.out) hb); have n1_ := aM (bB (g := gb159) (qy BK159.out) hb); have n2_ := aM (bB (g := gb160) (qy BK160.out) hb); have n3_ := aM (bP (by repeat (first | (with_reducible first | exact HB.out | apply ea | apply en | apply ed | refine es ?_ GE158.out | refine es ?_ GE159.out | refine es ?_ GE160.out) | exact HB.out)) hb); clear BK158 BK159 BK160 HB; have BK158 := n0_; have BK159 := n1_; have BK160 := n2_; have HB := n3_; clear n0_ n1_ n2_ n3_; (try clear hb); (try clear hb2); (try clear hk); (try clear hi); have hnb79 := NB160_158.out; have hnc79 := NB158_160.out; have hcz80_0 := zC BK160.out 0 (.string (⟨#[]⟩ : ByteArray)); have hcz80_1 := zC BK160.out 1 (.slice none 0 0); have hfz80_0 := bF BK160.out 0; have hfz80_1 := bF BK160.out 1))
  refine bodyPost_ret (results_ct rfl _ _ gb160 24 #[.string (⟨#[]⟩ : ByteArray), .slice none 0 0] (0, 0) _ rfl (by (with_reducible repeat (first | apply qn | apply qd | apply qa)); refine bU (cs := #[.string (⟨#[]⟩ : ByteArray), .slice none 0 0]) ?_ 1 _ rfl; (with_reducible repeat (first | apply qn | apply qd | apply qa)); refine bU (cs := #[.string (⟨#[]⟩ : ByteArray), .slice none 0 0]) ?_ 0 _ rfl; exact qy BK160.out) Tryz.underlying24 rfl (by kernel_rfl)) rfl ?_
  exact ⟨_, by first | rfl | (simp [errW_none, errW_some] <;> rfl) | (simp [*, errW_none, errW_some] <;> rfl), by first | exact Kd.R_nil _ _ _ _ _ | exact Kd.N_nil _ _ _ _ _ | exact Kd.V_nil _ _ _ _ _ | exact Kd.Q_nil _ _ _ _ _ | exact Kd.S_nil _ _ _ _ _, by repeat (first | (with_reducible first | exact HB.out | apply ea | apply en | apply ed | refine es ?_ GE158.out | refine es ?_ GE159.out | refine es ?_ GE160.out) | exact HB.out)⟩
end Go.Proofs.YtjkfkiebhgkolaaGreatDoor.PB
end

section
namespace Go.Proofs.YtjkfkiebhgkolaaGreatDoor.PB
open Go.RowKit Go.Proofs.YtjkfkiebhgkolaaGreatDoorW.PrintWords
set_option linter.unusedVariables false
def goodE (a : Int) (o : ByteArray) (ol : List S68) (n : ByteArray) (nl : List S68) : Bool := goodT o ol && (goodT n nl && (decide (0 ≤ a) && decide (a ≤ 4096)))
theorem goodE_iff {a : Int} {o n : ByteArray} {ol nl : List S68} : goodE a o ol n nl = true ↔ goodT o ol = true ∧ goodT n nl = true ∧ 0 ≤ a ∧ a ≤ 4096 := by simp [goodE]
theorem goodE_ev (a : Int) (o : ByteArray) (ol : List S68) (n : ByteArray) (nl : List S68) (hl : ol.length ≤ big) (hm : nl.length ≤ big) : Ev (fun k => edit_good.f k a o ol n nl) (goodE a o ol n nl) := by
 unfold edit_good.f
 refine Ev.bind (goodT_ev o ol hl) ?_
 by_cases h1 : goodT o ol = true
 ·refine Ev.pos h1 (Ev.bind (goodT_ev n nl hm) ?_)
  by_cases h2 : goodT n nl = true
  ·refine Ev.pos h2 ?_
   by_cases h3 : 0 ≤ a
   ·exact Ev.pos h3 (ev_val (Ev.now _) (by simp [goodE, h1, h2, h3]))
   ·exact Ev.neg h3 (ev_val (Ev.now _) (by simp [goodE, h3]))
  ·exact Ev.neg h2 (ev_val (Ev.now _) (by simp [goodE, h2]))
 ·exact Ev.neg h1 (ev_val (Ev.now _) (by simp [goodE, h1]))
theorem goodE_facts {a : Int} {o n : ByteArray} {ol nl : List S68} (h : goodE a o ol n nl = true) : 0 ≤ a ∧ a ≤ 4096 ∧ o.size ≤ 4096 ∧ n.size ≤ 4096 := by
 obtain ⟨h1, h2, h3, h4⟩ := goodE_iff.1 h
 obtain ⟨_, _, _, g4, _⟩ := goodT_facts h1
 obtain ⟨_, _, _, q4, _⟩ := goodT_facts h2
 exact ⟨h3, h4, g4, q4⟩
def applyT (s : ByteArray) (l : List S68) (a : Int) (o : ByteArray) (ol : List S68) (n : ByteArray) (nl : List S68) : TX :=
 if goodE a o ol n nl = true then (if (cutS s l a (a + (o.size : Int))).2.2 = 0 then (if sameT (cutS s l a (a + (o.size : Int))).1 (cutS s l a (a + (o.size : Int))).2.1 o ol = true then spliceT s l a (a + (o.size : Int)) n nl else (⟨#[]⟩, [], 7)) else (⟨#[]⟩, [], (cutS s l a (a + (o.size : Int))).2.2)) else (⟨#[]⟩, [], 2)
theorem apply_ev (s : ByteArray) (l : List S68) (hls : l.length ≤ big) (a : Int) (o : ByteArray) (ol : List S68) (n : ByteArray) (nl : List S68) (hl : ol.length ≤ big) (hm : nl.length ≤ big) :
  Ev (fun k => edit_Apply.f k s l a o ol n nl) (applyT s l a o ol n nl) := by
 unfold edit_Apply.f applyT
 refine Ev.bind (goodE_ev a o ol n nl hl hm) ?_
 refine Ev.ite (fun hg => ?_) (fun _ => Ev.now _)
 obtain ⟨f1, f2, f3, f4⟩ := goodE_facts hg
 rw [show wrap64 (a + (o.size : Int)) = a + (o.size : Int) by unfold wrap64; omega]
 refine Ev.bind (cut_ev s l hls _ _) ?_
 refine Ev.ite (fun _ => ?_) (fun _ => Ev.now _)
 refine Ev.bind (same4_ev _ _ _ _ (len_big (cutS_len _ _ _ _))) ?_
 exact Ev.ite (fun _ => Ev.bind (splice4_ev s l hls _ _ n nl hm) (Ev.now _)) (fun _ => Ev.now _)
theorem applyT_len (s : ByteArray) (l : List S68) (a : Int) (o : ByteArray) (ol : List S68) (n : ByteArray) (nl : List S68) : (applyT s l a o ol n nl).2.1.length ≤ 20000 := by
 unfold applyT
 split
 ·split
  ·split
   ·exact spliceT_len _ _ _ _ _ _
   ·simp
  ·simp
 ·simp
theorem own_eq (s : ByteArray) (l : List S68) (hl : l.length ≤ big) : edit_own.f s l = some (s, l) := by
 unfold edit_own.f
 unfold big at hl
 rw [if_pos (by omega)]
theorem ext_list (s : ByteArray) (i j : Nat) : (s.extract i j).data.toList = (s.data.toList.take j).drop i := by
 rw [ByteArray.data_extract, Array.toList_extract, List.extract_eq_take_drop, List.drop_take]
theorem data_inj {a b : ByteArray} (h : a.data.toList = b.data.toList) : a = b := ByteArray.ext (Array.toList_inj.1 h)
end Go.Proofs.YtjkfkiebhgkolaaGreatDoor.PB
end

section
namespace Go.Proofs.YtjkfkiebhgkolaaGreatDoor.PB
open Go.RowKit Go.Proofs.YtjkfkiebhgkolaaGreatDoorW.PrintWords Go.Proofs.YtjkfkiebhgkolaaGreatDoorW.PrintLast Go.Proofs.YtjkfkiebhgkolaaGreatDoorW.PrintMore
attribute [local go_sem] max2_int min2_int max_two min_two max_three min_three max_four min_four   
set_option linter.unusedVariables false
set_option linter.unusedSimpArgs false
def bureauref02_Bytes.f (a0 : Int) : Option (ByteArray) := if a0 < 128 then (some (strOfNums (([(a0) % 256] : List Int)))) else (if a0 < 2048 then (some (strOfNums (([(wrap64 (192 + (wrap64 (Int.tdiv a0 64)))) % 256, (wrap64 (128 + (Int.tmod a0 64))) % 256] : List Int)))) else (if a0 < 65536 then (some (strOfNums (([(wrap64 (224 + (wrap64 (Int.tdiv a0 4096)))) % 256, (wrap64 (128 + (Int.tmod (wrap64 (Int.tdiv a0 64)) 64))) % 256, (wrap64 (128 + (Int.tmod a0 64))) % 256] : List Int)))) else (some (strOfNums (([(wrap64 (240 + (wrap64 (Int.tdiv a0 262144)))) % 256, (wrap64 (128 + (Int.tmod (wrap64 (Int.tdiv a0 4096)) 64))) % 256, (wrap64 (128 + (Int.tmod (wrap64 (Int.tdiv a0 64)) 64))) % 256, (wrap64 (128 + (Int.tmod a0 64))) % 256] : List Int))))))
set_option maxHeartbeats 8000000 in
set_option maxRecDepth 100000 in
theorem bureauref02_Bytes.calls (a0 : Int) (r : ByteArray) (w : World) (h : bureauref02_Bytes.f a0 = some r) :
  Calls Tryz.prog 56 #[.int .i64 a0] w fun e w' => e = .returned (.string r) ∧ Below w.heap.size w w' := by
 have HB := aM (Below.refl w.heap.size w)
 have H : (if a0 < 128 then (some (strOfNums (([(a0) % 256] : List Int)))) else (if a0 < 2048 then (some (strOfNums (([(wrap64 (192 + (wrap64 (Int.tdiv a0 64)))) % 256, (wrap64 (128 + (Int.tmod a0 64))) % 256] : List Int)))) else (if a0 < 65536 then (some (strOfNums (([(wrap64 (224 + (wrap64 (Int.tdiv a0 4096)))) % 256, (wrap64 (128 + (Int.tmod (wrap64 (Int.tdiv a0 64)) 64))) % 256, (wrap64 (128 + (Int.tmod a0 64))) % 256] : List Int)))) else (some (strOfNums (([(wrap64 (240 + (wrap64 (Int.tdiv a0 262144)))) % 256, (wrap64 (128 + (Int.tmod (wrap64 (Int.tdiv a0 4096)) 64))) % 256, (wrap64 (128 + (Int.tmod (wrap64 (Int.tdiv a0 64)) 64))) % 256, (wrap64 (128 + (Int.tmod a0 64))) % 256] : List Int))))))) = some r := h
 clear h
 by_cases c2 : a0 < 128
 ·rw [if_pos c2] at H
  have c2b0 : decide (a0 < 128) = true := decide_eq_true c2
  clear c2
  obtain ⟨y456, hy456⟩ : ∃ y_ : List Int, y_ = (([(a0) % 256] : List Int)) := ⟨_, rfl⟩
  replace H : (some (strOfNums y456)) = some r := by first | (rw [hy456]; with_reducible exact H) | (have H2_ := (Option.bind_some _ _).symm.trans H; rw [hy456]; with_reducible exact H2_) | (have H2_ := (Option.bind_some _ _).symm.trans H; with_reducible exact H2_) | with_reducible exact H | (rw [hy456]; exact H) | exact H
  have Ny456 := aM hy456
  clear hy456
  obtain rfl := Option.some.inj H
  go_enter Tryz.func56, Tryz.ntmps56
  go_wp2_with (first | ((with_reducible refine gate_dst (N := 8) rfl ?_); refine Kd.R_lit (Kd.int .u8) _ 5 ?hg (N := 8) ?hd (xs := ([(a0) % 256] : List Int)) (inner := [.int .u8 ((a0) % 256)]) (ok := fun _ => True) (okp := fun _ => True) ?hr ?hp (fun _ hk => hk) trivial (Below.refl _ _) (Nat.le_refl _) (by simp) ?_; (case hd | hg => rfl); (case hr => first | (go_simp; done) | (go_simp; rfl)); (case hp => exact (Reps.one (show Kd.M (Kd.int .u8) _ _ _ ((a0) % 256) [.int .u8 ((a0) % 256)] from rfl) (Reps.none _ _))); intro v457 w3 ho4 hb hg_ hnew_; clear hg_ hnew_; (first | rw [← Ny456.out] at ho4 | (simp only [Int.reduceToNat] at ho4; rw [← Ny456.out] at ho4)); have n0_ := aM (rL ho4 (bZ (ey HB.out))); have n1_ := aM (bP (ey HB.out) hb); clear HB; have HO458 := n0_; have HB := n1_; clear n0_ n1_; clear hb ho4; have hcv5 := own_string (P := Tryz.prog) Tryz.underlying111 Tryz.underlying5 Tryz.underlying9 (Kd.own_of_R HO458.out)))
  go_ret
  exact ⟨by first | rfl | (simp [errW_none, errW_some] <;> rfl) | (simp [*, errW_none, errW_some] <;> rfl), by exact ey HB.out⟩
 ·rw [if_neg c2] at H
  have c2b0 : decide (a0 < 128) = false := decide_eq_false c2
  clear c2
  by_cases c6 : a0 < 2048
  ·rw [if_pos c6] at H
   have c6b0 : decide (a0 < 2048) = true := decide_eq_true c6
   clear c6
   obtain ⟨y459, hy459⟩ : ∃ y_ : List Int, y_ = (([(wrap64 (192 + (wrap64 (Int.tdiv a0 64)))) % 256, (wrap64 (128 + (Int.tmod a0 64))) % 256] : List Int)) := ⟨_, rfl⟩
   replace H : (some (strOfNums y459)) = some r := by first | (rw [hy459]; with_reducible exact H) | (have H2_ := (Option.bind_some _ _).symm.trans H; rw [hy459]; with_reducible exact H2_) | (have H2_ := (Option.bind_some _ _).symm.trans H; with_reducible exact H2_) | with_reducible exact H | (rw [hy459]; exact H) | exact H
   have Ny459 := aM hy459
   clear hy459
   obtain rfl := Option.some.inj H
   go_enter Tryz.func56, Tryz.ntmps56
   go_wp2_with (first | ((with_reducible refine gate_dst (N := 21) rfl ?_); refine Kd.R_lit (Kd.int .u8) _ 5 ?hg (N := 21) ?hd (xs := ([(wrap64 (192 + (wrap64 (Int.tdiv a0 64)))) % 256, (wrap64 (128 + (Int.tmod a0 64))) % 256] : List Int)) (inner := [.int .u8 ((wrap64 (192 + (wrap64 (Int.tdiv a0 64)))) % 256), .int .u8 ((wrap64 (128 + (Int.tmod a0 64))) % 256)]) (ok := fun _ => True) (okp := fun _ => True) ?hr ?hp (fun _ hk => hk) trivial (Below.refl _ _) (Nat.le_refl _) (by simp) ?_; (case hd | hg => rfl); (case hr => first | (go_simp; done) | (go_simp; rfl)); (case hp => exact (Reps.one (show Kd.M (Kd.int .u8) _ _ _ ((wrap64 (192 + (wrap64 (Int.tdiv a0 64)))) % 256) [.int .u8 ((wrap64 (192 + (wrap64 (Int.tdiv a0 64)))) % 256)] from rfl) (Reps.one (show Kd.M (Kd.int .u8) _ _ _ ((wrap64 (128 + (Int.tmod a0 64))) % 256) [.int .u8 ((wrap64 (128 + (Int.tmod a0 64))) % 256)] from rfl) (Reps.none _ _)))); intro v460 w7 ho8 hb hg_ hnew_; clear hg_ hnew_; (first | rw [← Ny459.out] at ho8 | (simp only [Int.reduceToNat] at ho8; rw [← Ny459.out] at ho8)); have n0_ := aM (rL ho8 (bZ (ey HB.out))); have n1_ := aM (bP (ey HB.out) hb); clear HB; have HO461 := n0_; have HB := n1_; clear n0_ n1_; clear hb ho8; have hcv9 := own_string (P := Tryz.prog) Tryz.underlying111 Tryz.underlying5 Tryz.underlying9 (Kd.own_of_R HO461.out)))
   go_ret
   exact ⟨by first | rfl | (simp [errW_none, errW_some] <;> rfl) | (simp [*, errW_none, errW_some] <;> rfl), by exact ey HB.out⟩
  ·rw [if_neg c6] at H
   have c6b0 : decide (a0 < 2048) = false := decide_eq_false c6
   clear c6
   by_cases c10 : a0 < 65536
   ·rw [if_pos c10] at H
    have c10b0 : decide (a0 < 65536) = true := decide_eq_true c10
    clear c10
    obtain ⟨y462, hy462⟩ : ∃ y_ : List Int, y_ = (([(wrap64 (224 + (wrap64 (Int.tdiv a0 4096)))) % 256, (wrap64 (128 + (Int.tmod (wrap64 (Int.tdiv a0 64)) 64))) % 256, (wrap64 (128 + (Int.tmod a0 64))) % 256] : List Int)) := ⟨_, rfl⟩
    replace H : (some (strOfNums y462)) = some r := by first | (rw [hy462]; with_reducible exact H) | (have H2_ := (Option.bind_some _ _).symm.trans H; rw [hy462]; with_reducible exact H2_) | (have H2_ := (Option.bind_some _ _).symm.trans H; with_reducible exact H2_) | with_reducible exact H | (rw [hy462]; exact H) | exact H
    have Ny462 := aM hy462
    clear hy462
    obtain rfl := Option.some.inj H
    go_enter Tryz.func56, Tryz.ntmps56
    go_wp2_with (first | ((with_reducible refine gate_dst (N := 39) rfl ?_); refine Kd.R_lit (Kd.int .u8) _ 5 ?hg (N := 39) ?hd (xs := ([(wrap64 (224 + (wrap64 (Int.tdiv a0 4096)))) % 256, (wrap64 (128 + (Int.tmod (wrap64 (Int.tdiv a0 64)) 64))) % 256, (wrap64 (128 + (Int.tmod a0 64))) % 256] : List Int)) (inner := [.int .u8 ((wrap64 (224 + (wrap64 (Int.tdiv a0 4096)))) % 256), .int .u8 ((wrap64 (128 + (Int.tmod (wrap64 (Int.tdiv a0 64)) 64))) % 256), .int .u8 ((wrap64 (128 + (Int.tmod a0 64))) % 256)]) (ok := fun _ => True) (okp := fun _ => True) ?hr ?hp (fun _ hk => hk) trivial (Below.refl _ _) (Nat.le_refl _) (by simp) ?_; (case hd | hg => rfl); (case hr => first | (go_simp; done) | (go_simp; rfl)); (case hp => exact (Reps.one (show Kd.M (Kd.int .u8) _ _ _ ((wrap64 (224 + (wrap64 (Int.tdiv a0 4096)))) % 256) [.int .u8 ((wrap64 (224 + (wrap64 (Int.tdiv a0 4096)))) % 256)] from rfl) (Reps.one (show Kd.M (Kd.int .u8) _ _ _ ((wrap64 (128 + (Int.tmod (wrap64 (Int.tdiv a0 64)) 64))) % 256) [.int .u8 ((wrap64 (128 + (Int.tmod (wrap64 (Int.tdiv a0 64)) 64))) % 256)] from rfl) (Reps.one (show Kd.M (Kd.int .u8) _ _ _ ((wrap64 (128 + (Int.tmod a0 64))) % 256) [.int .u8 ((wrap64 (128 + (Int.tmod a0 64))) % 256)] from rfl) (Reps.none _ _))))); intro v463 w11 ho12 hb hg_ hnew_; clear hg_ hnew_; (first | rw [← Ny462.out] at ho12 | (simp only [Int.reduceToNat] at ho12; rw [← Ny462.out] at ho12)); have n0_ := aM (rL ho12 (bZ (ey HB.out))); have n1_ := aM (bP (ey HB.out) hb); clear HB; have HO464 := n0_; have HB := n1_; clear n0_ n1_; clear hb ho12; have hcv13 := own_string (P := Tryz.prog) Tryz.underlying111 Tryz.underlying5 Tryz.underlying9 (Kd.own_of_R HO464.out)))
    go_ret
    exact ⟨by first | rfl | (simp [errW_none, errW_some] <;> rfl) | (simp [*, errW_none, errW_some] <;> rfl), by exact ey HB.out⟩
   ·rw [if_neg c10] at H
    have c10b0 : decide (a0 < 65536) = false := decide_eq_false c10
    clear c10
    obtain ⟨y465, hy465⟩ : ∃ y_ : List Int, y_ = (([(wrap64 (240 + (wrap64 (Int.tdiv a0 262144)))) % 256, (wrap64 (128 + (Int.tmod (wrap64 (Int.tdiv a0 4096)) 64))) % 256, (wrap64 (128 + (Int.tmod (wrap64 (Int.tdiv a0 64)) 64))) % 256, (wrap64 (128 + (Int.tmod a0 64))) % 256] : List Int)) := ⟨_, rfl⟩
    replace H : (some (strOfNums y465)) = some r := by first | (rw [hy465]; with_reducible exact H) | (have H2_ := (Option.bind_some _ _).symm.trans H; rw [hy465]; with_reducible exact H2_) | (have H2_ := (Option.bind_some _ _).symm.trans H; with_reducible exact H2_) | with_reducible exact H | (rw [hy465]; exact H) | exact H
    have Ny465 := aM hy465
    clear hy465
    obtain rfl := Option.some.inj H
    go_enter Tryz.func56, Tryz.ntmps56
    go_wp2_with (first | ((with_reducible refine gate_dst (N := 59) rfl ?_); refine Kd.R_lit (Kd.int .u8) _ 5 ?hg (N := 59) ?hd (xs := ([(wrap64 (240 + (wrap64 (Int.tdiv a0 262144)))) % 256, (wrap64 (128 + (Int.tmod (wrap64 (Int.tdiv a0 4096)) 64))) % 256, (wrap64 (128 + (Int.tmod (wrap64 (Int.tdiv a0 64)) 64))) % 256, (wrap64 (128 + (Int.tmod a0 64))) % 256] : List Int)) (inner := [.int .u8 ((wrap64 (240 + (wrap64 (Int.tdiv a0 262144)))) % 256), .int .u8 ((wrap64 (128 + (Int.tmod (wrap64 (Int.tdiv a0 4096)) 64))) % 256), .int .u8 ((wrap64 (128 + (Int.tmod (wrap64 (Int.tdiv a0 64)) 64))) % 256), .int .u8 ((wrap64 (128 + (Int.tmod a0 64))) % 256)]) (ok := fun _ => True) (okp := fun _ => True) ?hr ?hp (fun _ hk => hk) trivial (Below.refl _ _) (Nat.le_refl _) (by simp) ?_; (case hd | hg => rfl); (case hr => first | (go_simp; done) | (go_simp; rfl)); (case hp => exact (Reps.one (show Kd.M (Kd.int .u8) _ _ _ ((wrap64 (240 + (wrap64 (Int.tdiv a0 262144)))) % 256) [.int .u8 ((wrap64 (240 + (wrap64 (Int.tdiv a0 262144)))) % 256)] from rfl) (Reps.one (show Kd.M (Kd.int .u8) _ _ _ ((wrap64 (128 + (Int.tmod (wrap64 (Int.tdiv a0 4096)) 64))) % 256) [.int .u8 ((wrap64 (128 + (Int.tmod (wrap64 (Int.tdiv a0 4096)) 64))) % 256)] from rfl) (Reps.one (show Kd.M (Kd.int .u8) _ _ _ ((wrap64 (128 + (Int.tmod (wrap64 (Int.tdiv a0 64)) 64))) % 256) [.int .u8 ((wrap64 (128 + (Int.tmod (wrap64 (Int.tdiv a0 64)) 64))) % 256)] from rfl) (Reps.one (show Kd.M (Kd.int .u8) _ _ _ ((wrap64 (128 + (Int.tmod a0 64))) % 256) [.int .u8 ((wrap64 (128 + (Int.tmod a0 64))) % 256)] from rfl) (Reps.none _ _)))))); intro v466 w14 ho15 hb hg_ hnew_; clear hg_ hnew_; (first | rw [← Ny465.out] at ho15 | (simp only [Int.reduceToNat] at ho15; rw [← Ny465.out] at ho15)); have n0_ := aM (rL ho15 (bZ (ey HB.out))); have n1_ := aM (bP (ey HB.out) hb); clear HB; have HO467 := n0_; have HB := n1_; clear n0_ n1_; clear hb ho15; have hcv16 := own_string (P := Tryz.prog) Tryz.underlying111 Tryz.underlying5 Tryz.underlying9 (Kd.own_of_R HO467.out)))
    go_ret
    exact ⟨by first | rfl | (simp [errW_none, errW_some] <;> rfl) | (simp [*, errW_none, errW_some] <;> rfl), by exact ey HB.out⟩
end Go.Proofs.YtjkfkiebhgkolaaGreatDoor.PB
end

section
namespace Go.Proofs.YtjkfkiebhgkolaaGreatDoor.PB
open Go.RowKit Go.Proofs.YtjkfkiebhgkolaaGreatDoorW.PrintWords Go.Proofs.YtjkfkiebhgkolaaGreatDoorW.PrintLast Go.Proofs.YtjkfkiebhgkolaaGreatDoorW.PrintMore
attribute [local go_sem] max2_int min2_int max_two min_two max_three min_three max_four min_four   
set_option linter.unusedVariables false
set_option linter.unusedSimpArgs false
def bureauref02_May.f (a0 : Int) : Option (Bool) := if a0 ≥ 0 then (if a0 ≤ 1114111 then (if a0 < 55296 then (some true) else (some (decide (a0 > 57343)))) else (some false)) else (some false)
set_option maxHeartbeats 8000000 in
set_option maxRecDepth 100000 in
theorem bureauref02_May.calls (a0 : Int) (r : Bool) (w : World) (h : bureauref02_May.f a0 = some r) :
  Calls Tryz.prog 106 #[.int .i64 a0] w fun e w' => e = .returned (.bool r) ∧ Drawn0 w w' := by
 have H : (if a0 ≥ 0 then (if a0 ≤ 1114111 then (if a0 < 55296 then (some true) else (some (decide (a0 > 57343)))) else (some false)) else (some false)) = some r := h
 clear h
 by_cases c2 : a0 ≥ 0
 ·rw [if_pos c2] at H
  have c2b0 : decide (0 ≤ a0) = true := decide_eq_true c2
  clear c2
  by_cases c3 : a0 ≤ 1114111
  ·rw [if_pos c3] at H
   have c3b0 : decide (a0 ≤ 1114111) = true := decide_eq_true c3
   clear c3
   by_cases c4 : a0 < 55296
   ·rw [if_pos c4] at H
    have c4b0 : decide (a0 < 55296) = true := decide_eq_true c4
    clear c4
    obtain rfl := Option.some.inj H
    go_enter Tryz.func106, Tryz.ntmps106
    go_wp2
    go_ret
    exact ⟨by first | rfl | (simp; done) | (simp [*]; done), by repeat (first | exact Drawn0.refl _ | apply Drawn0.step)⟩
   ·rw [if_neg c4] at H
    have c4b0 : decide (a0 < 55296) = false := decide_eq_false c4
    clear c4
    obtain rfl := Option.some.inj H
    go_enter Tryz.func106, Tryz.ntmps106
    go_wp2
    go_ret
    exact ⟨by first | rfl | (simp; done) | (simp [*]; done), by repeat (first | exact Drawn0.refl _ | apply Drawn0.step)⟩
  ·rw [if_neg c3] at H
   have c3b0 : decide (a0 ≤ 1114111) = false := decide_eq_false c3
   clear c3
   obtain rfl := Option.some.inj H
   go_enter Tryz.func106, Tryz.ntmps106
   go_wp2
   go_ret
   exact ⟨by first | rfl | (simp; done) | (simp [*]; done), by repeat (first | exact Drawn0.refl _ | apply Drawn0.step)⟩
 ·rw [if_neg c2] at H
  have c2b0 : decide (0 ≤ a0) = false := decide_eq_false c2
  clear c2
  obtain rfl := Option.some.inj H
  go_enter Tryz.func106, Tryz.ntmps106
  go_wp2
  go_ret
  exact ⟨by first | rfl | (simp; done) | (simp [*]; done), by repeat (first | exact Drawn0.refl _ | apply Drawn0.step)⟩
end Go.Proofs.YtjkfkiebhgkolaaGreatDoor.PB
end

section
namespace Go.Proofs.YtjkfkiebhgkolaaGreatDoor.PB
open Go.RowKit Go.Proofs.YtjkfkiebhgkolaaGreatDoorW.PrintWords Go.Proofs.YtjkfkiebhgkolaaGreatDoorW.PrintLast Go.Proofs.YtjkfkiebhgkolaaGreatDoorW.PrintMore
attribute [local go_sem] max2_int min2_int max_two min_two max_three min_three max_four min_four   
set_option linter.unusedVariables false
set_option linter.unusedSimpArgs false
mutual
def bureauref02_number.j0 : Nat → ByteArray → Int → Option (Int)
 | 0, _, _ => none
 | k + 1, x0, x3 => bureauref02_number.l0 k x0 x3 1
def bureauref02_number.l0 : Nat → ByteArray → Int → Int → Option (Int)
 | 0, _, _, _ => none
 | k + 1, x0, x3, x4 => if x4 < (x0.size : Int) then (if 0 ≤ x4 then (bureauref02_number.l0 k x0 (wrap64 ((wrap64 (x3 * 64)) + (Int.tmod (wrap64 (bt x0 x4)) 64))) (wrap64 (x4 + 1))) else (none)) else (some x3)
end
def bureauref02_number.f (k : Nat) (a0 : ByteArray) : Option (Int) := if 0 < (a0.size : Int) then (if (a0.size : Int) = 2 then (bureauref02_number.j0 k a0 (Int.tmod (wrap64 (bt a0 0)) 32)) else (if (a0.size : Int) = 3 then (bureauref02_number.j0 k a0 (Int.tmod (wrap64 (bt a0 0)) 16)) else (if (a0.size : Int) = 4 then (bureauref02_number.j0 k a0 (Int.tmod (wrap64 (bt a0 0)) 8)) else (bureauref02_number.j0 k a0 (wrap64 (bt a0 0)))))) else (none)
set_option maxHeartbeats 8000000 in
set_option maxRecDepth 100000 in
theorem bureauref02_number.calls (k : Nat) (a0 : ByteArray) (r : Int) (w : World) (h : bureauref02_number.f k a0 = some r) :
  Calls Tryz.prog 166 #[.string a0] w fun e w' => e = .returned (.int .i64 r) ∧ Drawn0 w w' := by
 have H : (if 0 < (a0.size : Int) then (if (a0.size : Int) = 2 then (bureauref02_number.j0 k a0 (Int.tmod (wrap64 (bt a0 0)) 32)) else (if (a0.size : Int) = 3 then (bureauref02_number.j0 k a0 (Int.tmod (wrap64 (bt a0 0)) 16)) else (if (a0.size : Int) = 4 then (bureauref02_number.j0 k a0 (Int.tmod (wrap64 (bt a0 0)) 8)) else (bureauref02_number.j0 k a0 (wrap64 (bt a0 0)))))) else (none)) = some r := h
 clear h
 by_cases c2 : 0 < (a0.size : Int)
 ·rw [if_pos c2] at H
  have c2b0 : decide (0 < (a0.size : Int)) = true := decide_eq_true c2
  have c2b1 : decide (0 < a0.size) = true := decide_eq_true (by omega)
  clear c2
  have HC4 := aM H
  clear H
  have p3 : 0 ≤ (0 : Int) := (by omega)
  have q3 : 0 < a0.size := (by have : (0 : Int) < (a0.size : Int) := of_decide_eq_true (by first | (with_reducible assumption) | assumption); omega)
  have hx3 : ∀ h : 0 < a0.size, ((a0[0]'h).toNat : Int) = bt a0 0 := bt_at a0 0
  clear p3
  have qi3 : (0 < (a0.size : Int)) = True := eq_true (of_decide_eq_true (by first | (with_reducible assumption) | assumption))
  replace q3 := eq_true q3
  go_enter Tryz.func166, Tryz.ntmps166
  go_upto_block 0 with (fail)
  go_cut [3] (fun v3 wc => ∃ (kq : Nat) (x3_3 : Int), v3 = .int .i64 x3_3 ∧ Aside0 (bureauref02_number.j0 kq a0 x3_3 = some r) ∧ Aside0 (kq ≤ k) ∧ Drawn0 w wc)
  case first =>
   have H := HC4.out
   clear HC4
   by_cases c5 : (a0.size : Int) = 2
   ·rw [if_pos c5] at H
    have c5b0 : ((a0.size : Int) == 2) = true := beq_iff_eq.mpr c5
    have c5b1 : ((a0.size : Int) != 2) = false := bne_eq_false_iff_eq.mpr c5
    clear c5
    (first | rw [c5b0] | (simp only [i64_w, i32_w]; rw [c5b0]) | skip)
    have H' := aM H
    clear H
    go_wp2
    go_meet
    case rel => exact ⟨_, (Int.tmod (wrap64 (bt a0 0)) 32), (by first | rfl | (simp; done) | (simp [*]; done)), H', ⟨by first | omega | exact Nat.le_refl _⟩, by repeat (first | exact Drawn0.refl _ | apply Drawn0.step)⟩
   ·rw [if_neg c5] at H
    have c5b0 : ((a0.size : Int) == 2) = false := beq_eq_false_iff_ne.mpr c5
    have c5b1 : ((a0.size : Int) != 2) = true := bne_iff_ne.mpr c5
    (first | rw [c5b0] | (simp only [i64_w, i32_w]; rw [c5b0]) | skip)
    by_cases c6 : (a0.size : Int) = 3
    ·rw [if_pos c6] at H
     have c6b0 : ((a0.size : Int) == 3) = true := beq_iff_eq.mpr c6
     have c6b1 : ((a0.size : Int) != 3) = false := bne_eq_false_iff_eq.mpr c6
     clear c6
     have H' := aM H
     clear H
     go_wp2
     go_meet
     case rel => exact ⟨_, (Int.tmod (wrap64 (bt a0 0)) 16), (by first | rfl | (simp; done) | (simp [*]; done)), H', ⟨by first | omega | exact Nat.le_refl _⟩, by repeat (first | exact Drawn0.refl _ | apply Drawn0.step)⟩
    ·rw [if_neg c6] at H
     have c6b0 : ((a0.size : Int) == 3) = false := beq_eq_false_iff_ne.mpr c6
     have c6b1 : ((a0.size : Int) != 3) = true := bne_iff_ne.mpr c6
     by_cases c7 : (a0.size : Int) = 4
     ·rw [if_pos c7] at H
      have c7b0 : ((a0.size : Int) == 4) = true := beq_iff_eq.mpr c7
      have c7b1 : ((a0.size : Int) != 4) = false := bne_eq_false_iff_eq.mpr c7
      clear c7
      have H' := aM H
      clear H
      go_wp2
      go_meet
      case rel => exact ⟨_, (Int.tmod (wrap64 (bt a0 0)) 8), (by first | rfl | (simp; done) | (simp [*]; done)), H', ⟨by first | omega | exact Nat.le_refl _⟩, by repeat (first | exact Drawn0.refl _ | apply Drawn0.step)⟩
     ·rw [if_neg c7] at H
      have c7b0 : ((a0.size : Int) == 4) = false := beq_eq_false_iff_ne.mpr c7
      have c7b1 : ((a0.size : Int) != 4) = true := bne_iff_ne.mpr c7
      have H' := aM H
      clear H
      go_wp2
      go_meet
      case rel => exact ⟨_, (wrap64 (bt a0 0)), (by first | rfl | (simp; done) | (simp [*]; done)), H', ⟨by first | omega | exact Nat.le_refl _⟩, by repeat (first | exact Drawn0.refl _ | apply Drawn0.step)⟩
  case rest =>
   clear HC4
   try clear c1
   try clear c2
   try clear c2b0
   try clear c2b1
   try clear p2
   try clear p3
   try clear q3
   try clear hx3
   try clear qi3
   try clear c5
   try clear c5b0
   try clear c5b1
   try clear c6
   try clear c6b0
   try clear c6b1
   try clear p6
   try clear c7
   try clear c7b0
   try clear c7b1
   try clear p3
   try clear q3
   obtain ⟨kq, x3_3, rfl, HA, HJ3, ⟨mc3, rfl⟩⟩ := hcut
   cases kq with
   | zero => exact absurd HA.out (by simp [bureauref02_number.j0])
   | succ kj3 =>
    have H := HA.out
    clear HA
    simp only [bureauref02_number.j0] at H
    have H' := aM H
    clear H
    go_wp2
    go_loopg [3, 4] kj3 (fun kq v3 v4 w' => ∃ (x3_2 : Int) (x4_2 : Int), v3 = .int .i64 x3_2 ∧ v4 = .int .i64 x4_2 ∧ Aside0 (bureauref02_number.l0 kq a0 x3_2 x4_2 = some r) ∧ Aside0 (kq ≤ kj3) ∧ Drawn0 w w')
    case atStart => exact ⟨(x3_3), (1), (by first | rfl | (simp; done) | (simp [*]; done)), (by first | rfl | (simp; done) | (simp [*]; done)), H', ⟨Nat.le_refl _⟩, by repeat (first | exact Drawn0.refl _ | apply Drawn0.step)⟩
    case round =>
     clear H'
     try clear c1
     try clear c2
     try clear c2b0
     try clear c2b1
     try clear p2
     try clear c3
     try clear p3
     try clear q3
     try clear hx3
     try clear qi3
     try clear c5
     try clear c5b0
     try clear c5b1
     try clear c6
     try clear c6b0
     try clear c6b1
     try clear p6
     try clear c7
     try clear c7b0
     try clear c7b1
     try clear p2
     try clear p3
     try clear p6
     try clear q3
     obtain ⟨x3_2, x4_2, rfl, rfl, HA, HK2, ⟨m2, rfl⟩⟩ := hrel
     cases gk with
     | zero => exact absurd HA.out (by simp [bureauref02_number.l0])
     | succ k2 =>
      have H := HA.out
      clear HA
      simp only [bureauref02_number.l0] at H
      by_cases c8 : x4_2 < (a0.size : Int)
      ·rw [if_pos c8] at H
       have c8b0 : decide (x4_2 < (a0.size : Int)) = true := decide_eq_true c8
       clear c8
       by_cases c9 : 0 ≤ x4_2
       ·rw [if_pos c9] at H
        have c9b0 : decide (0 ≤ x4_2) = true := decide_eq_true c9
        clear c9
        have H' := aM H
        clear H
        have p10 : 0 ≤ (x4_2 : Int) := of_decide_eq_true (by first | (with_reducible assumption) | assumption)
        have q10 : x4_2 < (a0.size : Int) := of_decide_eq_true (by first | (with_reducible assumption) | assumption)
        have hx10 := bt_at a0 x4_2
        replace p10 := eq_true p10
        replace q10 := eq_true q10
        go_wp2
        go_roundg k2
        case measure => have := HJ3.out; have := HK2.out; omega
        case rel => exact ⟨(wrap64 ((wrap64 (x3_2 * 64)) + (Int.tmod (wrap64 (bt a0 x4_2)) 64))), (wrap64 (x4_2 + 1)), (by first | rfl | (simp; done) | (simp [*]; done)), (by first | rfl | (simp; done) | (simp [*]; done)), H', ⟨by have := HJ3.out; have := HK2.out; omega⟩, by repeat (first | exact Drawn0.refl _ | apply Drawn0.step)⟩
       ·rw [if_neg c9] at H
        exact absurd H (by simp)
      ·rw [if_neg c8] at H
       have c8b0 : decide (x4_2 < (a0.size : Int)) = false := decide_eq_false c8
       clear c8
       obtain rfl := Option.some.inj H
       go_wp2
       go_ret
       exact ⟨by first | rfl | (simp; done) | (simp [*]; done), by repeat (first | exact Drawn0.refl _ | apply Drawn0.step)⟩
 ·rw [if_neg c2] at H
  exact absurd H (by simp)
end Go.Proofs.YtjkfkiebhgkolaaGreatDoor.PB
end

section
namespace Go.Proofs.YtjkfkiebhgkolaaGreatDoor.PB
open Go.RowKit Go.Proofs.YtjkfkiebhgkolaaGreatDoorW.PrintWords Go.Proofs.YtjkfkiebhgkolaaGreatDoorW.PrintLast Go.Proofs.YtjkfkiebhgkolaaGreatDoorW.PrintMore
attribute [local go_sem] max2_int min2_int max_two min_two max_three min_three max_four min_four   
set_option linter.unusedVariables false
set_option linter.unusedSimpArgs false
mutual
def bureauref02_one.l0 : Nat → ByteArray → Int → Int → Option (Int × Int × Int × Bool)
 | 0, _, _, _ => none
 | k + 1, x0, x1, x5 => if x5 ≤ 4 then (bureauref02_one.j1 k x0 x1 x5 (decide (x5 ≤ (wrap64 ((x0.size : Int) - x1))))) else (bureauref02_one.j1 k x0 x1 x5 false)
def bureauref02_one.j1 : Nat → ByteArray → Int → Int → Bool → Option (Int × Int × Int × Bool)
 | 0, _, _, _, _ => none
 | k + 1, x0, x1, x5, x17 => if x17 = true then (if 0 ≤ x1 then (if x1 ≤ (wrap64 (x1 + x5)) then (if (wrap64 (x1 + x5)) ≤ (x0.size : Int) then ((bureauref02_number.f k (x0.extract (x1 : Int).toNat ((wrap64 (x1 + x5)) : Int).toNat)).bind fun t469 => ((bureauref02_May.f t469).bind fun t470 => (if t470 = true then ((bureauref02_Bytes.f t469).bind fun t471 => (if t471.toList = (x0.extract (x1 : Int).toNat ((wrap64 (x1 + x5)) : Int).toNat).toList then (some (x1, x5, t469, true)) else (bureauref02_one.l0 k x0 x1 (wrap64 (x5 + 1))))) else (bureauref02_one.l0 k x0 x1 (wrap64 (x5 + 1)))))) else (none)) else (none)) else (none)) else (some (x1, 1, 65533, false))
end
def bureauref02_one.f (k : Nat) (a0 : ByteArray) (a1 : Int) : Option (Int × Int × Int × Bool) := bureauref02_one.l0 k a0 a1 1
set_option maxHeartbeats 8000000 in
set_option maxRecDepth 100000 in
theorem bureauref02_one.calls (k : Nat) (a0 : ByteArray) (a1 : Int) (r1 : Int) (r2 : Int) (r3 : Int) (r4 : Bool) (w : World) (h : bureauref02_one.f k a0 a1 = some (r1, r2, r3, r4)) :
  Calls Tryz.prog 151 #[.string a0, .int .i64 a1] w fun e w' => e = .returned (.agg #[.int .i64 r1, .int .i64 r2, .int .i64 r3, .bool r4]) ∧ Below w.heap.size w w' := by
 have hu185 := Tryz.underlying185
 have HB := aM (Below.refl w.heap.size w)
 have H : (bureauref02_one.l0 k a0 a1 1) = some (r1, r2, r3, r4) := h
 clear h
 have H' := aM H
 clear H
 go_enter Tryz.func151, Tryz.ntmps151
 go_wp2_with (first | ((with_reducible refine gate_dst (N := 4) rfl ?_); (try (refine gate_guard (by rfl) ?_; dsimp only)); refine box_event ?hg (N := 4) ?hd (cs := #[.int .i64 0, .int .i64 0, .int .i64 0, .bool false]) (t := 185) ?hr ?_; (case hd | hg => rfl); (case hr => first | (go_simp; done) | (go_simp; rfl)); intro gb468 hg w3 hbox hb; have n0_ := aM (bP (ey HB.out) hb); have n1_ := aM (hbox); have n2_ := aM ((by rw [hg]; exact (bZ (ey HB.out)) : w.heap.size ≤ gb468)); have n3_ := n2_; clear HB; have HB := n0_; have BK468 := n1_; have GW468 := n2_; have GE468 := n3_; clear n0_ n1_ n2_ n3_; clear hb hbox hg))
 go_loopg [5] k (fun kq v5 w' => ∃ (x5_1 : Int) (x469000_1 : Int) (x469001_1 : Int) (x469002_1 : Int) (x469003_1 : Bool), v5 = .int .i64 x5_1 ∧ Aside0 (bureauref02_one.l0 kq a0 a1 x5_1 = some (r1, r2, r3, r4)) ∧ Aside0 (kq ≤ k) ∧ Aside0 (w'.heap[gb468]? = some (.cells #[.int .i64 x469000_1, .int .i64 x469001_1, .int .i64 x469002_1, .bool x469003_1] 185 (0, 0))) ∧ Aside0 (Below w.heap.size w w'))
 case atStart => exact ⟨(1), (0), (0), (0), (false), (by first | rfl | (simp; done) | (simp [*]; done)), H', ⟨Nat.le_refl _⟩, ⟨by exact qy BK468.out⟩, ⟨by repeat (first | (with_reducible first | exact HB.out | apply ea | apply en | apply ed | refine es ?_ GE468.out) | exact HB.out)⟩⟩
 case round =>
  clear H'
  try clear c1
  try clear p2
  obtain ⟨x5_1, x469000_1, x469001_1, x469002_1, x469003_1, rfl, HA, HK1, BK468, HB⟩ := hrel
  cases gk with
  | zero => exact absurd HA.out (by simp [bureauref02_one.l0])
  | succ k1 =>
   have H := HA.out
   clear HA
   simp only [bureauref02_one.l0] at H
   have HC4 := aM H
   clear H
   go_upto_region 2 with (fail)
   go_cut [17] (fun v17 wc => ∃ (kq : Nat) (x17_3 : Bool), v17 = .bool x17_3 ∧ Aside0 (bureauref02_one.j1 kq a0 a1 x5_1 x17_3 = some (r1, r2, r3, r4)) ∧ Aside0 (kq ≤ k1) ∧ Aside0 (wc.heap[gb468]? = some (.cells #[.int .i64 x469000_1, .int .i64 x469001_1, .int .i64 x469002_1, .bool x469003_1] 185 (0, 0))) ∧ Aside0 (Below w.heap.size w wc))
   case first =>
    have H := HC4.out
    clear HC4
    by_cases c5 : x5_1 ≤ 4
    ·rw [if_pos c5] at H
     have c5b0 : decide (x5_1 ≤ 4) = true := decide_eq_true c5
     clear c5
     (first | rw [c5b0] | (simp only [i64_w, i32_w]; rw [c5b0]) | skip)
     have H' := aM H
     clear H
     go_wp2
     go_meet
     case rel => exact ⟨_, (decide (x5_1 ≤ (wrap64 ((a0.size : Int) - a1)))), (by first | rfl | (simp; done) | (simp [*]; done)), H', ⟨by have := HK1.out; first | omega | exact Nat.le_refl _⟩, ⟨by exact qy BK468.out⟩, ⟨by repeat (first | (with_reducible first | exact HB.out | apply ea | apply en | apply ed | refine es ?_ GE468.out) | exact HB.out)⟩⟩
    ·rw [if_neg c5] at H
     have c5b0 : decide (x5_1 ≤ 4) = false := decide_eq_false c5
     clear c5
     (first | rw [c5b0] | (simp only [i64_w, i32_w]; rw [c5b0]) | skip)
     have H' := aM H
     clear H
     go_wp2
     go_meet
     case rel => exact ⟨_, (false), (by first | rfl | (simp; done) | (simp [*]; done)), H', ⟨by have := HK1.out; first | omega | exact Nat.le_refl _⟩, ⟨by exact qy BK468.out⟩, ⟨by repeat (first | (with_reducible first | exact HB.out | apply ea | apply en | apply ed | refine es ?_ GE468.out) | exact HB.out)⟩⟩
   case rest =>
    clear HC4
    try clear c1
    try clear p2
    try clear c5
    try clear c5b0
    try clear p2
    obtain ⟨kq, x17_3, rfl, HA, HJ3, BK468, HB⟩ := hcut
    cases kq with
    | zero => exact absurd HA.out (by simp [bureauref02_one.j1])
    | succ kj3 =>
     have H := HA.out
     clear HA
     simp only [bureauref02_one.j1] at H
     by_cases c6 : x17_3 = true
     ·subst c6
      have H1 : (if 0 ≤ a1 then (if a1 ≤ (wrap64 (a1 + x5_1)) then (if (wrap64 (a1 + x5_1)) ≤ (a0.size : Int) then ((bureauref02_number.f kj3 (a0.extract (a1 : Int).toNat ((wrap64 (a1 + x5_1)) : Int).toNat)).bind fun t469 => ((bureauref02_May.f t469).bind fun t470 => (if t470 = true then ((bureauref02_Bytes.f t469).bind fun t471 => (if t471.toList = (a0.extract (a1 : Int).toNat ((wrap64 (a1 + x5_1)) : Int).toNat).toList then (some (a1, x5_1, t469, true)) else (bureauref02_one.l0 kj3 a0 a1 (wrap64 (x5_1 + 1))))) else (bureauref02_one.l0 kj3 a0 a1 (wrap64 (x5_1 + 1)))))) else (none)) else (none)) else (none)) = some (r1, r2, r3, r4) := by rw [if_pos rfl] at H; exact H
      clear H
      have H := H1
      clear H1
      by_cases c7 : 0 ≤ a1
      ·rw [if_pos c7] at H
       have c7b0 := eq_true c7
       have c7b1 : decide (0 ≤ a1) = true := decide_eq_true c7
       clear c7
       by_cases c8 : a1 ≤ (wrap64 (a1 + x5_1))
       ·rw [if_pos c8] at H
        have c8b0 := eq_true c8
        have c8b1 : decide (a1 ≤ (wrap64 (a1 + x5_1))) = true := decide_eq_true c8
        by_cases c9 : (wrap64 (a1 + x5_1)) ≤ (a0.size : Int)
        ·rw [if_pos c9] at H
         have c9b0 := eq_true c9
         have c9b1 : decide ((wrap64 (a1 + x5_1)) ≤ (a0.size : Int)) = true := decide_eq_true c9
         replace H := Option.bind_eq_some_iff.mp H
         obtain ⟨t469, A100, H⟩ := H
         replace H : ((bureauref02_May.f t469).bind fun t470 => (if t470 = true then ((bureauref02_Bytes.f t469).bind fun t471 => (if t471.toList = (a0.extract (a1 : Int).toNat ((wrap64 (a1 + x5_1)) : Int).toNat).toList then (some (a1, x5_1, t469, true)) else (bureauref02_one.l0 kj3 a0 a1 (wrap64 (x5_1 + 1))))) else (bureauref02_one.l0 kj3 a0 a1 (wrap64 (x5_1 + 1))))) = some (r1, r2, r3, r4) := H
         have A10 := aM A100
         clear A100
         replace H := Option.bind_eq_some_iff.mp H
         obtain ⟨t470, A110, H⟩ := H
         replace H : (if t470 = true then ((bureauref02_Bytes.f t469).bind fun t471 => (if t471.toList = (a0.extract (a1 : Int).toNat ((wrap64 (a1 + x5_1)) : Int).toNat).toList then (some (a1, x5_1, t469, true)) else (bureauref02_one.l0 kj3 a0 a1 (wrap64 (x5_1 + 1))))) else (bureauref02_one.l0 kj3 a0 a1 (wrap64 (x5_1 + 1)))) = some (r1, r2, r3, r4) := H
         have A11 := aM A110
         clear A110
         by_cases c12 : t470 = true
         ·subst c12
          have H1 : ((bureauref02_Bytes.f t469).bind fun t471 => (if t471.toList = (a0.extract (a1 : Int).toNat ((wrap64 (a1 + x5_1)) : Int).toNat).toList then (some (a1, x5_1, t469, true)) else (bureauref02_one.l0 kj3 a0 a1 (wrap64 (x5_1 + 1))))) = some (r1, r2, r3, r4) := by rw [if_pos rfl] at H; exact H
          clear H
          have H := H1
          clear H1
          replace H := Option.bind_eq_some_iff.mp H
          obtain ⟨t471, A130, H⟩ := H
          replace H : (if t471.toList = (a0.extract (a1 : Int).toNat ((wrap64 (a1 + x5_1)) : Int).toNat).toList then (some (a1, x5_1, t469, true)) else (bureauref02_one.l0 kj3 a0 a1 (wrap64 (x5_1 + 1)))) = some (r1, r2, r3, r4) := H
          have A13 := aM A130
          clear A130
          by_cases c14 : t471.toList = (a0.extract (a1 : Int).toNat ((wrap64 (a1 + x5_1)) : Int).toNat).toList
          ·rw [if_pos c14] at H
           have c14b0 : (t471.toList == (a0.extract (a1 : Int).toNat ((wrap64 (a1 + x5_1)) : Int).toNat).toList) = true := beq_iff_eq.mpr c14
           have c14b1 : (t471.toList != (a0.extract (a1 : Int).toNat ((wrap64 (a1 + x5_1)) : Int).toNat).toList) = false := bne_eq_false_iff_eq.mpr c14
           clear c14
           simp only [Option.some.injEq, Prod.mk.injEq] at H
           obtain ⟨rfl, rfl, rfl, rfl⟩ := H
           go_wp2_with (first | ((with_reducible refine gate_callee (f := 166) rfl ?_); refine goesL_ (some 27) rfl rfl Tryz.func166 (by kernel_rfl) rfl #[.string (a0.extract (a1 : Int).toNat ((wrap64 (a1 + x5_1)) : Int).toNat)] rfl (by (try simp only [mT, mC, mN]); first | done | rfl | (simp only [lD, lT]; rfl)) ?_; (with_reducible refine (bureauref02_number.calls kj3 (a0.extract (a1 : Int).toNat ((wrap64 (a1 + x5_1)) : Int).toNat) t469 _ A10.out).mono ?_); rintro e w' ⟨rfl, ⟨nd, rfl⟩⟩; refine ⟨_, rfl, ?_⟩; (try (rw [drewN_self wc]; generalize hq_ : World.drewN wc _ = wc; have n0_ : Aside0 (wc.heap[gb468]? = some (.cells #[.int .i64 x469000_1, .int .i64 x469001_1, .int .i64 x469002_1, .bool x469003_1] 185 (0, 0))) := ⟨by rw [← hq_]; exact (qy BK468.out)⟩; have n1_ : Aside0 (Below w.heap.size w wc) := ⟨by rw [← hq_]; exact (by repeat (first | (with_reducible first | exact HB.out | apply ea | apply en | apply ed | refine es ?_ GE468.out) | exact HB.out))⟩; clear BK468 HB hq_; have BK468 := n0_; have HB := n1_; clear n0_ n1_))) | ((with_reducible refine gate_callee (f := 106) rfl ?_); refine goesL_ (some 29) rfl rfl Tryz.func106 (by kernel_rfl) rfl #[.int .i64 t469] rfl (by (try simp only [mT, mC, mN]); first | done | rfl | (simp only [lD, lT]; rfl)) ?_; (with_reducible refine (bureauref02_May.calls t469 true _ A11.out).mono ?_); rintro e w' ⟨rfl, ⟨nd, rfl⟩⟩; refine ⟨_, rfl, ?_⟩; (try (rw [drewN_self wc]; generalize hq_ : World.drewN wc _ = wc; have n0_ : Aside0 (wc.heap[gb468]? = some (.cells #[.int .i64 x469000_1, .int .i64 x469001_1, .int .i64 x469002_1, .bool x469003_1] 185 (0, 0))) := ⟨by rw [← hq_]; exact (qy BK468.out)⟩; have n1_ : Aside0 (Below w.heap.size w wc) := ⟨by rw [← hq_]; exact (by repeat (first | (with_reducible first | exact HB.out | apply ea | apply en | apply ed | refine es ?_ GE468.out) | exact HB.out))⟩; clear BK468 HB hq_; have BK468 := n0_; have HB := n1_; clear n0_ n1_))) | (go_at_call 56; (with_reducible refine (bureauref02_Bytes.calls t469 t471 _ A13.out).mono ?_); rintro e w15 ⟨rfl, hb⟩; have n0_ := aM (bB (g := gb468) (qy BK468.out) hb); have n1_ := aM (bP (by repeat (first | (with_reducible first | exact HB.out | apply ea | apply en | apply ed | refine es ?_ GE468.out) | exact HB.out)) hb); clear BK468 HB; have BK468 := n0_; have HB := n1_; clear n0_ n1_; (try clear hb); (try clear hb2); (try clear hk); (try clear hi); have hcz16_0 := zC BK468.out 0 (.int .i64 x469000_1); have hcz16_1 := zC BK468.out 1 (.int .i64 x469001_1); have hcz16_2 := zC BK468.out 2 (.int .i64 x469002_1); have hcz16_3 := zC BK468.out 3 (.bool x469003_1); have hfz16_0 := bF BK468.out 0; have hfz16_1 := bF BK468.out 1; have hfz16_2 := bF BK468.out 2; have hfz16_3 := bF BK468.out 3))
           refine bodyPost_ret (results_cell_row rfl _ _ gb468 185 #[.int .i64 a1, .int .i64 x5_1, .int .i64 t469, .bool true] (0, 0) _ rfl (by (with_reducible repeat (first | apply qn | apply qd | apply qa)); refine bU (cs := #[.int .i64 a1, .int .i64 x5_1, .int .i64 t469, .bool x469003_1]) ?_ 3 _ rfl; (with_reducible repeat (first | apply qn | apply qd | apply qa)); refine bU (cs := #[.int .i64 a1, .int .i64 x5_1, .int .i64 x469002_1, .bool x469003_1]) ?_ 2 _ rfl; (with_reducible repeat (first | apply qn | apply qd | apply qa)); refine bU (cs := #[.int .i64 a1, .int .i64 x469001_1, .int .i64 x469002_1, .bool x469003_1]) ?_ 1 _ rfl; (with_reducible repeat (first | apply qn | apply qd | apply qa)); refine bU (cs := #[.int .i64 x469000_1, .int .i64 x469001_1, .int .i64 x469002_1, .bool x469003_1]) ?_ 0 _ rfl; exact qy BK468.out) Tryz.underlying185 rfl (by kernel_rfl)) rfl ?_
           exact ⟨by first | rfl | (simp [errW_none, errW_some] <;> rfl) | (simp [*, errW_none, errW_some] <;> rfl), by repeat (first | (with_reducible first | exact HB.out | apply ea | apply en | apply ed | refine es ?_ GE468.out) | exact HB.out)⟩
          ·rw [if_neg c14] at H
           have c14b0 : (t471.toList == (a0.extract (a1 : Int).toNat ((wrap64 (a1 + x5_1)) : Int).toNat).toList) = false := beq_eq_false_iff_ne.mpr c14
           have c14b1 : (t471.toList != (a0.extract (a1 : Int).toNat ((wrap64 (a1 + x5_1)) : Int).toNat).toList) = true := bne_iff_ne.mpr c14
           have H' := aM H
           clear H
           go_wp2_with (first | ((with_reducible refine gate_callee (f := 166) rfl ?_); refine goesL_ (some 27) rfl rfl Tryz.func166 (by kernel_rfl) rfl #[.string (a0.extract (a1 : Int).toNat ((wrap64 (a1 + x5_1)) : Int).toNat)] rfl (by (try simp only [mT, mC, mN]); first | done | rfl | (simp only [lD, lT]; rfl)) ?_; (with_reducible refine (bureauref02_number.calls kj3 (a0.extract (a1 : Int).toNat ((wrap64 (a1 + x5_1)) : Int).toNat) t469 _ A10.out).mono ?_); rintro e w' ⟨rfl, ⟨nd, rfl⟩⟩; refine ⟨_, rfl, ?_⟩) | ((with_reducible refine gate_callee (f := 106) rfl ?_); refine goesL_ (some 29) rfl rfl Tryz.func106 (by kernel_rfl) rfl #[.int .i64 t469] rfl (by (try simp only [mT, mC, mN]); first | done | rfl | (simp only [lD, lT]; rfl)) ?_; (with_reducible refine (bureauref02_May.calls t469 true _ A11.out).mono ?_); rintro e w' ⟨rfl, ⟨nd, rfl⟩⟩; refine ⟨_, rfl, ?_⟩) | (go_at_call 56; (with_reducible refine (bureauref02_Bytes.calls t469 t471 _ A13.out).mono ?_); rintro e w17 ⟨rfl, hb⟩; have n0_ := aM (bB (g := gb468) (qy BK468.out) hb); have n1_ := aM (bP (by repeat (first | (with_reducible first | exact HB.out | apply ea | apply en | apply ed | refine es ?_ GE468.out) | exact HB.out)) hb); clear BK468 HB; have BK468 := n0_; have HB := n1_; clear n0_ n1_; (try clear hb); (try clear hb2); (try clear hk); (try clear hi)))
           go_roundg kj3
           case measure => have := HK1.out; have := HJ3.out; omega
           case rel => exact ⟨(wrap64 (x5_1 + 1)), (x469000_1), (x469001_1), (x469002_1), (x469003_1), (by first | rfl | (simp; done) | (simp [*]; done)), H', ⟨by have := HK1.out; have := HJ3.out; omega⟩, ⟨by exact qy BK468.out⟩, ⟨by repeat (first | (with_reducible first | exact HB.out | apply ea | apply en | apply ed | refine es ?_ GE468.out) | exact HB.out)⟩⟩
         ·replace c12 := Bool.eq_false_iff.mpr c12
          subst c12
          have H1 : (bureauref02_one.l0 kj3 a0 a1 (wrap64 (x5_1 + 1))) = some (r1, r2, r3, r4) := by rw [if_neg (show ¬ (false = true) by decide)] at H; exact H
          clear H
          have H := H1
          clear H1
          have H' := aM H
          clear H
          go_wp2_with (first | ((with_reducible refine gate_callee (f := 166) rfl ?_); refine goesL_ (some 27) rfl rfl Tryz.func166 (by kernel_rfl) rfl #[.string (a0.extract (a1 : Int).toNat ((wrap64 (a1 + x5_1)) : Int).toNat)] rfl (by (try simp only [mT, mC, mN]); first | done | rfl | (simp only [lD, lT]; rfl)) ?_; (with_reducible refine (bureauref02_number.calls kj3 (a0.extract (a1 : Int).toNat ((wrap64 (a1 + x5_1)) : Int).toNat) t469 _ A10.out).mono ?_); rintro e w' ⟨rfl, ⟨nd, rfl⟩⟩; refine ⟨_, rfl, ?_⟩) | ((with_reducible refine gate_callee (f := 106) rfl ?_); refine goesL_ (some 29) rfl rfl Tryz.func106 (by kernel_rfl) rfl #[.int .i64 t469] rfl (by (try simp only [mT, mC, mN]); first | done | rfl | (simp only [lD, lT]; rfl)) ?_; (with_reducible refine (bureauref02_May.calls t469 false _ A11.out).mono ?_); rintro e w' ⟨rfl, ⟨nd, rfl⟩⟩; refine ⟨_, rfl, ?_⟩))
          go_roundg kj3
          case measure => have := HK1.out; have := HJ3.out; omega
          case rel => exact ⟨(wrap64 (x5_1 + 1)), (x469000_1), (x469001_1), (x469002_1), (x469003_1), (by first | rfl | (simp; done) | (simp [*]; done)), H', ⟨by have := HK1.out; have := HJ3.out; omega⟩, ⟨by exact qy BK468.out⟩, ⟨by repeat (first | (with_reducible first | exact HB.out | apply ea | apply en | apply ed | refine es ?_ GE468.out) | exact HB.out)⟩⟩
        ·rw [if_neg c9] at H
         exact absurd H (by simp)
       ·rw [if_neg c8] at H
        exact absurd H (by simp)
      ·rw [if_neg c7] at H
       exact absurd H (by simp)
     ·replace c6 := Bool.eq_false_iff.mpr c6
      subst c6
      have H1 : (some (a1, 1, 65533, false)) = some (r1, r2, r3, r4) := by rw [if_neg (show ¬ (false = true) by decide)] at H; exact H
      clear H
      have H := H1
      clear H1
      simp only [Option.some.injEq, Prod.mk.injEq] at H
      obtain ⟨rfl, rfl, rfl, rfl⟩ := H
      have hcz18_0 := zC BK468.out 0 (.int .i64 x469000_1)
      have hcz18_1 := zC BK468.out 1 (.int .i64 x469001_1)
      have hcz18_2 := zC BK468.out 2 (.int .i64 x469002_1)
      have hcz18_3 := zC BK468.out 3 (.bool x469003_1)
      have hfz18_0 := bF BK468.out 0
      have hfz18_1 := bF BK468.out 1
      have hfz18_2 := bF BK468.out 2
      have hfz18_3 := bF BK468.out 3
      go_wp2
      refine bodyPost_ret (results_cell_row rfl _ _ gb468 185 #[.int .i64 a1, .int .i64 1, .int .i64 65533, .bool false] (0, 0) _ rfl (by (with_reducible repeat (first | apply qn | apply qd | apply qa)); refine bU (cs := #[.int .i64 a1, .int .i64 1, .int .i64 65533, .bool x469003_1]) ?_ 3 _ rfl; (with_reducible repeat (first | apply qn | apply qd | apply qa)); refine bU (cs := #[.int .i64 a1, .int .i64 1, .int .i64 x469002_1, .bool x469003_1]) ?_ 2 _ rfl; (with_reducible repeat (first | apply qn | apply qd | apply qa)); refine bU (cs := #[.int .i64 a1, .int .i64 x469001_1, .int .i64 x469002_1, .bool x469003_1]) ?_ 1 _ rfl; (with_reducible repeat (first | apply qn | apply qd | apply qa)); refine bU (cs := #[.int .i64 x469000_1, .int .i64 x469001_1, .int .i64 x469002_1, .bool x469003_1]) ?_ 0 _ rfl; exact qy BK468.out) Tryz.underlying185 rfl (by kernel_rfl)) rfl ?_
      exact ⟨by first | rfl | (simp [errW_none, errW_some] <;> rfl) | (simp [*, errW_none, errW_some] <;> rfl), by repeat (first | (with_reducible first | exact HB.out | apply ea | apply en | apply ed | refine es ?_ GE468.out) | exact HB.out)⟩
end Go.Proofs.YtjkfkiebhgkolaaGreatDoor.PB
end

section
namespace Go.Proofs.YtjkfkiebhgkolaaGreatDoor.PB
open Go.RowKit Go.Proofs.YtjkfkiebhgkolaaGreatDoorW.PrintWords
set_option linter.unusedVariables false
set_option linter.unusedSimpArgs false
def sgW (v : ByteArray) (i : Nat) : Nat := (Utf8.decode v i).2
def sgR (v : ByteArray) (i : Nat) : Nat := (Utf8.decode v i).1
def bN (v : ByteArray) (i : Nat) : Nat := (v.get! i).toNat
theorem bN_lt (v : ByteArray) (i : Nat) : bN v i < 256 := (v.get! i).toNat_lt
theorem bt_bN (v : ByteArray) (i : Nat) : bt v (i : Int) = (bN v i : Int) := by
  unfold bt bN
  rw [Int.toNat_natCast]
  by_cases h : i < v.size
  · rw [dif_pos h]
    have : v.get! i = v[i] := by
      simp [ByteArray.get!, getElem!_pos, h]
      rfl
    rw [this]
  · rw [dif_neg h]
    have : v.get! i = 0 := by
      simp only [ByteArray.get!]
      rw [getElem!_neg]
      · rfl
      · exact h
    rw [this]
    rfl
theorem sg_at (v : ByteArray) (i : Nat) : Utf8.decode v i = Lib.decodeN (v.size - i) (bN v i) (bN v (i + 1)) (bN v (i + 2)) (bN v (i + 3)) := Lib.decode_at v i
theorem ext_nums (v : ByteArray) (i m : Nat) (h : i + m ≤ v.size) : v.extract i (i + m) = strOfNums ((List.range m).map (fun j => (bN v (i + j) : Int))) := by
  apply data_inj
  rw [ext_list, strOfNums_data]
  apply List.ext_getElem?
  intro j
  rw [List.map_map, List.getElem?_map, List.getElem?_drop, List.getElem?_take]
  by_cases hj : j < m
  · rw [if_pos (by omega), List.getElem?_range hj]
    have hd : i + j < v.data.toList.length := by rw [Array.length_toList]; exact (by show i + j < v.size; omega)
    rw [List.getElem?_eq_getElem hd]
    simp only [Option.map_some, Function.comp, Option.some.injEq, Int.toNat_natCast]
    have h2 := bt_bytesOf v (i + j) (by omega)
    rw [bytesOf_getD v (i + j) (by omega), bt_bN] at h2
    rw [List.getD_eq_getElem?_getD, List.getElem?_eq_getElem hd] at h2
    have h3 : (v.data.toList[i + j]).toNat = bN v (i + j) := by
      have h4 : (((v.data.toList[i + j]).toNat : Nat) : Int) = (bN v (i + j) : Int) := by simpa using h2
      exact_mod_cast h4
    rw [← h3, UInt8.ofNat_toNat]
  · rw [if_neg (by omega), List.getElem?_eq_none (by simpa using hj)]
    rfl
theorem enc_eq (xs : List Int) (v : ByteArray) (i m : Nat) (h : i + m ≤ v.size) (hx : ∀ x ∈ xs, 0 ≤ x ∧ x ≤ 255) : (strOfNums xs).toList = (v.extract i (i + m)).toList ↔ xs = (List.range m).map (fun j => (bN v (i + j) : Int)) := by
  rw [ext_nums v i m h]
  constructor
  · intro e
    refine strOf_inj hx (fun x hx => ?_) (toList_inj e)
    obtain ⟨j, _, rfl⟩ := List.mem_map.1 hx
    have := bN_lt v (i + j)
    omega
  · rintro rfl; rfl
theorem bt_ext (v : ByteArray) (i m j : Nat) (h : i + m ≤ v.size) (hj : j < m) : bt (v.extract i (i + m)) (j : Int) = (bN v (i + j) : Int) := by
  rw [ext_nums v i m h, strOf_bt _ j (by simpa using hj)]
  · simp [List.getD_eq_getElem?_getD, hj]
  · simp only [List.getD_eq_getElem?_getD, List.getElem?_map, List.getElem?_range hj, Option.map_some, Option.getD_some]
    have := bN_lt v (i + j)
    omega
theorem ext_m (v : ByteArray) (i m : Nat) (h : i + m ≤ v.size) : (v.extract i (i + m)).size = m := by
  rw [ByteArray.size_extract]
  omega
def numb (v : ByteArray) (i : Nat) : Nat → Nat
  | 1 => bN v i
  | 2 => bN v i % 32 * 64 + bN v (i + 1) % 64
  | 3 => (bN v i % 16 * 64 + bN v (i + 1) % 64) * 64 + bN v (i + 2) % 64
  | _ => ((bN v i % 8 * 64 + bN v (i + 1) % 64) * 64 + bN v (i + 2) % 64) * 64 + bN v (i + 3) % 64
theorem wnat {n : Nat} {x : Int} (h : x = (n : Int)) (hn : x ≤ 1000000000000) : wrap64 x = (n : Int) := by subst h; unfold wrap64; omega
set_option maxHeartbeats 1000000 in
theorem number_ev (v : ByteArray) (i m : Nat) (h : i + m ≤ v.size) (h1 : 1 ≤ m) (h4 : m ≤ 4) : Ev (fun k => bureauref02_number.f k (v.extract i (i + m))) (numb v i m : Int) := by
  have hs := ext_m v i m h
  have b0 := bt_ext v i m 0 h (by omega)
  have l0 := bN_lt v i
  have l1 := bN_lt v (i + 1)
  have l2 := bN_lt v (i + 2)
  have l3 := bN_lt v (i + 3)
  rw [Int.natCast_zero, Nat.add_zero] at b0
  have mod64 : ∀ n : Nat, Int.tmod (n : Int) 64 = ((n % 64 : Nat) : Int) := fun n => by rw [Int.tmod_eq_emod_of_nonneg (by omega)]; rfl
  have step : ∀ (j x y : Nat), j < m → x ≤ 100000000 → y = x * 64 + bN v (i + j) % 64 → ∀ {r : Int}, Ev (fun k => bureauref02_number.l0 k (v.extract i (i + m)) (y : Int) ((j + 1 : Nat) : Int)) r → Ev (fun k => bureauref02_number.l0 k (v.extract i (i + m)) (x : Int) (j : Int)) r := fun j x y hj hx hy r hr => by
    have := bN_lt v (i + j)
    refine Ev.step (fun k => by simp only [bureauref02_number.l0]; rfl) ?_
    refine Ev.pos (by rw [hs]; omega) (Ev.pos (by omega) ?_)
    rw [bt_ext v i m j h hj]
    have e0 : wrap64 ((bN v (i + j) : Nat) : Int) = ((bN v (i + j) : Nat) : Int) := wnat rfl (by omega)
    rw [e0, mod64]
    have e1 : wrap64 ((x : Int) * 64) = ((x * 64 : Nat) : Int) := wnat (by omega) (by omega)
    have hm64 : bN v (i + j) % 64 < 64 := Nat.mod_lt _ (by decide)
    generalize bN v (i + j) % 64 = z at hy hm64 ⊢
    clear e0 this l0 l1 l2 l3 b0
    have e2 : wrap64 (((x * 64 : Nat) : Int) + ((z : Nat) : Int)) = (y : Int) := wnat (by omega) (by omega)
    have e3 : wrap64 ((j : Int) + 1) = ((j + 1 : Nat) : Int) := wnat (by omega) (by omega)
    rw [e1, e2, e3]
    exact hr
  have stop : ∀ (x : Nat), Ev (fun k => bureauref02_number.l0 k (v.extract i (i + m)) (x : Int) ((m : Nat) : Int)) (x : Int) := fun x => by
    refine Ev.step (fun k => by simp only [bureauref02_number.l0]; rfl) ?_
    exact Ev.neg (by rw [hs]; omega) (Ev.now _)
  have tm : ∀ (q : Nat), Int.tmod (wrap64 (bt (v.extract i (i + m)) 0)) (q : Int) = ((bN v i % q : Nat) : Int) := fun q => by
    rw [b0, wnat (n := bN v i) rfl (by omega), Int.tmod_eq_emod_of_nonneg (by omega)]; rfl
  unfold bureauref02_number.f
  refine Ev.pos (by rw [hs]; omega) ?_
  rw [hs]
  have j0 : ∀ (x : Nat) {r : Int}, Ev (fun k => bureauref02_number.l0 k (v.extract i (i + m)) (x : Int) ((1 : Nat) : Int)) r → Ev (fun k => bureauref02_number.j0 k (v.extract i (i + m)) (x : Int)) r := fun x r hr =>
    Ev.step (fun k => by simp only [bureauref02_number.j0]; rfl) hr
  match m, h1, h4 with
  | 1, _, _ =>
    refine Ev.neg (by decide) (Ev.neg (by decide) (Ev.neg (by decide) ?_))
    rw [b0, wnat (n := bN v i) rfl (by omega)]
    exact j0 _ (stop _)
  | 2, _, _ =>
    refine Ev.pos (by decide) ?_
    rw [show (32 : Int) = ((32 : Nat) : Int) from rfl, tm]
    exact j0 _ (step 1 _ (numb v i 2) (by omega) (by omega) rfl (stop _))
  | 3, _, _ =>
    refine Ev.neg (by decide) (Ev.pos (by decide) ?_)
    rw [show (16 : Int) = ((16 : Nat) : Int) from rfl, tm]
    exact j0 _ (step 1 _ (bN v i % 16 * 64 + bN v (i + 1) % 64) (by omega) (by omega) rfl (step 2 _ (numb v i 3) (by omega) (by omega) rfl (stop _)))
  | 4, _, _ =>
    refine Ev.neg (by decide) (Ev.neg (by decide) (Ev.pos (by decide) ?_))
    rw [show (8 : Int) = ((8 : Nat) : Int) from rfl, tm]
    exact j0 _ (step 1 _ (bN v i % 8 * 64 + bN v (i + 1) % 64) (by omega) (by omega) rfl (step 2 _ ((bN v i % 8 * 64 + bN v (i + 1) % 64) * 64 + bN v (i + 2) % 64) (by omega) (by omega) rfl (step 3 _ (numb v i 4) (by omega) (by omega) rfl (stop _))))
theorem may_f (r : Nat) : bureauref02_May.f (r : Int) = some (decide (r ≤ 1114111 ∧ ¬ (55296 ≤ r ∧ r ≤ 57343))) := by
  unfold bureauref02_May.f
  by_cases h1 : r ≤ 1114111
  · rw [if_pos (by omega), if_pos (by omega)]
    by_cases h2 : r < 55296
    · rw [if_pos (by omega), decide_eq_true (by omega)]
    · rw [if_neg (by omega)]
      by_cases h3 : r > 57343
      · rw [decide_eq_true (by omega), decide_eq_true (by omega)]
      · rw [decide_eq_false (by omega), decide_eq_false (by omega)]
  · rw [if_pos (by omega), if_neg (by omega), decide_eq_false (by omega)]
def encI (r : Nat) : List Int :=
  if r < 128 then [(r : Int)] else if r < 2048 then [((192 + r / 64 : Nat) : Int), ((128 + r % 64 : Nat) : Int)]
  else if r < 65536 then [((224 + r / 4096 : Nat) : Int), ((128 + r / 64 % 64 : Nat) : Int), ((128 + r % 64 : Nat) : Int)]
  else [((240 + r / 262144 : Nat) : Int), ((128 + r / 4096 % 64 : Nat) : Int), ((128 + r / 64 % 64 : Nat) : Int), ((128 + r % 64 : Nat) : Int)]
theorem encI_byte (r : Nat) (h : r ≤ 1114111) : ∀ x ∈ encI r, 0 ≤ x ∧ x ≤ 255 := by
  intro x hx
  unfold encI at hx
  repeat' split at hx
  all_goals
    simp only [List.mem_cons, List.not_mem_nil, or_false] at hx
    omega
theorem bytes_f (r : Nat) (h : r ≤ 1114111) : bureauref02_Bytes.f (r : Int) = some (strOfNums (encI r)) := by
  have td : ∀ q : Nat, wrap64 (Int.tdiv (r : Int) (q : Int)) = ((r / q : Nat) : Int) := fun q => by
    rw [Int.tdiv_eq_ediv_of_nonneg (by omega)]
    exact wnat (n := r / q) (by rw [Int.natCast_ediv]) (by have := Nat.div_le_self r q; omega)
  have tm : ∀ a q : Nat, Int.tmod (a : Int) (q : Int) = ((a % q : Nat) : Int) := fun a q => by rw [Int.tmod_eq_emod_of_nonneg (by omega)]; rfl
  have m1 : ∀ a : Nat, Int.tmod (a : Int) 64 = ((a % 64 : Nat) : Int) := fun a => tm a 64
  have l1 : ∀ a : Nat, a % 64 < 64 := fun a => Nat.mod_lt _ (by decide)
  have ad : ∀ (c a : Nat), c + a ≤ 255 → (wrap64 ((c : Int) + (a : Int))) % 256 = ((c + a : Nat) : Int) := fun c a h => by
    rw [wnat (n := c + a) (by omega) (by omega)]; omega
  unfold bureauref02_Bytes.f encI
  by_cases h1 : r < 128
  · rw [if_pos (by omega), if_pos h1]
    congr 3
    omega
  · rw [if_neg (by omega), if_neg h1]
    by_cases h2 : r < 2048
    · rw [if_pos (by omega), if_pos h2]
      rw [show (64 : Int) = ((64 : Nat) : Int) from rfl, td 64, tm r 64, show (192 : Int) = ((192 : Nat) : Int) from rfl, show (128 : Int) = ((128 : Nat) : Int) from rfl, ad 192 _ (by omega), ad 128 _ (by have := l1 r; omega)]
    · rw [if_neg (by omega), if_neg h2]
      by_cases h3 : r < 65536
      · rw [if_pos (by omega), if_pos h3]
        rw [show (64 : Int) = ((64 : Nat) : Int) from rfl, show (4096 : Int) = ((4096 : Nat) : Int) from rfl, td 64, td 4096, tm r 64, tm (r / 64) 64, show (224 : Int) = ((224 : Nat) : Int) from rfl, show (128 : Int) = ((128 : Nat) : Int) from rfl, ad 224 _ (by omega), ad 128 _ (by have := l1 r; omega), ad 128 _ (by have := l1 (r / 64); omega)]
      · rw [if_neg (by omega), if_neg h3]
        rw [show (64 : Int) = ((64 : Nat) : Int) from rfl, show (4096 : Int) = ((4096 : Nat) : Int) from rfl, show (262144 : Int) = ((262144 : Nat) : Int) from rfl, td 64, td 4096, td 262144, tm r 64, tm (r / 64) 64, tm (r / 4096) 64, show (240 : Int) = ((240 : Nat) : Int) from rfl, show (128 : Int) = ((128 : Nat) : Int) from rfl, ad 240 _ (by omega), ad 128 _ (by have := l1 r; omega), ad 128 _ (by have := l1 (r / 64); omega), ad 128 _ (by have := l1 (r / 4096); omega)]
def hitU (v : ByteArray) (i m : Nat) : Prop := i + m ≤ v.size ∧ (numb v i m ≤ 1114111 ∧ ¬ (55296 ≤ numb v i m ∧ numb v i m ≤ 57343)) ∧ encI (numb v i m) = (List.range m).map (fun j => (bN v (i + j) : Int))
instance (v : ByteArray) (i m : Nat) : Decidable (hitU v i m) := by unfold hitU; infer_instance
theorem hit1 (v : ByteArray) (i : Nat) (hi : i < v.size) : hitU v i 1 ↔ bN v i < 128 := by
  have := bN_lt v i
  unfold hitU encI
  simp only [numb, List.range_succ, List.range_zero, List.nil_append, List.map_cons, List.map_nil, Nat.add_zero]
  constructor
  · rintro ⟨_, _, h⟩
    repeat' split at h
    all_goals first | assumption | simp at h
  · intro h
    rw [if_pos h]
    exact ⟨by omega, by omega, rfl⟩
theorem hit2 (v : ByteArray) (i : Nat) (hi : i < v.size) : hitU v i 2 ↔ 1 < v.size - i ∧ bN v i / 32 = 6 ∧ bN v (i + 1) / 64 = 2 ∧ 128 ≤ bN v i % 32 * 64 + bN v (i + 1) % 64 := by
  have := bN_lt v i
  have := bN_lt v (i + 1)
  unfold hitU encI
  simp only [numb, List.range_succ, List.range_zero, List.nil_append, List.map_append, List.map_cons, List.map_nil, Nat.add_zero, List.cons_append]
  constructor
  · rintro ⟨_, _, h⟩
    repeat' split at h
    all_goals simp only [List.cons.injEq, reduceCtorEq, and_false, and_true] at h
    all_goals omega
  · rintro ⟨h1, h2, h3, h4⟩
    rw [if_neg (by omega), if_pos (by omega)]
    simp only [List.cons.injEq, and_true]
    omega
set_option maxHeartbeats 1000000 in
theorem hit3 (v : ByteArray) (i : Nat) (hi : i < v.size) : hitU v i 3 ↔ 2 < v.size - i ∧ bN v i / 16 = 14 ∧ bN v (i + 1) / 64 = 2 ∧ bN v (i + 2) / 64 = 2 ∧ 2048 ≤ numb v i 3 ∧ ¬ (55296 ≤ numb v i 3 ∧ numb v i 3 ≤ 57343) := by
  have := bN_lt v i
  have := bN_lt v (i + 1)
  have := bN_lt v (i + 2)
  unfold hitU encI
  simp only [numb, List.range_succ, List.range_zero, List.nil_append, List.map_append, List.map_cons, List.map_nil, Nat.add_zero, List.cons_append]
  constructor
  · rintro ⟨_, _, h⟩
    repeat' split at h
    all_goals simp only [List.cons.injEq, reduceCtorEq, and_false, and_true] at h
    all_goals omega
  · rintro ⟨h1, h2, h3, h4, h5, h6⟩
    rw [if_neg (by omega), if_neg (by omega), if_pos (by omega)]
    simp only [List.cons.injEq, and_true]
    omega
set_option maxHeartbeats 2000000 in
theorem hit4 (v : ByteArray) (i : Nat) (hi : i < v.size) : hitU v i 4 ↔ 3 < v.size - i ∧ bN v i / 8 = 30 ∧ bN v (i + 1) / 64 = 2 ∧ bN v (i + 2) / 64 = 2 ∧ bN v (i + 3) / 64 = 2 ∧ 65536 ≤ numb v i 4 ∧ numb v i 4 ≤ 1114111 := by
  have := bN_lt v i
  have := bN_lt v (i + 1)
  have := bN_lt v (i + 2)
  have := bN_lt v (i + 3)
  unfold hitU encI
  simp only [numb, List.range_succ, List.range_zero, List.nil_append, List.map_append, List.map_cons, List.map_nil, Nat.add_zero, List.cons_append]
  constructor
  · rintro ⟨_, _, h⟩
    repeat' split at h
    all_goals simp only [List.cons.injEq, reduceCtorEq, and_false, and_true] at h
    all_goals omega
  · rintro ⟨h1, h2, h3, h4, h5, h6, h7⟩
    rw [if_neg (by omega), if_neg (by omega), if_neg (by omega)]
    simp only [List.cons.injEq, and_true]
    omega
set_option maxHeartbeats 2000000 in
theorem sg_cases (v : ByteArray) (i : Nat) (hi : i < v.size) :
    (hitU v i 1 ∧ sgW v i = 1 ∧ sgR v i = numb v i 1) ∨ (¬ hitU v i 1 ∧ hitU v i 2 ∧ sgW v i = 2 ∧ sgR v i = numb v i 2) ∨ (¬ hitU v i 1 ∧ ¬ hitU v i 2 ∧ hitU v i 3 ∧ sgW v i = 3 ∧ sgR v i = numb v i 3) ∨ (¬ hitU v i 1 ∧ ¬ hitU v i 2 ∧ ¬ hitU v i 3 ∧ hitU v i 4 ∧ sgW v i = 4 ∧ sgR v i = numb v i 4) ∨ (¬ hitU v i 1 ∧ ¬ hitU v i 2 ∧ ¬ hitU v i 3 ∧ ¬ hitU v i 4 ∧ sgW v i = 1 ∧ sgR v i = 65533) := by
  rw [hit1 v i hi, hit2 v i hi, hit3 v i hi, hit4 v i hi]
  unfold sgW sgR
  rw [sg_at]
  have := bN_lt v i
  have := bN_lt v (i + 1)
  have := bN_lt v (i + 2)
  have := bN_lt v (i + 3)
  simp only [numb]
  unfold Lib.decodeN
  generalize bN v i = b0 at *
  generalize bN v (i + 1) = b1 at *
  generalize bN v (i + 2) = b2 at *
  generalize bN v (i + 3) = b3 at *
  generalize v.size - i = n at *
  by_cases h0 : b0 < 128
  · rw [if_pos h0]
    exact .inl ⟨h0, rfl, rfl⟩
  rw [if_neg h0]
  by_cases h1 : b0 / 32 = 6 ∧ 1 < n ∧ b1 / 64 = 2
  · rw [if_pos h1]
    by_cases h2 : b0 % 32 * 64 + b1 % 64 ≥ 128
    · rw [if_pos h2]
      exact .inr (.inl ⟨h0, ⟨h1.2.1, h1.1, h1.2.2, h2⟩, rfl, rfl⟩)
    · rw [if_neg h2]
      exact .inr (.inr (.inr (.inr ⟨h0, by omega, by omega, by omega, rfl, rfl⟩)))
  rw [if_neg h1]
  by_cases h2 : b0 / 16 = 14 ∧ (1 < n ∧ b1 / 64 = 2) ∧ 2 < n ∧ b2 / 64 = 2
  · rw [if_pos h2]
    split
    · exact .inr (.inr (.inl ⟨h0, by omega, by omega, rfl, by show _ = _; omega⟩))
    · exact .inr (.inr (.inr (.inr ⟨h0, by omega, by omega, by omega, rfl, rfl⟩)))
  rw [if_neg h2]
  by_cases h3 : b0 / 8 = 30 ∧ (1 < n ∧ b1 / 64 = 2) ∧ (2 < n ∧ b2 / 64 = 2) ∧ 3 < n ∧ b3 / 64 = 2
  · rw [if_pos h3]
    split
    · exact .inr (.inr (.inr (.inl ⟨h0, by omega, by omega, by omega, rfl, by show _ = _; omega⟩)))
    · exact .inr (.inr (.inr (.inr ⟨h0, by omega, by omega, by omega, rfl, rfl⟩)))
  rw [if_neg h3]
  exact .inr (.inr (.inr (.inr ⟨h0, by omega, by omega, by omega, rfl, rfl⟩)))
def sgWhole (v : ByteArray) (i : Nat) : Bool := decide (hitU v i 1 ∨ hitU v i 2 ∨ hitU v i 3 ∨ hitU v i 4)
theorem one_ev (v : ByteArray) (i : Nat) (hi : i < v.size) (hv : v.size ≤ 100000000) : Ev (fun k => bureauref02_one.f k v (i : Int)) ((i : Int), (sgW v i : Int), (sgR v i : Int), sgWhole v i) := by
  unfold bureauref02_one.f
  have hw : wrap64 ((v.size : Int) - (i : Int)) = ((v.size - i : Nat) : Int) := wnat (by omega) (by omega)
  have yes : ∀ m : Nat, 1 ≤ m → m ≤ 4 → hitU v i m → Ev (fun k => bureauref02_one.l0 k v (i : Int) (m : Int)) ((i : Int), (m : Int), (numb v i m : Int), true) := fun m h1 h4 h => by
    have hx : wrap64 ((i : Int) + (m : Int)) = ((i + m : Nat) : Int) := wnat (by omega) (by have := h.1; omega)
    refine Ev.step (fun k => by simp only [bureauref02_one.l0]; rfl) (Ev.pos (by omega) ?_)
    refine Ev.step (fun k => by simp only [bureauref02_one.j1]; rfl) ?_
    rw [hw, hx]
    refine Ev.pos (decide_eq_true (by have := h.1; omega)) (Ev.pos (by omega) (Ev.pos (by omega) (Ev.pos (by have := h.1; omega) ?_)))
    rw [Int.toNat_natCast, Int.toNat_natCast]
    refine Ev.bind (number_ev v i m h.1 h1 h4) ?_
    rw [may_f, decide_eq_true h.2.1]
    refine Ev.bind (Ev.now _) (Ev.pos rfl ?_)
    rw [bytes_f _ h.2.1.1]
    refine Ev.bind (Ev.now _) (Ev.pos ?_ (Ev.now _))
    exact (enc_eq _ v i m h.1 (encI_byte _ h.2.1.1)).2 h.2.2
  have no : ∀ m : Nat, 1 ≤ m → m ≤ 4 → ¬ hitU v i m → ∀ {r : Int × Int × Int × Bool}, (v.size < i + m → r = ((i : Int), 1, 65533, false)) → Ev (fun k => bureauref02_one.l0 k v (i : Int) ((m + 1 : Nat) : Int)) r → Ev (fun k => bureauref02_one.l0 k v (i : Int) (m : Int)) r := fun m h1 h4 h r hr hn => by
    refine Ev.step (fun k => by simp only [bureauref02_one.l0]; rfl) (Ev.pos (by omega) ?_)
    refine Ev.step (fun k => by simp only [bureauref02_one.j1]; rfl) ?_
    rw [hw]
    by_cases hs : v.size < i + m
    · rw [hr hs]
      exact Ev.neg (by rw [decide_eq_false (by omega)]; decide) (Ev.now _)
    have hx : wrap64 ((i : Int) + (m : Int)) = ((i + m : Nat) : Int) := wnat (by omega) (by omega)
    have hm : wrap64 ((m : Int) + 1) = ((m + 1 : Nat) : Int) := wnat (by omega) (by omega)
    rw [hx, hm]
    refine Ev.pos (decide_eq_true (by omega)) (Ev.pos (by omega) (Ev.pos (by omega) (Ev.pos (by omega) ?_)))
    rw [Int.toNat_natCast, Int.toNat_natCast]
    refine Ev.bind (number_ev v i m (by omega) h1 h4) ?_
    rw [may_f]
    refine Ev.bind (Ev.now _) ?_
    by_cases hmay : numb v i m ≤ 1114111 ∧ ¬ (55296 ≤ numb v i m ∧ numb v i m ≤ 57343)
    · rw [decide_eq_true hmay, bytes_f _ hmay.1]
      refine Ev.pos rfl (Ev.bind (Ev.now _) (Ev.neg (fun e => h ⟨by omega, hmay, ?_⟩) hn))
      exact (enc_eq _ v i m (by omega) (encI_byte _ hmay.1)).1 e
    · rw [decide_eq_false hmay]
      exact Ev.neg (by decide) hn
  have end5 : Ev (fun k => bureauref02_one.l0 k v (i : Int) ((4 + 1 : Nat) : Int)) ((i : Int), (1 : Int), (65533 : Int), false) := by
    refine Ev.step (fun k => by simp only [bureauref02_one.l0]; rfl) (Ev.neg (by decide) ?_)
    exact Ev.step (fun k => by simp only [bureauref02_one.j1]; rfl) (Ev.neg (by decide) (Ev.now _))
  have over : ∀ m m' : Nat, v.size < i + m → m ≤ m' → ¬ hitU v i m' := fun m m' h hm e => by have := e.1; omega
  rw [show (1 : Int) = ((1 : Nat) : Int) from rfl]
  rcases sg_cases v i hi with ⟨h1, e1, e2⟩ | ⟨h1, h2, e1, e2⟩ | ⟨h1, h2, h3, e1, e2⟩ | ⟨h1, h2, h3, h4, e1, e2⟩ | ⟨h1, h2, h3, h4, e1, e2⟩
  · rw [e1, e2, show sgWhole v i = true from decide_eq_true (.inl h1)]
    exact yes 1 (by omega) (by omega) h1
  · rw [e1, e2, show sgWhole v i = true from decide_eq_true (.inr (.inl h2))]
    exact no 1 (by omega) (by omega) h1 (fun h => absurd h2 (over _ _ h (by omega))) (yes 2 (by omega) (by omega) h2)
  · rw [e1, e2, show sgWhole v i = true from decide_eq_true (.inr (.inr (.inl h3)))]
    exact no 1 (by omega) (by omega) h1 (fun h => absurd h3 (over _ _ h (by omega))) (no 2 (by omega) (by omega) h2 (fun h => absurd h3 (over _ _ h (by omega))) (yes 3 (by omega) (by omega) h3))
  · rw [e1, e2, show sgWhole v i = true from decide_eq_true (.inr (.inr (.inr h4)))]
    exact no 1 (by omega) (by omega) h1 (fun h => absurd h4 (over _ _ h (by omega))) (no 2 (by omega) (by omega) h2 (fun h => absurd h4 (over _ _ h (by omega))) (no 3 (by omega) (by omega) h3 (fun h => absurd h4 (over _ _ h (by omega))) (yes 4 (by omega) (by omega) h4)))
  · rw [e1, e2, show sgWhole v i = false from decide_eq_false (by rintro (h | h | h | h) <;> contradiction)]
    exact no 1 (by omega) (by omega) h1 (fun _ => rfl) (no 2 (by omega) (by omega) h2 (fun _ => rfl) (no 3 (by omega) (by omega) h3 (fun _ => rfl) (no 4 (by omega) (by omega) h4 (fun _ => rfl) end5)))
end Go.Proofs.YtjkfkiebhgkolaaGreatDoor.PB
end

section
namespace Go.Proofs.YtjkfkiebhgkolaaGreatDoor.PB
open Go.RowKit Go.Proofs.YtjkfkiebhgkolaaGreatDoorW.PrintWords Go.Proofs.YtjkfkiebhgkolaaGreatDoorW.PrintLast Go.Proofs.YtjkfkiebhgkolaaGreatDoorW.PrintMore
attribute [local go_sem] max2_int min2_int max_two min_two max_three min_three max_four min_four   
set_option linter.unusedVariables false
set_option linter.unusedSimpArgs false
def bureauref02_Signs.l0 : Nat → ByteArray → List (S185) → Int → Option ((List (S185)))
 | 0, _, _, _ => none
 | k + 1, x0, x3, x4 => if x4 < (x0.size : Int) then ((bureauref02_one.f k x0 x4).bind fun bt472 => (if x3.length < 4398046511104 then (bureauref02_Signs.l0 k x0 (x3 ++ [(⟨bt472.1, bt472.2.1, bt472.2.2.1, bt472.2.2.2⟩ : S185)]) (wrap64 (x4 + bt472.2.1))) else (none))) else (some x3)
def bureauref02_Signs.f (k : Nat) (a0 : ByteArray) : Option ((List (S185))) := bureauref02_Signs.l0 k a0 ([] : List (S185)) 0
set_option maxHeartbeats 8000000 in
set_option maxRecDepth 100000 in
theorem bureauref02_Signs.calls (k : Nat) (a0 : ByteArray) (r : List (S185)) (w : World) (h : bureauref02_Signs.f k a0 = some r) :
  Calls Tryz.prog 107 #[.string a0] w fun e w' => ∃ v0_ : Value, e = .returned (v0_) ∧ Kd.R k185 185 w' w.heap.size (fun _ => True) v0_ r ∧ Below w.heap.size w w' := by
 have hu185 := Tryz.underlying185
 have HB := aM (Below.refl w.heap.size w)
 have H : (bureauref02_Signs.l0 k a0 ([] : List (S185)) 0) = some r := h
 clear h
 have H' := aM H
 clear H
 go_enter Tryz.func107, Tryz.ntmps107
 go_wp2
 go_loopg [3, 4] k (fun kq v3 v4 w' => ∃ (x3_1 : List (S185)) (x4_1 : Int), v4 = .int .i64 x4_1 ∧ Aside0 (bureauref02_Signs.l0 kq a0 x3_1 x4_1 = some r) ∧ Aside0 (kq ≤ k) ∧ Aside0 (Kd.R k185 185 w' w.heap.size (fun _ => True) v3 x3_1) ∧ Aside0 (Below w.heap.size w w'))
 case atStart => exact ⟨(([] : List (S185))), (0), (by first | rfl | (simp; done) | (simp [*]; done)), H', ⟨Nat.le_refl _⟩, ⟨by first | exact Kd.R_nil _ _ _ _ _ | exact Kd.N_nil _ _ _ _ _ | exact Kd.V_nil _ _ _ _ _ | exact Kd.Q_nil _ _ _ _ _ | exact Kd.S_nil _ _ _ _ _⟩, ⟨by exact ey HB.out⟩⟩
 case round =>
  clear H'
  try clear c1
  obtain ⟨x3_1, x4_1, rfl, HA, HK1, HO_3, HB⟩ := hrel
  cases gk with
  | zero => exact absurd HA.out (by simp [bureauref02_Signs.l0])
  | succ k1 =>
   have H := HA.out
   clear HA
   simp only [bureauref02_Signs.l0] at H
   by_cases c2 : x4_1 < (a0.size : Int)
   ·rw [if_pos c2] at H
    have c2b0 : decide (x4_1 < (a0.size : Int)) = true := decide_eq_true c2
    clear c2
    replace H := Option.bind_eq_some_iff.mp H
    obtain ⟨⟨t472, t473, t474, t475⟩, A30, H⟩ := H
    replace H : (if x3_1.length < 4398046511104 then (bureauref02_Signs.l0 k1 a0 (x3_1 ++ [(⟨t472, t473, t474, t475⟩ : S185)]) (wrap64 (x4_1 + t473))) else (none)) = some r := H
    have A3 := aM A30
    clear A30
    by_cases c4 : x3_1.length < 4398046511104
    ·rw [if_pos c4] at H
     have LMc4 := aM c4
     clear c4
     obtain ⟨y477, hy477⟩ : ∃ y_ : List (S185), y_ = (x3_1 ++ [(⟨t472, t473, t474, t475⟩ : S185)]) := ⟨_, rfl⟩
     replace H : (bureauref02_Signs.l0 k1 a0 y477 (wrap64 (x4_1 + t473))) = some r := by first | (rw [hy477]; with_reducible exact H) | (have H2_ := (Option.bind_some _ _).symm.trans H; rw [hy477]; with_reducible exact H2_) | (have H2_ := (Option.bind_some _ _).symm.trans H; with_reducible exact H2_) | with_reducible exact H | (rw [hy477]; exact H) | exact H
     have Ny477 := aM hy477
     clear hy477
     have H' := aM H
     clear H
     go_wp2_with (first | ((with_reducible refine gate_callee (f := 151) rfl ?_); refine goesL_ (some 12) rfl rfl Tryz.func151 (by kernel_rfl) rfl #[.string a0, .int .i64 x4_1] rfl (by (try simp only [mT, mC, mN]); first | done | rfl | (simp only [lD, lT]; rfl)) ?_; (with_reducible refine (bureauref02_one.calls k1 a0 x4_1 t472 t473 t474 t475 _ A3.out).mono ?_); rintro e w5 ⟨rfl, hb⟩; refine ⟨_, rfl, ?_⟩; have n0_ := aM (Kd.R_below (ry HO_3.out) hb); have n1_ := aM (bP (ey HB.out) hb); clear HO_3 HB; have HO_3 := n0_; have HB := n1_; clear n0_ n1_; (try clear hb); (try clear hb2); (try clear hk); (try clear hi)) | ((with_reducible refine gate_dst (N := 5) rfl ?_); refine box_event ?hg (N := 5) ?hd (cs := #[.int .i64 0, .int .i64 0, .int .i64 0, .bool false]) (t := 185) ?hr ?_; (case hd | hg => rfl); (case hr => first | (go_simp; done) | (go_simp; rfl)); intro gb476 hg w6 hbox hb; have n0_ := aM (Kd.R_below (Kd.R_elderB (ry HO_3.out) gb476 (Nat.le_of_eq hg.symm)) hb); have n1_ := aM (bP (ey HB.out) hb); have n2_ := aM (hbox); have n3_ := aM ((by rw [hg]; exact (bZ (ey HB.out)) : w.heap.size ≤ gb476)); have n4_ := n3_; clear HO_3 HB; have HO_3 := n0_; have HB := n1_; have BK476 := n2_; have GW476 := n3_; have GE476 := n4_; clear n0_ n1_ n2_ n3_ n4_; clear hb hbox hg; have hcz7_0 := zC BK476.out 0 (.int .i64 0); have hcz7_1 := zC BK476.out 1 (.int .i64 0); have hcz7_2 := zC BK476.out 2 (.int .i64 0); have hcz7_3 := zC BK476.out 3 (.bool false); have hfz7_0 := bF BK476.out 0; have hfz7_1 := bF BK476.out 1; have hfz7_2 := bF BK476.out 2; have hfz7_3 := bF BK476.out 3) | ((with_reducible refine gate_builtin (b := .append) (xs := #[.tmp 13, .tmp 15]) rfl ?_); at_builtin; refine Kd.R_append k185 (w0 := w) w.heap.size rfl (.tmp 13) (.tmp 15) 154 185 (.agg #[(.int .i64 0), (.int .i64 0), (.int .i64 0), (.bool false)]) 32 rfl Tryz.underlying154 info185 rfl (by decide) (by omega) u3 x3_1 (⟨t472, t473, t474, t475⟩ : S185) [.int .i64 t472, .int .i64 t473, .int .i64 t474, .bool t475] (fun k_ => k_ ≠ gb476) (fun _ => False) rfl (by first | (go_simp; done) | (go_simp; rfl)) ?aP (fun _ hk => hk.elim) ?aF ?aO ?aB ?aS ?aL ?_; (case aP => exact k185_mkM _ _ _ (⟨t472, t473, t474, t475⟩ : S185)); (case aB => exact (by repeat (first | (with_reducible first | exact HB.out | apply ea | apply en | apply ed | refine es ?_ GE476.out) | exact HB.out))); (case aF => exact (fun k_ hk => Kd.freshB (g := gb476) (o := .cells #[.int .i64 t472, .int .i64 t473, .int .i64 t474, .bool t475] 185 (0, 0)) (by (with_reducible repeat (first | apply qn | apply qd | apply qa)); refine bU (cs := #[.int .i64 t472, .int .i64 t473, .int .i64 t474, .bool false]) ?_ 3 _ rfl; (with_reducible repeat (first | apply qn | apply qd | apply qa)); refine bU (cs := #[.int .i64 t472, .int .i64 t473, .int .i64 0, .bool false]) ?_ 2 _ rfl; (with_reducible repeat (first | apply qn | apply qd | apply qa)); refine bU (cs := #[.int .i64 t472, .int .i64 0, .int .i64 0, .bool false]) ?_ 1 _ rfl; (with_reducible repeat (first | apply qn | apply qd | apply qa)); refine bU (cs := #[.int .i64 0, .int .i64 0, .int .i64 0, .bool false]) ?_ 0 _ rfl; exact qy BK476.out) k_ hk)); (case aO => exact (by (with_reducible repeat (first | apply ra | apply rn | apply rd_)); exact rM (rF (p := ⟨gb476, 3, none⟩) (rF (p := ⟨gb476, 2, none⟩) (rF (p := ⟨gb476, 1, none⟩) (rF (p := ⟨gb476, 0, none⟩) (rM HO_3.out (fun k_ hk => (⟨hk, hk.2⟩ : _ ∧ k_ ≠ gb476))) (fun _ hk => hk.2) (.int .i64 t472)) (fun _ hk => hk.2) (.int .i64 t473)) (fun _ hk => hk.2) (.int .i64 t474)) (fun _ hk => hk.2) (.bool t475)) (fun _ hk => hk.1.2))); (case aS => exact (bZ (by repeat (first | (with_reducible first | exact HB.out | apply ea | apply en | apply ed | refine es ?_ GE476.out) | exact HB.out)))); (case aL => have := LMc4.out; omega); intro v478 w8 ho hb hg hat; rw [← Ny477.out] at ho; have n0_ := aM (blk_grown (g := gb476) (o := .cells #[.int .i64 t472, .int .i64 t473, .int .i64 t474, .bool t475] 185 (0, 0)) (by (with_reducible repeat (first | apply qn | apply qd | apply qa)); refine bU (cs := #[.int .i64 t472, .int .i64 t473, .int .i64 t474, .bool false]) ?_ 3 _ rfl; (with_reducible repeat (first | apply qn | apply qd | apply qa)); refine bU (cs := #[.int .i64 t472, .int .i64 t473, .int .i64 0, .bool false]) ?_ 2 _ rfl; (with_reducible repeat (first | apply qn | apply qd | apply qa)); refine bU (cs := #[.int .i64 t472, .int .i64 0, .int .i64 0, .bool false]) ?_ 1 _ rfl; (with_reducible repeat (first | apply qn | apply qd | apply qa)); refine bU (cs := #[.int .i64 0, .int .i64 0, .int .i64 0, .bool false]) ?_ 0 _ rfl; exact qy BK476.out) hg (Kd.R_away HO_3.out (fun _ hk => hk.2))); have n1_ := aM (hb); have n2_ := aM (ho); clear BK476 HB HO_3; have BK476 := n0_; have HB := n1_; have HO479 := n2_; clear n0_ n1_ n2_; clear ho hb hg hat; have hcz9_0 := zC BK476.out 0 (.int .i64 t472); have hcz9_1 := zC BK476.out 1 (.int .i64 t473); have hcz9_2 := zC BK476.out 2 (.int .i64 t474); have hcz9_3 := zC BK476.out 3 (.bool t475); have hfz9_0 := bF BK476.out 0; have hfz9_1 := bF BK476.out 1; have hfz9_2 := bF BK476.out 2; have hfz9_3 := bF BK476.out 3))
     go_roundg k1
     case measure => have := HK1.out; omega
     case rel => exact ⟨(y477), (wrap64 (x4_1 + t473)), (by first | rfl | (simp; done) | (simp [*]; done)), H', ⟨by have := HK1.out; omega⟩, ⟨by (with_reducible repeat (first | apply ra | apply rn | apply rd_)); exact rM HO479.out (fun _ hk => trivial)⟩, ⟨by repeat (first | (with_reducible first | exact HB.out | apply ea | apply en | apply ed | refine es ?_ GE476.out) | exact HB.out)⟩⟩
    ·rw [if_neg c4] at H
     exact absurd H (by simp)
   ·rw [if_neg c2] at H
    have c2b0 : decide (x4_1 < (a0.size : Int)) = false := decide_eq_false c2
    clear c2
    obtain rfl := Option.some.inj H
    go_wp2
    go_ret
    exact ⟨_, by first | rfl | (simp [errW_none, errW_some] <;> rfl) | (simp [*, errW_none, errW_some] <;> rfl), by exact ry HO_3.out, by exact ey HB.out⟩
end Go.Proofs.YtjkfkiebhgkolaaGreatDoor.PB
end

section
namespace Go.Proofs.YtjkfkiebhgkolaaGreatDoor.PB
open Go.RowKit Go.Proofs.YtjkfkiebhgkolaaGreatDoorW.PrintWords Go.Proofs.YtjkfkiebhgkolaaGreatDoorW.PrintLast Go.Proofs.YtjkfkiebhgkolaaGreatDoorW.PrintMore
attribute [local go_sem] max2_int min2_int max_two min_two max_three min_three max_four min_four   
set_option linter.unusedVariables false
set_option linter.unusedSimpArgs false
def bureauref02_which.l0 : Nat → List (S185) → Int → Int → Option (Int)
 | 0, _, _, _ => none
 | k + 1, x0, x1, x5 => if x5 < (x0.length : Int) then (if 0 ≤ x5 then (if x1 < (wrap64 (((rd_T185 x0 x5).f0) + ((rd_T185 x0 x5).f1))) then (some x5) else (bureauref02_which.l0 k x0 x1 (wrap64 (x5 + 1)))) else (none)) else (some (x0.length : Int))
def bureauref02_which.f (k : Nat) (l0 : List (S185)) (a1 : Int) : Option (Int) := bureauref02_which.l0 k l0 a1 0
set_option maxHeartbeats 8000000 in
set_option maxRecDepth 100000 in
theorem bureauref02_which.calls (k : Nat) (A0 : Option Addr) (c0 : Nat) (l0 : List (S185)) (a1 : Int) (r : Int) (w : World) (hr0 : Kd.C k185 w A0 l0.length l0) (hc0 : l0.length ≤ c0) (h : bureauref02_which.f k l0 a1 = some r) :
  Calls Tryz.prog 109 #[.slice A0 l0.length c0, .int .i64 a1] w fun e w' => e = .returned (.int .i64 r) ∧ Drawn0 w w' := by
 have HR0 := aM hr0
 have HC0 := aM hc0
 clear hr0 hc0
 have H : (bureauref02_which.l0 k l0 a1 0) = some r := h
 clear h
 have H' := aM H
 clear H
 go_enter Tryz.func109, Tryz.ntmps109
 go_wp2
 repeat (go_quiet (fail); try go_wp2)
 go_loopg [5] k (fun kq v5 w' => ∃ (x5_1 : Int), v5 = .int .i64 x5_1 ∧ Aside0 (bureauref02_which.l0 kq l0 a1 x5_1 = some r) ∧ Aside0 (kq ≤ k) ∧ Drawn0 w w')
 case atStart => exact ⟨(0), (by first | rfl | (simp; done) | (simp [*]; done)), H', ⟨Nat.le_refl _⟩, by repeat (first | exact Drawn0.refl _ | apply Drawn0.step)⟩
 case round =>
  clear H'
  try clear c1
  try clear p2
  obtain ⟨x5_1, rfl, HA, HK1, ⟨m1, rfl⟩⟩ := hrel
  cases gk with
  | zero => exact absurd HA.out (by simp [bureauref02_which.l0])
  | succ k1 =>
   have H := HA.out
   clear HA
   simp only [bureauref02_which.l0] at H
   by_cases c3 : x5_1 < (l0.length : Int)
   ·rw [if_pos c3] at H
    have c3b0 : decide (x5_1 < (l0.length : Int)) = true := decide_eq_true c3
    clear c3
    by_cases c4 : 0 ≤ x5_1
    ·rw [if_pos c4] at H
     have c4b0 : decide (0 ≤ x5_1) = true := decide_eq_true c4
     clear c4
     by_cases c5 : a1 < (wrap64 (((rd_T185 l0 x5_1).f0) + ((rd_T185 l0 x5_1).f1)))
     ·rw [if_pos c5] at H
      have c5b0 : decide (a1 < (wrap64 (((rd_T185 l0 x5_1).f0) + ((rd_T185 l0 x5_1).f1)))) = true := decide_eq_true c5
      clear c5
      obtain rfl := Option.some.inj H
      have p480 : 0 ≤ (x5_1 : Int) := of_decide_eq_true (by first | (with_reducible assumption) | assumption)
      have q480 : x5_1 < (l0.length : Int) := of_decide_eq_true (by first | (with_reducible assumption) | assumption)
      obtain ⟨ad480, e480, hx480_0, hx480_1, hx480_2, hx480_3⟩ := at_T185 HR0.out x5_1 p480 q480
      cases e480
      replace p480 := eq_true p480
      replace q480 := eq_true q480
      have p481 : 0 ≤ (x5_1 : Int) := of_decide_eq_true (by first | (with_reducible assumption) | assumption)
      have q481 : x5_1 < (l0.length : Int) := of_decide_eq_true (by first | (with_reducible assumption) | assumption)
      obtain ⟨ad481, e481, hx481_0, hx481_1, hx481_2, hx481_3⟩ := at_T185 HR0.out x5_1 p481 q481
      obtain rfl : ad480 = ad481 := (by injection e481)
      replace p481 := eq_true p481
      replace q481 := eq_true q481
      go_wp2
      repeat (go_quiet (fail); try go_wp2)
      go_ret
      exact ⟨by first | rfl | (simp; done) | (simp [*]; done), by repeat (first | exact Drawn0.refl _ | apply Drawn0.step)⟩
     ·rw [if_neg c5] at H
      have c5b0 : decide (a1 < (wrap64 (((rd_T185 l0 x5_1).f0) + ((rd_T185 l0 x5_1).f1)))) = false := decide_eq_false c5
      clear c5
      have H' := aM H
      clear H
      have p480 : 0 ≤ (x5_1 : Int) := of_decide_eq_true (by first | (with_reducible assumption) | assumption)
      have q480 : x5_1 < (l0.length : Int) := of_decide_eq_true (by first | (with_reducible assumption) | assumption)
      obtain ⟨ad480, e480, hx480_0, hx480_1, hx480_2, hx480_3⟩ := at_T185 HR0.out x5_1 p480 q480
      cases e480
      replace p480 := eq_true p480
      replace q480 := eq_true q480
      have p481 : 0 ≤ (x5_1 : Int) := of_decide_eq_true (by first | (with_reducible assumption) | assumption)
      have q481 : x5_1 < (l0.length : Int) := of_decide_eq_true (by first | (with_reducible assumption) | assumption)
      obtain ⟨ad481, e481, hx481_0, hx481_1, hx481_2, hx481_3⟩ := at_T185 HR0.out x5_1 p481 q481
      obtain rfl : ad480 = ad481 := (by injection e481)
      replace p481 := eq_true p481
      replace q481 := eq_true q481
      go_wp2
      repeat (go_quiet (fail); try go_wp2)
      go_roundg k1
      case measure => have := HK1.out; omega
      case rel => exact ⟨(wrap64 (x5_1 + 1)), (by first | rfl | (simp; done) | (simp [*]; done)), H', ⟨by have := HK1.out; omega⟩, by repeat (first | exact Drawn0.refl _ | apply Drawn0.step)⟩
    ·rw [if_neg c4] at H
     exact absurd H (by simp)
   ·rw [if_neg c3] at H
    have c3b0 : decide (x5_1 < (l0.length : Int)) = false := decide_eq_false c3
    clear c3
    obtain rfl := Option.some.inj H
    go_wp2
    repeat (go_quiet (fail); try go_wp2)
    go_ret
    exact ⟨by first | rfl | (simp; done) | (simp [*]; done), by repeat (first | exact Drawn0.refl _ | apply Drawn0.step)⟩
end Go.Proofs.YtjkfkiebhgkolaaGreatDoor.PB
end

section
namespace Go.Proofs.YtjkfkiebhgkolaaGreatDoor.PB
open Go.RowKit Go.Proofs.YtjkfkiebhgkolaaGreatDoorW.PrintWords Go.Proofs.YtjkfkiebhgkolaaGreatDoorW.PrintLast Go.Proofs.YtjkfkiebhgkolaaGreatDoorW.PrintMore
attribute [local go_sem] max2_int min2_int max_two min_two max_three min_three max_four min_four   
set_option linter.unusedVariables false
set_option linter.unusedSimpArgs false
def bureauref02_begins.f (a0 : ByteArray) (l1 : List (S185)) (a2 : Int) : Option (Int) := if a2 ≥ 0 then (if a2 < (l1.length : Int) then (if 0 ≤ a2 then (some ((rd_T185 l1 a2).f0)) else (none)) else (some (a0.size : Int))) else (some (a0.size : Int))
set_option maxHeartbeats 8000000 in
set_option maxRecDepth 100000 in
theorem bureauref02_begins.calls (a0 : ByteArray) (A1 : Option Addr) (c1 : Nat) (l1 : List (S185)) (a2 : Int) (r : Int) (w : World) (hr1 : Kd.C k185 w A1 l1.length l1) (hc1 : l1.length ≤ c1) (h : bureauref02_begins.f a0 l1 a2 = some r) :
  Calls Tryz.prog 108 #[.string a0, .slice A1 l1.length c1, .int .i64 a2] w fun e w' => e = .returned (.int .i64 r) ∧ Drawn0 w w' := by
 have HR1 := aM hr1
 have HC1 := aM hc1
 clear hr1 hc1
 have H : (if a2 ≥ 0 then (if a2 < (l1.length : Int) then (if 0 ≤ a2 then (some ((rd_T185 l1 a2).f0)) else (none)) else (some (a0.size : Int))) else (some (a0.size : Int))) = some r := h
 clear h
 by_cases c4 : a2 ≥ 0
 ·rw [if_pos c4] at H
  have c4b0 : decide (0 ≤ a2) = true := decide_eq_true c4
  clear c4
  by_cases c5 : a2 < (l1.length : Int)
  ·rw [if_pos c5] at H
   have c5b0 : decide (a2 < (l1.length : Int)) = true := decide_eq_true c5
   clear c5
   by_cases c6 : 0 ≤ a2
   ·rw [if_pos c6] at H
    have c6b0 : decide (0 ≤ a2) = true := decide_eq_true c6
    clear c6
    obtain rfl := Option.some.inj H
    have p830 : 0 ≤ (a2 : Int) := of_decide_eq_true (by first | (with_reducible assumption) | assumption)
    have q830 : a2 < (l1.length : Int) := of_decide_eq_true (by first | (with_reducible assumption) | assumption)
    obtain ⟨ad830, e830, hx830_0, hx830_1, hx830_2, hx830_3⟩ := at_T185 HR1.out a2 p830 q830
    cases e830
    replace p830 := eq_true p830
    replace q830 := eq_true q830
    go_enter Tryz.func108, Tryz.ntmps108
    go_wp2
    go_ret
    exact ⟨by first | rfl | (simp; done) | (simp [*]; done), by repeat (first | exact Drawn0.refl _ | apply Drawn0.step)⟩
   ·rw [if_neg c6] at H
    exact absurd H (by simp)
  ·rw [if_neg c5] at H
   have c5b0 : decide (a2 < (l1.length : Int)) = false := decide_eq_false c5
   clear c5
   obtain rfl := Option.some.inj H
   go_enter Tryz.func108, Tryz.ntmps108
   go_wp2
   go_ret
   exact ⟨by first | rfl | (simp; done) | (simp [*]; done), by repeat (first | exact Drawn0.refl _ | apply Drawn0.step)⟩
 ·rw [if_neg c4] at H
  have c4b0 : decide (0 ≤ a2) = false := decide_eq_false c4
  clear c4
  obtain rfl := Option.some.inj H
  go_enter Tryz.func108, Tryz.ntmps108
  go_wp2
  go_ret
  exact ⟨by first | rfl | (simp; done) | (simp [*]; done), by repeat (first | exact Drawn0.refl _ | apply Drawn0.step)⟩
end Go.Proofs.YtjkfkiebhgkolaaGreatDoor.PB
end

section
namespace Go.Proofs.YtjkfkiebhgkolaaGreatDoor.PB
open Go.RowKit Go.Proofs.YtjkfkiebhgkolaaGreatDoorW.PrintWords Go.Proofs.YtjkfkiebhgkolaaGreatDoorW.PrintLast Go.Proofs.YtjkfkiebhgkolaaGreatDoorW.PrintMore
attribute [local go_sem] max2_int min2_int max_two min_two max_three min_three max_four min_four   
set_option linter.unusedVariables false
set_option linter.unusedSimpArgs false
def bureauref02_Align.f (k : Nat) (a0 : ByteArray) (a1 : Int) : Option (Int) := (bureauref02_Signs.f k a0).bind fun t831 => ((bureauref02_which.f k t831 a1).bind fun t834 => ((bureauref02_begins.f a0 t831 t834).bind fun t835 => (some t835)))
set_option maxHeartbeats 8000000 in
set_option maxRecDepth 100000 in
theorem bureauref02_Align.calls (k : Nat) (a0 : ByteArray) (a1 : Int) (r : Int) (w : World) (h : bureauref02_Align.f k a0 a1 = some r) :
  Calls Tryz.prog 52 #[.string a0, .int .i64 a1] w fun e w' => e = .returned (.int .i64 r) ∧ Below w.heap.size w w' := by
 have HB := aM (Below.refl w.heap.size w)
 have H : ((bureauref02_Signs.f k a0).bind fun t831 => ((bureauref02_which.f k t831 a1).bind fun t834 => ((bureauref02_begins.f a0 t831 t834).bind fun t835 => (some t835)))) = some r := h
 clear h
 replace H := Option.bind_eq_some_iff.mp H
 obtain ⟨t831, A30, H⟩ := H
 replace H : ((bureauref02_which.f k t831 a1).bind fun t834 => ((bureauref02_begins.f a0 t831 t834).bind fun t835 => (some t835))) = some r := H
 have A3 := aM A30
 clear A30
 replace H := Option.bind_eq_some_iff.mp H
 obtain ⟨t834, A40, H⟩ := H
 replace H : ((bureauref02_begins.f a0 t831 t834).bind fun t835 => (some t835)) = some r := H
 have A4 := aM A40
 clear A40
 replace H := Option.bind_eq_some_iff.mp H
 obtain ⟨t835, A50, H⟩ := H
 replace H : (some t835) = some r := H
 have A5 := aM A50
 clear A50
 obtain rfl := Option.some.inj H
 go_enter Tryz.func52, Tryz.ntmps52
 go_wp2_with (first | ((with_reducible refine gate_callee (f := 107) rfl ?_); refine goesL_ (some 7) rfl rfl Tryz.func107 (by kernel_rfl) rfl #[.string a0] rfl (by (try simp only [mT, mC, mN]); first | done | rfl | (simp only [lD, lT]; rfl)) ?_; (with_reducible refine (bureauref02_Signs.calls k a0 t831 _ A3.out).mono ?_); rintro e w6 ⟨v832, rfl, ho0, hb⟩; refine ⟨_, rfl, ?_⟩; have n0_ := aM (rL ho0 (bZ (ey HB.out))); have n1_ := aM (bP (ey HB.out) hb); clear HB; have HO833 := n0_; have HB := n1_; clear n0_ n1_; (try clear hb); (try clear hb2); (try clear hk); (try clear hi); (try clear ho0); obtain ⟨Ao7, co7, eo7⟩ := Kd.R_slice HO833.out; subst eo7) | ((with_reducible refine gate_callee (f := 109) rfl ?_); refine goesL_ (some 12) rfl rfl Tryz.func109 (by kernel_rfl) rfl #[.slice Ao7 t831.length co7, .int .i64 a1] rfl (by (try simp only [mT, mC, mN]); first | done | rfl | (simp only [lD, lT]; rfl)) ?_; (with_reducible refine (bureauref02_which.calls k _ _ t831 a1 t834 _ ?side1 ?side2 A4.out).mono ?_); (case side1 => repeat (first | exact (rR HO833.out).2.2 | (with_reducible refine Kd.C_alloc ?_ _) | (with_reducible refine Kd.C_drewN ?_ _) | (with_reducible refine Kd.C_drew ?_))); (case side2 => exact (rR HO833.out).2.1); rintro e w' ⟨rfl, ⟨nd, rfl⟩⟩; refine ⟨_, rfl, ?_⟩) | ((with_reducible refine gate_callee (f := 108) rfl ?_); refine goesL_ (some 13) rfl rfl Tryz.func108 (by kernel_rfl) rfl #[.string a0, .slice Ao7 t831.length co7, .int .i64 t834] rfl (by (try simp only [mT, mC, mN]); first | done | rfl | (simp only [lD, lT]; rfl)) ?_; (with_reducible refine (bureauref02_begins.calls a0 _ _ t831 t834 t835 _ ?side1 ?side2 A5.out).mono ?_); (case side1 => repeat (first | exact (rR HO833.out).2.2 | (with_reducible refine Kd.C_alloc ?_ _) | (with_reducible refine Kd.C_drewN ?_ _) | (with_reducible refine Kd.C_drew ?_))); (case side2 => exact (rR HO833.out).2.1); rintro e w' ⟨rfl, ⟨nd, rfl⟩⟩; refine ⟨_, rfl, ?_⟩))
 go_ret
 exact ⟨by first | rfl | (simp [errW_none, errW_some] <;> rfl) | (simp [*, errW_none, errW_some] <;> rfl), by exact ey HB.out⟩
end Go.Proofs.YtjkfkiebhgkolaaGreatDoor.PB
end

section
namespace Go.Proofs.YtjkfkiebhgkolaaGreatDoor.PB
open Go.RowKit Go.Proofs.YtjkfkiebhgkolaaGreatDoorW.PrintWords Go.Proofs.YtjkfkiebhgkolaaGreatDoorW.PrintLast Go.Proofs.YtjkfkiebhgkolaaGreatDoorW.PrintMore
attribute [local go_sem] max2_int min2_int max_two min_two max_three min_three max_four min_four   
set_option linter.unusedVariables false
set_option linter.unusedSimpArgs false
def bureauref02_Next.f (k : Nat) (a0 : ByteArray) (a1 : Int) : Option (Int) := (bureauref02_Signs.f k a0).bind fun t836 => ((bureauref02_which.f k t836 a1).bind fun t839 => ((bureauref02_begins.f a0 t836 (wrap64 (t839 + 1))).bind fun t840 => (some t840)))
set_option maxHeartbeats 8000000 in
set_option maxRecDepth 100000 in
theorem bureauref02_Next.calls (k : Nat) (a0 : ByteArray) (a1 : Int) (r : Int) (w : World) (h : bureauref02_Next.f k a0 a1 = some r) :
  Calls Tryz.prog 55 #[.string a0, .int .i64 a1] w fun e w' => e = .returned (.int .i64 r) ∧ Below w.heap.size w w' := by
 have HB := aM (Below.refl w.heap.size w)
 have H : ((bureauref02_Signs.f k a0).bind fun t836 => ((bureauref02_which.f k t836 a1).bind fun t839 => ((bureauref02_begins.f a0 t836 (wrap64 (t839 + 1))).bind fun t840 => (some t840)))) = some r := h
 clear h
 replace H := Option.bind_eq_some_iff.mp H
 obtain ⟨t836, A30, H⟩ := H
 replace H : ((bureauref02_which.f k t836 a1).bind fun t839 => ((bureauref02_begins.f a0 t836 (wrap64 (t839 + 1))).bind fun t840 => (some t840))) = some r := H
 have A3 := aM A30
 clear A30
 replace H := Option.bind_eq_some_iff.mp H
 obtain ⟨t839, A40, H⟩ := H
 replace H : ((bureauref02_begins.f a0 t836 (wrap64 (t839 + 1))).bind fun t840 => (some t840)) = some r := H
 have A4 := aM A40
 clear A40
 replace H := Option.bind_eq_some_iff.mp H
 obtain ⟨t840, A50, H⟩ := H
 replace H : (some t840) = some r := H
 have A5 := aM A50
 clear A50
 obtain rfl := Option.some.inj H
 go_enter Tryz.func55, Tryz.ntmps55
 go_wp2_with (first | ((with_reducible refine gate_callee (f := 107) rfl ?_); refine goesL_ (some 7) rfl rfl Tryz.func107 (by kernel_rfl) rfl #[.string a0] rfl (by (try simp only [mT, mC, mN]); first | done | rfl | (simp only [lD, lT]; rfl)) ?_; (with_reducible refine (bureauref02_Signs.calls k a0 t836 _ A3.out).mono ?_); rintro e w6 ⟨v837, rfl, ho0, hb⟩; refine ⟨_, rfl, ?_⟩; have n0_ := aM (rL ho0 (bZ (ey HB.out))); have n1_ := aM (bP (ey HB.out) hb); clear HB; have HO838 := n0_; have HB := n1_; clear n0_ n1_; (try clear hb); (try clear hb2); (try clear hk); (try clear hi); (try clear ho0); obtain ⟨Ao7, co7, eo7⟩ := Kd.R_slice HO838.out; subst eo7) | ((with_reducible refine gate_callee (f := 109) rfl ?_); refine goesL_ (some 12) rfl rfl Tryz.func109 (by kernel_rfl) rfl #[.slice Ao7 t836.length co7, .int .i64 a1] rfl (by (try simp only [mT, mC, mN]); first | done | rfl | (simp only [lD, lT]; rfl)) ?_; (with_reducible refine (bureauref02_which.calls k _ _ t836 a1 t839 _ ?side1 ?side2 A4.out).mono ?_); (case side1 => repeat (first | exact (rR HO838.out).2.2 | (with_reducible refine Kd.C_alloc ?_ _) | (with_reducible refine Kd.C_drewN ?_ _) | (with_reducible refine Kd.C_drew ?_))); (case side2 => exact (rR HO838.out).2.1); rintro e w' ⟨rfl, ⟨nd, rfl⟩⟩; refine ⟨_, rfl, ?_⟩) | ((with_reducible refine gate_callee (f := 108) rfl ?_); refine goesL_ (some 14) rfl rfl Tryz.func108 (by kernel_rfl) rfl #[.string a0, .slice Ao7 t836.length co7, .int .i64 (wrap64 (t839 + 1))] rfl (by (try simp only [mT, mC, mN]); first | done | rfl | (simp only [lD, lT]; rfl)) ?_; (with_reducible refine (bureauref02_begins.calls a0 _ _ t836 (wrap64 (t839 + 1)) t840 _ ?side1 ?side2 A5.out).mono ?_); (case side1 => repeat (first | exact (rR HO838.out).2.2 | (with_reducible refine Kd.C_alloc ?_ _) | (with_reducible refine Kd.C_drewN ?_ _) | (with_reducible refine Kd.C_drew ?_))); (case side2 => exact (rR HO838.out).2.1); rintro e w' ⟨rfl, ⟨nd, rfl⟩⟩; refine ⟨_, rfl, ?_⟩))
 go_ret
 exact ⟨by first | rfl | (simp [errW_none, errW_some] <;> rfl) | (simp [*, errW_none, errW_some] <;> rfl), by exact ey HB.out⟩
end Go.Proofs.YtjkfkiebhgkolaaGreatDoor.PB
end

section
namespace Go.Proofs.YtjkfkiebhgkolaaGreatDoor.PB
open Go.RowKit Go.Proofs.YtjkfkiebhgkolaaGreatDoorW.PrintWords
set_option linter.unusedVariables false
set_option linter.unusedSimpArgs false
theorem sg_width (v : ByteArray) (i : Nat) (hi : i < v.size) : 1 ≤ sgW v i ∧ sgW v i ≤ 4 ∧ i + sgW v i ≤ v.size := by
  rcases sg_cases v i hi with ⟨h1, e1, e2⟩ | ⟨h1, h2, e1, e2⟩ | ⟨h1, h2, h3, e1, e2⟩ | ⟨h1, h2, h3, h4, e1, e2⟩ | ⟨h1, h2, h3, h4, e1, e2⟩
  · have := h1.1; omega
  · have := h2.1; omega
  · have := h3.1; omega
  · have := h4.1; omega
  · omega
theorem sg_tail (v : ByteArray) (i j : Nat) (hi : i < v.size) (h1 : 1 ≤ j) (h2 : j < sgW v i) : bN v (i + j) / 64 = 2 ∧ bN v i / 64 ≠ 2 := by
  rcases sg_cases v i hi with ⟨_, e1, e2⟩ | ⟨_, h, e1, e2⟩ | ⟨_, _, h, e1, e2⟩ | ⟨_, _, _, h, e1, e2⟩ | ⟨_, _, _, _, e1, e2⟩
  · omega
  · rw [hit2 v i hi] at h
    obtain rfl : j = 1 := by omega
    omega
  · rw [hit3 v i hi] at h
    have : j = 1 ∨ j = 2 := by omega
    rcases this with rfl | rfl <;> omega
  · rw [hit4 v i hi] at h
    have : j = 1 ∨ j = 2 ∨ j = 3 := by omega
    rcases this with rfl | rfl | rfl <;> omega
  · omega
def posN (v : ByteArray) : Nat → Nat
  | 0 => 0
  | n + 1 => if posN v n < v.size then posN v n + sgW v (posN v n) else posN v n
def Reach (v : ByteArray) (p : Nat) : Prop := ∃ n, posN v n = p
theorem Reach.zero {v : ByteArray} : Reach v 0 := ⟨0, rfl⟩
theorem Reach.step {v : ByteArray} {i : Nat} (h : Reach v i) (hi : i < v.size) : Reach v (i + sgW v i) := by
  obtain ⟨n, rfl⟩ := h
  exact ⟨n + 1, by rw [show posN v (n + 1) = (if posN v n < v.size then posN v n + sgW v (posN v n) else posN v n) from rfl, if_pos hi]⟩
theorem posN_le (v : ByteArray) : ∀ n, posN v n ≤ v.size
  | 0 => Nat.zero_le _
  | n + 1 => by
    unfold posN
    split
    · rename_i h
      exact (sg_width v _ h).2.2
    · exact posN_le v n
theorem posN_mono (v : ByteArray) {m : Nat} : ∀ {n : Nat}, m ≤ n → posN v m ≤ posN v n
  | 0, h => by
    obtain rfl : m = 0 := by omega
    exact Nat.le_refl _
  | n + 1, h => by
    by_cases e : m = n + 1
    · subst e; exact Nat.le_refl _
    · have := posN_mono v (m := m) (n := n) (by omega)
      show _ ≤ (if posN v n < v.size then posN v n + sgW v (posN v n) else posN v n)
      split <;> omega
def alN (v : ByteArray) (a : Nat) : Nat → Nat → Nat
  | 0, i => i
  | f + 1, i => if a < i + sgW v i then i else alN v a f (i + sgW v i)
theorem alN_spec (v : ByteArray) (a : Nat) (ha : a < v.size) : ∀ (f i : Nat), Reach v i → i ≤ a → a < i + f → Reach v (alN v a f i) ∧ alN v a f i ≤ a ∧ a < alN v a f i + sgW v (alN v a f i)
  | 0, i, _, h1, h2 => by omega
  | f + 1, i, hr, h1, h2 => by
    unfold alN
    by_cases h : a < i + sgW v i
    · rw [if_pos h]
      exact ⟨hr, h1, h⟩
    · rw [if_neg h]
      have := sg_width v i (by omega)
      exact alN_spec v a ha f _ (.step hr (by omega)) (by omega) (by omega)
def alignN (v : ByteArray) (a : Nat) : Nat := alN v a v.size 0
theorem align_spec (v : ByteArray) (a : Nat) (ha : a < v.size) : Reach v (alignN v a) ∧ alignN v a ≤ a ∧ a < alignN v a + sgW v (alignN v a) := alN_spec v a ha v.size 0 .zero (Nat.zero_le _) (by omega)
theorem reach_apart {v : ByteArray} {p q : Nat} (hp : Reach v p) (hq : Reach v q) (h : p < q) : p + sgW v p ≤ q := by
  obtain ⟨m, rfl⟩ := hp
  obtain ⟨n, rfl⟩ := hq
  have hmn : m < n := by
    apply Nat.lt_of_not_le
    intro e
    have := posN_mono v e
    omega
  have h1 := posN_mono v (m := m + 1) (n := n) hmn
  have h2 := posN_le v n
  rw [show posN v (m + 1) = (if posN v m < v.size then posN v m + sgW v (posN v m) else posN v m) from rfl, if_pos (by omega)] at h1
  exact h1
theorem align_uniq {v : ByteArray} {a p : Nat} (ha : a < v.size) (hp : Reach v p) (h1 : p ≤ a) (h2 : a < p + sgW v p) : alignN v a = p := by
  obtain ⟨h3, h4, h5⟩ := align_spec v a ha
  rcases Nat.lt_trichotomy (alignN v a) p with h | h | h
  · have := reach_apart h3 hp h; omega
  · exact h
  · have := reach_apart hp h3 h; omega
theorem align_self {v : ByteArray} {p : Nat} (hp : Reach v p) (h : p < v.size) : alignN v p = p := align_uniq h hp (Nat.le_refl _) (by have := sg_width v p h; omega)
theorem reach_lead {v : ByteArray} {p : Nat} (h : p < v.size) (hl : bN v p / 64 ≠ 2) : Reach v p := by
  obtain ⟨h3, h4, h5⟩ := align_spec v p h
  by_cases e : alignN v p = p
  · rw [← e]; exact h3
  · exfalso
    have := (sg_tail v (alignN v p) (p - alignN v p) (by omega) (by omega) (by omega)).1
    rw [show alignN v p + (p - alignN v p) = p by omega] at this
    exact hl this
def backN (v : ByteArray) (a : Nat) : Nat → Nat → Nat
  | 0, _ => a
  | f + 1, k => if a < k then a else if bN v (a - k) / 64 = 2 then backN v a f (k + 1) else if k < sgW v (a - k) then a - k else a
theorem back_is {v : ByteArray} {a : Nat} (ha : a < v.size) : backN v a 4 0 = alignN v a := by
  obtain ⟨h3, h4, h5⟩ := align_spec v a ha
  have hw := sg_width v (alignN v a) (by omega)
  
  have key : ∀ f k, f + k = 4 → (∀ j, j < k → j ≤ a ∧ bN v (a - j) / 64 = 2) → backN v a f k = alignN v a := by
    intro f
    induction f with
    | zero =>
      intro k hk hb
      unfold backN
      have hd : a - alignN v a < 4 := by omega
      by_cases e : alignN v a = a
      · exact e.symm
      · exfalso
        have h1 := (sg_tail v (alignN v a) (a - alignN v a) (by omega) (by omega) (by omega)).2
        have h2 := (hb (a - alignN v a) (by omega)).2
        rw [show a - (a - alignN v a) = alignN v a by omega] at h2
        exact h1 h2
    | succ f ih =>
      intro k hk hb
      unfold backN
      have stay : (∀ j, j < k → j ≤ a ∧ bN v (a - j) / 64 = 2) → k ≤ a - alignN v a ∨ alignN v a = a := fun hb => by
        by_cases e : alignN v a = a
        · exact .inr e
        · refine .inl (Nat.le_of_not_lt fun h => ?_)
          have h1 := (sg_tail v (alignN v a) (a - alignN v a) (by omega) (by omega) (by omega)).2
          have h2 := (hb (a - alignN v a) h).2
          rw [show a - (a - alignN v a) = alignN v a by omega] at h2
          exact h1 h2
      by_cases c1 : a < k
      · rw [if_pos c1]
        rcases stay hb with h | h
        · omega
        · exact h.symm
      · rw [if_neg c1]
        by_cases c2 : bN v (a - k) / 64 = 2
        · rw [if_pos c2]
          exact ih (k + 1) (by omega) (fun j hj => by
            by_cases e : j = k
            · subst e; exact ⟨by omega, c2⟩
            · exact hb j (by omega))
        · rw [if_neg c2]
          have hr := reach_lead (v := v) (p := a - k) (by omega) c2
          by_cases c3 : k < sgW v (a - k)
          · rw [if_pos c3]
            exact (align_uniq ha hr (by omega) (by omega)).symm
          · rw [if_neg c3]
            rcases stay hb with h | h
            · exfalso
              by_cases e : alignN v a = a - k
              · rw [e] at h5; omega
              · have := reach_apart h3 hr (by omega)
                omega
            · exact h.symm
  exact key 4 0 rfl (fun j hj => by omega)
end Go.Proofs.YtjkfkiebhgkolaaGreatDoor.PB
end
