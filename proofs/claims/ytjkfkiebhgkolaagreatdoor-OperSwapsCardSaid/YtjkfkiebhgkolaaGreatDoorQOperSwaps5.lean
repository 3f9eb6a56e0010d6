/- What the row hangs on, part 5. -/
import Derived.Lib.SlTrimSet
import Derived.Lib.OthersKept
import Derived.Test.YtjkfkiebhgkolaaGreatDoorQOperSwaps4
section
namespace Go.Proofs.YtjkfkiebhgkolaaGreatDoor.PB
open Go.RowKit Go.Proofs.YtjkfkiebhgkolaaGreatDoorW.PrintWords Go.Proofs.YtjkfkiebhgkolaaGreatDoorW.PrintLast Go.Proofs.YtjkfkiebhgkolaaGreatDoorW.PrintMore
attribute [local go_sem] max2_int min2_int max_two min_two max_three min_three max_four min_four   
set_option linter.unusedVariables false
set_option linter.unusedSimpArgs false
def bureauref07_Same.f (k : Nat) (a0_0 : Int) (a0_1 : ByteArray) (l0_2 : List (S68)) (a0_3 : ByteArray) (l0_4 : List (S68)) (a1_0 : Int) (a1_1 : ByteArray) (l1_2 : List (S68)) (a1_3 : ByteArray) (l1_4 : List (S68)) : Option (Bool) := if a0_0 = a1_0 then ((bureauref04_Same.f k a0_1 l0_2 a1_1 l1_2).bind fun t764 => (if t764 = true then ((bureauref04_Same.f k a0_3 l0_4 a1_3 l1_4).bind fun t765 => (some t765)) else (some false))) else (some false)
set_option maxHeartbeats 8000000 in
set_option maxRecDepth 100000 in
theorem bureauref07_Same.calls (k : Nat) (a0_0 : Int) (a0_1 : ByteArray) (A0_2 : Option Addr) (c0_2 : Nat) (l0_2 : List (S68)) (a0_3 : ByteArray) (A0_4 : Option Addr) (c0_4 : Nat) (l0_4 : List (S68)) (a1_0 : Int) (a1_1 : ByteArray) (A1_2 : Option Addr) (c1_2 : Nat) (l1_2 : List (S68)) (a1_3 : ByteArray) (A1_4 : Option Addr) (c1_4 : Nat) (l1_4 : List (S68)) (r : Bool) (w : World) (hr0_2 : Kd.C k68 w A0_2 l0_2.length l0_2) (hc0_2 : l0_2.length ≤ c0_2) (hr0_4 : Kd.C k68 w A0_4 l0_4.length l0_4) (hc0_4 : l0_4.length ≤ c0_4) (hr1_2 : Kd.C k68 w A1_2 l1_2.length l1_2) (hc1_2 : l1_2.length ≤ c1_2) (hr1_4 : Kd.C k68 w A1_4 l1_4.length l1_4) (hc1_4 : l1_4.length ≤ c1_4) (h : bureauref07_Same.f k a0_0 a0_1 l0_2 a0_3 l0_4 a1_0 a1_1 l1_2 a1_3 l1_4 = some r) :
  Calls Tryz.prog 41 #[.agg #[.int .i64 a0_0, .string a0_1, .slice A0_2 l0_2.length c0_2, .string a0_3, .slice A0_4 l0_4.length c0_4], .agg #[.int .i64 a1_0, .string a1_1, .slice A1_2 l1_2.length c1_2, .string a1_3, .slice A1_4 l1_4.length c1_4]] w fun e w' => e = .returned (.bool r) ∧ Below w.heap.size w w' := by
 have hu36 := Tryz.underlying36
 have hu24 := Tryz.underlying24
 have HR0_2 := aM hr0_2
 have HC0_2 := aM hc0_2
 clear hr0_2 hc0_2
 have HR0_4 := aM hr0_4
 have HC0_4 := aM hc0_4
 clear hr0_4 hc0_4
 have HR1_2 := aM hr1_2
 have HC1_2 := aM hc1_2
 clear hr1_2 hc1_2
 have HR1_4 := aM hr1_4
 have HC1_4 := aM hc1_4
 clear hr1_4 hc1_4
 have HB := aM (Below.refl w.heap.size w)
 have H : (if a0_0 = a1_0 then ((bureauref04_Same.f k a0_1 l0_2 a1_1 l1_2).bind fun t764 => (if t764 = true then ((bureauref04_Same.f k a0_3 l0_4 a1_3 l1_4).bind fun t765 => (some t765)) else (some false))) else (some false)) = some r := h
 clear h
 by_cases c3 : a0_0 = a1_0
 ·rw [if_pos c3] at H
  have c3b0 : (a0_0 == a1_0) = true := beq_iff_eq.mpr c3
  have c3b1 : (a0_0 != a1_0) = false := bne_eq_false_iff_eq.mpr c3
  clear c3
  replace H := Option.bind_eq_some_iff.mp H
  obtain ⟨t764, A40, H⟩ := H
  replace H : (if t764 = true then ((bureauref04_Same.f k a0_3 l0_4 a1_3 l1_4).bind fun t765 => (some t765)) else (some false)) = some r := H
  have A4 := aM A40
  clear A40
  by_cases c5 : t764 = true
  ·subst c5
   rw [if_pos rfl] at H
   replace H := Option.bind_eq_some_iff.mp H
   obtain ⟨t765, A60, H⟩ := H
   replace H : (some t765) = some r := H
   have A6 := aM A60
   clear A60
   obtain rfl := Option.some.inj H
   go_enter Tryz.func41, Tryz.ntmps41
   go_wp2_with (first | (refine yX 2 #[.int .i64 a0_0, .string a0_1, .slice A0_2 l0_2.length c0_2, .string a0_3, .slice A0_4 l0_4.length c0_4] 36 (fun gb762 hg w7 hbox hb => ?_); have BK762 := hbox; have GW762 := yG w hg; have GE762 := GW762; replace HB := yP w hb; clear hb hbox hg) | (refine yX 3 #[.int .i64 a1_0, .string a1_1, .slice A1_2 l1_2.length c1_2, .string a1_3, .slice A1_4 l1_4.length c1_4] 36 (fun gb763 hg w8 hbox hb => ?_); have BK763 := hbox; have GW763 := yG w hg; have GE763 := GW763; have NB762_763 := yN hg BK762; have NB763_762 := yM hg BK762; replace BK762 := yB hb BK762; replace HB := yP w hb; clear hb hbox hg; have hnb9 := NB762_763.out; have hnc9 := NB763_762.out; have hcz10_0 := zC BK762.out 0 (.int .i64 a0_0); have hcz10_1 := zC BK762.out 1 (.string a0_1); have hcz10_2 := zC BK762.out 2 (.slice A0_2 l0_2.length c0_2); have hcz10_3 := zC BK762.out 3 (.string a0_3); have hcz10_4 := zC BK762.out 4 (.slice A0_4 l0_4.length c0_4); have hfz10_0 := bF BK762.out 0; have hfz10_1 := bF BK762.out 1; have hfz10_2 := bF BK762.out 2; have hfz10_3 := bF BK762.out 3; have hfz10_4 := bF BK762.out 4; have hcz11_0 := zC BK763.out 0 (.int .i64 a1_0); have hcz11_1 := zC BK763.out 1 (.string a1_1); have hcz11_2 := zC BK763.out 2 (.slice A1_2 l1_2.length c1_2); have hcz11_3 := zC BK763.out 3 (.string a1_3); have hcz11_4 := zC BK763.out 4 (.slice A1_4 l1_4.length c1_4); have hfz11_0 := bF BK763.out 0; have hfz11_1 := bF BK763.out 1; have hfz11_2 := bF BK763.out 2; have hfz11_3 := bF BK763.out 3; have hfz11_4 := bF BK763.out 4) | (go_at_call 24; (with_reducible refine (bureauref04_Same.calls k a0_1 _ _ l0_2 a1_1 _ _ l1_2 true _ ?side1 ?side2 ?side3 ?side4 A4.out).mono ?_); (case side1 => exact yR HR0_2); (case side2 => exact HC0_2.out); (case side3 => exact yR HR1_2); (case side4 => exact HC1_2.out); rintro e w12 ⟨rfl, hb⟩; replace BK762 := yB hb BK762; replace BK763 := yB hb BK763; replace HB := yP w hb; clear hb; have hcz13_0 := zC BK762.out 0 (.int .i64 a0_0); have hcz13_1 := zC BK762.out 1 (.string a0_1); have hcz13_2 := zC BK762.out 2 (.slice A0_2 l0_2.length c0_2); have hcz13_3 := zC BK762.out 3 (.string a0_3); have hcz13_4 := zC BK762.out 4 (.slice A0_4 l0_4.length c0_4); have hfz13_0 := bF BK762.out 0; have hfz13_1 := bF BK762.out 1; have hfz13_2 := bF BK762.out 2; have hfz13_3 := bF BK762.out 3; have hfz13_4 := bF BK762.out 4; have hcz14_0 := zC BK763.out 0 (.int .i64 a1_0); have hcz14_1 := zC BK763.out 1 (.string a1_1); have hcz14_2 := zC BK763.out 2 (.slice A1_2 l1_2.length c1_2); have hcz14_3 := zC BK763.out 3 (.string a1_3); have hcz14_4 := zC BK763.out 4 (.slice A1_4 l1_4.length c1_4); have hfz14_0 := bF BK763.out 0; have hfz14_1 := bF BK763.out 1; have hfz14_2 := bF BK763.out 2; have hfz14_3 := bF BK763.out 3; have hfz14_4 := bF BK763.out 4) | (go_at_call 24; (with_reducible refine (bureauref04_Same.calls k a0_3 _ _ l0_4 a1_3 _ _ l1_4 t765 _ ?side1 ?side2 ?side3 ?side4 A6.out).mono ?_); (case side1 => exact yR HR0_4); (case side2 => exact HC0_4.out); (case side3 => exact yR HR1_4); (case side4 => exact HC1_4.out); rintro e w15 ⟨rfl, hb⟩; replace BK762 := yB hb BK762; replace BK763 := yB hb BK763; replace HB := yP w hb; clear hb))
   go_ret
   exact ⟨ye, yH⟩
  ·replace c5 := Bool.eq_false_iff.mpr c5
   subst c5
   rw [if_neg (show ¬ (false = true) by decide)] at H
   obtain rfl := Option.some.inj H
   go_enter Tryz.func41, Tryz.ntmps41
   go_wp2_with (first | (refine yX 2 #[.int .i64 a0_0, .string a0_1, .slice A0_2 l0_2.length c0_2, .string a0_3, .slice A0_4 l0_4.length c0_4] 36 (fun gb762 hg w16 hbox hb => ?_); have BK762 := hbox; have GW762 := yG w hg; have GE762 := GW762; replace HB := yP w hb; clear hb hbox hg) | (refine yX 3 #[.int .i64 a1_0, .string a1_1, .slice A1_2 l1_2.length c1_2, .string a1_3, .slice A1_4 l1_4.length c1_4] 36 (fun gb763 hg w17 hbox hb => ?_); have BK763 := hbox; have GW763 := yG w hg; have GE763 := GW763; have NB762_763 := yN hg BK762; have NB763_762 := yM hg BK762; replace BK762 := yB hb BK762; replace HB := yP w hb; clear hb hbox hg; have hnb18 := NB762_763.out; have hnc18 := NB763_762.out; have hcz19_0 := zC BK762.out 0 (.int .i64 a0_0); have hcz19_1 := zC BK762.out 1 (.string a0_1); have hcz19_2 := zC BK762.out 2 (.slice A0_2 l0_2.length c0_2); have hcz19_3 := zC BK762.out 3 (.string a0_3); have hcz19_4 := zC BK762.out 4 (.slice A0_4 l0_4.length c0_4); have hfz19_0 := bF BK762.out 0; have hfz19_1 := bF BK762.out 1; have hfz19_2 := bF BK762.out 2; have hfz19_3 := bF BK762.out 3; have hfz19_4 := bF BK762.out 4; have hcz20_0 := zC BK763.out 0 (.int .i64 a1_0); have hcz20_1 := zC BK763.out 1 (.string a1_1); have hcz20_2 := zC BK763.out 2 (.slice A1_2 l1_2.length c1_2); have hcz20_3 := zC BK763.out 3 (.string a1_3); have hcz20_4 := zC BK763.out 4 (.slice A1_4 l1_4.length c1_4); have hfz20_0 := bF BK763.out 0; have hfz20_1 := bF BK763.out 1; have hfz20_2 := bF BK763.out 2; have hfz20_3 := bF BK763.out 3; have hfz20_4 := bF BK763.out 4) | (go_at_call 24; (with_reducible refine (bureauref04_Same.calls k a0_1 _ _ l0_2 a1_1 _ _ l1_2 false _ ?side1 ?side2 ?side3 ?side4 A4.out).mono ?_); (case side1 => exact yR HR0_2); (case side2 => exact HC0_2.out); (case side3 => exact yR HR1_2); (case side4 => exact HC1_2.out); rintro e w21 ⟨rfl, hb⟩; replace BK762 := yB hb BK762; replace BK763 := yB hb BK763; replace HB := yP w hb; clear hb))
   go_ret
   exact ⟨ye, yH⟩
 ·rw [if_neg c3] at H
  have c3b0 : (a0_0 == a1_0) = false := beq_eq_false_iff_ne.mpr c3
  have c3b1 : (a0_0 != a1_0) = true := bne_iff_ne.mpr c3
  obtain rfl := Option.some.inj H
  go_enter Tryz.func41, Tryz.ntmps41
  go_wp2_with (first | (refine yX 2 #[.int .i64 a0_0, .string a0_1, .slice A0_2 l0_2.length c0_2, .string a0_3, .slice A0_4 l0_4.length c0_4] 36 (fun gb762 hg w22 hbox hb => ?_); have BK762 := hbox; have GW762 := yG w hg; have GE762 := GW762; replace HB := yP w hb; clear hb hbox hg) | (refine yX 3 #[.int .i64 a1_0, .string a1_1, .slice A1_2 l1_2.length c1_2, .string a1_3, .slice A1_4 l1_4.length c1_4] 36 (fun gb763 hg w23 hbox hb => ?_); have BK763 := hbox; have GW763 := yG w hg; have GE763 := GW763; have NB762_763 := yN hg BK762; have NB763_762 := yM hg BK762; replace BK762 := yB hb BK762; replace HB := yP w hb; clear hb hbox hg; have hnb24 := NB762_763.out; have hnc24 := NB763_762.out; have hcz25_0 := zC BK762.out 0 (.int .i64 a0_0); have hcz25_1 := zC BK762.out 1 (.string a0_1); have hcz25_2 := zC BK762.out 2 (.slice A0_2 l0_2.length c0_2); have hcz25_3 := zC BK762.out 3 (.string a0_3); have hcz25_4 := zC BK762.out 4 (.slice A0_4 l0_4.length c0_4); have hfz25_0 := bF BK762.out 0; have hfz25_1 := bF BK762.out 1; have hfz25_2 := bF BK762.out 2; have hfz25_3 := bF BK762.out 3; have hfz25_4 := bF BK762.out 4; have hcz26_0 := zC BK763.out 0 (.int .i64 a1_0); have hcz26_1 := zC BK763.out 1 (.string a1_1); have hcz26_2 := zC BK763.out 2 (.slice A1_2 l1_2.length c1_2); have hcz26_3 := zC BK763.out 3 (.string a1_3); have hcz26_4 := zC BK763.out 4 (.slice A1_4 l1_4.length c1_4); have hfz26_0 := bF BK763.out 0; have hfz26_1 := bF BK763.out 1; have hfz26_2 := bF BK763.out 2; have hfz26_3 := bF BK763.out 3; have hfz26_4 := bF BK763.out 4))
  go_ret
  exact ⟨ye, yH⟩
def edit_Of.f (k : Nat) (a0_0 : ByteArray) (l0_1 : List (S68)) (a1 : Int) (a2 : Int) (a3_0 : ByteArray) (l3_1 : List (S68)) : Option (Int × ByteArray × (List (S68)) × ByteArray × (List (S68)) × Int) := (strip_Splice.f k a0_0 l0_1 a1 a2 a3_0 l3_1).bind fun bt134 => (if bt134.2.2 = 0 then ((strip_Cut.f k a0_0 l0_1 a1 a2).bind fun bt140 => ((edit_own.f a3_0 l3_1).bind fun bt146 => (some (a1, bt140.1, bt140.2.1, bt146.1, bt146.2, bt140.2.2)))) else (some (0, (⟨#[]⟩ : ByteArray), ([] : List (S68)), (⟨#[]⟩ : ByteArray), ([] : List (S68)), bt134.2.2)))
def edit_Of.T5 : Bool × List (List Nat × List Nat) := (true, [([], []), ([], []), ([], []), ([2], [2]), ([0, 1, 3], [0, 1, 3]), ([], []), ([4, 3, 0, 1, 2, 3, 4], [4]), ([5, 6, 0, 1, 2, 3, 4, 5, 6], [5])])
def edit_Of.B5 : List Nat := [0, 0, 0, 4, 15, 0, 31, 127]
theorem edit_Of.tab5 : rtab .any (opsOf Tryz.f104 5) = edit_Of.T5 := by kernel_rfl
theorem edit_Of.bits5 : waitsOk edit_Of.T5.2 edit_Of.B5 = true := by kernel_rfl
set_option maxHeartbeats 8000000 in
set_option maxRecDepth 100000 in
theorem edit_Of.calls (k : Nat) (a0_0 : ByteArray) (A0_1 : Option Addr) (c0_1 : Nat) (l0_1 : List (S68)) (a1 : Int) (a2 : Int) (a3_0 : ByteArray) (A3_1 : Option Addr) (c3_1 : Nat) (l3_1 : List (S68)) (r1 : Int) (r2 : ByteArray) (r3 : List (S68)) (r4 : ByteArray) (r5 : List (S68)) (r6 : Int) (w : World) (hr0_1 : Kd.C k68 w A0_1 l0_1.length l0_1) (hc0_1 : l0_1.length ≤ c0_1) (hr3_1 : Kd.C k68 w A3_1 l3_1.length l3_1) (hc3_1 : l3_1.length ≤ c3_1) (h : edit_Of.f k a0_0 l0_1 a1 a2 a3_0 l3_1 = some (r1, r2, r3, r4, r5, r6)) :
  Calls Tryz.prog 104 #[.agg #[.string a0_0, .slice A0_1 l0_1.length c0_1], .int .i64 a1, .int .i64 a2, .agg #[.string a3_0, .slice A3_1 l3_1.length c3_1]] w fun e w' => ∃ v2_ v4_ : Value, e = .returned (.tuple #[.agg #[.int .i64 r1, .string r2, v2_, .string r4, v4_], .int .i64 r6]) ∧ Kd.R k68 68 w' w.heap.size (fun k_ => some k_ ≠ (v4_ : Value).ownBlock) v2_ r3 ∧ Kd.R k68 68 w' w.heap.size (fun k_ => some k_ ≠ (v2_ : Value).ownBlock) v4_ r5 ∧ Below w.heap.size w w' := by
 have hu24 := Tryz.underlying24
 have hu36 := Tryz.underlying36
 have HR0_1 := aM hr0_1
 have HC0_1 := aM hc0_1
 clear hr0_1 hc0_1
 have HR3_1 := aM hr3_1
 have HC3_1 := aM hc3_1
 clear hr3_1 hc3_1
 have HB := aM (Below.refl w.heap.size w)
 have H : ((strip_Splice.f k a0_0 l0_1 a1 a2 a3_0 l3_1).bind fun bt134 => (if bt134.2.2 = 0 then ((strip_Cut.f k a0_0 l0_1 a1 a2).bind fun bt140 => ((edit_own.f a3_0 l3_1).bind fun bt146 => (some (a1, bt140.1, bt140.2.1, bt146.1, bt146.2, bt140.2.2)))) else (some (0, (⟨#[]⟩ : ByteArray), ([] : List (S68)), (⟨#[]⟩ : ByteArray), ([] : List (S68)), bt134.2.2)))) = some (r1, r2, r3, r4, r5, r6) := h
 clear h
 replace H := Option.bind_eq_some_iff.mp H
 obtain ⟨⟨t134, t135, t138⟩, A50, H⟩ := H
 replace H : (if t138 = 0 then ((strip_Cut.f k a0_0 l0_1 a1 a2).bind fun bt140 => ((edit_own.f a3_0 l3_1).bind fun bt146 => (some (a1, bt140.1, bt140.2.1, bt146.1, bt146.2, bt140.2.2)))) else (some (0, (⟨#[]⟩ : ByteArray), ([] : List (S68)), (⟨#[]⟩ : ByteArray), ([] : List (S68)), t138))) = some (r1, r2, r3, r4, r5, r6) := H
 have A5 := aM A50
 clear A50
 by_cases c6 : t138 = 0
 ·rw [if_pos c6] at H
  have c6b0 : (t138 == 0) = true := beq_iff_eq.mpr c6
  have c6b1 : (t138 != 0) = false := bne_eq_false_iff_eq.mpr c6
  clear c6
  replace H := Option.bind_eq_some_iff.mp H
  obtain ⟨⟨t140, t141, t144⟩, A70, H⟩ := H
  replace H : ((edit_own.f a3_0 l3_1).bind fun bt146 => (some (a1, t140, t141, bt146.1, bt146.2, t144))) = some (r1, r2, r3, r4, r5, r6) := H
  have A7 := aM A70
  clear A70
  replace H := Option.bind_eq_some_iff.mp H
  obtain ⟨⟨t146, t147⟩, A80, H⟩ := H
  replace H : (some (a1, t140, t141, t146, t147, t144)) = some (r1, r2, r3, r4, r5, r6) := H
  have A8 := aM A80
  clear A80
  simp only [Option.some.injEq, Prod.mk.injEq] at H
  obtain ⟨rfl, rfl, rfl, rfl, rfl, rfl⟩ := H
  go_enter Tryz.func104, Tryz.ntmps104
  try go_wp2_with (first | (refine yX 4 #[.string a0_0, .slice A0_1 l0_1.length c0_1] 24 (fun gb131 hg w9 hbox hb => ?_); have BK131 := hbox; have GW131 := yG w hg; have GE131 := GW131; replace HB := yP w hb; clear hb hbox hg) | (refine yX 7 #[.string a3_0, .slice A3_1 l3_1.length c3_1] 24 (fun gb132 hg w10 hbox hb => ?_); have BK132 := hbox; have GW132 := yG w hg; have GE132 := GW132; have NB131_132 := yN hg BK131; have NB132_131 := yM hg BK131; replace BK131 := yB hb BK131; replace HB := yP w hb; clear hb hbox hg) | (refine yX 8 #[.int .i64 0, .string (⟨#[]⟩ : ByteArray), .slice none 0 0, .string (⟨#[]⟩ : ByteArray), .slice none 0 0] 36 (fun gb133 hg w11 hbox hb => ?_); have BK133 := hbox; have GW133 := yG w hg; have GE133 := GW133; have NB131_133 := yN hg BK131; have NB133_131 := yM hg BK131; have NB132_133 := yN hg BK132; have NB133_132 := yM hg BK132; replace BK131 := yB hb BK131; replace BK132 := yB hb BK132; replace HB := yP w hb; clear hb hbox hg; have hnb12 := NB131_132.out; have hnc12 := NB132_131.out; have hnb13 := NB131_133.out; have hnc13 := NB133_131.out; have hcz14_0 := zC BK131.out 0 (.string a0_0); have hcz14_1 := zC BK131.out 1 (.slice A0_1 l0_1.length c0_1); have hfz14_0 := bF BK131.out 0; have hfz14_1 := bF BK131.out 1; have hnb15 := NB132_133.out; have hnc15 := NB133_132.out; have hcz16_0 := zC BK132.out 0 (.string a3_0); have hcz16_1 := zC BK132.out 1 (.slice A3_1 l3_1.length c3_1); have hfz16_0 := bF BK132.out 0; have hfz16_1 := bF BK132.out 1) | (refine yC (some 19) Tryz.func147 #[.agg #[.string a0_0, .slice A0_1 l0_1.length c0_1], .int .i64 a1, .int .i64 a2, .agg #[.string a3_0, .slice A3_1 l3_1.length c3_1]] ?_; (with_reducible refine (strip_Splice.calls k a0_0 _ _ l0_1 a1 a2 a3_0 _ _ l3_1 t134 t135 t138 _ ?side1 ?side2 ?side3 ?side4 A5.out).mono ?_); (case side1 => exact yR HR0_1); (case side2 => exact HC0_1.out); (case side3 => exact yR HR3_1); (case side4 => exact HC3_1.out); rintro e w17 ⟨v136, rfl, ho0, hb⟩; refine ⟨_, rfl, ?_⟩; have HO137 := aM (rL ho0 (bZ (yH))); replace BK131 := yB hb BK131; replace BK132 := yB hb BK132; replace BK133 := yB hb BK133; replace HB := yP w hb; clear hb; (try clear ho0)) | (refine yX 10 #[.string (⟨#[]⟩ : ByteArray), .slice none 0 0] 24 (fun gb139 hg w18 hbox hb => ?_); have BK139 := hbox; have GW139 := yG w hg; have GE139 := GW139; have NB131_139 := yN hg BK131; have NB139_131 := yM hg BK131; have NB132_139 := yN hg BK132; have NB139_132 := yM hg BK132; have NB133_139 := yN hg BK133; have NB139_133 := yM hg BK133; replace HO137 := aM (Kd.R_below (ry HO137.out) hb); replace BK131 := yB hb BK131; replace BK132 := yB hb BK132; replace BK133 := yB hb BK133; replace HB := yP w hb; clear hb hbox hg; have hnb19 := NB139_131.out; have hnc19 := NB131_139.out; have hnb20 := NB139_132.out; have hnc20 := NB132_139.out; have hnb21 := NB139_133.out; have hnc21 := NB133_139.out; have hcz22_0 := zC BK139.out 0 (.string (⟨#[]⟩ : ByteArray)); have hcz22_1 := zC BK139.out 1 (.slice none 0 0); have hfz22_0 := bF BK139.out 0; have hfz22_1 := bF BK139.out 1; obtain ⟨Ao23, co23, eo23⟩ := Kd.R_slice HO137.out; subst eo23; have hcz24_0 := zC BK131.out 0 (.string a0_0); have hcz24_1 := zC BK131.out 1 (.slice A0_1 l0_1.length c0_1); have hfz24_0 := bF BK131.out 0; have hfz24_1 := bF BK131.out 1) | (refine yC (some 30) Tryz.func74 #[.agg #[.string a0_0, .slice A0_1 l0_1.length c0_1], .int .i64 a1, .int .i64 a2] ?_; (with_reducible refine (strip_Cut.calls k a0_0 _ _ l0_1 a1 a2 t140 t141 t144 _ ?side1 ?side2 A7.out).mono ?_); (case side1 => exact cB_ HR0_1.out (yH)); (case side2 => exact HC0_1.out); rintro e w25 ⟨v142, rfl, ho0, hb⟩; refine ⟨_, rfl, ?_⟩; have HO143 := aM (rL (Kd.R_new' ho0 (Kd.R_lt (by (with_reducible repeat (first | apply ra | apply rn | apply rd_)); exact (rM (rF (p := ⟨gb139, 1, none⟩) (rF (p := ⟨gb139, 0, none⟩) (rT HO137.out BK139.out (by decide)) (fun _ hk => hk.2) (.string t134)) (fun _ hk => hk.2) (.slice Ao23 t135.length co23)) (fun _ h_ => h_.1))))) (bZ (yH))); replace HO137 := aM (rE (by (with_reducible repeat (first | apply ra | apply rn | apply rd_)); exact (rM (rF (p := ⟨gb139, 1, none⟩) (rF (p := ⟨gb139, 0, none⟩) (rT HO137.out BK139.out (by decide)) (fun _ hk => hk.2) (.string t134)) (fun _ hk => hk.2) (.slice Ao23 t135.length co23)) (fun _ h_ => h_.1))) (Kd.R_base ho0) hb); replace BK131 := aM (bB (g := gb131) (o := .cells #[.string a0_0, .slice A0_1 l0_1.length c0_1] 24 (0, 0)) (by (with_reducible repeat (first | apply qn | apply qd | apply qa)); refine bR ?_ NB131_139.out _; (with_reducible repeat (first | apply qn | apply qd | apply qa)); refine bR ?_ NB131_139.out _; exact qy BK131.out) hb); replace BK132 := aM (bB (g := gb132) (o := .cells #[.string a3_0, .slice A3_1 l3_1.length c3_1] 24 (0, 0)) (by (with_reducible repeat (first | apply qn | apply qd | apply qa)); refine bR ?_ NB132_139.out _; (with_reducible repeat (first | apply qn | apply qd | apply qa)); refine bR ?_ NB132_139.out _; exact qy BK132.out) hb); replace BK133 := aM (bB (g := gb133) (o := .cells #[.int .i64 0, .string (⟨#[]⟩ : ByteArray), .slice none 0 0, .string (⟨#[]⟩ : ByteArray), .slice none 0 0] 36 (0, 0)) (by (with_reducible repeat (first | apply qn | apply qd | apply qa)); refine bR ?_ NB133_139.out _; (with_reducible repeat (first | apply qn | apply qd | apply qa)); refine bR ?_ NB133_139.out _; exact qy BK133.out) hb); replace BK139 := aM (bB (g := gb139) (o := .cells #[.string t134, .slice Ao23 t135.length co23] 24 (0, 0)) (by (with_reducible repeat (first | apply qn | apply qd | apply qa)); refine bU (cs := #[.string t134, .slice none 0 0]) ?_ 1 _ rfl; (with_reducible repeat (first | apply qn | apply qd | apply qa)); refine bU (cs := #[.string (⟨#[]⟩ : ByteArray), .slice none 0 0]) ?_ 0 _ rfl; exact qy BK139.out) hb); replace HB := yP w hb; clear hb; (try clear ho0)) | (refine yX 12 #[.string (⟨#[]⟩ : ByteArray), .slice none 0 0] 24 (fun gb145 hg w26 hbox hb => ?_); have BK145 := hbox; have GW145 := yG w hg; have GE145 := GW145; have NB131_145 := yN hg BK131; have NB145_131 := yM hg BK131; have NB132_145 := yN hg BK132; have NB145_132 := yM hg BK132; have NB133_145 := yN hg BK133; have NB145_133 := yM hg BK133; have NB139_145 := yN hg BK139; have NB145_139 := yM hg BK139; replace HO137 := aM (Kd.R_below (ry HO137.out) hb); replace HO143 := aM (Kd.R_below (ry HO143.out) hb); replace BK131 := yB hb BK131; replace BK132 := yB hb BK132; replace BK133 := yB hb BK133; replace BK139 := yB hb BK139; replace HB := yP w hb; clear hb hbox hg; have hnb27 := NB145_131.out; have hnc27 := NB131_145.out; have hnb28 := NB145_132.out; have hnc28 := NB132_145.out; have hnb29 := NB145_133.out; have hnc29 := NB133_145.out; have hnb30 := NB145_139.out; have hnc30 := NB139_145.out; have hcz31_0 := zC BK145.out 0 (.string (⟨#[]⟩ : ByteArray)); have hcz31_1 := zC BK145.out 1 (.slice none 0 0); have hfz31_0 := bF BK145.out 0; have hfz31_1 := bF BK145.out 1; obtain ⟨Ao32, co32, eo32⟩ := Kd.R_slice HO143.out; subst eo32))
  have n0_ : Aside0 (Kd.R k68 68 ((w26.setCell ⟨gb145, 0, none⟩ (.string t140)).setCell ⟨gb145, 1, none⟩ (.slice Ao32 t141.length co32)) w.heap.size (fun k_ => some k_ ≠ (.slice Ao32 t141.length co32 : Value).ownBlock) (.slice Ao23 t135.length co23) t135) := ⟨by (with_reducible repeat (first | apply ra | apply rn | apply rd_)); exact rM (rF (p := ⟨gb145, 1, none⟩) (rF (p := ⟨gb145, 0, none⟩) (rT HO137.out BK145.out (by decide)) (fun _ hk => hk.2) (.string t140)) (fun _ hk => hk.2) (.slice Ao32 t141.length co32)) (fun _ hk => hk.1.2)⟩
  have n1_ : Aside0 (Kd.R k68 68 ((w26.setCell ⟨gb145, 0, none⟩ (.string t140)).setCell ⟨gb145, 1, none⟩ (.slice Ao32 t141.length co32)) w.heap.size (fun k_ => some k_ ≠ (.slice Ao23 t135.length co23 : Value).ownBlock) (.slice Ao32 t141.length co32) t141) := ⟨by (with_reducible repeat (first | apply ra | apply rn | apply rd_)); exact rM (rF (p := ⟨gb145, 1, none⟩) (rF (p := ⟨gb145, 0, none⟩) (rT HO143.out BK145.out (by decide)) (fun _ hk => hk.2) (.string t140)) (fun _ hk => hk.2) (.slice Ao32 t141.length co32)) (fun _ hk => hk.1.2)⟩
  have n2_ : Aside0 (((w26.setCell ⟨gb145, 0, none⟩ (.string t140)).setCell ⟨gb145, 1, none⟩ (.slice Ao32 t141.length co32)).heap[gb131]? = some (.cells #[.string a0_0, .slice A0_1 l0_1.length c0_1] 24 (0, 0))) := ⟨by (with_reducible repeat (first | apply qn | apply qd | apply qa)); refine bR ?_ NB131_145.out _; (with_reducible repeat (first | apply qn | apply qd | apply qa)); refine bR ?_ NB131_145.out _; exact qy BK131.out⟩
  have n3_ : Aside0 (((w26.setCell ⟨gb145, 0, none⟩ (.string t140)).setCell ⟨gb145, 1, none⟩ (.slice Ao32 t141.length co32)).heap[gb132]? = some (.cells #[.string a3_0, .slice A3_1 l3_1.length c3_1] 24 (0, 0))) := ⟨by (with_reducible repeat (first | apply qn | apply qd | apply qa)); refine bR ?_ NB132_145.out _; (with_reducible repeat (first | apply qn | apply qd | apply qa)); refine bR ?_ NB132_145.out _; exact qy BK132.out⟩
  have n4_ : Aside0 (((w26.setCell ⟨gb145, 0, none⟩ (.string t140)).setCell ⟨gb145, 1, none⟩ (.slice Ao32 t141.length co32)).heap[gb133]? = some (.cells #[.int .i64 0, .string (⟨#[]⟩ : ByteArray), .slice none 0 0, .string (⟨#[]⟩ : ByteArray), .slice none 0 0] 36 (0, 0))) := ⟨by (with_reducible repeat (first | apply qn | apply qd | apply qa)); refine bR ?_ NB133_145.out _; (with_reducible repeat (first | apply qn | apply qd | apply qa)); refine bR ?_ NB133_145.out _; exact qy BK133.out⟩
  have n5_ : Aside0 (((w26.setCell ⟨gb145, 0, none⟩ (.string t140)).setCell ⟨gb145, 1, none⟩ (.slice Ao32 t141.length co32)).heap[gb139]? = some (.cells #[.string t134, .slice Ao23 t135.length co23] 24 (0, 0))) := ⟨by (with_reducible repeat (first | apply qn | apply qd | apply qa)); refine bR ?_ NB139_145.out _; (with_reducible repeat (first | apply qn | apply qd | apply qa)); refine bR ?_ NB139_145.out _; exact qy BK139.out⟩
  have n6_ : Aside0 (((w26.setCell ⟨gb145, 0, none⟩ (.string t140)).setCell ⟨gb145, 1, none⟩ (.slice Ao32 t141.length co32)).heap[gb145]? = some (.cells #[.string t140, .slice Ao32 t141.length co32] 24 (0, 0))) := ⟨by (with_reducible repeat (first | apply qn | apply qd | apply qa)); refine bU (cs := #[.string t140, .slice none 0 0]) ?_ 1 _ rfl; (with_reducible repeat (first | apply qn | apply qd | apply qa)); refine bU (cs := #[.string (⟨#[]⟩ : ByteArray), .slice none 0 0]) ?_ 0 _ rfl; exact qy BK145.out⟩
  have n7_ : Aside0 (Below w.heap.size w ((w26.setCell ⟨gb145, 0, none⟩ (.string t140)).setCell ⟨gb145, 1, none⟩ (.slice Ao32 t141.length co32))) := ⟨yH⟩
  (try clear HO137)
  (try clear HO143)
  (try clear BK131)
  (try clear BK132)
  (try clear BK133)
  (try clear BK139)
  (try clear BK145)
  (try clear HB)
  generalize ((w26.setCell ⟨gb145, 0, none⟩ (.string t140)).setCell ⟨gb145, 1, none⟩ (.slice Ao32 t141.length co32)) = w33 at n0_ n1_ n2_ n3_ n4_ n5_ n6_ n7_ ⊢
  have HO137 := n0_
  have HO143 := n1_
  have BK131 := n2_
  have BK132 := n3_
  have BK133 := n4_
  have BK139 := n5_
  have BK145 := n6_
  have HB := n7_
  clear n0_ n1_ n2_ n3_ n4_ n5_ n6_ n7_
  have n0_ := aM (Kd.R_drew HO137.out)
  have n1_ := aM (Kd.R_drew HO143.out)
  have n2_ := aM (blk_drew BK131.out)
  have n3_ := aM (blk_drew BK132.out)
  have n4_ := aM (blk_drew BK133.out)
  have n5_ := aM (blk_drew BK139.out)
  have n6_ := aM (blk_drew BK145.out)
  have n7_ := aM (below_drew1 HB.out)
  clear HO137
  clear HO143
  clear BK131
  clear BK132
  clear BK133
  clear BK139
  clear BK145
  clear HB
  have HO137 := n0_
  have HO143 := n1_
  have BK131 := n2_
  have BK132 := n3_
  have BK133 := n4_
  have BK139 := n5_
  have BK145 := n6_
  have HB := n7_
  clear n0_ n1_ n2_ n3_ n4_ n5_ n6_ n7_
  refine start_ (n := 8) (S := fun w' => w'.cell? ⟨gb145, 0, none⟩ = some (.string t140) ∧ w'.cell? ⟨gb145, 1, none⟩ = some (.slice Ao32 t141.length co32) ∧ w'.cell? ⟨gb132, 0, none⟩ = some (.string a3_0) ∧ w'.cell? ⟨gb132, 1, none⟩ = some (.slice A3_1 l3_1.length c3_1)) (ds := []) b60_ (by kernel_rfl) rfl rfl ⟨(bC BK145.out 0).trans rfl, (bC BK145.out 1).trans rfl, (bC BK132.out 0).trans rfl, (bC BK132.out 1).trans rfl⟩ (fun hHeld => ?_); refine with_tabW edit_Of.tab5 edit_Of.bits5 (fun HT_ HW_ => ?_)
  generalize w33.drew = w34 at HO137 HO143 BK131 BK132 BK133 BK139 BK145 HB hHeld ⊢
  refine pure_ (i := 0) (N := some 33) (v := ?_) (a' := ?_) b61_ rfl rfl (any_of HT_.out (by kernel_rfl)) (fun _ _ _ h => h) (Or.inl ⟨by rfl, ?_⟩) ?_ ?_
  rotate_left
  ·intro w'
   go_simp
   with_reducible rfl
  rotate_left
  ·simp only [Act.put, sA, sZ, sS, i64_w, i32_w]
   rfl
  refine pure_ (i := 5) (N := some 38) (v := ?_) (a' := ?_) b62_ rfl rfl (any_of HT_.out (by kernel_rfl)) (fun _ _ _ h => h) (Or.inl ⟨by rfl, ?_⟩) ?_ ?_
  rotate_left
  ·intro w'
   go_simp
   with_reducible rfl
  rotate_left
  ·simp only [Act.put, sA, sZ, sS, i64_w, i32_w]
   rfl
  refine take_ (i := 1) (N := some 34) (v := ?_) (a' := ?_) b63_ rfl rfl (take_ofW HT_.out HW_.out (by kernel_rfl)) (fun _ _ _ h => h) (Or.inl ⟨by rfl, ?_⟩) hHeld ?_ ?_
  rotate_left
  ·rintro w' ⟨s0, s1, s2, s3⟩
   go_simp
   with_reducible rfl
  rotate_left
  ·simp only [Act.put, sA, sZ, sS, i64_w, i32_w]
   rfl
  refine take_ (i := 2) (N := some 35) (v := ?_) (a' := ?_) b64_ rfl rfl (take_ofW HT_.out HW_.out (by kernel_rfl)) (fun _ _ _ h => h) (Or.inl ⟨by rfl, ?_⟩) hHeld ?_ ?_
  rotate_left
  ·rintro w' ⟨s0, s1, s2, s3⟩
   go_simp
   with_reducible rfl
  rotate_left
  ·simp only [Act.put, sA, sZ, sS, i64_w, i32_w]
   rfl
  refine one_ (i := 3) (N := some 36) b65_ rfl rfl (one_of HT_.out (by kernel_rfl)) (by decide) (fun K hK => ?_)
  refine goes_ Tryz.func148 (by kernel_rfl) rfl #[.agg #[.string a3_0, .slice A3_1 l3_1.length c3_1]] (by rfl) rfl rfl (by (try simp only [mT, mC, mN]); first | done | rfl | (simp only [lD, lT]; rfl)) ?_
  with_reducible refine (edit_own.calls a3_0 _ _ l3_1 t146 t147 _ ?side1 ?side2 A8.out).mono ?_
  (case side1 => exact yR HR3_1)
  (case side2 => exact HC3_1.out)
  rintro e w35 ⟨v148, rfl, ho0, hb⟩
  refine ⟨_, rfl, ?_⟩
  have n0_ := aM (rE (ry HO137.out) (Kd.R_base ho0) hb)
  have n1_ := aM (rE (ry HO143.out) (Kd.R_base ho0) hb)
  have n2_ := aM (rL (Kd.R_new' (Kd.R_new' ho0 (Kd.R_lt (ry HO137.out))) (Kd.R_lt (ry HO143.out))) (bZ (yH)))
  have n3_ := yB hb BK131
  have n4_ := yB hb BK132
  have n5_ := yB hb BK133
  have n6_ := yB hb BK139
  have n7_ := yB hb BK145
  have n8_ := yP w hb
  clear HO137
  clear HO143
  clear BK131
  clear BK132
  clear BK133
  clear BK139
  clear BK145
  clear HB
  have HO137 := n0_
  have HO143 := n1_
  have HO149 := n2_
  have BK131 := n3_
  have BK132 := n4_
  have BK133 := n5_
  have BK139 := n6_
  have BK145 := n7_
  have HB := n8_
  clear n0_ n1_ n2_ n3_ n4_ n5_ n6_ n7_ n8_
  (try clear hb)
  (try clear hb2)
  (try clear hk)
  (try clear hi)
  (try clear ho0)
  obtain ⟨Ao36, co36, eo36⟩ := Kd.R_slice HO149.out
  (first | subst eo36 | (injection eo36 with f1_ f2_ f3_; have f4_ := f1_.symm; have f5_ := f3_.symm; clear f1_ f2_ f3_; subst f4_; subst f5_))
  refine hK.out _ _ ⟨(bC BK145.out 0).trans rfl, (bC BK145.out 1).trans rfl, (bC BK132.out 0).trans rfl, (bC BK132.out 1).trans rfl⟩ (fun hHeld => ?_)
  clear hK K
  refine norm_ (a' := ?_) ?_ ?_
  rotate_left
  ·show Act.put _ (some 36) _ = _
   simp only [Act.put, sA, sZ, sS, i64_w, i32_w]
   rfl
  refine pure_ (i := 4) (N := some 37) (v := ?_) (a' := ?_) b66_ rfl rfl (any_of HT_.out (by kernel_rfl)) (fun _ _ _ h => h) (Or.inl ⟨by rfl, ?_⟩) ?_ ?_
  rotate_left
  ·intro w'
   go_simp
   with_reducible rfl
  rotate_left
  ·simp only [Act.put, sA, sZ, sS, i64_w, i32_w]
   rfl
  refine one_ (i := 6) (N := none) b67_ rfl rfl (one_of HT_.out (by kernel_rfl)) (by decide) (fun K hK => ?_)
  have hs37 : w35.cell? ⟨gb133, 0, none⟩ = some (.int .i64 0) := (bC BK133.out 0).trans rfl
  have hfs37 := bF BK133.out 0
  have hns37_0 := NB131_133.out
  have hns37_1 := NB132_133.out
  have hns37_3 := NB139_133.out
  have hns37_4 := NB145_133.out
  have hms37_0 := NB133_131.out
  have hms37_1 := NB133_132.out
  have hms37_3 := NB133_139.out
  have hms37_4 := NB133_145.out
  have hs38 : w35.cell? ⟨gb133, 1, none⟩ = some (.string (⟨#[]⟩ : ByteArray)) := (bC BK133.out 1).trans rfl
  have hfs38 := bF BK133.out 1
  have hns38_0 := NB131_133.out
  have hns38_1 := NB132_133.out
  have hns38_3 := NB139_133.out
  have hns38_4 := NB145_133.out
  have hms38_0 := NB133_131.out
  have hms38_1 := NB133_132.out
  have hms38_3 := NB133_139.out
  have hms38_4 := NB133_145.out
  have hs39 : w35.cell? ⟨gb133, 2, none⟩ = some (.slice none 0 0) := (bC BK133.out 2).trans rfl
  have hfs39 := bF BK133.out 2
  have hns39_0 := NB131_133.out
  have hns39_1 := NB132_133.out
  have hns39_3 := NB139_133.out
  have hns39_4 := NB145_133.out
  have hms39_0 := NB133_131.out
  have hms39_1 := NB133_132.out
  have hms39_3 := NB133_139.out
  have hms39_4 := NB133_145.out
  have hs40 : w35.cell? ⟨gb133, 3, none⟩ = some (.string (⟨#[]⟩ : ByteArray)) := (bC BK133.out 3).trans rfl
  have hfs40 := bF BK133.out 3
  have hns40_0 := NB131_133.out
  have hns40_1 := NB132_133.out
  have hns40_3 := NB139_133.out
  have hns40_4 := NB145_133.out
  have hms40_0 := NB133_131.out
  have hms40_1 := NB133_132.out
  have hms40_3 := NB133_139.out
  have hms40_4 := NB133_145.out
  have hs41 : w35.cell? ⟨gb133, 4, none⟩ = some (.slice none 0 0) := (bC BK133.out 4).trans rfl
  have hfs41 := bF BK133.out 4
  have hns41_0 := NB131_133.out
  have hns41_1 := NB132_133.out
  have hns41_3 := NB139_133.out
  have hns41_4 := NB145_133.out
  have hms41_0 := NB133_131.out
  have hms41_1 := NB133_132.out
  have hms41_3 := NB133_139.out
  have hms41_4 := NB133_145.out
  refine skip_ (w1 := ?_) (by rfl) rfl ?_ ?_
  rotate_left
  ·go_simp
   rfl
  refine hK.out _ _ ⟨((cell_far (p := ⟨gb133, _, none⟩) NB145_133.out _).trans (((cell_far (p := ⟨gb133, _, none⟩) NB145_133.out _).trans (((cell_far (p := ⟨gb133, _, none⟩) NB145_133.out _).trans (((cell_far (p := ⟨gb133, _, none⟩) NB145_133.out _).trans (((cell_far (p := ⟨gb133, _, none⟩) NB145_133.out _).trans (hHeld.1)))))))))), ((cell_far (p := ⟨gb133, _, none⟩) NB145_133.out _).trans (((cell_far (p := ⟨gb133, _, none⟩) NB145_133.out _).trans (((cell_far (p := ⟨gb133, _, none⟩) NB145_133.out _).trans (((cell_far (p := ⟨gb133, _, none⟩) NB145_133.out _).trans (((cell_far (p := ⟨gb133, _, none⟩) NB145_133.out _).trans (hHeld.2.1)))))))))), ((cell_far (p := ⟨gb133, _, none⟩) NB132_133.out _).trans (((cell_far (p := ⟨gb133, _, none⟩) NB132_133.out _).trans (((cell_far (p := ⟨gb133, _, none⟩) NB132_133.out _).trans (((cell_far (p := ⟨gb133, _, none⟩) NB132_133.out _).trans (((cell_far (p := ⟨gb133, _, none⟩) NB132_133.out _).trans (hHeld.2.2.1)))))))))), ((cell_far (p := ⟨gb133, _, none⟩) NB132_133.out _).trans (((cell_far (p := ⟨gb133, _, none⟩) NB132_133.out _).trans (((cell_far (p := ⟨gb133, _, none⟩) NB132_133.out _).trans (((cell_far (p := ⟨gb133, _, none⟩) NB132_133.out _).trans (((cell_far (p := ⟨gb133, _, none⟩) NB132_133.out _).trans (hHeld.2.2.2))))))))))⟩ (fun hHeld => ?_)
  clear hK K
  refine pure_ (i := 7) (N := some 9) (v := ?_) (a' := ?_) b68_ rfl rfl (any_of HT_.out (by kernel_rfl)) (fun _ _ _ h => h) (Or.inl ⟨by rfl, ?_⟩) ?_ ?_
  rotate_left
  ·intro w'
   go_simp
   with_reducible rfl
  rotate_left
  ·simp only [Act.put, sA, sZ, sS, i64_w, i32_w]
   rfl
  refine done_ (done_of HT_.out (by kernel_rfl)) ?_
  try go_wp2
  refine bodyPost_ret (results_ct rfl _ _ gb133 36 #[.int .i64 a1, .string t140, .slice Ao32 t141.length co32, .string t146, .slice Ao36 t147.length co36] (0, 0) _ rfl (by (with_reducible repeat (first | apply qn | apply qd | apply qa)); refine bU (cs := #[.int .i64 a1, .string t140, .slice Ao32 t141.length co32, .string t146, .slice none 0 0]) ?_ 4 _ rfl; (with_reducible repeat (first | apply qn | apply qd | apply qa)); refine bU (cs := #[.int .i64 a1, .string t140, .slice Ao32 t141.length co32, .string (⟨#[]⟩ : ByteArray), .slice none 0 0]) ?_ 3 _ rfl; (with_reducible repeat (first | apply qn | apply qd | apply qa)); refine bU (cs := #[.int .i64 a1, .string t140, .slice none 0 0, .string (⟨#[]⟩ : ByteArray), .slice none 0 0]) ?_ 2 _ rfl; (with_reducible repeat (first | apply qn | apply qd | apply qa)); refine bU (cs := #[.int .i64 a1, .string (⟨#[]⟩ : ByteArray), .slice none 0 0, .string (⟨#[]⟩ : ByteArray), .slice none 0 0]) ?_ 1 _ rfl; (with_reducible repeat (first | apply qn | apply qd | apply qa)); refine bU (cs := #[.int .i64 0, .string (⟨#[]⟩ : ByteArray), .slice none 0 0, .string (⟨#[]⟩ : ByteArray), .slice none 0 0]) ?_ 0 _ rfl; exact qy BK133.out) Tryz.underlying36 rfl (by kernel_rfl)) rfl ?_
  exact ⟨_, _, ye, by (with_reducible repeat (first | apply ra | apply rn | apply rd_)); exact rM (rF (p := ⟨gb133, 4, none⟩) (rF (p := ⟨gb133, 3, none⟩) (rF (p := ⟨gb133, 2, none⟩) (rF (p := ⟨gb133, 1, none⟩) (rF (p := ⟨gb133, 0, none⟩) (rT HO143.out BK133.out (by decide)) (fun _ hk => hk.2) (.int .i64 a1)) (fun _ hk => hk.2) (.string t140)) (fun _ hk => hk.2) (.slice Ao32 t141.length co32)) (fun _ hk => hk.2) (.string t146)) (fun _ hk => hk.2) (.slice Ao36 t147.length co36)) (fun _ hk => hk.1.2), by (with_reducible repeat (first | apply ra | apply rn | apply rd_)); exact rM (rF (p := ⟨gb133, 4, none⟩) (rF (p := ⟨gb133, 3, none⟩) (rF (p := ⟨gb133, 2, none⟩) (rF (p := ⟨gb133, 1, none⟩) (rF (p := ⟨gb133, 0, none⟩) (rT HO149.out BK133.out (by decide)) (fun _ hk => hk.2) (.int .i64 a1)) (fun _ hk => hk.2) (.string t140)) (fun _ hk => hk.2) (.slice Ao32 t141.length co32)) (fun _ hk => hk.2) (.string t146)) (fun _ hk => hk.2) (.slice Ao36 t147.length co36)) (fun _ hk => hk.1.2), yH⟩
 ·rw [if_neg c6] at H
  have c6b0 : (t138 == 0) = false := beq_eq_false_iff_ne.mpr c6
  have c6b1 : (t138 != 0) = true := bne_iff_ne.mpr c6
  simp only [Option.some.injEq, Prod.mk.injEq] at H
  obtain ⟨rfl, rfl, rfl, rfl, rfl, rfl⟩ := H
  go_enter Tryz.func104, Tryz.ntmps104
  go_wp2_with (first | (refine yX 4 #[.string a0_0, .slice A0_1 l0_1.length c0_1] 24 (fun gb131 hg w42 hbox hb => ?_); have BK131 := hbox; have GW131 := yG w hg; have GE131 := GW131; replace HB := yP w hb; clear hb hbox hg) | (refine yX 7 #[.string a3_0, .slice A3_1 l3_1.length c3_1] 24 (fun gb132 hg w43 hbox hb => ?_); have BK132 := hbox; have GW132 := yG w hg; have GE132 := GW132; have NB131_132 := yN hg BK131; have NB132_131 := yM hg BK131; replace BK131 := yB hb BK131; replace HB := yP w hb; clear hb hbox hg) | (refine yX 8 #[.int .i64 0, .string (⟨#[]⟩ : ByteArray), .slice none 0 0, .string (⟨#[]⟩ : ByteArray), .slice none 0 0] 36 (fun gb133 hg w44 hbox hb => ?_); have BK133 := hbox; have GW133 := yG w hg; have GE133 := GW133; have NB131_133 := yN hg BK131; have NB133_131 := yM hg BK131; have NB132_133 := yN hg BK132; have NB133_132 := yM hg BK132; replace BK131 := yB hb BK131; replace BK132 := yB hb BK132; replace HB := yP w hb; clear hb hbox hg; have hnb45 := NB131_132.out; have hnc45 := NB132_131.out; have hnb46 := NB131_133.out; have hnc46 := NB133_131.out; have hcz47_0 := zC BK131.out 0 (.string a0_0); have hcz47_1 := zC BK131.out 1 (.slice A0_1 l0_1.length c0_1); have hfz47_0 := bF BK131.out 0; have hfz47_1 := bF BK131.out 1; have hnb48 := NB132_133.out; have hnc48 := NB133_132.out; have hcz49_0 := zC BK132.out 0 (.string a3_0); have hcz49_1 := zC BK132.out 1 (.slice A3_1 l3_1.length c3_1); have hfz49_0 := bF BK132.out 0; have hfz49_1 := bF BK132.out 1) | (refine yC (some 19) Tryz.func147 #[.agg #[.string a0_0, .slice A0_1 l0_1.length c0_1], .int .i64 a1, .int .i64 a2, .agg #[.string a3_0, .slice A3_1 l3_1.length c3_1]] ?_; (with_reducible refine (strip_Splice.calls k a0_0 _ _ l0_1 a1 a2 a3_0 _ _ l3_1 t134 t135 t138 _ ?side1 ?side2 ?side3 ?side4 A5.out).mono ?_); (case side1 => exact yR HR0_1); (case side2 => exact HC0_1.out); (case side3 => exact yR HR3_1); (case side4 => exact HC3_1.out); rintro e w50 ⟨v136, rfl, ho0, hb⟩; refine ⟨_, rfl, ?_⟩; have HO137 := aM (rL ho0 (bZ (yH))); replace BK131 := yB hb BK131; replace BK132 := yB hb BK132; replace BK133 := yB hb BK133; replace HB := yP w hb; clear hb; (try clear ho0)) | (refine yX 10 #[.string (⟨#[]⟩ : ByteArray), .slice none 0 0] 24 (fun gb139 hg w51 hbox hb => ?_); have BK139 := hbox; have GW139 := yG w hg; have GE139 := GW139; have NB131_139 := yN hg BK131; have NB139_131 := yM hg BK131; have NB132_139 := yN hg BK132; have NB139_132 := yM hg BK132; have NB133_139 := yN hg BK133; have NB139_133 := yM hg BK133; replace HO137 := aM (Kd.R_below (ry HO137.out) hb); replace BK131 := yB hb BK131; replace BK132 := yB hb BK132; replace BK133 := yB hb BK133; replace HB := yP w hb; clear hb hbox hg; have hnb52 := NB139_131.out; have hnc52 := NB131_139.out; have hnb53 := NB139_132.out; have hnc53 := NB132_139.out; have hnb54 := NB139_133.out; have hnc54 := NB133_139.out; have hcz55_0 := zC BK139.out 0 (.string (⟨#[]⟩ : ByteArray)); have hcz55_1 := zC BK139.out 1 (.slice none 0 0); have hfz55_0 := bF BK139.out 0; have hfz55_1 := bF BK139.out 1; obtain ⟨Ao56, co56, eo56⟩ := Kd.R_slice HO137.out; subst eo56; have hcz57_0 := zC BK133.out 0 (.int .i64 0); have hcz57_1 := zC BK133.out 1 (.string (⟨#[]⟩ : ByteArray)); have hcz57_2 := zC BK133.out 2 (.slice none 0 0); have hcz57_3 := zC BK133.out 3 (.string (⟨#[]⟩ : ByteArray)); have hcz57_4 := zC BK133.out 4 (.slice none 0 0); have hfz57_0 := bF BK133.out 0; have hfz57_1 := bF BK133.out 1; have hfz57_2 := bF BK133.out 2; have hfz57_3 := bF BK133.out 3; have hfz57_4 := bF BK133.out 4))
  refine bodyPost_ret (results_ct rfl _ _ gb133 36 #[.int .i64 0, .string (⟨#[]⟩ : ByteArray), .slice none 0 0, .string (⟨#[]⟩ : ByteArray), .slice none 0 0] (0, 0) _ rfl (by (with_reducible repeat (first | apply qn | apply qd | apply qa)); refine bU (cs := #[.int .i64 0, .string (⟨#[]⟩ : ByteArray), .slice none 0 0, .string (⟨#[]⟩ : ByteArray), .slice none 0 0]) ?_ 4 _ rfl; (with_reducible repeat (first | apply qn | apply qd | apply qa)); refine bU (cs := #[.int .i64 0, .string (⟨#[]⟩ : ByteArray), .slice none 0 0, .string (⟨#[]⟩ : ByteArray), .slice none 0 0]) ?_ 3 _ rfl; (with_reducible repeat (first | apply qn | apply qd | apply qa)); refine bU (cs := #[.int .i64 0, .string (⟨#[]⟩ : ByteArray), .slice none 0 0, .string (⟨#[]⟩ : ByteArray), .slice none 0 0]) ?_ 2 _ rfl; (with_reducible repeat (first | apply qn | apply qd | apply qa)); refine bU (cs := #[.int .i64 0, .string (⟨#[]⟩ : ByteArray), .slice none 0 0, .string (⟨#[]⟩ : ByteArray), .slice none 0 0]) ?_ 1 _ rfl; (with_reducible repeat (first | apply qn | apply qd | apply qa)); refine bU (cs := #[.int .i64 0, .string (⟨#[]⟩ : ByteArray), .slice none 0 0, .string (⟨#[]⟩ : ByteArray), .slice none 0 0]) ?_ 0 _ rfl; (with_reducible repeat (first | apply qn | apply qd | apply qa)); refine bR ?_ NB133_139.out _; (with_reducible repeat (first | apply qn | apply qd | apply qa)); refine bR ?_ NB133_139.out _; exact qy BK133.out) Tryz.underlying36 rfl (by kernel_rfl)) rfl ?_
  exact ⟨_, _, ye, yn, yn, yH⟩
end Go.Proofs.YtjkfkiebhgkolaaGreatDoor.PB
end

section
namespace Go.Proofs.YtjkfkiebhgkolaaGreatDoor.PB
open Go.RowKit Go.Proofs.YtjkfkiebhgkolaaGreatDoorW.PrintWords
set_option linter.unusedVariables false
abbrev EX := Int × ByteArray × List S68 × ByteArray × List S68 × Int
def ofS (s : ByteArray) (l : List S68) (a b : Int) (x : ByteArray) (m : List S68) : EX :=
 if (spliceT s l a b x m).2.2 = 0 then (a, (cutS s l a b).1, (cutS s l a b).2.1, x, m, 0) else (0, ⟨#[]⟩, [], ⟨#[]⟩, [], (spliceT s l a b x m).2.2)
theorem splice_cut {s : ByteArray} {l : List S68} {a b : Int} {x : ByteArray} {m : List S68} (h : (spliceT s l a b x m).2.2 = 0) : withinT s l a b = true ∧ goodT x m = true ∧ ¬ (s.size : Int) - (b - a) + (x.size : Int) > 4096 ∧ (cutS s l a b).2.2 = 0 := by
 unfold spliceT at h
 by_cases hw : withinT s l a b = true
 ·rw [if_pos hw] at h
  by_cases hg : goodT x m = true
  ·rw [if_pos hg] at h
   by_cases hb : (s.size : Int) - (b - a) + (x.size : Int) > 4096
   ·rw [if_pos hb] at h; cases h
   ·exact ⟨hw, hg, hb, by unfold cutS; rw [if_pos hw]⟩
  ·rw [if_neg hg] at h; cases h
 ·rw [if_neg hw] at h; cases h
theorem of_ev (s : ByteArray) (l : List S68) (hl : l.length ≤ big) (a b : Int) (x : ByteArray) (m : List S68) (hm : m.length ≤ big) : Ev (fun k => edit_Of.f k s l a b x m) (ofS s l a b x m) := by
 unfold edit_Of.f ofS
 refine Ev.bind (splice4_ev s l hl a b x m hm) (Ev.ite (fun h => ?_) (fun _ => Ev.now _))
 refine Ev.bind (cut_ev s l hl a b) ?_
 rw [own_eq x m hm]
 refine Ev.bind (Ev.now _) (ev_val (Ev.now _) ?_)
 rw [(splice_cut h).2.2.2]
theorem rsame7_self (a : Int) (o : ByteArray) (ol : List S68) (n : ByteArray) (nl : List S68) (hl : ol.length ≤ big) (hm : nl.length ≤ big) : Ev (fun k => bureauref07_Same.f k a o ol n nl a o ol n nl) true := by
 unfold bureauref07_Same.f
 exact Ev.pos rfl (Ev.bind (rsame4_ev _ _ _ _ hl) (Ev.pos (sameT_self _ _) (Ev.bind (rsame4_ev _ _ _ _ hm) (ev_val (Ev.now _) (sameT_self _ _)))))
structure Alike (y : Int) (s : ByteArray) (l : List S68) (s' : ByteArray) (l' : List S68) : Prop where
 runs : l = l'
 size : s.size = s'.size
 view : goodT s l = true → hideAll y (bytes l) (bytesOf s) = hideAll y (bytes l) (bytesOf s')
theorem Alike.good {y : Int} {s s' : ByteArray} {l l' : List S68} (h : Alike y s l s' l') : goodT s l = goodT s' l' := by
 obtain ⟨rfl, h2, _⟩ := h
 unfold goodT
 rw [h2]
section
variable {y : Int} {s s' x x' : ByteArray} {l l' m m' : List S68}
end
end Go.Proofs.YtjkfkiebhgkolaaGreatDoor.PB
end

section
namespace Go.Proofs.YtjkfkiebhgkolaaGreatDoor.PB
open Go.RowKit Go.Proofs.YtjkfkiebhgkolaaGreatDoorW.PrintWords
set_option linter.unusedVariables false
set_option linter.unusedSimpArgs false
abbrev eB : ByteArray := ⟨#[]⟩
abbrev OX := Int × ByteArray × List S68 × ByteArray × List S68 × ByteArray × List S68 × Bool × Bool × Int × Int
def noO (e : Int) : OX := (0, eB, [], eB, [], eB, [], false, false, 0, e)
def addD (d : TX) (x : ByteArray) (m : List S68) : TX := if d.2.2 = 0 then catT d.1 d.2.1 x m else d
def writeD (y : Int) (d : TX) (s : ByteArray) : TX :=
  addD (d.1, d.2.1, if (makeS s y).2.2 = 0 then d.2.2 else (makeS s y).2.2) (makeS s y).1 (makeS s y).2.1
def keepD (s : ByteArray) (l : List S68) (d : TX) (a b : Int) : TX := addD d (cutS s l a b).1 (cutS s l a b).2.1
def d0 : TX := (eB, [], 0)
def turnD (s : ByteArray) (l : List S68) (y : Int) (d : TX) (a b : Int) : EX × ByteArray :=
  if d.2.2 = 0 then
    (if (ofS s l a b d.1 d.2.1).2.2.2.2.2 = 0 then
      (ofS s l a b d.1 d.2.1, (viewS (applyT s l (ofS s l a b d.1 d.2.1).1 (ofS s l a b d.1 d.2.1).2.1 (ofS s l a b d.1 d.2.1).2.2.1 (ofS s l a b d.1 d.2.1).2.2.2.1 (ofS s l a b d.1 d.2.1).2.2.2.2.1).1
        (applyT s l (ofS s l a b d.1 d.2.1).1 (ofS s l a b d.1 d.2.1).2.1 (ofS s l a b d.1 d.2.1).2.2.1 (ofS s l a b d.1 d.2.1).2.2.2.1 (ofS s l a b d.1 d.2.1).2.2.2.2.1).2.1 y).1)
     else ((0, eB, [], eB, [], (ofS s l a b d.1 d.2.1).2.2.2.2.2), eB))
  else ((0, eB, [], eB, [], d.2.2), eB)
def turnO (t : EX × ByteArray) (at_ : ByteArray → Int) : OX :=
  if t.1.2.2.2.2.2 = 0 then (t.1.1, t.1.2.1, t.1.2.2.1, t.1.2.2.2.1, t.1.2.2.2.2.1, eB, [], false, false, at_ t.2, 0) else noO t.1.2.2.2.2.2
def rightD (v : ByteArray) (f t : Int) (ln : Bool) : Bool :=
  decide (0 ≤ f) && (decide (f ≤ t) && decide (t ≤ (if ln = true then ((ends v).length : Int) - 1 else (v.size : Int))))
def bytesD (v : ByteArray) (f t : Int) (ln : Bool) : Int × Int := if ln = true then ((boundsS v f).1, (boundsS v t).2.1) else (f, t)
def linesD (v : ByteArray) (f t : Int) (ln : Bool) : Int × Int := if ln = true then (f, t) else ((ofL v f : Int), (ofL v (max f (t - 1)) : Int))
def takeD (s : ByteArray) (l : List S68) (y : Int) (v : ByteArray) (op f t : Int) (ln : Bool) : OX :=
  let a := (bytesD v f t ln).1
  let b := (bytesD v f t ln).2
  let x := cutS s l a b
  let wide := ln || decide (0 ≤ Lib.indexByte (v.extract a.toNat b.toNat).data.toList 10)
  if op = 121 then (a, eB, [], eB, [], x.1, x.2.1, ln, wide, a, 0)
  else if op = 100 ∧ ln = true then
    let u := turnD s l y d0 (wholeS v f t).1 (wholeS v f t).2.1
    (u.1.1, u.1.2.1, u.1.2.2.1, u.1.2.2.2.1, u.1.2.2.2.2.1, x.1, x.2.1, ln, wide, (firstS u.2 f : Int), 0)
  else
    let u := turnD s l y d0 a b
    (u.1.1, u.1.2.1, u.1.2.2.1, u.1.2.2.2.1, u.1.2.2.2.2.1, x.1, x.2.1, ln, wide, a, 0)
def blankB (v : ByteArray) (i : Nat) : Bool := decide (bN v i = 32 ∨ bN v i = 9)
def shiftOne (s : ByteArray) (l : List S68) (y : Int) (v : ByteArray) (op : Int) (b : Nat) (n : Nat) (d : TX) : TX :=
  keepD s l (if op = 62 ∧ lineFrom v n < lineTo v n then writeD y d ⟨#[9]⟩ else d)
    (if op = 60 ∧ lineFrom v n < lineTo v n ∧ blankB v (lineFrom v n) = true then (lineFrom v n : Int) + 1 else (lineFrom v n : Int))
    (if n < b then (lineTo v n : Int) + 1 else (lineTo v n : Int))
def shiftL (s : ByteArray) (l : List S68) (y : Int) (v : ByteArray) (op : Int) (b : Nat) : Nat → Nat → TX → TX
  | 0, _, d => d
  | k + 1, n, d => shiftL s l y v op b k (n + 1) (shiftOne s l y v op b n d)
def shiftD (s : ByteArray) (l : List S68) (y : Int) (v : ByteArray) (op f t : Int) (ln : Bool) : OX :=
  let a := (linesD v f t ln).1.toNat
  let b := (linesD v f t ln).2.toNat
  turnO (turnD s l y (shiftL s l y v op b (b + 1 - a) a d0) (lineFrom v a) (if a ≤ b then (lineTo v b : Int) else (lineFrom v a : Int))) (fun w => (firstS w (a : Int) : Int))
def flip1 (c : Int) : Int := if 97 ≤ c ∧ c ≤ 122 then c - 32 else if 65 ≤ c ∧ c ≤ 90 then c + 32 else c
def flipL : List Int → List Int → List Int
  | c :: B, u :: U => (if u = c then flip1 c else c) :: flipL B U
  | B, _ => B
def toggleD (s : ByteArray) (l : List S68) (y : Int) (v : ByteArray) (f t : Int) (ln : Bool) : OX :=
  let a := (bytesD v f t ln).1
  let b := (bytesD v f t ln).2
  turnO (turnD s l y (addD d0 (strOfNums (flipL (bytesOf (cutS s l a b).1) ((bytesOf v).drop a.toNat))) (cutS s l a b).2.1) a b) (fun _ => a)
def trimL (v : ByteArray) (n : Nat) : Nat :=
  lineFrom v n + (((v.data.toList.take (lineTo v n)).drop (lineFrom v n)).takeWhile (fun c => c == 32 || c == 9)).length
def joinOne (s : ByteArray) (l : List S68) (y : Int) (v : ByteArray) (n : Nat) (d : TX) : TX :=
  keepD s l (if trimL v n < lineTo v n then writeD y d ⟨#[32]⟩ else d) (trimL v n : Int) (lineTo v n : Int)
def joinL (s : ByteArray) (l : List S68) (y : Int) (v : ByteArray) : Nat → Nat → TX → Nat → TX × Nat
  | 0, _, d, p => (d, p)
  | k + 1, n, d, _ => joinL s l y v k (n + 1) (joinOne s l y v n d) d.1.size
def joinD (s : ByteArray) (l : List S68) (y : Int) (v : ByteArray) (f t : Int) (ln : Bool) : OX :=
  let a := (linesD v f t ln).1.toNat
  let b := max (linesD v f t ln).2.toNat (a + 1)
  if (ends v).length ≤ b then noO 6
  else
    let r := joinL s l y v (b - a) (a + 1) (keepD s l d0 (lineFrom v a) (lineTo v a)) 0
    turnO (turnD s l y r.1 (lineFrom v a) (lineTo v b)) (fun _ => ((lineFrom v a + r.2 : Nat) : Int))
def doS (s : ByteArray) (l : List S68) (y op f t : Int) (ln : Bool) : OX :=
  if (viewS s l y).2 = 0 ∧ rightD (viewS s l y).1 f t ln = true then
    (if op = 100 ∨ op = 121 ∨ op = 99 then takeD s l y (viewS s l y).1 op f t ln
     else if op = 62 ∨ op = 60 then shiftD s l y (viewS s l y).1 op f t ln
     else if op = 126 then toggleD s l y (viewS s l y).1 f t ln
     else if op = 74 then joinD s l y (viewS s l y).1 f t ln
     else noO 2)
  else noO 2
def oftenN (n : Int) : Nat := min (max n.toNat 1) 999
def mayK (k : Int) : Bool := decide (32 ≤ k) && (decide (k ≠ 127) && Lib.validRune k)
def stepsN (v : ByteArray) (e : Nat) : Nat → Nat → Option Nat
  | 0, p => some p
  | k + 1, p => if p < e then stepsN v e k (nextS v (p : Int)) else none
def repB (x : ByteArray) (n : Nat) : ByteArray := ⟨(Lib.repeatL x.data.toList n).toArray⟩
def swapS (s : ByteArray) (l : List S68) (y at_ n k : Int) : OX :=
  if (viewS s l y).2 = 0 ∧ mayK k = true then
    match stepsN (viewS s l y).1 (lineTo (viewS s l y).1 (ofL (viewS s l y).1 (alignS (viewS s l y).1 at_ : Int))) (oftenN n) (alignS (viewS s l y).1 at_) with
    | none => noO 6
    | some p => turnO (turnD s l y (writeD y d0 (repB (Utf8.encode k) (oftenN n))) (alignS (viewS s l y).1 at_ : Int) (p : Int))
        (fun _ => ((alignS (viewS s l y).1 at_ + (Utf8.encode k).size * (oftenN n - 1) : Nat) : Int))
  else noO 2
def putAll (x : ByteArray) (m : List S68) : Nat → TX → TX
  | 0, d => d
  | k + 1, d => putAll x m k (addD d x m)
def aliveT : ByteArray := ⟨#[97, 98, 10, 32, 99, 100]⟩
set_option maxRecDepth 100000 in
theorem alive_do1 : (doS aliveT [⟨1, 6⟩] 1 74 0 0 true).2.2.2.2.2.2.2.2.2.2 = 0 ∧ (doS aliveT [⟨1, 6⟩] 1 74 0 0 true).2.2.2.1.data.toList = [97, 98, 32, 99, 100] ∧ (doS aliveT [⟨1, 6⟩] 1 74 0 0 true).2.2.2.2.2.2.2.2.2.1 = 2 := by decide +kernel
set_option maxRecDepth 100000 in
theorem alive_do2 : (doS aliveT [⟨1, 6⟩] 1 100 0 0 true).2.2.2.2.2.2.2.2.2.2 = 0 ∧ (doS aliveT [⟨1, 6⟩] 1 100 0 0 true).2.1.data.toList = [97, 98, 10] ∧ (doS aliveT [⟨1, 6⟩] 1 100 0 0 true).2.2.2.2.2.1.data.toList = [97, 98] ∧
  (doS aliveT [⟨1, 6⟩] 1 100 0 0 true).2.2.2.2.2.2.2.1 = true ∧ (doS aliveT [⟨1, 6⟩] 1 100 0 0 true).2.2.2.2.2.2.2.2.1 = true ∧ (doS aliveT [⟨1, 6⟩] 1 100 0 0 true).2.2.2.2.2.2.2.2.2.1 = 1 := by decide +kernel
set_option maxRecDepth 100000 in
theorem alive_swap : (swapS aliveT [⟨1, 6⟩] 1 0 3 120).2.2.2.2.2.2.2.2.2.2 = 6 := by decide +kernel
end Go.Proofs.YtjkfkiebhgkolaaGreatDoor.PB
end

section
namespace Go.Proofs.YtjkfkiebhgkolaaGreatDoor.PB
open Go.RowKit Go.Proofs.YtjkfkiebhgkolaaGreatDoorW.PrintWords
set_option linter.unusedVariables false
theorem right_facts {v : ByteArray} {f t : Int} {ln : Bool} (h : rightD v f t ln = true) : 0 ≤ f ∧ f ≤ t ∧ t ≤ (if ln = true then ((ends v).length : Int) - 1 else (v.size : Int)) := by
 simp only [rightD, Bool.and_eq_true, decide_eq_true_eq] at h
 exact h
theorem linesD_nat {v : ByteArray} {f t : Int} {ln : Bool} (h : rightD v f t ln = true) : ∃ a b : Nat, linesD v f t ln = ((a : Int), (b : Int)) ∧ a < (ends v).length ∧ b < (ends v).length := by
 have h1 := right_facts h
 cases ln with
 | true =>
  rw [if_pos rfl] at h1
  exact ⟨f.toNat, t.toNat, by rw [show linesD v f t true = (f, t) from rfl, Int.toNat_of_nonneg h1.1, Int.toNat_of_nonneg (by omega)], by omega, by omega⟩
 | false => exact ⟨_, _, rfl, ofL_lt v _, ofL_lt v _⟩
theorem spliceT_small (s : ByteArray) (l : List S68) (a b : Int) (x : ByteArray) (m : List S68) : (spliceT s l a b x m).1.size ≤ 4096 := by
 unfold spliceT
 split
 ·rename_i hw
  split
  ·split
   ·exact Nat.zero_le _
   ·rename_i hg hn
    have h1 := withinT_facts hw
    show (s.extract 0 a.toNat ++ x ++ s.extract b.toNat s.size).size ≤ _
    rw [ByteArray.size_append, ByteArray.size_append, ByteArray.size_extract, ByteArray.size_extract]
    omega
  ·exact Nat.zero_le _
 ·exact Nat.zero_le _
theorem addD_small {d : TX} {x : ByteArray} {m : List S68} (h : d.1.size ≤ 4096) : (addD d x m).1.size ≤ 4096 := by
 unfold addD
 split
 ·exact spliceT_small _ _ _ _ _ _
 ·exact h
theorem writeD_small {y : Int} {d : TX} {x : ByteArray} (h : d.1.size ≤ 4096) : (writeD y d x).1.size ≤ 4096 := addD_small h
theorem keepD_small {s : ByteArray} {l : List S68} {d : TX} {a b : Int} (h : d.1.size ≤ 4096) : (keepD s l d a b).1.size ≤ 4096 := addD_small h
theorem trim_size {v : ByteArray} {n : Nat} (h : n < (ends v).length) :
  (⟨(Lib.trimLeftS (v.extract (lineFrom v n) (lineTo v n)).data.toList [32, 9]).toArray⟩ : ByteArray).size + trimL v n = lineTo v n := by
 obtain ⟨h1, h2⟩ := line_range v n h
 have hv : v.data.toList.length = v.size := rfl
 have e : (v.extract (lineFrom v n) (lineTo v n)).data.toList = (v.data.toList.take (lineTo v n)).drop (lineFrom v n) := ext_list _ _ _
 show (Lib.trimLeftS _ _).length + _ = _
 rw [e]
 unfold trimL Lib.trimLeftS
 have e2 : (fun c : UInt8 => ([32, 9] : List UInt8).contains c) = (fun c => c == 32 || c == 9) := by
  funext c
  exact (congrArg ((c == 32) || ·) (Bool.or_false _))
 rw [e2]
 have h3 := congrArg List.length (List.takeWhile_append_dropWhile (p := fun c : UInt8 => c == 32 || c == 9) (l := (v.data.toList.take (lineTo v n)).drop (lineFrom v n)))
 rw [List.length_append, List.length_drop, List.length_take] at h3
 omega
theorem trimL_range {v : ByteArray} {n : Nat} (h : n < (ends v).length) : lineFrom v n ≤ trimL v n ∧ trimL v n ≤ lineTo v n := by
 have := trim_size h
 refine ⟨?_, by omega⟩
 unfold trimL
 omega
end Go.Proofs.YtjkfkiebhgkolaaGreatDoor.PB
end

section
namespace Go.Proofs.YtjkfkiebhgkolaaGreatDoor.PB
open Go.RowKit Go.Proofs.YtjkfkiebhgkolaaGreatDoorW.PrintWords Go.Proofs.YtjkfkiebhgkolaaGreatDoorW.PrintLast Go.Proofs.YtjkfkiebhgkolaaGreatDoorW.PrintMore
attribute [local go_sem] max2_int min2_int max_two min_two max_three min_three max_four min_four   
set_option linter.unusedVariables false
set_option linter.unusedSimpArgs false
def bureauref07_Check.j0 : Nat → Bool → ByteArray → List (S68) → Int → ByteArray → List (S68) → ByteArray → List (S68) → Option (Int)
 | 0, _, _, _, _, _, _, _, _ => none
 | k + 1, x27, x359000, x359001, x360000, x360001, x360002, x360003, x360004 => if x27 = true then (some 2) else ((bureauref04_Cut.f k x359000 x359001 x360000 (wrap64 (x360000 + (x360001.size : Int)))).bind fun bt362 => ((bureauref04_Same.f k bt362.1 bt362.2.1 x360001 x360002).bind fun t368 => (if t368 = true then (if (wrap64 ((wrap64 ((x359000.size : Int) - (x360001.size : Int))) + (x360003.size : Int))) > 4096 then (some 3) else (some 0)) else (some 7))))
def bureauref07_Check.f (k : Nat) (a0_0 : ByteArray) (l0_1 : List (S68)) (a1_0 : Int) (a1_1 : ByteArray) (l1_2 : List (S68)) (a1_3 : ByteArray) (l1_4 : List (S68)) : Option (Int) := (bureauref04_Good.f k a0_0 l0_1).bind fun t360 => (if t360 = true then ((bureauref07_Good.f k a1_0 a1_1 l1_2 a1_3 l1_4).bind fun t361 => (if t361 = true then (bureauref07_Check.j0 k (decide ((wrap64 ((a0_0.size : Int) - a1_0)) < (a1_1.size : Int))) a0_0 l0_1 a1_0 a1_1 l1_2 a1_3 l1_4) else (bureauref07_Check.j0 k true a0_0 l0_1 a1_0 a1_1 l1_2 a1_3 l1_4))) else (bureauref07_Check.j0 k true a0_0 l0_1 a1_0 a1_1 l1_2 a1_3 l1_4))
set_option maxHeartbeats 8000000 in
set_option maxRecDepth 100000 in
theorem bureauref07_Check.calls (k : Nat) (a0_0 : ByteArray) (A0_1 : Option Addr) (c0_1 : Nat) (l0_1 : List (S68)) (a1_0 : Int) (a1_1 : ByteArray) (A1_2 : Option Addr) (c1_2 : Nat) (l1_2 : List (S68)) (a1_3 : ByteArray) (A1_4 : Option Addr) (c1_4 : Nat) (l1_4 : List (S68)) (r : Int) (w : World) (hr0_1 : Kd.C k68 w A0_1 l0_1.length l0_1) (hc0_1 : l0_1.length ≤ c0_1) (hr1_2 : Kd.C k68 w A1_2 l1_2.length l1_2) (hc1_2 : l1_2.length ≤ c1_2) (hr1_4 : Kd.C k68 w A1_4 l1_4.length l1_4) (hc1_4 : l1_4.length ≤ c1_4) (h : bureauref07_Check.f k a0_0 l0_1 a1_0 a1_1 l1_2 a1_3 l1_4 = some r) :
  Calls Tryz.prog 65 #[.agg #[.string a0_0, .slice A0_1 l0_1.length c0_1], .agg #[.int .i64 a1_0, .string a1_1, .slice A1_2 l1_2.length c1_2, .string a1_3, .slice A1_4 l1_4.length c1_4]] w fun e w' => e = .returned (.int .i64 r) ∧ Below w.heap.size w w' := by
 have hu24 := Tryz.underlying24
 have hu36 := Tryz.underlying36
 have HR0_1 := aM hr0_1
 have HC0_1 := aM hc0_1
 clear hr0_1 hc0_1
 have HR1_2 := aM hr1_2
 have HC1_2 := aM hc1_2
 clear hr1_2 hc1_2
 have HR1_4 := aM hr1_4
 have HC1_4 := aM hc1_4
 clear hr1_4 hc1_4
 have HB := aM (Below.refl w.heap.size w)
 have H : ((bureauref04_Good.f k a0_0 l0_1).bind fun t360 => (if t360 = true then ((bureauref07_Good.f k a1_0 a1_1 l1_2 a1_3 l1_4).bind fun t361 => (if t361 = true then (bureauref07_Check.j0 k (decide ((wrap64 ((a0_0.size : Int) - a1_0)) < (a1_1.size : Int))) a0_0 l0_1 a1_0 a1_1 l1_2 a1_3 l1_4) else (bureauref07_Check.j0 k true a0_0 l0_1 a1_0 a1_1 l1_2 a1_3 l1_4))) else (bureauref07_Check.j0 k true a0_0 l0_1 a1_0 a1_1 l1_2 a1_3 l1_4))) = some r := h
 clear h
 have HC3 := aM H
 clear H
 go_enter Tryz.func65, Tryz.ntmps65
 go_upto_region 1 with (first | ((with_reducible refine gate_dst (N := 2) rfl ?_); (try (refine gate_guard (by rfl) ?_; dsimp only)); refine box_event ?hg (N := 2) ?hd (cs := #[.string a0_0, .slice A0_1 l0_1.length c0_1]) (t := 24) ?hr ?_; (case hd | hg => rfl); (case hr => first | (go_simp; done) | (go_simp; rfl)); intro gb358 hg w4 hbox hb; have n0_ := aM (bP (ey HB.out) hb); have n1_ := aM (hbox); have n2_ := aM ((by rw [hg]; exact (bZ (ey HB.out)) : w.heap.size ≤ gb358)); have n3_ := n2_; clear HB; have HB := n0_; have BK358 := n1_; have GW358 := n2_; have GE358 := n3_; clear n0_ n1_ n2_ n3_; clear hb hbox hg) | ((with_reducible refine gate_dst (N := 3) rfl ?_); (try (refine gate_guard (by rfl) ?_; dsimp only)); refine box_event ?hg (N := 3) ?hd (cs := #[.int .i64 a1_0, .string a1_1, .slice A1_2 l1_2.length c1_2, .string a1_3, .slice A1_4 l1_4.length c1_4]) (t := 36) ?hr ?_; (case hd | hg => rfl); (case hr => first | (go_simp; done) | (go_simp; rfl)); intro gb359 hg w5 hbox hb; have n0_ := aM (bB (g := gb358) (qy BK358.out) hb); have n1_ := aM (bP (by repeat (first | (with_reducible first | exact HB.out | apply ea | apply en | apply ed | refine es ?_ GE358.out) | exact HB.out)) hb); have n2_ := aM (hbox); have n3_ := aM ((by rw [hg]; exact (bZ (by repeat (first | (with_reducible first | exact HB.out | apply ea | apply en | apply ed | refine es ?_ GE358.out) | exact HB.out))) : w.heap.size ≤ gb359)); have n4_ := n3_; have n5_ := aM ((by rw [hg]; exact Nat.ne_of_lt (blk_lt (g := gb358) (qy BK358.out)) : gb358 ≠ gb359)); have n6_ := aM ((by rw [hg]; exact Nat.ne_of_gt (blk_lt (g := gb358) (qy BK358.out)) : gb359 ≠ gb358)); clear BK358 HB; have BK358 := n0_; have HB := n1_; have BK359 := n2_; have GW359 := n3_; have GE359 := n4_; have NB358_359 := n5_; have NB359_358 := n6_; clear n0_ n1_ n2_ n3_ n4_ n5_ n6_; clear hb hbox hg))
 (try simp only [Act.put, sA, sZ, sS])
 go_cut [27] (fun v27 wc => ∃ (kq : Nat) (x27_2 : Bool), v27 = .bool x27_2 ∧ Aside0 (bureauref07_Check.j0 kq x27_2 a0_0 l0_1 a1_0 a1_1 l1_2 a1_3 l1_4 = some r) ∧ Aside0 (kq ≤ k) ∧ Aside0 (wc.heap[gb358]? = some (.cells #[.string a0_0, (.slice A0_1 l0_1.length c0_1)] 24 (0, 0))) ∧ Aside0 (wc.heap[gb359]? = some (.cells #[.int .i64 a1_0, .string a1_1, (.slice A1_2 l1_2.length c1_2), .string a1_3, (.slice A1_4 l1_4.length c1_4)] 36 (0, 0))) ∧ Aside0 (Below w.heap.size w wc))
 case first =>
  have H := HC3.out
  clear HC3
  replace H := Option.bind_eq_some_iff.mp H
  obtain ⟨t360, A60, H⟩ := H
  replace H : (if t360 = true then ((bureauref07_Good.f k a1_0 a1_1 l1_2 a1_3 l1_4).bind fun t361 => (if t361 = true then (bureauref07_Check.j0 k (decide ((wrap64 ((a0_0.size : Int) - a1_0)) < (a1_1.size : Int))) a0_0 l0_1 a1_0 a1_1 l1_2 a1_3 l1_4) else (bureauref07_Check.j0 k true a0_0 l0_1 a1_0 a1_1 l1_2 a1_3 l1_4))) else (bureauref07_Check.j0 k true a0_0 l0_1 a1_0 a1_1 l1_2 a1_3 l1_4)) = some r := H
  have A6 := aM A60
  clear A60
  by_cases c7 : t360 = true
  ·subst c7
   rw [if_pos rfl] at H
   replace H := Option.bind_eq_some_iff.mp H
   obtain ⟨t361, A80, H⟩ := H
   replace H : (if t361 = true then (bureauref07_Check.j0 k (decide ((wrap64 ((a0_0.size : Int) - a1_0)) < (a1_1.size : Int))) a0_0 l0_1 a1_0 a1_1 l1_2 a1_3 l1_4) else (bureauref07_Check.j0 k true a0_0 l0_1 a1_0 a1_1 l1_2 a1_3 l1_4)) = some r := H
   have A8 := aM A80
   clear A80
   by_cases c9 : t361 = true
   ·subst c9
    rw [if_pos rfl] at H
    have H' := aM H
    clear H
    have hnb10 := NB358_359.out
    have hnc10 := NB359_358.out
    have hcz11_0 := zC BK358.out 0 (.string a0_0)
    have hcz11_1 := zC BK358.out 1 (.slice A0_1 l0_1.length c0_1)
    have hfz11_0 := bF BK358.out 0
    have hfz11_1 := bF BK358.out 1
    go_wp2_with (first | ((with_reducible refine gate_callee (f := 62) rfl ?_); refine goesL_ (some 8) rfl rfl Tryz.func62 (by kernel_rfl) rfl #[.agg #[.string a0_0, .slice A0_1 l0_1.length c0_1]] rfl (by (try simp only [mT, mC, mN]); first | done | rfl | (simp only [lD, lT]; rfl)) ?_; (with_reducible refine (bureauref04_Good.calls k a0_0 _ _ l0_1 true _ ?side1 ?side2 A6.out).mono ?_); (case side1 => repeat (first | exact (cB_ HR0_1.out HB.out) | (with_reducible refine Kd.C_alloc ?_ _) | (with_reducible refine Kd.C_drewN ?_ _) | (with_reducible refine Kd.C_drew ?_))); (case side2 => exact HC0_1.out); rintro e w12 ⟨rfl, hb⟩; refine ⟨_, rfl, ?_⟩; have n0_ := aM (bB (g := gb358) (qy BK358.out) hb); have n1_ := aM (bB (g := gb359) (qy BK359.out) hb); have n2_ := aM (bP (by repeat (first | (with_reducible first | exact HB.out | apply ea | apply en | apply ed | refine es ?_ GE358.out | refine es ?_ GE359.out) | exact HB.out)) hb); clear BK358 BK359 HB; have BK358 := n0_; have BK359 := n1_; have HB := n2_; clear n0_ n1_ n2_; (try clear hb); (try clear hb2); (try clear hk); (try clear hi); have hcz13_0 := zC BK359.out 0 (.int .i64 a1_0); have hcz13_1 := zC BK359.out 1 (.string a1_1); have hcz13_2 := zC BK359.out 2 (.slice A1_2 l1_2.length c1_2); have hcz13_3 := zC BK359.out 3 (.string a1_3); have hcz13_4 := zC BK359.out 4 (.slice A1_4 l1_4.length c1_4); have hfz13_0 := bF BK359.out 0; have hfz13_1 := bF BK359.out 1; have hfz13_2 := bF BK359.out 2; have hfz13_3 := bF BK359.out 3; have hfz13_4 := bF BK359.out 4) | (go_at_call 118; (with_reducible refine (bureauref07_Good.calls k a1_0 a1_1 _ _ l1_2 a1_3 _ _ l1_4 true _ ?side1 ?side2 ?side3 ?side4 A8.out).mono ?_); (case side1 => repeat (first | exact (cB_ HR1_2.out HB.out) | (with_reducible refine Kd.C_alloc ?_ _) | (with_reducible refine Kd.C_drewN ?_ _) | (with_reducible refine Kd.C_drew ?_))); (case side2 => exact HC1_2.out); (case side3 => repeat (first | exact (cB_ HR1_4.out HB.out) | (with_reducible refine Kd.C_alloc ?_ _) | (with_reducible refine Kd.C_drewN ?_ _) | (with_reducible refine Kd.C_drew ?_))); (case side4 => exact HC1_4.out); rintro e w14 ⟨rfl, hb⟩; have n0_ := aM (bB (g := gb358) (qy BK358.out) hb); have n1_ := aM (bB (g := gb359) (qy BK359.out) hb); have n2_ := aM (bP (by repeat (first | (with_reducible first | exact HB.out | apply ea | apply en | apply ed | refine es ?_ GE358.out | refine es ?_ GE359.out) | exact HB.out)) hb); clear BK358 BK359 HB; have BK358 := n0_; have BK359 := n1_; have HB := n2_; clear n0_ n1_ n2_; (try clear hb); (try clear hb2); (try clear hk); (try clear hi); have hcz15_0 := zC BK358.out 0 (.string a0_0); have hcz15_1 := zC BK358.out 1 (.slice A0_1 l0_1.length c0_1); have hfz15_0 := bF BK358.out 0; have hfz15_1 := bF BK358.out 1; have hcz16_0 := zC BK359.out 0 (.int .i64 a1_0); have hcz16_1 := zC BK359.out 1 (.string a1_1); have hcz16_2 := zC BK359.out 2 (.slice A1_2 l1_2.length c1_2); have hcz16_3 := zC BK359.out 3 (.string a1_3); have hcz16_4 := zC BK359.out 4 (.slice A1_4 l1_4.length c1_4); have hfz16_0 := bF BK359.out 0; have hfz16_1 := bF BK359.out 1; have hfz16_2 := bF BK359.out 2; have hfz16_3 := bF BK359.out 3; have hfz16_4 := bF BK359.out 4))
    go_meet
    case rel => exact ⟨_, (decide ((wrap64 ((a0_0.size : Int) - a1_0)) < (a1_1.size : Int))), (by first | rfl | (simp; done) | (simp [*]; done)), H', ⟨by first | omega | exact Nat.le_refl _⟩, ⟨by exact qy BK358.out⟩, ⟨by exact qy BK359.out⟩, ⟨by repeat (first | (with_reducible first | exact HB.out | apply ea | apply en | apply ed | refine es ?_ GE358.out | refine es ?_ GE359.out) | exact HB.out)⟩⟩
   ·replace c9 := Bool.eq_false_iff.mpr c9
    subst c9
    rw [if_neg (show ¬ (false = true) by decide)] at H
    have H' := aM H
    clear H
    have hnb17 := NB358_359.out
    have hnc17 := NB359_358.out
    have hcz18_0 := zC BK358.out 0 (.string a0_0)
    have hcz18_1 := zC BK358.out 1 (.slice A0_1 l0_1.length c0_1)
    have hfz18_0 := bF BK358.out 0
    have hfz18_1 := bF BK358.out 1
    go_wp2_with (first | ((with_reducible refine gate_callee (f := 62) rfl ?_); refine goesL_ (some 8) rfl rfl Tryz.func62 (by kernel_rfl) rfl #[.agg #[.string a0_0, .slice A0_1 l0_1.length c0_1]] rfl (by (try simp only [mT, mC, mN]); first | done | rfl | (simp only [lD, lT]; rfl)) ?_; (with_reducible refine (bureauref04_Good.calls k a0_0 _ _ l0_1 true _ ?side1 ?side2 A6.out).mono ?_); (case side1 => repeat (first | exact (cB_ HR0_1.out HB.out) | (with_reducible refine Kd.C_alloc ?_ _) | (with_reducible refine Kd.C_drewN ?_ _) | (with_reducible refine Kd.C_drew ?_))); (case side2 => exact HC0_1.out); rintro e w19 ⟨rfl, hb⟩; refine ⟨_, rfl, ?_⟩; have n0_ := aM (bB (g := gb358) (qy BK358.out) hb); have n1_ := aM (bB (g := gb359) (qy BK359.out) hb); have n2_ := aM (bP (by repeat (first | (with_reducible first | exact HB.out | apply ea | apply en | apply ed | refine es ?_ GE358.out | refine es ?_ GE359.out) | exact HB.out)) hb); clear BK358 BK359 HB; have BK358 := n0_; have BK359 := n1_; have HB := n2_; clear n0_ n1_ n2_; (try clear hb); (try clear hb2); (try clear hk); (try clear hi); have hcz20_0 := zC BK359.out 0 (.int .i64 a1_0); have hcz20_1 := zC BK359.out 1 (.string a1_1); have hcz20_2 := zC BK359.out 2 (.slice A1_2 l1_2.length c1_2); have hcz20_3 := zC BK359.out 3 (.string a1_3); have hcz20_4 := zC BK359.out 4 (.slice A1_4 l1_4.length c1_4); have hfz20_0 := bF BK359.out 0; have hfz20_1 := bF BK359.out 1; have hfz20_2 := bF BK359.out 2; have hfz20_3 := bF BK359.out 3; have hfz20_4 := bF BK359.out 4) | (go_at_call 118; (with_reducible refine (bureauref07_Good.calls k a1_0 a1_1 _ _ l1_2 a1_3 _ _ l1_4 false _ ?side1 ?side2 ?side3 ?side4 A8.out).mono ?_); (case side1 => repeat (first | exact (cB_ HR1_2.out HB.out) | (with_reducible refine Kd.C_alloc ?_ _) | (with_reducible refine Kd.C_drewN ?_ _) | (with_reducible refine Kd.C_drew ?_))); (case side2 => exact HC1_2.out); (case side3 => repeat (first | exact (cB_ HR1_4.out HB.out) | (with_reducible refine Kd.C_alloc ?_ _) | (with_reducible refine Kd.C_drewN ?_ _) | (with_reducible refine Kd.C_drew ?_))); (case side4 => exact HC1_4.out); rintro e w21 ⟨rfl, hb⟩; have n0_ := aM (bB (g := gb358) (qy BK358.out) hb); have n1_ := aM (bB (g := gb359) (qy BK359.out) hb); have n2_ := aM (bP (by repeat (first | (with_reducible first | exact HB.out | apply ea | apply en | apply ed | refine es ?_ GE358.out | refine es ?_ GE359.out) | exact HB.out)) hb); clear BK358 BK359 HB; have BK358 := n0_; have BK359 := n1_; have HB := n2_; clear n0_ n1_ n2_; (try clear hb); (try clear hb2); (try clear hk); (try clear hi)))
    go_meet
    case rel => exact ⟨_, (true), (by first | rfl | (simp; done) | (simp [*]; done)), H', ⟨by first | omega | exact Nat.le_refl _⟩, ⟨by exact qy BK358.out⟩, ⟨by exact qy BK359.out⟩, ⟨by repeat (first | (with_reducible first | exact HB.out | apply ea | apply en | apply ed | refine es ?_ GE358.out | refine es ?_ GE359.out) | exact HB.out)⟩⟩
  ·replace c7 := Bool.eq_false_iff.mpr c7
   subst c7
   rw [if_neg (show ¬ (false = true) by decide)] at H
   have H' := aM H
   clear H
   have hnb22 := NB358_359.out
   have hnc22 := NB359_358.out
   have hcz23_0 := zC BK358.out 0 (.string a0_0)
   have hcz23_1 := zC BK358.out 1 (.slice A0_1 l0_1.length c0_1)
   have hfz23_0 := bF BK358.out 0
   have hfz23_1 := bF BK358.out 1
   go_wp2_with (first | ((with_reducible refine gate_callee (f := 62) rfl ?_); refine goesL_ (some 8) rfl rfl Tryz.func62 (by kernel_rfl) rfl #[.agg #[.string a0_0, .slice A0_1 l0_1.length c0_1]] rfl (by (try simp only [mT, mC, mN]); first | done | rfl | (simp only [lD, lT]; rfl)) ?_; (with_reducible refine (bureauref04_Good.calls k a0_0 _ _ l0_1 false _ ?side1 ?side2 A6.out).mono ?_); (case side1 => repeat (first | exact (cB_ HR0_1.out HB.out) | (with_reducible refine Kd.C_alloc ?_ _) | (with_reducible refine Kd.C_drewN ?_ _) | (with_reducible refine Kd.C_drew ?_))); (case side2 => exact HC0_1.out); rintro e w24 ⟨rfl, hb⟩; refine ⟨_, rfl, ?_⟩; have n0_ := aM (bB (g := gb358) (qy BK358.out) hb); have n1_ := aM (bB (g := gb359) (qy BK359.out) hb); have n2_ := aM (bP (by repeat (first | (with_reducible first | exact HB.out | apply ea | apply en | apply ed | refine es ?_ GE358.out | refine es ?_ GE359.out) | exact HB.out)) hb); clear BK358 BK359 HB; have BK358 := n0_; have BK359 := n1_; have HB := n2_; clear n0_ n1_ n2_; (try clear hb); (try clear hb2); (try clear hk); (try clear hi)))
   go_meet
   case rel => exact ⟨_, (true), (by first | rfl | (simp; done) | (simp [*]; done)), H', ⟨by first | omega | exact Nat.le_refl _⟩, ⟨by exact qy BK358.out⟩, ⟨by exact qy BK359.out⟩, ⟨by repeat (first | (with_reducible first | exact HB.out | apply ea | apply en | apply ed | refine es ?_ GE358.out | refine es ?_ GE359.out) | exact HB.out)⟩⟩
 case rest =>
  clear HC3
  try clear c1
  try clear c2
  try clear p2
  try clear c6
  try clear p6
  try clear c7
  try clear c9
  try clear c10
  try clear c17
  try clear c22
  try clear hcz11_0
  try clear hcz11_1
  try clear hcz13_0
  try clear hcz13_1
  try clear hcz13_2
  try clear hcz13_3
  try clear hcz13_4
  try clear hcz15_0
  try clear hcz15_1
  try clear hcz16_0
  try clear hcz16_1
  try clear hcz16_2
  try clear hcz16_3
  try clear hcz16_4
  try clear hcz18_0
  try clear hcz18_1
  try clear hcz20_0
  try clear hcz20_1
  try clear hcz20_2
  try clear hcz20_3
  try clear hcz20_4
  try clear hcz23_0
  try clear hcz23_1
  try clear hfz11_0
  try clear hfz11_1
  try clear hfz13_0
  try clear hfz13_1
  try clear hfz13_2
  try clear hfz13_3
  try clear hfz13_4
  try clear hfz15_0
  try clear hfz15_1
  try clear hfz16_0
  try clear hfz16_1
  try clear hfz16_2
  try clear hfz16_3
  try clear hfz16_4
  try clear hfz18_0
  try clear hfz18_1
  try clear hfz20_0
  try clear hfz20_1
  try clear hfz20_2
  try clear hfz20_3
  try clear hfz20_4
  try clear hfz23_0
  try clear hfz23_1
  obtain ⟨kq, x27_2, rfl, HA, HJ2, BK358, BK359, HB⟩ := hcut
  cases kq with
  | zero => exact absurd HA.out (by simp [bureauref07_Check.j0])
  | succ kj2 =>
   have H := HA.out
   clear HA
   simp only [bureauref07_Check.j0] at H
   by_cases c25 : x27_2 = true
   ·subst c25
    rw [if_pos rfl] at H
    obtain rfl := Option.some.inj H
    go_wp2
    go_ret
    exact ⟨ye, by repeat (first | (with_reducible first | exact HB.out | apply ea | apply en | apply ed | refine es ?_ GE358.out | refine es ?_ GE359.out) | exact HB.out)⟩
   ·replace c25 := Bool.eq_false_iff.mpr c25
    subst c25
    rw [if_neg (show ¬ (false = true) by decide)] at H
    replace H := Option.bind_eq_some_iff.mp H
    obtain ⟨⟨t362, t363, t366⟩, A260, H⟩ := H
    replace H : ((bureauref04_Same.f kj2 t362 t363 a1_1 l1_2).bind fun t368 => (if t368 = true then (if (wrap64 ((wrap64 ((a0_0.size : Int) - (a1_1.size : Int))) + (a1_3.size : Int))) > 4096 then (some 3) else (some 0)) else (some 7))) = some r := H
    have A26 := aM A260
    clear A260
    replace H := Option.bind_eq_some_iff.mp H
    obtain ⟨t368, A270, H⟩ := H
    replace H : (if t368 = true then (if (wrap64 ((wrap64 ((a0_0.size : Int) - (a1_1.size : Int))) + (a1_3.size : Int))) > 4096 then (some 3) else (some 0)) else (some 7)) = some r := H
    have A27 := aM A270
    clear A270
    by_cases c28 : t368 = true
    ·subst c28
     rw [if_pos rfl] at H
     by_cases c29 : (wrap64 ((wrap64 ((a0_0.size : Int) - (a1_1.size : Int))) + (a1_3.size : Int))) > 4096
     ·rw [if_pos c29] at H
      have c29b0 : decide (4096 < (wrap64 ((wrap64 ((a0_0.size : Int) - (a1_1.size : Int))) + (a1_3.size : Int)))) = true := decide_eq_true c29
      clear c29
      obtain rfl := Option.some.inj H
      have hnb30 := NB358_359.out
      have hnc30 := NB359_358.out
      have hcz31_0 := zC BK358.out 0 (.string a0_0)
      have hcz31_1 := zC BK358.out 1 (.slice A0_1 l0_1.length c0_1)
      have hfz31_0 := bF BK358.out 0
      have hfz31_1 := bF BK358.out 1
      have hcz32_0 := zC BK359.out 0 (.int .i64 a1_0)
      have hcz32_1 := zC BK359.out 1 (.string a1_1)
      have hcz32_2 := zC BK359.out 2 (.slice A1_2 l1_2.length c1_2)
      have hcz32_3 := zC BK359.out 3 (.string a1_3)
      have hcz32_4 := zC BK359.out 4 (.slice A1_4 l1_4.length c1_4)
      have hfz32_0 := bF BK359.out 0
      have hfz32_1 := bF BK359.out 1
      have hfz32_2 := bF BK359.out 2
      have hfz32_3 := bF BK359.out 3
      have hfz32_4 := bF BK359.out 4
      go_wp2_with (first | ((with_reducible refine gate_callee (f := 83) rfl ?_); refine goesL_ (some 39) rfl rfl Tryz.func83 (by kernel_rfl) rfl #[.agg #[.string a0_0, .slice A0_1 l0_1.length c0_1], .int .i64 a1_0, .int .i64 (wrap64 (a1_0 + (a1_1.size : Int)))] rfl (by (try simp only [mT, mC, mN]); first | done | rfl | (simp only [lD, lT]; rfl)) ?_; (with_reducible refine (bureauref04_Cut.calls kj2 a0_0 _ _ l0_1 a1_0 (wrap64 (a1_0 + (a1_1.size : Int))) t362 t363 t366 _ ?side1 ?side2 A26.out).mono ?_); (case side1 => repeat (first | exact (cB_ HR0_1.out HB.out) | (with_reducible refine Kd.C_alloc ?_ _) | (with_reducible refine Kd.C_drewN ?_ _) | (with_reducible refine Kd.C_drew ?_))); (case side2 => exact HC0_1.out); rintro e w33 ⟨v364, rfl, ho0, hb⟩; refine ⟨_, rfl, ?_⟩; have n0_ := aM (rL ho0 (bZ (by repeat (first | (with_reducible first | exact HB.out | apply ea | apply en | apply ed | refine es ?_ GE358.out | refine es ?_ GE359.out) | exact HB.out)))); have n1_ := aM (bB (g := gb358) (qy BK358.out) hb); have n2_ := aM (bB (g := gb359) (qy BK359.out) hb); have n3_ := aM (bP (by repeat (first | (with_reducible first | exact HB.out | apply ea | apply en | apply ed | refine es ?_ GE358.out | refine es ?_ GE359.out) | exact HB.out)) hb); clear BK358 BK359 HB; have HO365 := n0_; have BK358 := n1_; have BK359 := n2_; have HB := n3_; clear n0_ n1_ n2_ n3_; (try clear hb); (try clear hb2); (try clear hk); (try clear hi); (try clear ho0)) | ((with_reducible refine gate_dst (N := 5) rfl ?_); (try (refine gate_guard (by rfl) ?_; dsimp only)); refine box_event ?hg (N := 5) ?hd (cs := #[.string (⟨#[]⟩ : ByteArray), .slice none 0 0]) (t := 24) ?hr ?_; (case hd | hg => rfl); (case hr => first | (go_simp; done) | (go_simp; rfl)); intro gb367 hg w34 hbox hb; have n0_ := aM (Kd.R_below (ry HO365.out) hb); have n1_ := aM (bB (g := gb358) (qy BK358.out) hb); have n2_ := aM (bB (g := gb359) (qy BK359.out) hb); have n3_ := aM (bP (by repeat (first | (with_reducible first | exact HB.out | apply ea | apply en | apply ed | refine es ?_ GE358.out | refine es ?_ GE359.out) | exact HB.out)) hb); have n4_ := aM (hbox); have n5_ := aM ((by rw [hg]; exact (bZ (by repeat (first | (with_reducible first | exact HB.out | apply ea | apply en | apply ed | refine es ?_ GE358.out | refine es ?_ GE359.out) | exact HB.out))) : w.heap.size ≤ gb367)); have n6_ := n5_; have n7_ := aM ((by rw [hg]; exact Nat.ne_of_lt (blk_lt (g := gb358) (qy BK358.out)) : gb358 ≠ gb367)); have n8_ := aM ((by rw [hg]; exact Nat.ne_of_gt (blk_lt (g := gb358) (qy BK358.out)) : gb367 ≠ gb358)); have n9_ := aM ((by rw [hg]; exact Nat.ne_of_lt (blk_lt (g := gb359) (qy BK359.out)) : gb359 ≠ gb367)); have n10_ := aM ((by rw [hg]; exact Nat.ne_of_gt (blk_lt (g := gb359) (qy BK359.out)) : gb367 ≠ gb359)); clear HO365 BK358 BK359 HB; have HO365 := n0_; have BK358 := n1_; have BK359 := n2_; have HB := n3_; have BK367 := n4_; have GW367 := n5_; have GE367 := n6_; have NB358_367 := n7_; have NB367_358 := n8_; have NB359_367 := n9_; have NB367_359 := n10_; clear n0_ n1_ n2_ n3_ n4_ n5_ n6_ n7_ n8_ n9_ n10_; clear hb hbox hg; have hnb35 := NB367_358.out; have hnc35 := NB358_367.out; have hnb36 := NB367_359.out; have hnc36 := NB359_367.out; have hcz37_0 := zC BK367.out 0 (.string (⟨#[]⟩ : ByteArray)); have hcz37_1 := zC BK367.out 1 (.slice none 0 0); have hfz37_0 := bF BK367.out 0; have hfz37_1 := bF BK367.out 1; obtain ⟨Ao38, co38, eo38⟩ := Kd.R_slice HO365.out; subst eo38; have hcz39_0 := zC BK359.out 0 (.int .i64 a1_0); have hcz39_1 := zC BK359.out 1 (.string a1_1); have hcz39_2 := zC BK359.out 2 (.slice A1_2 l1_2.length c1_2); have hcz39_3 := zC BK359.out 3 (.string a1_3); have hcz39_4 := zC BK359.out 4 (.slice A1_4 l1_4.length c1_4); have hfz39_0 := bF BK359.out 0; have hfz39_1 := bF BK359.out 1; have hfz39_2 := bF BK359.out 2; have hfz39_3 := bF BK359.out 3; have hfz39_4 := bF BK359.out 4) | ((with_reducible refine gate_callee (f := 24) rfl ?_); refine goesL_ (some 45) rfl rfl Tryz.func24 (by kernel_rfl) rfl #[.agg #[.string t362, .slice Ao38 t363.length co38], .agg #[.string a1_1, .slice A1_2 l1_2.length c1_2]] rfl (by (try simp only [mT, mC, mN]); first | done | rfl | (simp only [lD, lT]; rfl)) ?_; (with_reducible refine (bureauref04_Same.calls kj2 t362 _ _ t363 a1_1 _ _ l1_2 true _ ?side1 ?side2 ?side3 ?side4 A27.out).mono ?_); (case side1 => refine (rR (e := 68) (base := w.heap.size) (ok := fun k_ => True) (n := t363.length) (c := co38) ?_).2.2; exact (by (with_reducible repeat (first | apply ra | apply rn | apply rd_)); exact (rM (rF (p := ⟨gb367, 1, none⟩) (rF (p := ⟨gb367, 0, none⟩) (rT HO365.out BK367.out (by decide)) (fun _ hk => hk.2) (.string t362)) (fun _ hk => hk.2) (.slice Ao38 t363.length co38)) (fun _ h_ => h_.1)))); (case side2 => exact (rR HO365.out).2.1); (case side3 => exact cB_ HR1_2.out (by repeat (first | (with_reducible first | exact HB.out | apply ea | apply en | apply ed | refine es ?_ GE358.out | refine es ?_ GE359.out | refine es ?_ GE367.out) | exact HB.out))); (case side4 => exact HC1_2.out); rintro e w40 ⟨rfl, hb⟩; refine ⟨_, rfl, ?_⟩; have n0_ := aM (Kd.R_below (by (with_reducible repeat (first | apply ra | apply rn | apply rd_)); exact (rM (rF (p := ⟨gb367, 1, none⟩) (rF (p := ⟨gb367, 0, none⟩) (rT HO365.out BK367.out (by decide)) (fun _ hk => hk.2) (.string t362)) (fun _ hk => hk.2) (.slice Ao38 t363.length co38)) (fun _ h_ => h_.1))) hb); have n1_ := aM (bB (g := gb358) (o := .cells #[.string a0_0, .slice A0_1 l0_1.length c0_1] 24 (0, 0)) (by (with_reducible repeat (first | apply qn | apply qd | apply qa)); refine bR ?_ NB358_367.out _; (with_reducible repeat (first | apply qn | apply qd | apply qa)); refine bR ?_ NB358_367.out _; exact qy BK358.out) hb); have n2_ := aM (bB (g := gb359) (o := .cells #[.int .i64 a1_0, .string a1_1, .slice A1_2 l1_2.length c1_2, .string a1_3, .slice A1_4 l1_4.length c1_4] 36 (0, 0)) (by (with_reducible repeat (first | apply qn | apply qd | apply qa)); refine bR ?_ NB359_367.out _; (with_reducible repeat (first | apply qn | apply qd | apply qa)); refine bR ?_ NB359_367.out _; exact qy BK359.out) hb); have n3_ := aM (bB (g := gb367) (o := .cells #[.string t362, .slice Ao38 t363.length co38] 24 (0, 0)) (by (with_reducible repeat (first | apply qn | apply qd | apply qa)); refine bU (cs := #[.string t362, .slice none 0 0]) ?_ 1 _ rfl; (with_reducible repeat (first | apply qn | apply qd | apply qa)); refine bU (cs := #[.string (⟨#[]⟩ : ByteArray), .slice none 0 0]) ?_ 0 _ rfl; exact qy BK367.out) hb); have n4_ := aM (bP (by repeat (first | (with_reducible first | exact HB.out | apply ea | apply en | apply ed | refine es ?_ GE358.out | refine es ?_ GE359.out | refine es ?_ GE367.out) | exact HB.out)) hb); clear HO365 BK358 BK359 BK367 HB; have HO365 := n0_; have BK358 := n1_; have BK359 := n2_; have BK367 := n3_; have HB := n4_; clear n0_ n1_ n2_ n3_ n4_; (try clear hb); (try clear hb2); (try clear hk); (try clear hi); have hcz41_0 := zC BK358.out 0 (.string a0_0); have hcz41_1 := zC BK358.out 1 (.slice A0_1 l0_1.length c0_1); have hfz41_0 := bF BK358.out 0; have hfz41_1 := bF BK358.out 1; have hcz42_0 := zC BK359.out 0 (.int .i64 a1_0); have hcz42_1 := zC BK359.out 1 (.string a1_1); have hcz42_2 := zC BK359.out 2 (.slice A1_2 l1_2.length c1_2); have hcz42_3 := zC BK359.out 3 (.string a1_3); have hcz42_4 := zC BK359.out 4 (.slice A1_4 l1_4.length c1_4); have hfz42_0 := bF BK359.out 0; have hfz42_1 := bF BK359.out 1; have hfz42_2 := bF BK359.out 2; have hfz42_3 := bF BK359.out 3; have hfz42_4 := bF BK359.out 4))
      go_ret
      exact ⟨ye, by repeat (first | (with_reducible first | exact HB.out | apply ea | apply en | apply ed | refine es ?_ GE358.out | refine es ?_ GE359.out | refine es ?_ GE367.out) | exact HB.out)⟩
     ·rw [if_neg c29] at H
      have c29b0 : decide (4096 < (wrap64 ((wrap64 ((a0_0.size : Int) - (a1_1.size : Int))) + (a1_3.size : Int)))) = false := decide_eq_false c29
      clear c29
      obtain rfl := Option.some.inj H
      have hnb43 := NB358_359.out
      have hnc43 := NB359_358.out
      have hcz44_0 := zC BK358.out 0 (.string a0_0)
      have hcz44_1 := zC BK358.out 1 (.slice A0_1 l0_1.length c0_1)
      have hfz44_0 := bF BK358.out 0
      have hfz44_1 := bF BK358.out 1
      have hcz45_0 := zC BK359.out 0 (.int .i64 a1_0)
      have hcz45_1 := zC BK359.out 1 (.string a1_1)
      have hcz45_2 := zC BK359.out 2 (.slice A1_2 l1_2.length c1_2)
      have hcz45_3 := zC BK359.out 3 (.string a1_3)
      have hcz45_4 := zC BK359.out 4 (.slice A1_4 l1_4.length c1_4)
      have hfz45_0 := bF BK359.out 0
      have hfz45_1 := bF BK359.out 1
      have hfz45_2 := bF BK359.out 2
      have hfz45_3 := bF BK359.out 3
      have hfz45_4 := bF BK359.out 4
      go_wp2_with (first | ((with_reducible refine gate_callee (f := 83) rfl ?_); refine goesL_ (some 39) rfl rfl Tryz.func83 (by kernel_rfl) rfl #[.agg #[.string a0_0, .slice A0_1 l0_1.length c0_1], .int .i64 a1_0, .int .i64 (wrap64 (a1_0 + (a1_1.size : Int)))] rfl (by (try simp only [mT, mC, mN]); first | done | rfl | (simp only [lD, lT]; rfl)) ?_; (with_reducible refine (bureauref04_Cut.calls kj2 a0_0 _ _ l0_1 a1_0 (wrap64 (a1_0 + (a1_1.size : Int))) t362 t363 t366 _ ?side1 ?side2 A26.out).mono ?_); (case side1 => repeat (first | exact (cB_ HR0_1.out HB.out) | (with_reducible refine Kd.C_alloc ?_ _) | (with_reducible refine Kd.C_drewN ?_ _) | (with_reducible refine Kd.C_drew ?_))); (case side2 => exact HC0_1.out); rintro e w46 ⟨v364, rfl, ho0, hb⟩; refine ⟨_, rfl, ?_⟩; have n0_ := aM (rL ho0 (bZ (by repeat (first | (with_reducible first | exact HB.out | apply ea | apply en | apply ed | refine es ?_ GE358.out | refine es ?_ GE359.out) | exact HB.out)))); have n1_ := aM (bB (g := gb358) (qy BK358.out) hb); have n2_ := aM (bB (g := gb359) (qy BK359.out) hb); have n3_ := aM (bP (by repeat (first | (with_reducible first | exact HB.out | apply ea | apply en | apply ed | refine es ?_ GE358.out | refine es ?_ GE359.out) | exact HB.out)) hb); clear BK358 BK359 HB; have HO365 := n0_; have BK358 := n1_; have BK359 := n2_; have HB := n3_; clear n0_ n1_ n2_ n3_; (try clear hb); (try clear hb2); (try clear hk); (try clear hi); (try clear ho0)) | ((with_reducible refine gate_dst (N := 5) rfl ?_); (try (refine gate_guard (by rfl) ?_; dsimp only)); refine box_event ?hg (N := 5) ?hd (cs := #[.string (⟨#[]⟩ : ByteArray), .slice none 0 0]) (t := 24) ?hr ?_; (case hd | hg => rfl); (case hr => first | (go_simp; done) | (go_simp; rfl)); intro gb367 hg w47 hbox hb; have n0_ := aM (Kd.R_below (ry HO365.out) hb); have n1_ := aM (bB (g := gb358) (qy BK358.out) hb); have n2_ := aM (bB (g := gb359) (qy BK359.out) hb); have n3_ := aM (bP (by repeat (first | (with_reducible first | exact HB.out | apply ea | apply en | apply ed | refine es ?_ GE358.out | refine es ?_ GE359.out) | exact HB.out)) hb); have n4_ := aM (hbox); have n5_ := aM ((by rw [hg]; exact (bZ (by repeat (first | (with_reducible first | exact HB.out | apply ea | apply en | apply ed | refine es ?_ GE358.out | refine es ?_ GE359.out) | exact HB.out))) : w.heap.size ≤ gb367)); have n6_ := n5_; have n7_ := aM ((by rw [hg]; exact Nat.ne_of_lt (blk_lt (g := gb358) (qy BK358.out)) : gb358 ≠ gb367)); have n8_ := aM ((by rw [hg]; exact Nat.ne_of_gt (blk_lt (g := gb358) (qy BK358.out)) : gb367 ≠ gb358)); have n9_ := aM ((by rw [hg]; exact Nat.ne_of_lt (blk_lt (g := gb359) (qy BK359.out)) : gb359 ≠ gb367)); have n10_ := aM ((by rw [hg]; exact Nat.ne_of_gt (blk_lt (g := gb359) (qy BK359.out)) : gb367 ≠ gb359)); clear HO365 BK358 BK359 HB; have HO365 := n0_; have BK358 := n1_; have BK359 := n2_; have HB := n3_; have BK367 := n4_; have GW367 := n5_; have GE367 := n6_; have NB358_367 := n7_; have NB367_358 := n8_; have NB359_367 := n9_; have NB367_359 := n10_; clear n0_ n1_ n2_ n3_ n4_ n5_ n6_ n7_ n8_ n9_ n10_; clear hb hbox hg; have hnb48 := NB367_358.out; have hnc48 := NB358_367.out; have hnb49 := NB367_359.out; have hnc49 := NB359_367.out; have hcz50_0 := zC BK367.out 0 (.string (⟨#[]⟩ : ByteArray)); have hcz50_1 := zC BK367.out 1 (.slice none 0 0); have hfz50_0 := bF BK367.out 0; have hfz50_1 := bF BK367.out 1; obtain ⟨Ao51, co51, eo51⟩ := Kd.R_slice HO365.out; subst eo51; have hcz52_0 := zC BK359.out 0 (.int .i64 a1_0); have hcz52_1 := zC BK359.out 1 (.string a1_1); have hcz52_2 := zC BK359.out 2 (.slice A1_2 l1_2.length c1_2); have hcz52_3 := zC BK359.out 3 (.string a1_3); have hcz52_4 := zC BK359.out 4 (.slice A1_4 l1_4.length c1_4); have hfz52_0 := bF BK359.out 0; have hfz52_1 := bF BK359.out 1; have hfz52_2 := bF BK359.out 2; have hfz52_3 := bF BK359.out 3; have hfz52_4 := bF BK359.out 4) | ((with_reducible refine gate_callee (f := 24) rfl ?_); refine goesL_ (some 45) rfl rfl Tryz.func24 (by kernel_rfl) rfl #[.agg #[.string t362, .slice Ao51 t363.length co51], .agg #[.string a1_1, .slice A1_2 l1_2.length c1_2]] rfl (by (try simp only [mT, mC, mN]); first | done | rfl | (simp only [lD, lT]; rfl)) ?_; (with_reducible refine (bureauref04_Same.calls kj2 t362 _ _ t363 a1_1 _ _ l1_2 true _ ?side1 ?side2 ?side3 ?side4 A27.out).mono ?_); (case side1 => refine (rR (e := 68) (base := w.heap.size) (ok := fun k_ => True) (n := t363.length) (c := co51) ?_).2.2; exact (by (with_reducible repeat (first | apply ra | apply rn | apply rd_)); exact (rM (rF (p := ⟨gb367, 1, none⟩) (rF (p := ⟨gb367, 0, none⟩) (rT HO365.out BK367.out (by decide)) (fun _ hk => hk.2) (.string t362)) (fun _ hk => hk.2) (.slice Ao51 t363.length co51)) (fun _ h_ => h_.1)))); (case side2 => exact (rR HO365.out).2.1); (case side3 => exact cB_ HR1_2.out (by repeat (first | (with_reducible first | exact HB.out | apply ea | apply en | apply ed | refine es ?_ GE358.out | refine es ?_ GE359.out | refine es ?_ GE367.out) | exact HB.out))); (case side4 => exact HC1_2.out); rintro e w53 ⟨rfl, hb⟩; refine ⟨_, rfl, ?_⟩; have n0_ := aM (Kd.R_below (by (with_reducible repeat (first | apply ra | apply rn | apply rd_)); exact (rM (rF (p := ⟨gb367, 1, none⟩) (rF (p := ⟨gb367, 0, none⟩) (rT HO365.out BK367.out (by decide)) (fun _ hk => hk.2) (.string t362)) (fun _ hk => hk.2) (.slice Ao51 t363.length co51)) (fun _ h_ => h_.1))) hb); have n1_ := aM (bB (g := gb358) (o := .cells #[.string a0_0, .slice A0_1 l0_1.length c0_1] 24 (0, 0)) (by (with_reducible repeat (first | apply qn | apply qd | apply qa)); refine bR ?_ NB358_367.out _; (with_reducible repeat (first | apply qn | apply qd | apply qa)); refine bR ?_ NB358_367.out _; exact qy BK358.out) hb); have n2_ := aM (bB (g := gb359) (o := .cells #[.int .i64 a1_0, .string a1_1, .slice A1_2 l1_2.length c1_2, .string a1_3, .slice A1_4 l1_4.length c1_4] 36 (0, 0)) (by (with_reducible repeat (first | apply qn | apply qd | apply qa)); refine bR ?_ NB359_367.out _; (with_reducible repeat (first | apply qn | apply qd | apply qa)); refine bR ?_ NB359_367.out _; exact qy BK359.out) hb); have n3_ := aM (bB (g := gb367) (o := .cells #[.string t362, .slice Ao51 t363.length co51] 24 (0, 0)) (by (with_reducible repeat (first | apply qn | apply qd | apply qa)); refine bU (cs := #[.string t362, .slice none 0 0]) ?_ 1 _ rfl; (with_reducible repeat (first | apply qn | apply qd | apply qa)); refine bU (cs := #[.string (⟨#[]⟩ : ByteArray), .slice none 0 0]) ?_ 0 _ rfl; exact qy BK367.out) hb); have n4_ := aM (bP (by repeat (first | (with_reducible first | exact HB.out | apply ea | apply en | apply ed | refine es ?_ GE358.out | refine es ?_ GE359.out | refine es ?_ GE367.out) | exact HB.out)) hb); clear HO365 BK358 BK359 BK367 HB; have HO365 := n0_; have BK358 := n1_; have BK359 := n2_; have BK367 := n3_; have HB := n4_; clear n0_ n1_ n2_ n3_ n4_; (try clear hb); (try clear hb2); (try clear hk); (try clear hi); have hcz54_0 := zC BK358.out 0 (.string a0_0); have hcz54_1 := zC BK358.out 1 (.slice A0_1 l0_1.length c0_1); have hfz54_0 := bF BK358.out 0; have hfz54_1 := bF BK358.out 1; have hcz55_0 := zC BK359.out 0 (.int .i64 a1_0); have hcz55_1 := zC BK359.out 1 (.string a1_1); have hcz55_2 := zC BK359.out 2 (.slice A1_2 l1_2.length c1_2); have hcz55_3 := zC BK359.out 3 (.string a1_3); have hcz55_4 := zC BK359.out 4 (.slice A1_4 l1_4.length c1_4); have hfz55_0 := bF BK359.out 0; have hfz55_1 := bF BK359.out 1; have hfz55_2 := bF BK359.out 2; have hfz55_3 := bF BK359.out 3; have hfz55_4 := bF BK359.out 4))
      go_ret
      exact ⟨ye, by repeat (first | (with_reducible first | exact HB.out | apply ea | apply en | apply ed | refine es ?_ GE358.out | refine es ?_ GE359.out | refine es ?_ GE367.out) | exact HB.out)⟩
    ·replace c28 := Bool.eq_false_iff.mpr c28
     subst c28
     rw [if_neg (show ¬ (false = true) by decide)] at H
     obtain rfl := Option.some.inj H
     have hnb56 := NB358_359.out
     have hnc56 := NB359_358.out
     have hcz57_0 := zC BK358.out 0 (.string a0_0)
     have hcz57_1 := zC BK358.out 1 (.slice A0_1 l0_1.length c0_1)
     have hfz57_0 := bF BK358.out 0
     have hfz57_1 := bF BK358.out 1
     have hcz58_0 := zC BK359.out 0 (.int .i64 a1_0)
     have hcz58_1 := zC BK359.out 1 (.string a1_1)
     have hcz58_2 := zC BK359.out 2 (.slice A1_2 l1_2.length c1_2)
     have hcz58_3 := zC BK359.out 3 (.string a1_3)
     have hcz58_4 := zC BK359.out 4 (.slice A1_4 l1_4.length c1_4)
     have hfz58_0 := bF BK359.out 0
     have hfz58_1 := bF BK359.out 1
     have hfz58_2 := bF BK359.out 2
     have hfz58_3 := bF BK359.out 3
     have hfz58_4 := bF BK359.out 4
     go_wp2_with (first | ((with_reducible refine gate_callee (f := 83) rfl ?_); refine goesL_ (some 39) rfl rfl Tryz.func83 (by kernel_rfl) rfl #[.agg #[.string a0_0, .slice A0_1 l0_1.length c0_1], .int .i64 a1_0, .int .i64 (wrap64 (a1_0 + (a1_1.size : Int)))] rfl (by (try simp only [mT, mC, mN]); first | done | rfl | (simp only [lD, lT]; rfl)) ?_; (with_reducible refine (bureauref04_Cut.calls kj2 a0_0 _ _ l0_1 a1_0 (wrap64 (a1_0 + (a1_1.size : Int))) t362 t363 t366 _ ?side1 ?side2 A26.out).mono ?_); (case side1 => repeat (first | exact (cB_ HR0_1.out HB.out) | (with_reducible refine Kd.C_alloc ?_ _) | (with_reducible refine Kd.C_drewN ?_ _) | (with_reducible refine Kd.C_drew ?_))); (case side2 => exact HC0_1.out); rintro e w59 ⟨v364, rfl, ho0, hb⟩; refine ⟨_, rfl, ?_⟩; have n0_ := aM (rL ho0 (bZ (by repeat (first | (with_reducible first | exact HB.out | apply ea | apply en | apply ed | refine es ?_ GE358.out | refine es ?_ GE359.out) | exact HB.out)))); have n1_ := aM (bB (g := gb358) (qy BK358.out) hb); have n2_ := aM (bB (g := gb359) (qy BK359.out) hb); have n3_ := aM (bP (by repeat (first | (with_reducible first | exact HB.out | apply ea | apply en | apply ed | refine es ?_ GE358.out | refine es ?_ GE359.out) | exact HB.out)) hb); clear BK358 BK359 HB; have HO365 := n0_; have BK358 := n1_; have BK359 := n2_; have HB := n3_; clear n0_ n1_ n2_ n3_; (try clear hb); (try clear hb2); (try clear hk); (try clear hi); (try clear ho0)) | ((with_reducible refine gate_dst (N := 5) rfl ?_); (try (refine gate_guard (by rfl) ?_; dsimp only)); refine box_event ?hg (N := 5) ?hd (cs := #[.string (⟨#[]⟩ : ByteArray), .slice none 0 0]) (t := 24) ?hr ?_; (case hd | hg => rfl); (case hr => first | (go_simp; done) | (go_simp; rfl)); intro gb367 hg w60 hbox hb; have n0_ := aM (Kd.R_below (ry HO365.out) hb); have n1_ := aM (bB (g := gb358) (qy BK358.out) hb); have n2_ := aM (bB (g := gb359) (qy BK359.out) hb); have n3_ := aM (bP (by repeat (first | (with_reducible first | exact HB.out | apply ea | apply en | apply ed | refine es ?_ GE358.out | refine es ?_ GE359.out) | exact HB.out)) hb); have n4_ := aM (hbox); have n5_ := aM ((by rw [hg]; exact (bZ (by repeat (first | (with_reducible first | exact HB.out | apply ea | apply en | apply ed | refine es ?_ GE358.out | refine es ?_ GE359.out) | exact HB.out))) : w.heap.size ≤ gb367)); have n6_ := n5_; have n7_ := aM ((by rw [hg]; exact Nat.ne_of_lt (blk_lt (g := gb358) (qy BK358.out)) : gb358 ≠ gb367)); have n8_ := aM ((by rw [hg]; exact Nat.ne_of_gt (blk_lt (g := gb358) (qy BK358.out)) : gb367 ≠ gb358)); have n9_ := aM ((by rw [hg]; exact Nat.ne_of_lt (blk_lt (g := gb359) (qy BK359.out)) : gb359 ≠ gb367)); have n10_ := aM ((by rw [hg]; exact Nat.ne_of_gt (blk_lt (g := gb359) (qy BK359.out)) : gb367 ≠ gb359)); clear HO365 BK358 BK359 HB; have HO365 := n0_; have BK358 := n1_; have BK359 := n2_; have HB := n3_; have BK367 := n4_; have GW367 := n5_; have GE367 := n6_; have NB358_367 := n7_; have NB367_358 := n8_; have NB359_367 := n9_; have NB367_359 := n10_; clear n0_ n1_ n2_ n3_ n4_ n5_ n6_ n7_ n8_ n9_ n10_; clear hb hbox hg; have hnb61 := NB367_358.out; have hnc61 := NB358_367.out; have hnb62 := NB367_359.out; have hnc62 := NB359_367.out; have hcz63_0 := zC BK367.out 0 (.string (⟨#[]⟩ : ByteArray)); have hcz63_1 := zC BK367.out 1 (.slice none 0 0); have hfz63_0 := bF BK367.out 0; have hfz63_1 := bF BK367.out 1; obtain ⟨Ao64, co64, eo64⟩ := Kd.R_slice HO365.out; subst eo64; have hcz65_0 := zC BK359.out 0 (.int .i64 a1_0); have hcz65_1 := zC BK359.out 1 (.string a1_1); have hcz65_2 := zC BK359.out 2 (.slice A1_2 l1_2.length c1_2); have hcz65_3 := zC BK359.out 3 (.string a1_3); have hcz65_4 := zC BK359.out 4 (.slice A1_4 l1_4.length c1_4); have hfz65_0 := bF BK359.out 0; have hfz65_1 := bF BK359.out 1; have hfz65_2 := bF BK359.out 2; have hfz65_3 := bF BK359.out 3; have hfz65_4 := bF BK359.out 4) | ((with_reducible refine gate_callee (f := 24) rfl ?_); refine goesL_ (some 45) rfl rfl Tryz.func24 (by kernel_rfl) rfl #[.agg #[.string t362, .slice Ao64 t363.length co64], .agg #[.string a1_1, .slice A1_2 l1_2.length c1_2]] rfl (by (try simp only [mT, mC, mN]); first | done | rfl | (simp only [lD, lT]; rfl)) ?_; (with_reducible refine (bureauref04_Same.calls kj2 t362 _ _ t363 a1_1 _ _ l1_2 false _ ?side1 ?side2 ?side3 ?side4 A27.out).mono ?_); (case side1 => refine (rR (e := 68) (base := w.heap.size) (ok := fun k_ => True) (n := t363.length) (c := co64) ?_).2.2; exact (by (with_reducible repeat (first | apply ra | apply rn | apply rd_)); exact (rM (rF (p := ⟨gb367, 1, none⟩) (rF (p := ⟨gb367, 0, none⟩) (rT HO365.out BK367.out (by decide)) (fun _ hk => hk.2) (.string t362)) (fun _ hk => hk.2) (.slice Ao64 t363.length co64)) (fun _ h_ => h_.1)))); (case side2 => exact (rR HO365.out).2.1); (case side3 => exact cB_ HR1_2.out (by repeat (first | (with_reducible first | exact HB.out | apply ea | apply en | apply ed | refine es ?_ GE358.out | refine es ?_ GE359.out | refine es ?_ GE367.out) | exact HB.out))); (case side4 => exact HC1_2.out); rintro e w66 ⟨rfl, hb⟩; refine ⟨_, rfl, ?_⟩; have n0_ := aM (Kd.R_below (by (with_reducible repeat (first | apply ra | apply rn | apply rd_)); exact (rM (rF (p := ⟨gb367, 1, none⟩) (rF (p := ⟨gb367, 0, none⟩) (rT HO365.out BK367.out (by decide)) (fun _ hk => hk.2) (.string t362)) (fun _ hk => hk.2) (.slice Ao64 t363.length co64)) (fun _ h_ => h_.1))) hb); have n1_ := aM (bB (g := gb358) (o := .cells #[.string a0_0, .slice A0_1 l0_1.length c0_1] 24 (0, 0)) (by (with_reducible repeat (first | apply qn | apply qd | apply qa)); refine bR ?_ NB358_367.out _; (with_reducible repeat (first | apply qn | apply qd | apply qa)); refine bR ?_ NB358_367.out _; exact qy BK358.out) hb); have n2_ := aM (bB (g := gb359) (o := .cells #[.int .i64 a1_0, .string a1_1, .slice A1_2 l1_2.length c1_2, .string a1_3, .slice A1_4 l1_4.length c1_4] 36 (0, 0)) (by (with_reducible repeat (first | apply qn | apply qd | apply qa)); refine bR ?_ NB359_367.out _; (with_reducible repeat (first | apply qn | apply qd | apply qa)); refine bR ?_ NB359_367.out _; exact qy BK359.out) hb); have n3_ := aM (bB (g := gb367) (o := .cells #[.string t362, .slice Ao64 t363.length co64] 24 (0, 0)) (by (with_reducible repeat (first | apply qn | apply qd | apply qa)); refine bU (cs := #[.string t362, .slice none 0 0]) ?_ 1 _ rfl; (with_reducible repeat (first | apply qn | apply qd | apply qa)); refine bU (cs := #[.string (⟨#[]⟩ : ByteArray), .slice none 0 0]) ?_ 0 _ rfl; exact qy BK367.out) hb); have n4_ := aM (bP (by repeat (first | (with_reducible first | exact HB.out | apply ea | apply en | apply ed | refine es ?_ GE358.out | refine es ?_ GE359.out | refine es ?_ GE367.out) | exact HB.out)) hb); clear HO365 BK358 BK359 BK367 HB; have HO365 := n0_; have BK358 := n1_; have BK359 := n2_; have BK367 := n3_; have HB := n4_; clear n0_ n1_ n2_ n3_ n4_; (try clear hb); (try clear hb2); (try clear hk); (try clear hi)))
     go_ret
     exact ⟨ye, by repeat (first | (with_reducible first | exact HB.out | apply ea | apply en | apply ed | refine es ?_ GE358.out | refine es ?_ GE359.out | refine es ?_ GE367.out) | exact HB.out)⟩
def bureauref07_Apply.f (k : Nat) (a0_0 : ByteArray) (l0_1 : List (S68)) (a1_0 : Int) (a1_1 : ByteArray) (l1_2 : List (S68)) (a1_3 : ByteArray) (l1_4 : List (S68)) : Option (ByteArray × (List (S68)) × Int) := (bureauref07_Check.f k a0_0 l0_1 a1_0 a1_1 l1_2 a1_3 l1_4).bind fun t398 => (if t398 = 0 then ((bureauref04_Splice.f k a0_0 l0_1 a1_0 (wrap64 (a1_0 + (a1_1.size : Int))) a1_3 l1_4).bind fun bt399 => (some (bt399.1, bt399.2.1, bt399.2.2))) else (some ((⟨#[]⟩ : ByteArray), ([] : List (S68)), t398)))
set_option maxHeartbeats 8000000 in
set_option maxRecDepth 100000 in
theorem bureauref07_Apply.calls (k : Nat) (a0_0 : ByteArray) (A0_1 : Option Addr) (c0_1 : Nat) (l0_1 : List (S68)) (a1_0 : Int) (a1_1 : ByteArray) (A1_2 : Option Addr) (c1_2 : Nat) (l1_2 : List (S68)) (a1_3 : ByteArray) (A1_4 : Option Addr) (c1_4 : Nat) (l1_4 : List (S68)) (r1 : ByteArray) (r2 : List (S68)) (r3 : Int) (w : World) (hr0_1 : Kd.C k68 w A0_1 l0_1.length l0_1) (hc0_1 : l0_1.length ≤ c0_1) (hr1_2 : Kd.C k68 w A1_2 l1_2.length l1_2) (hc1_2 : l1_2.length ≤ c1_2) (hr1_4 : Kd.C k68 w A1_4 l1_4.length l1_4) (hc1_4 : l1_4.length ≤ c1_4) (h : bureauref07_Apply.f k a0_0 l0_1 a1_0 a1_1 l1_2 a1_3 l1_4 = some (r1, r2, r3)) :
  Calls Tryz.prog 22 #[.agg #[.string a0_0, .slice A0_1 l0_1.length c0_1], .agg #[.int .i64 a1_0, .string a1_1, .slice A1_2 l1_2.length c1_2, .string a1_3, .slice A1_4 l1_4.length c1_4]] w fun e w' => ∃ v1_ : Value, e = .returned (.tuple #[.agg #[.string r1, v1_], .int .i64 r3]) ∧ Kd.R k68 68 w' w.heap.size (fun _ => True) v1_ r2 ∧ Below w.heap.size w w' := by
 have hu24 := Tryz.underlying24
 have hu36 := Tryz.underlying36
 have HR0_1 := aM hr0_1
 have HC0_1 := aM hc0_1
 clear hr0_1 hc0_1
 have HR1_2 := aM hr1_2
 have HC1_2 := aM hc1_2
 clear hr1_2 hc1_2
 have HR1_4 := aM hr1_4
 have HC1_4 := aM hc1_4
 clear hr1_4 hc1_4
 have HB := aM (Below.refl w.heap.size w)
 have H : ((bureauref07_Check.f k a0_0 l0_1 a1_0 a1_1 l1_2 a1_3 l1_4).bind fun t398 => (if t398 = 0 then ((bureauref04_Splice.f k a0_0 l0_1 a1_0 (wrap64 (a1_0 + (a1_1.size : Int))) a1_3 l1_4).bind fun bt399 => (some (bt399.1, bt399.2.1, bt399.2.2))) else (some ((⟨#[]⟩ : ByteArray), ([] : List (S68)), t398)))) = some (r1, r2, r3) := h
 clear h
 replace H := Option.bind_eq_some_iff.mp H
 obtain ⟨t398, A30, H⟩ := H
 replace H : (if t398 = 0 then ((bureauref04_Splice.f k a0_0 l0_1 a1_0 (wrap64 (a1_0 + (a1_1.size : Int))) a1_3 l1_4).bind fun bt399 => (some (bt399.1, bt399.2.1, bt399.2.2))) else (some ((⟨#[]⟩ : ByteArray), ([] : List (S68)), t398))) = some (r1, r2, r3) := H
 have A3 := aM A30
 clear A30
 by_cases c4 : t398 = 0
 ·rw [if_pos c4] at H
  have c4b0 : (t398 == 0) = true := beq_iff_eq.mpr c4
  have c4b1 : (t398 != 0) = false := bne_eq_false_iff_eq.mpr c4
  clear c4
  replace H := Option.bind_eq_some_iff.mp H
  obtain ⟨⟨t399, t400, t403⟩, A50, H⟩ := H
  replace H : (some (t399, t400, t403)) = some (r1, r2, r3) := H
  have A5 := aM A50
  clear A50
  simp only [Option.some.injEq, Prod.mk.injEq] at H
  obtain ⟨rfl, rfl, rfl⟩ := H
  go_enter Tryz.func22, Tryz.ntmps22
  go_wp2_with (first | (refine yX 2 #[.string a0_0, .slice A0_1 l0_1.length c0_1] 24 (fun gb395 hg w6 hbox hb => ?_); have BK395 := hbox; have GW395 := yG w hg; have GE395 := GW395; replace HB := yP w hb; clear hb hbox hg) | (refine yX 3 #[.int .i64 a1_0, .string a1_1, .slice A1_2 l1_2.length c1_2, .string a1_3, .slice A1_4 l1_4.length c1_4] 36 (fun gb396 hg w7 hbox hb => ?_); have BK396 := hbox; have GW396 := yG w hg; have GE396 := GW396; have NB395_396 := yN hg BK395; have NB396_395 := yM hg BK395; replace BK395 := yB hb BK395; replace HB := yP w hb; clear hb hbox hg) | (refine yX 4 #[.string (⟨#[]⟩ : ByteArray), .slice none 0 0] 24 (fun gb397 hg w8 hbox hb => ?_); have BK397 := hbox; have GW397 := yG w hg; have GE397 := GW397; have NB395_397 := yN hg BK395; have NB397_395 := yM hg BK395; have NB396_397 := yN hg BK396; have NB397_396 := yM hg BK396; replace BK395 := yB hb BK395; replace BK396 := yB hb BK396; replace HB := yP w hb; clear hb hbox hg; have hnb9 := NB395_396.out; have hnc9 := NB396_395.out; have hnb10 := NB395_397.out; have hnc10 := NB397_395.out; have hcz11_0 := zC BK395.out 0 (.string a0_0); have hcz11_1 := zC BK395.out 1 (.slice A0_1 l0_1.length c0_1); have hfz11_0 := bF BK395.out 0; have hfz11_1 := bF BK395.out 1; have hnb12 := NB396_397.out; have hnc12 := NB397_396.out; have hcz13_0 := zC BK396.out 0 (.int .i64 a1_0); have hcz13_1 := zC BK396.out 1 (.string a1_1); have hcz13_2 := zC BK396.out 2 (.slice A1_2 l1_2.length c1_2); have hcz13_3 := zC BK396.out 3 (.string a1_3); have hcz13_4 := zC BK396.out 4 (.slice A1_4 l1_4.length c1_4); have hfz13_0 := bF BK396.out 0; have hfz13_1 := bF BK396.out 1; have hfz13_2 := bF BK396.out 2; have hfz13_3 := bF BK396.out 3; have hfz13_4 := bF BK396.out 4) | (refine yC (some 9) Tryz.func65 #[.agg #[.string a0_0, .slice A0_1 l0_1.length c0_1], .agg #[.int .i64 a1_0, .string a1_1, .slice A1_2 l1_2.length c1_2, .string a1_3, .slice A1_4 l1_4.length c1_4]] ?_; (with_reducible refine (bureauref07_Check.calls k a0_0 _ _ l0_1 a1_0 a1_1 _ _ l1_2 a1_3 _ _ l1_4 t398 _ ?side1 ?side2 ?side3 ?side4 ?side5 ?side6 A3.out).mono ?_); (case side1 => exact yR HR0_1); (case side2 => exact HC0_1.out); (case side3 => exact yR HR1_2); (case side4 => exact HC1_2.out); (case side5 => exact yR HR1_4); (case side6 => exact HC1_4.out); rintro e w14 ⟨rfl, hb⟩; refine ⟨_, rfl, ?_⟩; replace BK395 := yB hb BK395; replace BK396 := yB hb BK396; replace BK397 := yB hb BK397; replace HB := yP w hb; clear hb; have hcz15_0 := zC BK395.out 0 (.string a0_0); have hcz15_1 := zC BK395.out 1 (.slice A0_1 l0_1.length c0_1); have hfz15_0 := bF BK395.out 0; have hfz15_1 := bF BK395.out 1; have hcz16_0 := zC BK396.out 0 (.int .i64 a1_0); have hcz16_1 := zC BK396.out 1 (.string a1_1); have hcz16_2 := zC BK396.out 2 (.slice A1_2 l1_2.length c1_2); have hcz16_3 := zC BK396.out 3 (.string a1_3); have hcz16_4 := zC BK396.out 4 (.slice A1_4 l1_4.length c1_4); have hfz16_0 := bF BK396.out 0; have hfz16_1 := bF BK396.out 1; have hfz16_2 := bF BK396.out 2; have hfz16_3 := bF BK396.out 3; have hfz16_4 := bF BK396.out 4) | (refine yC (some 26) Tryz.func66 #[.agg #[.string a0_0, .slice A0_1 l0_1.length c0_1], .int .i64 a1_0, .int .i64 (wrap64 (a1_0 + (a1_1.size : Int))), .agg #[.string a1_3, .slice A1_4 l1_4.length c1_4]] ?_; (with_reducible refine (bureauref04_Splice.calls k a0_0 _ _ l0_1 a1_0 (wrap64 (a1_0 + (a1_1.size : Int))) a1_3 _ _ l1_4 t399 t400 t403 _ ?side1 ?side2 ?side3 ?side4 A5.out).mono ?_); (case side1 => exact yR HR0_1); (case side2 => exact HC0_1.out); (case side3 => exact yR HR1_4); (case side4 => exact HC1_4.out); rintro e w17 ⟨v401, rfl, ho0, hb⟩; refine ⟨_, rfl, ?_⟩; have HO402 := aM (rL ho0 (bZ (yH))); replace BK395 := yB hb BK395; replace BK396 := yB hb BK396; replace BK397 := yB hb BK397; replace HB := yP w hb; clear hb; (try clear ho0); have hcz18_0 := zC BK397.out 0 (.string (⟨#[]⟩ : ByteArray)); have hcz18_1 := zC BK397.out 1 (.slice none 0 0); have hfz18_0 := bF BK397.out 0; have hfz18_1 := bF BK397.out 1; obtain ⟨Ao19, co19, eo19⟩ := Kd.R_slice HO402.out; subst eo19))
  refine bodyPost_ret (results_ct rfl _ _ gb397 24 #[.string t399, .slice Ao19 t400.length co19] (0, 0) _ rfl (by (with_reducible repeat (first | apply qn | apply qd | apply qa)); refine bU (cs := #[.string t399, .slice none 0 0]) ?_ 1 _ rfl; (with_reducible repeat (first | apply qn | apply qd | apply qa)); refine bU (cs := #[.string (⟨#[]⟩ : ByteArray), .slice none 0 0]) ?_ 0 _ rfl; exact qy BK397.out) Tryz.underlying24 rfl (by kernel_rfl)) rfl ?_
  exact ⟨_, ye, by (with_reducible repeat (first | apply ra | apply rn | apply rd_)); exact rM (rF (p := ⟨gb397, 1, none⟩) (rF (p := ⟨gb397, 0, none⟩) (rT HO402.out BK397.out (by decide)) (fun _ hk => hk.2) (.string t399)) (fun _ hk => hk.2) (.slice Ao19 t400.length co19)) (fun _ hk => trivial), yH⟩
 ·rw [if_neg c4] at H
  have c4b0 : (t398 == 0) = false := beq_eq_false_iff_ne.mpr c4
  have c4b1 : (t398 != 0) = true := bne_iff_ne.mpr c4
  simp only [Option.some.injEq, Prod.mk.injEq] at H
  obtain ⟨rfl, rfl, rfl⟩ := H
  go_enter Tryz.func22, Tryz.ntmps22
  go_wp2_with (first | (refine yX 2 #[.string a0_0, .slice A0_1 l0_1.length c0_1] 24 (fun gb395 hg w20 hbox hb => ?_); have BK395 := hbox; have GW395 := yG w hg; have GE395 := GW395; replace HB := yP w hb; clear hb hbox hg) | (refine yX 3 #[.int .i64 a1_0, .string a1_1, .slice A1_2 l1_2.length c1_2, .string a1_3, .slice A1_4 l1_4.length c1_4] 36 (fun gb396 hg w21 hbox hb => ?_); have BK396 := hbox; have GW396 := yG w hg; have GE396 := GW396; have NB395_396 := yN hg BK395; have NB396_395 := yM hg BK395; replace BK395 := yB hb BK395; replace HB := yP w hb; clear hb hbox hg) | (refine yX 4 #[.string (⟨#[]⟩ : ByteArray), .slice none 0 0] 24 (fun gb397 hg w22 hbox hb => ?_); have BK397 := hbox; have GW397 := yG w hg; have GE397 := GW397; have NB395_397 := yN hg BK395; have NB397_395 := yM hg BK395; have NB396_397 := yN hg BK396; have NB397_396 := yM hg BK396; replace BK395 := yB hb BK395; replace BK396 := yB hb BK396; replace HB := yP w hb; clear hb hbox hg; have hnb23 := NB395_396.out; have hnc23 := NB396_395.out; have hnb24 := NB395_397.out; have hnc24 := NB397_395.out; have hcz25_0 := zC BK395.out 0 (.string a0_0); have hcz25_1 := zC BK395.out 1 (.slice A0_1 l0_1.length c0_1); have hfz25_0 := bF BK395.out 0; have hfz25_1 := bF BK395.out 1; have hnb26 := NB396_397.out; have hnc26 := NB397_396.out; have hcz27_0 := zC BK396.out 0 (.int .i64 a1_0); have hcz27_1 := zC BK396.out 1 (.string a1_1); have hcz27_2 := zC BK396.out 2 (.slice A1_2 l1_2.length c1_2); have hcz27_3 := zC BK396.out 3 (.string a1_3); have hcz27_4 := zC BK396.out 4 (.slice A1_4 l1_4.length c1_4); have hfz27_0 := bF BK396.out 0; have hfz27_1 := bF BK396.out 1; have hfz27_2 := bF BK396.out 2; have hfz27_3 := bF BK396.out 3; have hfz27_4 := bF BK396.out 4) | (refine yC (some 9) Tryz.func65 #[.agg #[.string a0_0, .slice A0_1 l0_1.length c0_1], .agg #[.int .i64 a1_0, .string a1_1, .slice A1_2 l1_2.length c1_2, .string a1_3, .slice A1_4 l1_4.length c1_4]] ?_; (with_reducible refine (bureauref07_Check.calls k a0_0 _ _ l0_1 a1_0 a1_1 _ _ l1_2 a1_3 _ _ l1_4 t398 _ ?side1 ?side2 ?side3 ?side4 ?side5 ?side6 A3.out).mono ?_); (case side1 => exact yR HR0_1); (case side2 => exact HC0_1.out); (case side3 => exact yR HR1_2); (case side4 => exact HC1_2.out); (case side5 => exact yR HR1_4); (case side6 => exact HC1_4.out); rintro e w28 ⟨rfl, hb⟩; refine ⟨_, rfl, ?_⟩; replace BK395 := yB hb BK395; replace BK396 := yB hb BK396; replace BK397 := yB hb BK397; replace HB := yP w hb; clear hb; have hcz29_0 := zC BK397.out 0 (.string (⟨#[]⟩ : ByteArray)); have hcz29_1 := zC BK397.out 1 (.slice none 0 0); have hfz29_0 := bF BK397.out 0; have hfz29_1 := bF BK397.out 1))
  refine bodyPost_ret (results_ct rfl _ _ gb397 24 #[.string (⟨#[]⟩ : ByteArray), .slice none 0 0] (0, 0) _ rfl (by (with_reducible repeat (first | apply qn | apply qd | apply qa)); refine bU (cs := #[.string (⟨#[]⟩ : ByteArray), .slice none 0 0]) ?_ 1 _ rfl; (with_reducible repeat (first | apply qn | apply qd | apply qa)); refine bU (cs := #[.string (⟨#[]⟩ : ByteArray), .slice none 0 0]) ?_ 0 _ rfl; exact qy BK397.out) Tryz.underlying24 rfl (by kernel_rfl)) rfl ?_
  exact ⟨_, ye, yn, yH⟩
def bureauref14_made.f (k : Nat) (a0 : ByteArray) (a1 : Int) : Option (ByteArray × (List (S68))) := (bureauref04_Make.f k a0 a1).bind fun bt533 => (some (bt533.1, bt533.2.1))
set_option maxHeartbeats 8000000 in
set_option maxRecDepth 100000 in
theorem bureauref14_made.calls (k : Nat) (a0 : ByteArray) (a1 : Int) (r1 : ByteArray) (r2 : List (S68)) (w : World) (h : bureauref14_made.f k a0 a1 = some (r1, r2)) :
  Calls Tryz.prog 58 #[.string a0, .int .u64 a1] w fun e w' => ∃ v1_ : Value, e = .returned (.agg #[.string r1, v1_]) ∧ Kd.R k68 68 w' w.heap.size (fun _ => True) v1_ r2 ∧ Below w.heap.size w w' := by
 have hu24 := Tryz.underlying24
 have HB := aM (Below.refl w.heap.size w)
 have H : ((bureauref04_Make.f k a0 a1).bind fun bt533 => (some (bt533.1, bt533.2.1))) = some (r1, r2) := h
 clear h
 replace H := Option.bind_eq_some_iff.mp H
 obtain ⟨⟨t533, t534, t537⟩, A30, H⟩ := H
 replace H : (some (t533, t534)) = some (r1, r2) := H
 have A3 := aM A30
 clear A30
 simp only [Option.some.injEq, Prod.mk.injEq] at H
 obtain ⟨rfl, rfl⟩ := H
 go_enter Tryz.func58, Tryz.ntmps58
 go_wp2_with (first | (refine yX 4 #[.string (⟨#[]⟩ : ByteArray), .slice none 0 0] 24 (fun gb532 hg w4 hbox hb => ?_); have BK532 := hbox; have GW532 := yG w hg; have GE532 := GW532; replace HB := yP w hb; clear hb hbox hg) | (refine yC (some 10) Tryz.func112 #[.string a0, .int .u64 a1] ?_; (with_reducible refine (bureauref04_Make.calls k a0 a1 t533 t534 t537 _ A3.out).mono ?_); rintro e w5 ⟨v535, rfl, ho0, hb⟩; refine ⟨_, rfl, ?_⟩; have HO536 := aM (rL ho0 (bZ (yH))); replace BK532 := yB hb BK532; replace HB := yP w hb; clear hb; (try clear ho0)) | (refine yX 5 #[.string (⟨#[]⟩ : ByteArray), .slice none 0 0] 24 (fun gb538 hg w6 hbox hb => ?_); have BK538 := hbox; have GW538 := yG w hg; have GE538 := GW538; have NB532_538 := yN hg BK532; have NB538_532 := yM hg BK532; replace HO536 := aM (Kd.R_below (ry HO536.out) hb); replace BK532 := yB hb BK532; replace HB := yP w hb; clear hb hbox hg; have hnb7 := NB538_532.out; have hnc7 := NB532_538.out; have hcz8_0 := zC BK538.out 0 (.string (⟨#[]⟩ : ByteArray)); have hcz8_1 := zC BK538.out 1 (.slice none 0 0); have hfz8_0 := bF BK538.out 0; have hfz8_1 := bF BK538.out 1; obtain ⟨Ao9, co9, eo9⟩ := Kd.R_slice HO536.out; subst eo9; have hcz10_0 := zC BK532.out 0 (.string (⟨#[]⟩ : ByteArray)); have hcz10_1 := zC BK532.out 1 (.slice none 0 0); have hfz10_0 := bF BK532.out 0; have hfz10_1 := bF BK532.out 1))
 refine bodyPost_ret (results_cell_row rfl _ _ gb532 24 #[.string t533, .slice Ao9 t534.length co9] (0, 0) _ rfl (by (with_reducible repeat (first | apply qn | apply qd | apply qa)); refine bU (cs := #[.string t533, .slice none 0 0]) ?_ 1 _ rfl; (with_reducible repeat (first | apply qn | apply qd | apply qa)); refine bU (cs := #[.string (⟨#[]⟩ : ByteArray), .slice none 0 0]) ?_ 0 _ rfl; (with_reducible repeat (first | apply qn | apply qd | apply qa)); refine bR ?_ NB532_538.out _; (with_reducible repeat (first | apply qn | apply qd | apply qa)); refine bR ?_ NB532_538.out _; exact qy BK532.out) Tryz.underlying24 rfl (by kernel_rfl)) rfl ?_
 exact ⟨_, ye, by (with_reducible repeat (first | apply ra | apply rn | apply rd_)); exact rM (rF (p := ⟨gb532, 1, none⟩) (rF (p := ⟨gb532, 0, none⟩) (rF (p := ⟨gb538, 1, none⟩) (rF (p := ⟨gb538, 0, none⟩) (rT (rT HO536.out BK538.out (by decide)) BK532.out (by decide)) (fun _ hk => hk.1.2) (.string t533)) (fun _ hk => hk.1.2) (.slice Ao9 t534.length co9)) (fun _ hk => hk.2) (.string t533)) (fun _ hk => hk.2) (.slice Ao9 t534.length co9)) (fun _ hk => trivial), yH⟩
end Go.Proofs.YtjkfkiebhgkolaaGreatDoor.PB
end

section
namespace Go.Proofs.YtjkfkiebhgkolaaGreatDoor.PB
open Go.RowKit Go.Proofs.YtjkfkiebhgkolaaGreatDoorW.PrintWords
set_option linter.unusedVariables false
set_option linter.unusedSimpArgs false
abbrev Tt := S24
theorem catT_good {s x : ByteArray} {B : List Int} {m : List S68} (hB : B.length = s.size) (h4 : s.size ≤ 4096) (hx : goodT x m = true) :
  catT s (pack B) x m = if s.size + x.size ≤ 4096 then (s ++ x, pack (B ++ bytes m), 0) else (eB, [], 3) := by
 obtain ⟨_, _, x3, x4, _⟩ := goodT_facts hx
 split
 ·rename_i h
  have := catT_pack s x B (bytes m) hB x3 h
  rwa [← good_pack_bytes hx] at this
 ·unfold catT spliceT
  rw [if_pos (withinT_iff.2 ⟨goodT_pack hB h4, by omega, by omega, by omega⟩), if_pos hx, if_pos (by omega)]
theorem made_good (s : ByteArray) (y : Int) (h : s.size ≤ 4096) : makeS s y = (s, pack (List.replicate s.size y), 0) := if_neg (by omega)
theorem make_goodT (s : ByteArray) (y : Int) (h : s.size ≤ 4096) : goodT s (pack (List.replicate s.size y)) = true := goodT_pack (by simp) h
def mkT (s : ByteArray) (y : Int) : Tt := ⟨(makeS s y).1, (makeS s y).2.1⟩
theorem rmade_ev (s : ByteArray) (y : Int) : Ev (fun k => bureauref14_made.f k s y) ((mkT s y).f0, (mkT s y).f1) :=
 Ev.bind (rmake_ev s y) (Ev.now _)
theorem pack_mem {B : List Int} {r : S68} (h : r ∈ pack B) : r.f0 ∈ B := by
 have h1 := nrm_pos (pack_nrm B) r h
 have h2 : r.f0 ∈ bytes (pack B) := List.mem_flatMap.2 ⟨r, h, List.mem_replicate.2 ⟨by omega, rfl⟩⟩
 rwa [pack_bytes] at h2
abbrev lab (l : List S68) : Prop := ∀ r ∈ l, 0 ≤ r.f0 ∧ r.f0 < 18446744073709551616
theorem lab_pack {B : List Int} (h : ∀ x ∈ B, 0 ≤ x ∧ x < 18446744073709551616) : lab (pack B) := fun r hr => h _ (pack_mem hr)
theorem lab_bytes {l : List S68} (h : lab l) : ∀ x ∈ bytes l, 0 ≤ x ∧ x < 18446744073709551616 := fun x hx => by obtain ⟨r, hr, rfl⟩ := bytes_mem hx; exact h r hr
theorem lab_nil : lab [] := fun r hr => by cases hr
theorem lab_splice {s : ByteArray} {l : List S68} (h : lab l) {x : ByteArray} {m : List S68} (hm : lab m) (a b : Int) : lab (spliceT s l a b x m).2.1 := by
 unfold spliceT
 split
 ·split
  ·split
   ·exact lab_nil
   ·refine lab_pack (fun y hy => ?_)
    rcases List.mem_append.1 hy with hy | hy
    ·rcases List.mem_append.1 hy with hy | hy
     ·exact lab_bytes h y (List.mem_of_mem_take hy)
     ·exact lab_bytes hm y hy
    ·exact lab_bytes h y (List.mem_of_mem_drop hy)
  ·exact lab_nil
 ·exact lab_nil
theorem lab_make (s : ByteArray) {y : Int} (hy : 0 ≤ y ∧ y < 18446744073709551616) : lab (makeS s y).2.1 := by
 unfold makeS
 split
 ·exact lab_nil
 ·exact lab_pack (fun x hx => by obtain ⟨_, rfl⟩ := List.mem_replicate.1 hx; exact hy)
theorem rapply_of {s : ByteArray} {l : List S68} (hl : l.length ≤ big) {a b : Int} {x : ByteArray} {m : List S68} (hm : m.length ≤ big) (h : (ofS s l a b x m).2.2.2.2.2 = 0) :
  Ev (fun k => bureauref07_Apply.f k s l (ofS s l a b x m).1 (ofS s l a b x m).2.1 (ofS s l a b x m).2.2.1 (ofS s l a b x m).2.2.2.1 (ofS s l a b x m).2.2.2.2.1) (spliceT s l a b x m) ∧
  applyT s l (ofS s l a b x m).1 (ofS s l a b x m).2.1 (ofS s l a b x m).2.2.1 (ofS s l a b x m).2.2.2.1 (ofS s l a b x m).2.2.2.2.1 = spliceT s l a b x m := by
 have h0 : (spliceT s l a b x m).2.2 = 0 := by
  unfold ofS at h
  split at h
  ·assumption
  ·exact h
 have he : ofS s l a b x m = (a, (cutS s l a b).1, (cutS s l a b).2.1, x, m, 0) := if_pos h0
 rw [he]
 dsimp only
 obtain ⟨hw, hg, hb, hc⟩ := splice_cut h0
 obtain ⟨w1, w2, w3, w4⟩ := withinT_iff.1 hw
 obtain ⟨_, _, s3, s4, _⟩ := goodT_facts w1
 obtain ⟨_, _, x3, x4, _⟩ := goodT_facts hg
 have hcut : cutS s l a b = (s.extract a.toNat b.toNat, pack (((bytes l).take b.toNat).drop a.toNat), 0) := if_pos hw
 have hos : ((cutS s l a b).1.size : Int) = b - a := by
  rw [hcut]
  show ((s.extract a.toNat b.toNat).size : Int) = _
  rw [ByteArray.size_extract]
  omega
 have hog : goodT (cutS s l a b).1 (cutS s l a b).2.1 = true := by
  have : (cutS s l a b).1.size = b.toNat - a.toNat := by omega
  rw [hcut] at this ⊢
  exact goodT_pack (by rw [List.length_drop, List.length_take, this]; omega) (by rw [this]; omega)
 have hab : a + ((cutS s l a b).1.size : Int) = b := by omega
 have hge : goodE a (cutS s l a b).1 (cutS s l a b).2.1 x m = true := goodE_iff.2 ⟨hog, hg, w2, by omega⟩
 constructor
 ·unfold bureauref07_Apply.f bureauref07_Check.f
  refine Ev.bind (a := (0 : Int)) ?_ ?_
  ·refine Ev.bind (rgoodT_ev _ _ hl) (Ev.pos w1 (Ev.bind (rgoodE_ev _ _ _ _ _ (len_big (cutS_len _ _ _ _)) hm) (Ev.pos hge ?_)))
   refine Ev.step (fun k => by simp only [bureauref07_Check.j0]; rfl) ?_
   rw [show wrap64 ((s.size : Int) - a) = (s.size : Int) - a by unfold wrap64; omega]
   refine Ev.neg (by rw [decide_eq_true_eq]; omega) ?_
   rw [show wrap64 (a + ((cutS s l a b).1.size : Int)) = b by rw [hab]; unfold wrap64; omega]
   refine Ev.bind (rcut_ev _ _ hl _ _) (Ev.bind (rsame4_ev _ _ _ _ (len_big (cutS_len _ _ _ _))) (Ev.pos (sameT_self _ _) ?_))
   refine Ev.neg ?_ (Ev.now _)
   rw [show wrap64 ((s.size : Int) - ((cutS s l a b).1.size : Int)) = (s.size : Int) - (b - a) by rw [hos]; unfold wrap64; omega]
   rw [show wrap64 ((s.size : Int) - (b - a) + (x.size : Int)) = (s.size : Int) - (b - a) + (x.size : Int) by unfold wrap64; omega]
   exact hb
  ·refine Ev.pos rfl ?_
   rw [show wrap64 (a + ((cutS s l a b).1.size : Int)) = b by rw [hab]; unfold wrap64; omega]
   exact Ev.bind (rsplice4_ev _ _ hl _ _ _ _ hm) (Ev.now _)
 ·unfold applyT
  rw [hab, if_pos hge, if_pos hc, if_pos (sameT_self _ _)]
theorem writeD_d0 (y : Int) (x : ByteArray) : writeD y d0 x = makeS x y := by
 unfold writeD
 by_cases h : (x.size : Int) > 4096
 ·rw [show makeS x y = (⟨#[]⟩, [], 3) from if_pos h]
  rfl
 ·have hm : makeS x y = (x, pack (List.replicate x.size y), 0) := if_neg h
  have h1 := catT_good (s := eB) (B := []) rfl (Nat.zero_le _) (make_goodT x y (by omega))
  rw [hm]
  show (if (0 : Int) = 0 then catT eB [] x (pack (List.replicate x.size y)) else _) = _
  rw [if_pos rfl, show ([] : List S68) = pack [] from rfl, h1, if_pos (by rw [show eB.size = 0 from rfl]; omega), List.nil_append, pack_bytes, show eB ++ x = x from ByteArray.empty_append]
end Go.Proofs.YtjkfkiebhgkolaaGreatDoor.PB
end

section
namespace Go.Proofs.YtjkfkiebhgkolaaGreatDoor.PB
open Go.RowKit Go.Proofs.YtjkfkiebhgkolaaGreatDoorW.PrintWords Go.Proofs.YtjkfkiebhgkolaaGreatDoorW.PrintLast Go.Proofs.YtjkfkiebhgkolaaGreatDoorW.PrintMore
set_option maxRecDepth 100000
set_option linter.unusedVariables false
set_option linter.unusedSimpArgs false
theorem last_ok {v : ByteArray} (hv : v.size ≤ 100000) {n : Nat} (h : n < (ends v).length) (w : World) (hn : NumOk w) :
  Calls Tryz.prog 128 #[.string v, .int .i64 (lineFrom v n), .int .i64 (lineTo v n)] w fun e w' => e = .returned (.int .i64 (lastIn v n)) ∧ Below w.heap.size w w' := by
 have hr := line_range v n h
 by_cases he : lineFrom v n = lineTo v n
 ·have d1 : decide ((lineFrom v n : Int) = (lineTo v n : Int)) = true := decide_eq_true (by omega)
  have d2 : ((lineFrom v n : Int) == (lineTo v n : Int)) = true := by rw [he]; exact beq_self_eq_true _
  have hl : lastIn v n = lineFrom v n := if_pos he
  rw [hl]
  go_enter Tryz.func128, Tryz.ntmps128
  go_wp2
  go_ret
  exact ⟨rfl, Below.refl _ _⟩
 ·have d1 : decide ((lineFrom v n : Int) = (lineTo v n : Int)) = false := decide_eq_false (by omega)
  have d2 : ((lineFrom v n : Int) == (lineTo v n : Int)) = false := by
   rw [Bool.eq_false_iff]
   intro e
   exact he (by have := eq_of_beq e; omega)
  have hl : lastIn v n = alignN v (lineTo v n - 1) := if_neg he
  have hw : (lineTo v n : Int) - 1 = ((lineTo v n - 1 : Nat) : Int) := by omega
  obtain ⟨k, hk⟩ := (galign_ev v (by omega) ((lineTo v n - 1 : Nat) : Int)).rounds
  have hs : alignS v ((lineTo v n - 1 : Nat) : Int) = alignN v (lineTo v n - 1) := by
   unfold alignS
   rw [Int.toNat_natCast, if_pos (by omega)]
  rw [hs, ← hw] at hk
  rw [hl]
  have HK := aM hk
  have HN := aM hn
  clear hk hn hw
  go_enter Tryz.func128, Tryz.ntmps128
  go_wp2_with (first
   | ((with_reducible refine gate_callee (f := 43) rfl ?_); refine goesL_ (some 14) rfl rfl Tryz.func43 (by kernel_rfl) rfl #[.string v, .int .i64 ((lineTo v n : Int) - 1)] rfl (by (try simp only [List.map_toArray, List.map_cons, List.map_nil]); first | done | rfl) ?_; (with_reducible refine (glyph_Align.calls k v _ _ _ HN.out HK.out).mono ?_); rintro r1 w1 ⟨rfl, hb⟩; refine ⟨_, rfl, ?_⟩; have HB := aM hb; clear hb)
   )
  go_ret
  exact ⟨rfl, HB.out⟩
def line_First.f (a0 : ByteArray) (a1 : Int) : Option Int := if a0.size ≤ 100000 then some (firstS a0 a1 : Int) else none
set_option maxHeartbeats 4000000 in
theorem line_First.calls (a0 : ByteArray) (a1 : Int) (r : Int) (w : World) (hMX : NumOk w) (h : line_First.f a0 a1 = some r) :
  Calls Tryz.prog 77 #[.string a0, .int .i64 a1] w fun e w' => e = .returned (.int .i64 r) ∧ Below w.heap.size w w' := by
 unfold line_First.f at h
 split at h
 case isFalse => cases h
 rename_i hv
 injection h with h
 subst h
 obtain ⟨ki, hki⟩ := (into_ev a0 hv a1).rounds
 have hc := clipN_lt a0 a1
 have hfS : firstS a0 a1 = firstIn a0 (clipN a0 a1) := rfl
 rw [hfS]
 generalize clipN a0 a1 = c at hki hc ⊢
 have hr := line_range a0 c hc
 have HKI := aM hki
 have HMX := aM hMX
 have HC := aM hc
 have HRF := aM (reach_from a0 c hc)
 have HEB := aM (show lineTo a0 c = a0.size ∨ bN a0 (lineTo a0 c) = 10 from by
  by_cases h : lineTo a0 c < a0.size
  ·exact .inr (end_byte a0 c hc h)
  ·left; omega)
 have HLA := aM (last_ok hv hc)
 have HFI := aM (show firstIn a0 c = ((walkL a0 (lineTo a0 c) a0.size (lineFrom a0 c)).find? (nonBlank a0)).getD (lastIn a0 c) from rfl)
 have HR := aM hr
 have HV := aM hv
 have hu := Tryz.underlying9
 clear hki hc hMX hfS hv
 have p1 : (0 ≤ (lineFrom a0 c : Int)) = True := eq_true (by omega)
 have p2 : ((lineFrom a0 c : Int) ≤ (lineTo a0 c : Int)) = True := eq_true (by omega)
 have p3 : ((lineTo a0 c : Int) ≤ (a0.size : Int)) = True := eq_true (by omega)
 have p4 : (lineFrom a0 c ≤ lineTo a0 c) = True := eq_true (by omega)
 have p5 : (lineTo a0 c ≤ a0.size) = True := eq_true (by omega)
 clear hr
 go_enter Tryz.func77, Tryz.ntmps77
 go_wp2_with (first
  | ((with_reducible refine gate_callee (f := 126) rfl ?_); refine goesL_ (some 12) rfl rfl Tryz.func126 (by kernel_rfl) rfl #[.string a0, .int .i64 a1] rfl (by (try simp only [List.map_toArray, List.map_cons, List.map_nil]); first | done | rfl) ?_; (with_reducible refine (line_into.calls ki a0 a1 _ _ _ HKI.out).mono ?_); rintro r1 w1 ⟨rfl, hb⟩; refine ⟨_, rfl, ?_⟩; have HB1 := aM hb; clear hb)
  )
 have HN1 := aM (HMX.out.below HB1.out)
 obtain ⟨it, hit⟩ : ∃ it, it = w1.heap.size := ⟨_, rfl⟩
 obtain ⟨u, hu0⟩ : ∃ u, u = a0.extract (lineFrom a0 c) (lineTo a0 c) := ⟨_, rfl⟩
 have HIT := aM hit
 have HU := aM hu0
 have HUS := aM (show u.size = lineTo a0 c - lineFrom a0 c from by have := HR.out; rw [hu0, ByteArray.size_extract]; omega)
 have HI1 := aM (show (w1.iter (a0.extract (lineFrom a0 c) (lineTo a0 c)) 0).heap[it]? = some (.stringIter u 0) from by rw [hit, hu0]; exact World.iter_heap _ _ _)
 have HB2 := aM (show Below w.heap.size w (w1.iter (a0.extract (lineFrom a0 c) (lineTo a0 c)) 0) from below_alloc HB1.out _)
 have HSZ := aM (show w.heap.size ≤ it from by rw [hit]; exact HB1.out.size)
 try simp only [Int.toNat_natCast]
 rw [← hit]
 generalize World.iter w1 _ 0 = w2 at HI1 HB2 ⊢
 clear hit hu0
 go_loopg [7] (lineTo a0 c - lineFrom a0 c) (fun kq v7 w' => ∃ (q f : Nat), Aside0 (q + kq = lineTo a0 c - lineFrom a0 c) ∧ Aside0 (lineTo a0 c ≤ lineFrom a0 c + q + f) ∧ Aside0 (Reach a0 (lineFrom a0 c + q)) ∧ Aside0 (firstIn a0 c = ((walkL a0 (lineTo a0 c) f (lineFrom a0 c + q)).find? (nonBlank a0)).getD (lastIn a0 c)) ∧ Aside0 (w'.heap[it]? = some (.stringIter u q)) ∧ Aside0 (Below w.heap.size w w'))
 case atStart => exact ⟨0, a0.size, ⟨by omega⟩, ⟨by have := HR.out; omega⟩, HRF, HFI, HI1, HB2⟩
 case round =>
  clear HI1 HB2 HFI HRF
  obtain ⟨q, f, HQ, HF, HRF, HFI, HI, HB⟩ := hrel
  by_cases hq : lineFrom a0 c + q < lineTo a0 c
  case neg =>
   have hnx : ∀ ty, (Instr.next (.pointer (some ⟨it, 0, none⟩)) true ty).run Tryz.prog wr = .ok (.tuple #[.bool false]) wr := fun ty => Lib.run_next_end_at wr it u q ty HI.out (by have := HUS.out; omega)
   have HNB := aM (HMX.out.below (HB.out.mono (Nat.le_refl _)))
   have HFL := aM (show firstIn a0 c = lastIn a0 c from by
    rw [HFI.out]
    cases f with
    | zero => rfl
    | succ f => unfold walkL; rw [if_neg hq]; rfl)
   go_wp2_with (first
    | ((with_reducible refine gate_callee (f := 128) rfl ?_); refine goesL_ (some 33) rfl rfl Tryz.func128 (by kernel_rfl) rfl #[.string a0, .int .i64 (lineFrom a0 c), .int .i64 (lineTo a0 c)] rfl (by (try simp only [List.map_toArray, List.map_cons, List.map_nil]); first | done | rfl) ?_; (with_reducible refine (HLA.out _ HNB.out).mono ?_); rintro r3 w3 ⟨rfl, hb⟩; refine ⟨_, rfl, ?_⟩; have HB3 := aM (HB.out.trans (hb.mono HB.out.size)); clear hb)
    )
   go_ret
   exact ⟨by rw [HFL.out]; rfl, HB3.out⟩
  case pos =>
  have hsd : Utf8.decode u q = Utf8.decode a0 (lineFrom a0 c + q) := by rw [HU.out]; exact sub_dec a0 _ _ q HR.out.2 HEB.out hq
  have hnx : ∀ ty, (Instr.next (.pointer (some ⟨it, 0, none⟩)) true ty).run Tryz.prog wr = .ok (.tuple #[.bool true, .int .i64 (q : Int), .int .i32 (sgR a0 (lineFrom a0 c + q) : Int)]) (wr.iterAt it u (q + sgW a0 (lineFrom a0 c + q))) := fun ty => by
   have := Lib.run_next_any_at (P := Tryz.prog) wr it u q ty HI.out (by have := HUS.out; omega)
   rw [hsd] at this
   exact this
  have HW := aM (sg_width a0 (lineFrom a0 c + q) (by have := HR.out; omega))
  have HI2 := aM (Lib.iterAt_heap wr it u q (q + sgW a0 (lineFrom a0 c + q)) HI.out)
  have HB2 := aM (Lib.below_iterAt HB.out HSZ.out u (q + sgW a0 (lineFrom a0 c + q)))
  have HQT := aM hq
  obtain ⟨kc, hkc⟩ := (gclass_ev (sgR a0 (lineFrom a0 c + q) : Int)).rounds
  have HKC := aM hkc
  have HLW := aM (show lineFrom a0 c + q + sgW a0 (lineFrom a0 c + q) ≤ lineTo a0 c from by
   rcases HEB.out with h | h
   ·rw [h]; exact HW.out.2.2
   ·by_cases h2 : lineTo a0 c < a0.size
    ·exact reach_apart HRF.out (reach_to a0 c HC.out h2) hq
    ·have := HW.out.2.2; have := HR.out; omega)
  cases f with
  | zero => exact absurd HF.out (by omega)
  | succ f =>
  cases gk with
  | zero => exact absurd HQ.out (by omega)
  | succ k1 =>
  have HFS := aM (show firstIn a0 c = (((lineFrom a0 c + q) :: walkL a0 (lineTo a0 c) f (lineFrom a0 c + q + sgW a0 (lineFrom a0 c + q))).find? (nonBlank a0)).getD (lastIn a0 c) from by
   rw [HFI.out, show walkL a0 (lineTo a0 c) (f + 1) (lineFrom a0 c + q) = (if lineFrom a0 c + q < lineTo a0 c then (lineFrom a0 c + q) :: walkL a0 (lineTo a0 c) f (lineFrom a0 c + q + sgW a0 (lineFrom a0 c + q)) else []) from rfl, if_pos hq])
  clear hsd hkc hq HFI
  have e1 : wrap64 ((lineFrom a0 c : Int) + (q : Int)) = ((lineFrom a0 c + q : Nat) : Int) := wnat (by omega) (by have := HQT.out; have := HR.out; have := HV.out; omega)
  by_cases hb : classS (sgR a0 (lineFrom a0 c + q) : Int) = 0
  case neg =>
   have d1 : (classS (sgR a0 (lineFrom a0 c + q) : Int) != 0) = true := by simpa using hb
   have d2 : decide (classS (sgR a0 (lineFrom a0 c + q) : Int) = 0) = false := decide_eq_false hb
   have HFR := aM (show firstIn a0 c = lineFrom a0 c + q from by
    rw [HFS.out, List.find?_cons_of_pos (by simp [nonBlank, hb])]
    rfl)
   go_wp2_with (first
    | ((with_reducible refine gate_callee (f := 127) rfl ?_); refine goesL_ (some 25) rfl rfl Tryz.func127 (by kernel_rfl) rfl #[.int .i32 (sgR a0 (lineFrom a0 c + q) : Int)] rfl (by (try simp only [List.map_toArray, List.map_cons, List.map_nil]); first | done | rfl) ?_; (with_reducible refine (glyph_Class.calls kc _ _ _ HKC.out).mono ?_); rintro r3 w3 ⟨rfl, nd, rfl⟩; refine ⟨_, rfl, ?_⟩; have HB3 := aM (pw_below_drewN HB2.out nd))
    )
   go_ret
   exact ⟨by rw [HFR.out, ← e1]; rfl, HB3.out⟩
  case pos =>
   have d1 : (classS (sgR a0 (lineFrom a0 c + q) : Int) != 0) = false := by simpa using hb
   have d2 : decide (classS (sgR a0 (lineFrom a0 c + q) : Int) = 0) = true := decide_eq_true hb
   have HFR := aM (show firstIn a0 c = ((walkL a0 (lineTo a0 c) f (lineFrom a0 c + (q + sgW a0 (lineFrom a0 c + q)))).find? (nonBlank a0)).getD (lastIn a0 c) from by
    rw [HFS.out, List.find?_cons_of_neg (by simp [nonBlank, hb]), Nat.add_assoc])
   go_wp2_with (first
    | ((with_reducible refine gate_callee (f := 127) rfl ?_); refine goesL_ (some 25) rfl rfl Tryz.func127 (by kernel_rfl) rfl #[.int .i32 (sgR a0 (lineFrom a0 c + q) : Int)] rfl (by (try simp only [List.map_toArray, List.map_cons, List.map_nil]); first | done | rfl) ?_; (with_reducible refine (glyph_Class.calls kc _ _ _ HKC.out).mono ?_); rintro r3 w3 ⟨rfl, nd, rfl⟩; refine ⟨_, rfl, ?_⟩; have HB3 := aM (pw_below_drewN HB2.out nd))
    )
   go_roundg (k1 + 1 - sgW a0 (lineFrom a0 c + q))
   case measure => have := HW.out; omega
   case rel =>
    refine ⟨q + sgW a0 (lineFrom a0 c + q), f, ⟨by have := HQ.out; have := HLW.out; omega⟩, ⟨by have := HF.out; have := HW.out; omega⟩, ⟨by have := HRF.out.step (by have := HQT.out; have := HR.out; omega); rw [Nat.add_assoc] at this; exact this⟩, HFR, ⟨?_⟩, HB3⟩
    exact blk_drewN HI2.out nd
end Go.Proofs.YtjkfkiebhgkolaaGreatDoor.PB
end

section
namespace Go.Proofs.YtjkfkiebhgkolaaGreatDoor.PB
open Go.RowKit Go.Maps Go.Proofs.YtjkfkiebhgkolaaGreatDoorW.PrintWords Go.Proofs.YtjkfkiebhgkolaaGreatDoorW.PrintLast Go.Proofs.YtjkfkiebhgkolaaGreatDoorW.PrintMore
set_option maxRecDepth 100000
set_option linter.unusedVariables false
set_option linter.unusedSimpArgs false
section
variable {P : Program} {ops : Array Oper} {Q : Exit → Act → World → Prop} {md : Region.Mode} {S : World → Prop} {ds : List Nat} {oi : Oper} {v : Value} {fuel : Nat} {l : Array Bool} {a : Act} {w : World} {a' : Act}
theorem sv (i n : Nat) (l' : Array Bool) (h : wpAnyLast P md ops Q S ds fuel l' a' w) (hi : ops[i]? = some oi := by rfl) (hN : oi.dst = some n := by rfl) (hc : anyB md ops l l' i = true := by kernel_rfl) (hQ : ∀ (c : List PanicEntry) (a : Act) (w : World), Q (.panic c) (a.put oi.dst v) w → Q (.panic c) a w := by exact fun _ _ _ h => h) (hy : Yields P ops oi v a := by exact Or.inl ⟨by rfl, fun w' => by go_simp; with_reducible rfl⟩) (ha : a.put (some n) v = a' := by simp only [Act.put, List.setIfInBounds_toArray, List.set_cons_zero, List.set_cons_succ, i64_w, i32_w]; rfl) : wpAnyLast P md ops Q S ds (fuel + 1) l a w := pure_ l' hi hN hc hQ hy ha h
theorem st (i n : Nat) (l' : Array Bool) (hS : S w) (h : wpAnyLast P md ops Q S ds fuel l' a' w) (hi : ops[i]? = some oi := by rfl) (hN : oi.dst = some n := by rfl) (hc : takeB md ops ds l l' i = true := by kernel_rfl) (hQ : ∀ (c : List PanicEntry) (a : Act) (w : World), Q (.panic c) (a.put oi.dst v) w → Q (.panic c) a w := by exact fun _ _ _ h => h) (hy : YieldsIf P ops S oi v a := by exact Or.inl ⟨by rfl, fun w' hs => by (repeat obtain ⟨_, hs⟩ := hs); go_simp; with_reducible rfl⟩) (ha : a.put (some n) v = a' := by simp only [Act.put, List.setIfInBounds_toArray, List.set_cons_zero, List.set_cons_succ, i64_w, i32_w]; rfl) : wpAnyLast P md ops Q S ds (fuel + 1) l a w := take_ l' hi hN hc hQ hy hS ha h
end
abbrev tT := true
abbrev tF := false
structure Turn (B : Nat) (S : Nat → Prop) (w W : World) : Prop where
 bel : Below B w W
 kept : Kept w W S
namespace Turn
variable {B : Nat} {S S' : Nat → Prop} {w W W2 : World}
theorem refl (B : Nat) (S : Nat → Prop) (w : World) : Turn B S w w := ⟨Below.refl _ _, Kept.refl _ _⟩
theorem trans (h : Turn B S w W) (k : Turn B S W W2) : Turn B S w W2 := ⟨h.bel.trans k.bel, h.kept.then_ k.kept (fun _ hk => .inl hk)⟩
theorem size (h : Turn B S w W) : w.heap.size ≤ W.heap.size := h.kept.1
theorem below (h : Turn B S w W) (hb : Below W.heap.size W W2) (hB : B ≤ W.heap.size) : Turn B S w W2 := ⟨h.bel.trans (hb.mono hB), h.kept.below hb⟩
theorem of_below (hb : Below w.heap.size w W) (hB : B ≤ w.heap.size) : Turn B S w W := ⟨hb.mono hB, Kept.of_below hb _⟩
theorem set (h : Turn B S w W) {p : Addr} (hp : S p.block ∨ w.heap.size ≤ p.block) (hB : B ≤ p.block) (u : Value) : Turn B S w (W.setCell p u) := ⟨h.bel.setCell hB u, h.kept.setCell hp u⟩
theorem blk {g : Nat} {o : Obj} (h : Turn B S w W) (hb : w.heap[g]? = some o) (hn : ¬ S g) : W.heap[g]? = some o := blk_kept hb h.kept hn
end Turn
structure DeskAt (w0 : World) (g : Nat) (A : Option Addr) (c : Nat) (ov : Value) (w : World) (s : ByteArray) (l : List S68) (v : ByteArray) (y : Int) (d : TX) : Prop where
 hg : w.heap[g]? = some (.cells #[.string s, .slice A l.length c, .string v, .int .u64 y, .string d.1, ov, .int .i64 d.2.2] 85 (0, 0))
 h0 : Kd.C k68 w0 A l.length l
 hc : l.length ≤ c
 hb : Below w0.heap.size w0 w
 hR : Kd.R k68 68 w w0.heap.size (fun _ => True) ov d.2.1
 hB : w0.heap.size ≤ g
 hn : d.2.1.length ≤ 20000
 hl : l.length ≤ big
section
variable {w0 : World} {g : Nat} {A : Option Addr} {c : Nat} {ov : Value} {w W : World} {s : ByteArray} {l : List S68} {v : ByteArray} {y : Int} {d : TX}
theorem DeskAt.below (h : DeskAt w0 g A c ov w s l v y d) (hb : Below w.heap.size w W) : DeskAt w0 g A c ov W s l v y d :=
 ⟨bB h.hg hb, h.h0, h.hc, bP h.hb hb, Kd.R_below h.hR hb, h.hB, h.hn, h.hl⟩
theorem DeskAt.hC (h : DeskAt w0 g A c ov w s l v y d) : Kd.C k68 w A l.length l := cB_ h.h0 h.hb
theorem DeskAt.size (h : DeskAt w0 g A c ov w s l v y d) : w0.heap.size ≤ w.heap.size := h.hb.size
instance told_desk : Told w W (DeskAt w0 g A c ov w s l v y d) (DeskAt w0 g A c ov W s l v y d) := ⟨fun hb h => h.below hb⟩
theorem tU {S : Nat → Prop} {wb : World} (hb : Below w.heap.size w W) (hD : Aside0 (DeskAt w0 g A c ov w s l v y d)) (h : Aside0 (Turn w0.heap.size S wb w)) : Aside0 (Turn w0.heap.size S wb W) := ⟨h.out.below hb hD.out.size⟩
theorem gT {B : Nat} {S : Nat → Prop} {wb : World} {k : Nat} (hg : k = W.heap.size) (h : Aside0 (Turn B S wb W)) : Aside0 (wb.heap.size ≤ k) := ⟨hg ▸ h.out.size⟩
theorem addD_len {d : TX} {x : ByteArray} {m : List S68} (h : d.2.1.length ≤ 20000) : (addD d x m).2.1.length ≤ 20000 := by
 unfold addD
 split
 ·exact catT_len _ _ _ _
 ·exact h
theorem DeskAt.setE (h : DeskAt w0 g A c ov w s l v y d) (n : Int) : DeskAt w0 g A c ov (w.setCell ⟨g, 6, none⟩ (.int .i64 n)) s l v y (d.1, d.2.1, n) :=
 ⟨bU h.hg 6 _ rfl, h.h0, h.hc, h.hb.setCell h.hB _, Kd.R_set h.hR h.hg (by decide) _ _, h.hB, h.hn, h.hl⟩
theorem DeskAt.apart (h : DeskAt w0 g A c ov w s l v y d) {gb t : Nat} {cs : Array Value} (hb : w.heap[gb]? = some (.cells cs t (0, 0))) (ht : t ≠ 85) : gb ≠ g := fun e => by
 subst e
 rw [h.hg] at hb
 cases hb
 exact ht rfl
theorem DeskAt.other (h : DeskAt w0 g A c ov w s l v y d) {gb t : Nat} {cs : Array Value} (hb : w.heap[gb]? = some (.cells cs t (0, 0))) (ht : t ≠ 85) (ht' : ∀ q, q ∈ 68 :: k68.E → q ≠ t) (hB : w0.heap.size ≤ gb) (j : Nat) (u : Value) :
  DeskAt w0 g A c ov (w.setCell ⟨gb, j, none⟩ u) s l v y d :=
 ⟨(Below.heap_setCell w ⟨gb, j, none⟩ u g (fun e => by subst e; rw [h.hg] at hb; cases hb; exact ht rfl)).trans h.hg, h.h0, h.hc, h.hb.setCell hB _, Kd.R_set h.hR hb ht' _ _, h.hB, h.hn, h.hl⟩
theorem dB {gb t : Nat} {cs : Array Value} (hT : Turn w0.heap.size (fun k => k = g) w W) (hD : Aside0 (DeskAt w0 g A c ov w s l v y d)) (h : Aside0 (w.heap[gb]? = some (.cells cs t (0, 0)))) (ht : t ≠ 85 := by decide) : Aside0 (W.heap[gb]? = some (.cells cs t (0, 0))) := ⟨hT.blk h.out (hD.out.apart h.out ht)⟩
theorem dT {B : Nat} {S : Nat → Prop} {wb : World} (hT : Turn B S w W) (h : Aside0 (Turn B S wb w)) : Aside0 (Turn B S wb W) := ⟨h.out.trans hT⟩
theorem dW {S : Nat → Prop} {wb : World} (hT : Turn w0.heap.size S w W) (hl : Aside0 (wb.heap.size ≤ w0.heap.size)) (h : Aside0 (Below wb.heap.size wb w)) : Aside0 (Below wb.heap.size wb W) := ⟨h.out.trans (hT.bel.mono hl.out)⟩
theorem DeskAt.others {gb t : Nat} (ht : t ≠ 85) (ht' : ∀ q, q ∈ 68 :: k68.E → q ≠ t) (hB : w0.heap.size ≤ gb) :
  ∀ (vs : List Value) (n : Nat) (w : World) (cs : Array Value), w.heap[gb]? = some (.cells cs t (0, 0)) → DeskAt w0 g A c ov w s l v y d → DeskAt w0 g A c ov (putL w gb n vs) s l v y d
 | [], _, _, _, _, h => h
 | u :: vs, n, w, cs, hb, h => DeskAt.others ht ht' hB vs (n + 1) _ _ (bU hb n u rfl) (h.other hb ht ht' hB n u)
theorem sD {gb t n : Nat} {vs : List Value} {cs : Array Value} {wb : World} (hP : Put w gb n vs W) (hx : Aside0 (w.heap[gb]? = some (.cells cs t (0, 0)))) (hS : Aside0 (w0.heap.size ≤ wb.heap.size)) (hG : Aside0 (wb.heap.size ≤ gb)) (h : Aside0 (DeskAt w0 g A c ov w s l v y d)) (ht : t ≠ 85 := by decide) (ht' : ∀ q, q ∈ 68 :: k68.E → q ≠ t := by decide) : Aside0 (DeskAt w0 g A c ov W s l v y d) := ⟨by rw [hP.e]; exact DeskAt.others ht ht' (Nat.le_trans hS.out hG.out) vs n _ _ hx.out h.out⟩
theorem Turn.sets {S : Nat → Prop} {wb : World} {gb : Nat} (hw : wb.heap.size ≤ gb) (hB : w0.heap.size ≤ gb) : ∀ (vs : List Value) (n : Nat) (w : World), Turn w0.heap.size S wb w → Turn w0.heap.size S wb (putL w gb n vs)
 | [], _, _, h => h
 | v :: vs, n, w, h => Turn.sets hw hB vs (n + 1) _ (h.set (p := ⟨gb, n, none⟩) (.inr hw) hB v)
theorem sT {S : Nat → Prop} {wb : World} {gb n : Nat} {vs : List Value} (hP : Put w gb n vs W) (hS : Aside0 (w0.heap.size ≤ wb.heap.size)) (hG : Aside0 (wb.heap.size ≤ gb)) (h : Aside0 (Turn w0.heap.size S wb w)) : Aside0 (Turn w0.heap.size S wb W) := ⟨by rw [hP.e]; exact Turn.sets hG.out (Nat.le_trans hS.out hG.out) vs n _ h.out⟩
theorem open_ok (k : Nat) (hl : l.length ≤ big) (hr : Kd.C k68 w A l.length l) (hc : l.length ≤ c) (e : Int) (hv : strip_View.f k s l y = some (v, e)) :
  Calls Tryz.prog 29 #[.agg #[.string s, .slice A l.length c], .int .u64 y] w fun r w' => ∃ g, r = .returned (.tuple #[.pointer (some ⟨g, 0, none⟩), .int .i64 e]) ∧ DeskAt w g A c (.slice none 0 0) w' s l v y d0 ∧ Below w.heap.size w w' := by
 have HR := aM hr
 have HC := aM hc
 have HV := aM hv
 clear hr hc hv
 go_enter Tryz.func29, Tryz.ntmps29
 go_wp2_with (first
  | ((with_reducible refine gate_dst (N := 2) rfl ?_); refine box_event ?hg (N := 2) ?hd (cs := #[.string s, .slice A l.length c]) (t := 24) ?hr ?_; (case hd => rfl); (case hg => rfl); (case hr => first | (go_simp; done) | (go_simp; rfl)); intro gb hg w1 hbox hb; have BK := aM hbox; have HB := aM hb; clear hb hbox hg; have hcz0 := (bC BK.out 0).trans (rfl : _ = some (Value.string s)); have hcz1 := (bC BK.out 1).trans (rfl : _ = some (Value.slice A l.length c)))
  | ((with_reducible refine gate_callee (f := 71) rfl ?_); refine goesL_ (some 11) rfl rfl Tryz.func71 (by kernel_rfl) rfl #[.agg #[.string s, .slice A l.length c], .int .u64 y] rfl (by (try simp only [List.map_toArray, List.map_cons, List.map_nil]); first | done | rfl) ?_; (with_reducible refine (strip_View.calls k s _ _ l y v e _ (cB_ HR.out HB.out) HC.out HV.out).mono ?_); rintro r1 w2 ⟨rfl, hb⟩; refine ⟨_, rfl, ?_⟩; have BK2 := aM (bB BK.out hb); have HB2 := aM (bP HB.out hb); clear hb; have hcy0 := (bC BK2.out 0).trans (rfl : _ = some (Value.string s)); have hcy1 := (bC BK2.out 1).trans (rfl : _ = some (Value.slice A l.length c)))
  | ((with_reducible refine gate_dst (N := 18) rfl ?_); refine box_event ?hg (N := 18) ?hd (cs := #[.string s, .slice A l.length c, .string v, .int .u64 y, .string ⟨#[]⟩, .slice none 0 0, .int .i64 0]) (t := 85) ?hr ?_; (case hd => rfl); (case hg => rfl); (case hr => first | (go_simp; done) | (go_simp; rfl)); intro g hg w3 hbox hb; have BK3 := aM hbox; have HB3 := aM (bP HB2.out hb); have GE := aM (show w.heap.size ≤ g from by have := HB2.out.size; omega); clear hb hbox hg)
  )
 go_ret2
 exact ⟨g, rfl, ⟨BK3.out, HR.out, HC.out, HB3.out, Kd.R_nil _ _ _ _ _, GE.out, Nat.zero_le _, hl⟩, HB3.out⟩
theorem add_ok (h : DeskAt w0 g A c ov w s l v y d) (x : ByteArray) (Ax : Option Addr) (cx : Nat) (m : List S68) (hx : Kd.C k68 w Ax m.length m) (hcx : m.length ≤ cx) (hm : m.length ≤ big) :
  Calls Tryz.prog 61 #[.pointer (some ⟨g, 0, none⟩), .agg #[.string x, .slice Ax m.length cx]] w fun e w' => e = .returned (.tuple #[]) ∧ ∃ ov', DeskAt w0 g A c ov' w' s l v y (addD d x m) ∧ Turn w0.heap.size (fun k => k = g) w w' := by
 obtain ⟨k, hf⟩ := (cat4_ev d.1 d.2.1 (len_big h.hn) x m hm).rounds
 have hnn := addD_len (x := x) (m := m) h.hn
 obtain ⟨db, dr, de⟩ := d
 obtain ⟨Ao, co, rfl, hco, hCo⟩ := Kd.R_reads h.hR
 have HD := aM h
 have HX := aM hx
 have HCX := aM hcx
 have HF := aM hf
 have HN := aM hnn
 have HCO := aM hco
 have HS := aM h.size
 clear h hx hcx hf hco hCo hnn
 by_cases hd : de = 0
 ·subst hd
  have HR : addD (db, dr, 0) x m = catT db dr x m := if_pos rfl
  rw [HR] at HN ⊢
  clear HR
  dsimp only at HF
  generalize catT db dr x m = r at HF HN ⊢
  obtain ⟨r1, r2, r3⟩ := r
  go_enter Tryz.func61, Tryz.ntmps61
  go_wp2_with (first
   | ((with_reducible refine gate_dst (N := 3) rfl ?_); refine box_event ?hg (N := 3) ?hd (cs := #[.string x, .slice Ax m.length cx]) (t := 24) ?hr ?_; (case hd => rfl); (case hg => rfl); (case hr => first | (go_simp; done) | (go_simp; rfl)); intro gb hg w1 hbox hb; have HD1 := aM (HD.out.below hb); have BK := aM hbox; have HB := aM hb; have GE := aM (show w.heap.size ≤ gb by omega); clear hb hbox hg; have hcz0 := (bC BK.out 0).trans (rfl : _ = some (Value.string x)); have hcz1 := (bC BK.out 1).trans (rfl : _ = some (Value.slice Ax m.length cx)); have hd0 := (bC HD1.out.hg 4).trans (rfl : _ = some (Value.string db)); have hd1 := (bC HD1.out.hg 5).trans (rfl : _ = some (Value.slice Ao dr.length co)); have hd2 := (bC HD1.out.hg 6).trans (rfl : _ = some (Value.int .i64 0)))
   | ((with_reducible refine gate_callee (f := 115) rfl ?_); refine goesL_ (some 17) rfl rfl Tryz.func115 (by kernel_rfl) rfl #[.agg #[.string db, .slice Ao dr.length co], .agg #[.string x, .slice Ax m.length cx]] rfl (by (try simp only [List.map_toArray, List.map_cons, List.map_nil]); first | done | rfl) ?_; (with_reducible refine (strip_Cat.calls k db Ao co dr x Ax cx m r1 r2 r3 _ (rR HD1.out.hR).2.2 HCO.out (cB_ HX.out HB.out) HCX.out HF.out).mono ?_); rintro e w2 ⟨v1, rfl, ho, hb⟩; refine ⟨_, rfl, ?_⟩; have HD2 := aM (HD1.out.below hb); have HO := aM ho; have HB2 := aM (bP HB.out hb); have SZ := aM (Nat.le_trans HD1.out.size (Nat.le_refl _)); clear hb ho)
   )
  have HLK := aM (show ∀ W : World, Below w1.heap.size w1 W → W.cell? ⟨g, 4, none⟩ = some (.string db) ∧ W.cell? ⟨g, 5, none⟩ = some (.slice Ao dr.length co) ∧ W.cell? ⟨gb, 0, none⟩ = some (.string x) ∧ W.cell? ⟨gb, 1, none⟩ = some (.slice Ax m.length cx) from fun W hb => ⟨(bC (HD1.out.below hb).hg 4).trans rfl, (bC (HD1.out.below hb).hg 5).trans rfl, (bC (bB BK.out hb) 0).trans rfl, (bC (bB BK.out hb) 1).trans rfl⟩)
  clear hcz0 hcz1 hd0 hd1 hd2
  refine start_ (n := 17) (S := fun W => W.cell? ⟨g, 4, none⟩ = some (.string db) ∧ W.cell? ⟨g, 5, none⟩ = some (.slice Ao dr.length co) ∧ W.cell? ⟨gb, 0, none⟩ = some (.string x) ∧ W.cell? ⟨gb, 1, none⟩ = some (.slice Ax m.length cx)) (ds := [13, 16]) #[tF,tF,tF,tF,tF,tF,tF,tF,tF,tF,tF,tF,tF,tF,tF,tF,tF] (by kernel_rfl) rfl rfl (HLK.out _ (below_drew1 (Below.refl _ _))) (fun hHeld => ?_)
  have HB1 := aM (below_drew1 (Below.refl w1.heap.size w1))
  generalize w1.drew = w3 at HB1 hHeld ⊢
  refine sv 0 10 #[tT,tF,tF,tF,tF,tF,tF,tF,tF,tF,tF,tF,tF,tF,tF,tF,tF] ?_
  refine sv 1 11 #[tT,tT,tF,tF,tF,tF,tF,tF,tF,tF,tF,tF,tF,tF,tF,tF,tF] ?_
  refine sv 2 12 #[tT,tT,tT,tF,tF,tF,tF,tF,tF,tF,tF,tF,tF,tF,tF,tF,tF] ?_
  refine sv 3 13 #[tT,tT,tT,tT,tF,tF,tF,tF,tF,tF,tF,tF,tF,tF,tF,tF,tF] ?_
  refine sv 4 14 #[tT,tT,tT,tT,tT,tF,tF,tF,tF,tF,tF,tF,tF,tF,tF,tF,tF] ?_
  refine st 5 15 #[tT,tT,tT,tT,tT,tT,tF,tF,tF,tF,tF,tF,tF,tF,tF,tF,tF] hHeld ?_
  refine st 6 16 #[tT,tT,tT,tT,tT,tT,tT,tF,tF,tF,tF,tF,tF,tF,tF,tF,tF] hHeld ?_
  refine one_ (i := 7) (N := some 17) #[tT,tT,tT,tT,tT,tT,tT,tT,tF,tF,tF,tF,tF,tF,tF,tF,tF] rfl rfl (by kernel_rfl) (by decide) (fun K hK => ?_)
  refine goes_ Tryz.func115 (by kernel_rfl) rfl #[.agg #[.string db, .slice Ao dr.length co], .agg #[.string x, .slice Ax m.length cx]] (by rfl) rfl rfl (by (try simp only [List.map_toArray, List.map_cons, List.map_nil]); first | done | rfl) ?_
  have HD3 := aM (HD1.out.below HB1.out)
  have HB3 := aM (bP HB.out HB1.out)
  (with_reducible refine (strip_Cat.calls k db Ao co dr x Ax cx m r1 r2 r3 _ (rR HD3.out.hR).2.2 HCO.out (cB_ HX.out HB3.out) HCX.out HF.out).mono ?_)
  rintro e w2 ⟨v1, rfl, ho, hb⟩
  obtain ⟨A1, c1, rfl⟩ := Kd.R_slice ho
  have HD2 := aM (HD3.out.below hb)
  have HO := aM (rL ho HD3.out.size)
  have HB2 := aM (bP HB3.out hb)
  refine ⟨_, rfl, hK.out _ _ (HLK.out _ (bP HB1.out hb)) (fun hHeld => ?_)⟩
  clear hK K hb ho hHeld HLK
  refine norm_ (a' := ?_) ?_ ?_
  rotate_left
  ·simp only [Act.put, List.setIfInBounds_toArray, List.set_cons_zero, List.set_cons_succ, i64_w, i32_w]
   rfl
  refine sv 8 9 #[tT,tT,tT,tT,tT,tT,tT,tT,tT,tF,tF,tF,tF,tF,tF,tF,tF] ?_
  refine sv 9 18 #[tT,tT,tT,tT,tT,tT,tT,tT,tT,tT,tF,tF,tF,tF,tF,tF,tF] ?_
  refine sv 10 19 #[tT,tT,tT,tT,tT,tT,tT,tT,tT,tT,tT,tF,tF,tF,tF,tF,tF] ?_
  refine sv 11 20 #[tT,tT,tT,tT,tT,tT,tT,tT,tT,tT,tT,tT,tF,tF,tF,tF,tF] ?_
  refine sv 12 21 #[tT,tT,tT,tT,tT,tT,tT,tT,tT,tT,tT,tT,tT,tF,tF,tF,tF] ?_
  refine last_ (i := 13) (N := none) #[tT,tT,tT,tT,tT,tT,tT,tT,tT,tT,tT,tT,tT,tT,tF,tF,tF] rfl rfl (by kernel_rfl) (by decide) (fun K hK => ?_)
  have hs0 := (bC HD2.out.hg 4).trans (rfl : _ = some (Value.string db))
  have hs1 := (bC HD2.out.hg 5).trans (rfl : _ = some (Value.slice Ao dr.length co))
  have hf0 := bF HD2.out.hg 4
  have hf1 := bF HD2.out.hg 5
  refine skip_ (w1 := (w2.setCell ⟨g, 4, none⟩ (.string r1)).setCell ⟨g, 5, none⟩ (.slice A1 r2.length c1)) (by rfl) rfl ?_ ?_
  ·first | (go_simp; done) | (go_simp; rfl)
  refine hK.out _ _ ?_
  clear hK K hs0 hs1 hf0 hf1
  have HG4 := aM (bU (cs' := #[.string s, .slice A l.length c, .string v, .int .u64 y, .string r1, .slice A1 r2.length c1, .int .i64 0]) (bU (cs' := #[.string s, .slice A l.length c, .string v, .int .u64 y, .string r1, .slice Ao dr.length co, .int .i64 0]) HD2.out.hg 4 (.string r1) rfl) 5 (.slice A1 r2.length c1) rfl)
  refine sv 14 22 #[tT,tT,tT,tT,tT,tT,tT,tT,tT,tT,tT,tT,tT,tT,tT,tF,tF] ?_
  refine sv 15 23 #[tT,tT,tT,tT,tT,tT,tT,tT,tT,tT,tT,tT,tT,tT,tT,tT,tF] ?_
  refine last_ (i := 16) (N := none) #[tT,tT,tT,tT,tT,tT,tT,tT,tT,tT,tT,tT,tT,tT,tT,tT,tT] rfl rfl (by kernel_rfl) (by decide) (fun K hK => ?_)
  have hs0 := (bC HG4.out 6).trans (rfl : _ = some (Value.int .i64 0))
  have hf0 := bF HG4.out 6
  refine skip_ (w1 := ((w2.setCell ⟨g, 4, none⟩ (.string r1)).setCell ⟨g, 5, none⟩ (.slice A1 r2.length c1)).setCell ⟨g, 6, none⟩ (.int .i64 r3)) (by rfl) rfl ?_ ?_
  ·first | (go_simp; done) | (go_simp; rfl)
  refine hK.out _ _ (done_ (by kernel_rfl) ?_)
  clear hK K
  have HG6 := aM (bU (cs' := #[.string s, .slice A l.length c, .string v, .int .u64 y, .string r1, .slice A1 r2.length c1, .int .i64 r3]) HG4.out 6 (.int .i64 r3) rfl)
  refine bodyPost_end (results_none rfl _ _ _) rfl ?_
  have hR := Kd.R_set (Kd.R_set (Kd.R_set HO.out HD2.out.hg (by decide) 4 (.string r1)) (bU (cs' := #[.string s, .slice A l.length c, .string v, .int .u64 y, .string r1, .slice Ao dr.length co, .int .i64 0]) HD2.out.hg 4 (.string r1) rfl) (by decide) 5 (.slice A1 r2.length c1)) HG4.out (by decide) 6 (.int .i64 r3)
  have hT : Turn w0.heap.size (fun k => k = g) w w2 := Turn.of_below HB2.out HS.out
  exact ⟨rfl, _, ⟨HG6.out, HD2.out.h0, HD2.out.hc, ((HD2.out.hb.setCell HD2.out.hB _).setCell HD2.out.hB _).setCell HD2.out.hB _, hR, HD2.out.hB, HN.out, HD2.out.hl⟩, ((hT.set (p := ⟨g, 4, none⟩) (.inl rfl) HD2.out.hB _).set (p := ⟨g, 5, none⟩) (.inl rfl) HD2.out.hB _).set (p := ⟨g, 6, none⟩) (.inl rfl) HD2.out.hB _⟩
 ·have HR : addD (db, dr, de) x m = (db, dr, de) := if_neg hd
  rw [HR]
  have c1 : (de == 0) = false := beq_eq_false_iff_ne.2 hd
  go_enter Tryz.func61, Tryz.ntmps61
  go_wp2_with (first
   | ((with_reducible refine gate_dst (N := 3) rfl ?_); refine box_event ?hg (N := 3) ?hd (cs := #[.string x, .slice Ax m.length cx]) (t := 24) ?hr ?_; (case hd => rfl); (case hg => rfl); (case hr => first | (go_simp; done) | (go_simp; rfl)); intro gb hg w1 hbox hb; have HD1 := aM (HD.out.below hb); have HB := aM hb; clear hb hbox hg; have hd2 := (bC HD1.out.hg 6).trans (rfl : _ = some (Value.int .i64 de)))
   )
  refine bodyPost_end (results_none rfl _ _ _) rfl ?_
  exact ⟨rfl, ⟨_, HD1.out⟩, Turn.of_below HB.out HS.out⟩
end
section
variable {w0 : World} {g : Nat} {A : Option Addr} {c : Nat} {ov : Value} {w W : World} {s : ByteArray} {l : List S68} {v : ByteArray} {y : Int} {d : TX}
theorem keep_ok (h : DeskAt w0 g A c ov w s l v y d) (a b : Int) :
  Calls Tryz.prog 79 #[.pointer (some ⟨g, 0, none⟩), .int .i64 a, .int .i64 b] w fun e w' => e = .returned (.tuple #[]) ∧ ∃ ov', DeskAt w0 g A c ov' w' s l v y (keepD s l d a b) ∧ Turn w0.heap.size (fun k => k = g) w w' := by
 obtain ⟨k, hk⟩ := (cut_ev s l h.hl a b).rounds
 have hL := cutS_len s l a b
 have HD := aM h
 unfold keepD
 generalize cutS s l a b = r at hk hL ⊢
 obtain ⟨r1, r2, r3⟩ := r
 have HK := aM hk
 have HL := aM hL
 have hc0 := (bC h.hg 0).trans (rfl : _ = some (Value.string s))
 have hc1 := (bC h.hg 1).trans (rfl : _ = some (Value.slice A l.length c))
 clear h hk hL
 go_enter Tryz.func79, Tryz.ntmps79
 go_wp2_with (first
  | ((with_reducible refine gate_callee (f := 74) rfl ?_); refine goesL_ (some 15) rfl rfl Tryz.func74 (by kernel_rfl) rfl #[.agg #[.string s, .slice A l.length c], .int .i64 a, .int .i64 b] rfl (by (try simp only [List.map_toArray, List.map_cons, List.map_nil]); first | done | rfl) ?_; (with_reducible refine (strip_Cut.calls k s A c l a b r1 r2 r3 _ HD.out.hC HD.out.hc HK.out).mono ?_); rintro e w1 ⟨v1, rfl, ho, hb⟩; refine ⟨_, rfl, ?_⟩; have HD1 := aM (HD.out.below hb); have HO := aM (rL ho HD.out.size); have HB1 := aM hb; clear hb ho; obtain ⟨A1, c1, e1⟩ := Kd.R_slice HO.out; subst e1)
  | ((with_reducible refine gate_dst (N := 6) rfl ?_); refine box_event ?hg (N := 6) ?hd (cs := #[.string ⟨#[]⟩, .slice none 0 0]) (t := 24) ?hr ?_; (case hd => rfl); (case hg => rfl); (case hr => first | (go_simp; done) | (go_simp; rfl)); intro gb hg w2 hbox hb; have HD2 := aM (HD1.out.below hb); have BK := aM hbox; have HO2 := aM (Kd.R_below HO.out hb); have HB2 := aM (bP HB1.out hb); have GE := aM (show w.heap.size ≤ gb from by have := HB1.out.size; omega); clear hb hbox hg; have hcz0 := (bC BK.out 0).trans (rfl : _ = some (Value.string ⟨#[]⟩)); have hcz1 := (bC BK.out 1).trans (rfl : _ = some (Value.slice none 0 0)); have hfz0 := bF BK.out 0; have hfz1 := bF BK.out 1)
  | ((with_reducible refine gate_callee (f := 61) rfl ?_); refine goesL_ (some 20) rfl rfl Tryz.func61 (by kernel_rfl) rfl #[.pointer (some ⟨g, 0, none⟩), .agg #[.string r1, .slice A1 r2.length c1]] rfl (by (try simp only [List.map_toArray, List.map_cons, List.map_nil]); first | done | rfl) ?_; have HD3 := aM (DeskAt.other (DeskAt.other HD2.out BK.out (by decide) (by decide) (Nat.le_trans HD.out.size GE.out) 0 (.string r1)) (blk_set BK.out 0 (.string r1)) (by decide) (by decide) (Nat.le_trans HD.out.size GE.out) 1 (.slice A1 r2.length c1)); have HT3 := aM (((Turn.of_below (S := fun k => k = g) HB2.out HD.out.size).set (p := ⟨gb, 0, none⟩) (.inr GE.out) (Nat.le_trans HD.out.size GE.out) (.string r1)).set (p := ⟨gb, 1, none⟩) (.inr GE.out) (Nat.le_trans HD.out.size GE.out) (.slice A1 r2.length c1)); (with_reducible refine (add_ok HD3.out r1 A1 c1 r2 (rR (Kd.R_set (Kd.R_set HO2.out BK.out (by decide) 0 (.string r1)) (blk_set BK.out 0 (.string r1)) (by decide) 1 (.slice A1 r2.length c1))).2.2 (rR HO2.out).2.1 (len_big HL.out)).mono ?_); rintro e w4 ⟨rfl, ov', hD4, hT4⟩; refine ⟨_, rfl, ?_⟩; have HD4 := aM hD4; have HT4 := aM (HT3.out.trans hT4); clear hD4 hT4)
  )
 refine bodyPost_end (results_none rfl _ _ _) rfl ?_
 exact ⟨rfl, ⟨_, HD4.out⟩, HT4.out⟩
theorem write_ok (h : DeskAt w0 g A c ov w s l v y d) (x : ByteArray) :
  Calls Tryz.prog 48 #[.pointer (some ⟨g, 0, none⟩), .string x] w fun e w' => e = .returned (.tuple #[]) ∧ ∃ ov', DeskAt w0 g A c ov' w' s l v y (writeD y d x) ∧ Turn w0.heap.size (fun k => k = g) w w' := by
 obtain ⟨k, hk⟩ := (make_ev x y).rounds
 have hL := makeS_len x y
 have HD := aM h
 unfold writeD
 generalize makeS x y = r at hk hL ⊢
 obtain ⟨r1, r2, r3⟩ := r
 have HK := aM hk
 have HL := aM hL
 have hc3 := (bC h.hg 3).trans (rfl : _ = some (Value.int .u64 y))
 clear h hk hL
 by_cases h3 : r3 = 0
 ·have b3 : (r3 != 0) = false := bne_eq_false_iff_eq.2 h3
  have b4 : (r3 == 0) = true := beq_iff_eq.2 h3
  rw [if_pos h3]
  have HX3 := aM h3
  clear h3
  go_enter Tryz.func48, Tryz.ntmps48
  go_wp2_with (first
  | ((with_reducible refine gate_callee (f := 97) rfl ?_); refine goesL_ (some 12) rfl rfl Tryz.func97 (by kernel_rfl) rfl #[.string x, .int .u64 y] rfl (by (try simp only [List.map_toArray, List.map_cons, List.map_nil]); first | done | rfl) ?_; (with_reducible refine (strip_Make.calls k x y r1 r2 r3 _ HK.out).mono ?_); rintro e w1 ⟨v1, rfl, ho, hb⟩; refine ⟨_, rfl, ?_⟩; have HD1 := aM (HD.out.below hb); have HO := aM (rL ho HD.out.size); have HB1 := aM hb; clear hb ho; obtain ⟨A1, c1, e1⟩ := Kd.R_slice HO.out; subst e1)
  | ((with_reducible refine gate_dst (N := 4) rfl ?_); refine box_event ?hg (N := 4) ?hd (cs := #[.string ⟨#[]⟩, .slice none 0 0]) (t := 24) ?hr ?_; (case hd => rfl); (case hg => rfl); (case hr => first | (go_simp; done) | (go_simp; rfl)); intro gb hg w2 hbox hb; have HD2 := aM (HD1.out.below hb); have BK := aM hbox; have HO2 := aM (Kd.R_below HO.out hb); have HB2 := aM (bP HB1.out hb); have GE := aM (show w.heap.size ≤ gb from by have := HB1.out.size; omega); clear hb hbox hg; have hcz0 := (bC BK.out 0).trans (rfl : _ = some (Value.string ⟨#[]⟩)); have hcz1 := (bC BK.out 1).trans (rfl : _ = some (Value.slice none 0 0)); have hfz0 := bF BK.out 0; have hfz1 := bF BK.out 1)
  | ((with_reducible refine gate_callee (f := 61) rfl ?_); refine goesL_ (some 23) rfl rfl Tryz.func61 (by kernel_rfl) rfl #[.pointer (some ⟨g, 0, none⟩), .agg #[.string r1, .slice A1 r2.length c1]] rfl (by (try simp only [List.map_toArray, List.map_cons, List.map_nil]); first | done | rfl) ?_; have HD3 := aM (DeskAt.other (DeskAt.other HD2.out BK.out (by decide) (by decide) (Nat.le_trans HD.out.size GE.out) 0 (.string r1)) (blk_set BK.out 0 (.string r1)) (by decide) (by decide) (Nat.le_trans HD.out.size GE.out) 1 (.slice A1 r2.length c1)); have HT3 := aM (((Turn.of_below (S := fun k => k = g) HB2.out HD.out.size).set (p := ⟨gb, 0, none⟩) (.inr GE.out) (Nat.le_trans HD.out.size GE.out) (.string r1)).set (p := ⟨gb, 1, none⟩) (.inr GE.out) (Nat.le_trans HD.out.size GE.out) (.slice A1 r2.length c1)); (with_reducible refine (add_ok HD3.out r1 A1 c1 r2 (rR (Kd.R_set (Kd.R_set HO2.out BK.out (by decide) 0 (.string r1)) (blk_set BK.out 0 (.string r1)) (by decide) 1 (.slice A1 r2.length c1))).2.2 (rR HO2.out).2.1 (len_big HL.out)).mono ?_); rintro e w4 ⟨rfl, ov', hD4, hT4⟩; refine ⟨_, rfl, ?_⟩; have HD4 := aM hD4; have HT4 := aM (HT3.out.trans hT4); clear hD4 hT4)
  )
  refine bodyPost_end (results_none rfl _ _ _) rfl ?_
  exact ⟨rfl, ⟨_, HD4.out⟩, HT4.out⟩
 ·have b3 : (r3 != 0) = true := bne_iff_ne.2 h3
  have b4 : (r3 == 0) = false := beq_eq_false_iff_ne.2 h3
  rw [if_neg h3]
  have HX3 := aM h3
  clear h3
  go_enter Tryz.func48, Tryz.ntmps48
  go_wp2_with (first
  | ((with_reducible refine gate_callee (f := 97) rfl ?_); refine goesL_ (some 12) rfl rfl Tryz.func97 (by kernel_rfl) rfl #[.string x, .int .u64 y] rfl (by (try simp only [List.map_toArray, List.map_cons, List.map_nil]); first | done | rfl) ?_; (with_reducible refine (strip_Make.calls k x y r1 r2 r3 _ HK.out).mono ?_); rintro e w1 ⟨v1, rfl, ho, hb⟩; refine ⟨_, rfl, ?_⟩; have HD1 := aM (HD.out.below hb); have HO := aM (rL ho HD.out.size); have HB1 := aM hb; clear hb ho; obtain ⟨A1, c1, e1⟩ := Kd.R_slice HO.out; subst e1)
  | ((with_reducible refine gate_dst (N := 4) rfl ?_); refine box_event ?hg (N := 4) ?hd (cs := #[.string ⟨#[]⟩, .slice none 0 0]) (t := 24) ?hr ?_; (case hd => rfl); (case hg => rfl); (case hr => first | (go_simp; done) | (go_simp; rfl)); intro gb hg w2 hbox hb; have HD2 := aM (HD1.out.below hb); have BK := aM hbox; have HO2 := aM (Kd.R_below HO.out hb); have HB2 := aM (bP HB1.out hb); have GE := aM (show w.heap.size ≤ gb from by have := HB1.out.size; omega); clear hb hbox hg; have hcz0 := (bC BK.out 0).trans (rfl : _ = some (Value.string ⟨#[]⟩)); have hcz1 := (bC BK.out 1).trans (rfl : _ = some (Value.slice none 0 0)); have hfz0 := bF BK.out 0; have hfz1 := bF BK.out 1; have hde := (bC HD2.out.hg 6).trans (rfl : _ = some (Value.int .i64 d.2.2)); have hdf := bF HD2.out.hg 6; have hgg := HD2.out.apart BK.out (by decide); have hgg2 := hgg.symm)
  | ((with_reducible refine gate_callee (f := 61) rfl ?_); refine goesL_ (some 23) rfl rfl Tryz.func61 (by kernel_rfl) rfl #[.pointer (some ⟨g, 0, none⟩), .agg #[.string r1, .slice A1 r2.length c1]] rfl (by (try simp only [List.map_toArray, List.map_cons, List.map_nil]); first | done | rfl) ?_; have HD3 := aM (DeskAt.other (DeskAt.other HD2.out BK.out (by decide) (by decide) (Nat.le_trans HD.out.size GE.out) 0 (.string r1)) (blk_set BK.out 0 (.string r1)) (by decide) (by decide) (Nat.le_trans HD.out.size GE.out) 1 (.slice A1 r2.length c1)); have HT3 := aM (((Turn.of_below (S := fun k => k = g) HB2.out HD.out.size).set (p := ⟨gb, 0, none⟩) (.inr GE.out) (Nat.le_trans HD.out.size GE.out) (.string r1)).set (p := ⟨gb, 1, none⟩) (.inr GE.out) (Nat.le_trans HD.out.size GE.out) (.slice A1 r2.length c1)); have HD5 := aM (HD3.out.setE r3); have HT5 := aM (HT3.out.set (p := ⟨g, 6, none⟩) (.inl rfl) HD.out.hB (.int .i64 r3)); (with_reducible refine (add_ok HD5.out r1 A1 c1 r2 (rR (Kd.R_set (Kd.R_set (Kd.R_set HO2.out BK.out (by decide) 0 (.string r1)) (blk_set BK.out 0 (.string r1)) (by decide) 1 (.slice A1 r2.length c1)) HD3.out.hg (by decide) 6 (.int .i64 r3))).2.2 (rR HO2.out).2.1 (len_big HL.out)).mono ?_); rintro e w4 ⟨rfl, ov', hD4, hT4⟩; refine ⟨_, rfl, ?_⟩; have HD4 := aM hD4; have HT4 := aM (HT5.out.trans hT4); clear hD4 hT4)
  )
  refine bodyPost_end (results_none rfl _ _ _) rfl ?_
  exact ⟨rfl, ⟨_, HD4.out⟩, HT4.out⟩
end
end Go.Proofs.YtjkfkiebhgkolaaGreatDoor.PB
end

section
namespace Go.Proofs.YtjkfkiebhgkolaaGreatDoor.PB
open Go.RowKit Go.Maps Go.Proofs.YtjkfkiebhgkolaaGreatDoorW.PrintWords Go.Proofs.YtjkfkiebhgkolaaGreatDoorW.PrintLast Go.Proofs.YtjkfkiebhgkolaaGreatDoorW.PrintMore
set_option maxRecDepth 100000
set_option linter.unusedVariables false
set_option linter.unusedSimpArgs false
attribute [local go_sem] max2_int min2_int max_two min_two
section
variable {w0 : World} {g : Nat} {A : Option Addr} {c : Nat} {ov : Value} {w W : World} {s : ByteArray} {l : List S68} {v : ByteArray} {y : Int} {d : TX}
theorem lines_ok (h : DeskAt w0 g A c ov w s l v y d) (f t : Int) (ht : 0 ≤ t ∧ t ≤ 1000000) (ln : Bool) :
  Calls Tryz.prog 78 #[.pointer (some ⟨g, 0, none⟩), .agg #[.int .i64 f, .int .i64 t, .bool ln]] w fun e w' => e = .returned (.tuple #[.int .i64 (linesD v f t ln).1, .int .i64 (linesD v f t ln).2]) ∧ Below w.heap.size w w' := by
 have HD := aM h
 have hwt : wrap64 (t - 1) = t - 1 := by unfold wrap64; omega
 clear h
 cases ln with
 | true =>
  show Calls _ _ _ _ fun e w' => e = .returned (.tuple #[.int .i64 f, .int .i64 t]) ∧ _
  go_enter Tryz.func78, Tryz.ntmps78
  go_wp2_with (first
   | ((with_reducible refine gate_dst (N := 3) rfl ?_); refine box_event ?hg (N := 3) ?hd (cs := #[.int .i64 f, .int .i64 t, .bool true]) (t := 28) ?hr ?_; (case hd => rfl); (case hg => rfl); (case hr => first | (go_simp; done) | (go_simp; rfl)); intro gb hg w1 hbox hb; have BK := aM hbox; have HB := aM hb; have HD1 := aM (HD.out.below hb); clear hb hbox hg; have hcz0 := (bC BK.out 0).trans (rfl : _ = some (Value.int .i64 f)); have hcz1 := (bC BK.out 1).trans (rfl : _ = some (Value.int .i64 t)); have hcz2 := (bC BK.out 2).trans (rfl : _ = some (Value.bool true)); have hdv := (bC HD1.out.hg 2).trans (rfl : _ = some (Value.string v)))
   )
  go_quiet (fail)
  go_wp2
  go_ret2
  exact ⟨rfl, pw_below_drewN HB.out _⟩
 | false =>
  show Calls _ _ _ _ fun e w' => e = .returned (.tuple #[.int .i64 (ofL v f : Int), .int .i64 (ofL v (max f (t - 1)) : Int)]) ∧ _
  rw [show max f (t - 1) = (if f < t - 1 then t - 1 else f) from by rw [Int.max_def]; split <;> split <;> omega]
  go_enter Tryz.func78, Tryz.ntmps78
  go_wp2_with (first
   | ((with_reducible refine gate_dst (N := 3) rfl ?_); refine box_event ?hg (N := 3) ?hd (cs := #[.int .i64 f, .int .i64 t, .bool false]) (t := 28) ?hr ?_; (case hd => rfl); (case hg => rfl); (case hr => first | (go_simp; done) | (go_simp; rfl)); intro gb hg w1 hbox hb; have BK := aM hbox; have HB := aM hb; have HD1 := aM (HD.out.below hb); clear hb hbox hg; have hcz0 := (bC BK.out 0).trans (rfl : _ = some (Value.int .i64 f)); have hcz1 := (bC BK.out 1).trans (rfl : _ = some (Value.int .i64 t)); have hcz2 := (bC BK.out 2).trans (rfl : _ = some (Value.bool false)); have hdv := (bC HD1.out.hg 2).trans (rfl : _ = some (Value.string v)))
   )
  have HLK := aM (show ∀ W : World, Below w1.heap.size w1 W → W.cell? ⟨g, 2, none⟩ = some (.string v) ∧ W.cell? ⟨gb, 0, none⟩ = some (.int .i64 f) ∧ W.cell? ⟨gb, 1, none⟩ = some (.int .i64 t) from fun W hb => ⟨(bC (HD1.out.below hb).hg 2).trans rfl, (bC (bB BK.out hb) 0).trans rfl, (bC (bB BK.out hb) 1).trans rfl⟩)
  refine start_ (n := 20) (S := fun W => W.cell? ⟨g, 2, none⟩ = some (.string v) ∧ W.cell? ⟨gb, 0, none⟩ = some (.int .i64 f) ∧ W.cell? ⟨gb, 1, none⟩ = some (.int .i64 t)) (ds := []) #[tF,tF,tF,tF,tF,tF,tF,tF,tF,tF,tF,tF,tF,tF,tF,tF,tF,tF,tF,tF] (by kernel_rfl) rfl rfl (HLK.out _ (below_drew1 (Below.refl _ _))) (fun hHeld => ?_)
  have HQ0 := aM (below_drew1 (Below.refl w1.heap.size w1))
  generalize w1.drew = w1q0 at HQ0 hHeld ⊢
  refine sv 0 12 #[tT,tF,tF,tF,tF,tF,tF,tF,tF,tF,tF,tF,tF,tF,tF,tF,tF,tF,tF,tF] ?_
  refine sv 1 13 #[tT,tT,tF,tF,tF,tF,tF,tF,tF,tF,tF,tF,tF,tF,tF,tF,tF,tF,tF,tF] ?_
  refine sv 2 14 #[tT,tT,tT,tF,tF,tF,tF,tF,tF,tF,tF,tF,tF,tF,tF,tF,tF,tF,tF,tF] ?_
  refine sv 4 16 #[tT,tT,tT,tF,tT,tF,tF,tF,tF,tF,tF,tF,tF,tF,tF,tF,tF,tF,tF,tF] ?_
  refine sv 7 19 #[tT,tT,tT,tF,tT,tF,tF,tT,tF,tF,tF,tF,tF,tF,tF,tF,tF,tF,tF,tF] ?_
  refine sv 8 20 #[tT,tT,tT,tF,tT,tF,tF,tT,tT,tF,tF,tF,tF,tF,tF,tF,tF,tF,tF,tF] ?_
  refine sv 9 21 #[tT,tT,tT,tF,tT,tF,tF,tT,tT,tT,tF,tF,tF,tF,tF,tF,tF,tF,tF,tF] ?_
  refine sv 11 23 #[tT,tT,tT,tF,tT,tF,tF,tT,tT,tT,tF,tT,tF,tF,tF,tF,tF,tF,tF,tF] ?_
  refine sv 13 25 #[tT,tT,tT,tF,tT,tF,tF,tT,tT,tT,tF,tT,tF,tT,tF,tF,tF,tF,tF,tF] ?_
  refine st 3 15 #[tT,tT,tT,tT,tT,tF,tF,tT,tT,tT,tF,tT,tF,tT,tF,tF,tF,tF,tF,tF] hHeld ?_
  refine st 5 17 #[tT,tT,tT,tT,tT,tT,tF,tT,tT,tT,tF,tT,tF,tT,tF,tF,tF,tF,tF,tF] hHeld ?_
  refine st 10 22 #[tT,tT,tT,tT,tT,tT,tF,tT,tT,tT,tT,tT,tF,tT,tF,tF,tF,tF,tF,tF] hHeld ?_
  refine st 12 24 #[tT,tT,tT,tT,tT,tT,tF,tT,tT,tT,tT,tT,tT,tT,tF,tF,tF,tF,tF,tF] hHeld ?_
  refine st 14 26 #[tT,tT,tT,tT,tT,tT,tF,tT,tT,tT,tT,tT,tT,tT,tT,tF,tF,tF,tF,tF] hHeld ?_
  refine sv 15 27 #[tT,tT,tT,tT,tT,tT,tF,tT,tT,tT,tT,tT,tT,tT,tT,tT,tF,tF,tF,tF] ?_
  refine sv 16 28 #[tT,tT,tT,tT,tT,tT,tF,tT,tT,tT,tT,tT,tT,tT,tT,tT,tT,tF,tF,tF] ?_
  refine one_ (i := 6) (N := some 18) #[tT,tT,tT,tT,tT,tT,tT,tT,tT,tT,tT,tT,tT,tT,tT,tT,tT,tF,tF,tF] rfl rfl (by kernel_rfl) (by decide) (fun K hK => ?_)
  refine goes_ Tryz.func45 (by kernel_rfl) rfl #[.string v, .int .i64 f] (by rfl) rfl rfl (by (try simp only [List.map_toArray, List.map_cons, List.map_nil]); first | done | rfl) ?_
  (with_reducible refine (line_Of.calls v f _ _ (ofL_f v _)).mono ?_)
  rintro e w1q1 ⟨rfl, hb⟩
  have HQ1 := aM (bP HQ0.out hb)
  refine ⟨_, rfl, hK.out _ _ (HLK.out _ HQ1.out) (fun hHeld => ?_)⟩
  clear hK K hb HQ0
  refine norm_ (a' := ?_) ?_ ?_
  rotate_left
  ·simp only [Act.put, List.setIfInBounds_toArray, List.set_cons_zero, List.set_cons_succ, i64_w, i32_w]
   rfl
  refine one_ (i := 17) (N := some 29) #[tT,tT,tT,tT,tT,tT,tT,tT,tT,tT,tT,tT,tT,tT,tT,tT,tT,tT,tF,tF] rfl rfl (by kernel_rfl) (by decide) (fun K hK => ?_)
  refine goes_ Tryz.func45 (by kernel_rfl) rfl #[.string v, .int .i64 (if f < t - 1 then t - 1 else f)] (by rfl) rfl rfl (by (try simp only [List.map_toArray, List.map_cons, List.map_nil]); first | done | rfl) ?_
  (with_reducible refine (line_Of.calls v (if f < t - 1 then t - 1 else f) _ _ (ofL_f v _)).mono ?_)
  rintro e w1q2 ⟨rfl, hb⟩
  have HQ2 := aM (bP HQ1.out hb)
  refine ⟨_, rfl, hK.out _ _ (HLK.out _ HQ2.out) (fun hHeld => ?_)⟩
  clear hK K hb HQ1
  refine norm_ (a' := ?_) ?_ ?_
  rotate_left
  ·simp only [Act.put, List.setIfInBounds_toArray, List.set_cons_zero, List.set_cons_succ, i64_w, i32_w]
   rfl
  refine sv 18 4 #[tT,tT,tT,tT,tT,tT,tT,tT,tT,tT,tT,tT,tT,tT,tT,tT,tT,tT,tT,tF] ?_
  refine sv 19 5 #[tT,tT,tT,tT,tT,tT,tT,tT,tT,tT,tT,tT,tT,tT,tT,tT,tT,tT,tT,tT] ?_
  refine done_ (by kernel_rfl) ?_
  clear HLK hHeld
  have HB2 := aM (bP HB.out HQ2.out)
  generalize hm : (if f < t - 1 then t - 1 else f) = m
  go_wp2
  all_goals go_ret2
  all_goals subst hm
  all_goals refine ⟨?_, HB2.out⟩
  all_goals first | rfl | (rw [if_pos (by omega)]; rfl) | (rw [if_neg (by omega)]; rfl)
theorem bytes_ok (h : DeskAt w0 g A c ov w s l v y d) (hv : v.size ≤ 100000) (f t : Int) (ln : Bool) :
  Calls Tryz.prog 73 #[.pointer (some ⟨g, 0, none⟩), .agg #[.int .i64 f, .int .i64 t, .bool ln]] w fun e w' => e = .returned (.tuple #[.int .i64 (bytesD v f t ln).1, .int .i64 (bytesD v f t ln).2]) ∧ Below w.heap.size w w' := by
 have HD := aM h
 clear h
 cases ln with
 | false =>
  show Calls _ _ _ _ fun e w' => e = .returned (.tuple #[.int .i64 f, .int .i64 t]) ∧ _
  go_enter Tryz.func73, Tryz.ntmps73
  go_wp2_with (first
   | ((with_reducible refine gate_dst (N := 3) rfl ?_); refine box_event ?hg (N := 3) ?hd (cs := #[.int .i64 f, .int .i64 t, .bool false]) (t := 28) ?hr ?_; (case hd => rfl); (case hg => rfl); (case hr => first | (go_simp; done) | (go_simp; rfl)); intro gb hg w1 hbox hb; have BK := aM hbox; have HB := aM hb; clear hb hbox hg; have hcz0 := (bC BK.out 0).trans (rfl : _ = some (Value.int .i64 f)); have hcz1 := (bC BK.out 1).trans (rfl : _ = some (Value.int .i64 t)); have hcz2 := (bC BK.out 2).trans (rfl : _ = some (Value.bool false)))
   )
  go_quiet (fail)
  go_wp2
  go_ret2
  exact ⟨rfl, pw_below_drewN HB.out _⟩
 | true =>
  obtain ⟨k1, hk1⟩ := (bounds2_ev v hv f).rounds
  obtain ⟨k2, hk2⟩ := (bounds2_ev v hv t).rounds
  show Calls _ _ _ _ fun e w' => e = .returned (.tuple #[.int .i64 (boundsS v f).1, .int .i64 (boundsS v t).2.1]) ∧ _
  generalize boundsS v f = r at hk1 ⊢
  generalize boundsS v t = q at hk2 ⊢
  obtain ⟨r1, r2, r3⟩ := r
  obtain ⟨q1, q2, q3⟩ := q
  have HK1 := aM hk1
  have HK2 := aM hk2
  clear hk1 hk2
  go_enter Tryz.func73, Tryz.ntmps73
  go_wp2_with (first
   | ((with_reducible refine gate_dst (N := 3) rfl ?_); refine box_event ?hg (N := 3) ?hd (cs := #[.int .i64 f, .int .i64 t, .bool true]) (t := 28) ?hr ?_; (case hd => rfl); (case hg => rfl); (case hr => first | (go_simp; done) | (go_simp; rfl)); intro gb hg w1 hbox hb; have BK := aM hbox; have HB := aM hb; have HD1 := aM (HD.out.below hb); clear hb hbox hg; have hcz0 := (bC BK.out 0).trans (rfl : _ = some (Value.int .i64 f)); have hcz1 := (bC BK.out 1).trans (rfl : _ = some (Value.int .i64 t)); have hcz2 := (bC BK.out 2).trans (rfl : _ = some (Value.bool true)); have hdv := (bC HD1.out.hg 2).trans (rfl : _ = some (Value.string v)))
   )
  have HLK := aM (show ∀ W : World, Below w1.heap.size w1 W → W.cell? ⟨g, 2, none⟩ = some (.string v) ∧ W.cell? ⟨gb, 0, none⟩ = some (.int .i64 f) from fun W hb => ⟨(bC (HD1.out.below hb).hg 2).trans rfl, (bC (bB BK.out hb) 0).trans rfl⟩)
  refine start_ (n := 14) (S := fun W => W.cell? ⟨g, 2, none⟩ = some (.string v) ∧ W.cell? ⟨gb, 0, none⟩ = some (.int .i64 f)) (ds := []) #[tF,tF,tF,tF,tF,tF,tF,tF,tF,tF,tF,tF,tF,tF] (by kernel_rfl) rfl rfl (HLK.out _ (below_drew1 (Below.refl _ _))) (fun hHeld => ?_)
  have HQ0 := aM (below_drew1 (Below.refl w1.heap.size w1))
  generalize w1.drew = w1q0 at HQ0 hHeld ⊢
  refine sv 0 20 #[tT,tF,tF,tF,tF,tF,tF,tF,tF,tF,tF,tF,tF,tF] ?_
  refine sv 1 21 #[tT,tT,tF,tF,tF,tF,tF,tF,tF,tF,tF,tF,tF,tF] ?_
  refine sv 2 22 #[tT,tT,tT,tF,tF,tF,tF,tF,tF,tF,tF,tF,tF,tF] ?_
  refine sv 4 24 #[tT,tT,tT,tF,tT,tF,tF,tF,tF,tF,tF,tF,tF,tF] ?_
  refine st 3 23 #[tT,tT,tT,tT,tT,tF,tF,tF,tF,tF,tF,tF,tF,tF] hHeld ?_
  refine st 5 25 #[tT,tT,tT,tT,tT,tT,tF,tF,tF,tF,tF,tF,tF,tF] hHeld ?_
  refine one_ (i := 6) (N := some 26) #[tT,tT,tT,tT,tT,tT,tT,tF,tF,tF,tF,tF,tF,tF] rfl rfl (by kernel_rfl) (by decide) (fun K hK => ?_)
  refine goes_ Tryz.func44 (by kernel_rfl) rfl #[.string v, .int .i64 f] (by rfl) rfl rfl (by (try simp only [List.map_toArray, List.map_cons, List.map_nil]); first | done | rfl) ?_
  (with_reducible refine (line_Bounds.calls k1 v f r1 r2 r3 _ HK1.out).mono ?_)
  rintro e w1q1 ⟨rfl, hb⟩
  have HQ1 := aM (bP HQ0.out hb)
  refine ⟨_, rfl, hK.out _ _ (HLK.out _ HQ1.out) (fun hHeld => ?_)⟩
  clear hK K hb HQ0
  refine norm_ (a' := ?_) ?_ ?_
  rotate_left
  ·simp only [Act.put, List.setIfInBounds_toArray, List.set_cons_zero, List.set_cons_succ, i64_w, i32_w]
   rfl
  refine sv 7 19 #[tT,tT,tT,tT,tT,tT,tT,tT,tF,tF,tF,tF,tF,tF] ?_
  refine sv 8 27 #[tT,tT,tT,tT,tT,tT,tT,tT,tT,tF,tF,tF,tF,tF] ?_
  refine sv 9 28 #[tT,tT,tT,tT,tT,tT,tT,tT,tT,tT,tF,tF,tF,tF] ?_
  refine sv 10 29 #[tT,tT,tT,tT,tT,tT,tT,tT,tT,tT,tT,tF,tF,tF] ?_
  refine sv 11 6 #[tT,tT,tT,tT,tT,tT,tT,tT,tT,tT,tT,tT,tF,tF] ?_
  refine sv 12 7 #[tT,tT,tT,tT,tT,tT,tT,tT,tT,tT,tT,tT,tT,tF] ?_
  refine sv 13 8 #[tT,tT,tT,tT,tT,tT,tT,tT,tT,tT,tT,tT,tT,tT] ?_
  refine done_ (by kernel_rfl) ?_
  clear HLK hHeld
  have HD2 := aM (HD1.out.below HQ1.out)
  have BK2 := aM (bB BK.out HQ1.out)
  have HB2 := aM (bP HB.out HQ1.out)
  clear hcz0 hcz1 hcz2 hdv HD1 BK HB HQ1
  go_wp2
  have HLK := aM (show ∀ W : World, Below w1q1.heap.size w1q1 W → W.cell? ⟨g, 2, none⟩ = some (.string v) ∧ W.cell? ⟨gb, 1, none⟩ = some (.int .i64 t) from fun W hb => ⟨(bC (HD2.out.below hb).hg 2).trans rfl, (bC (bB BK2.out hb) 1).trans rfl⟩)
  refine start_ (n := 14) (S := fun W => W.cell? ⟨g, 2, none⟩ = some (.string v) ∧ W.cell? ⟨gb, 1, none⟩ = some (.int .i64 t)) (ds := []) #[tF,tF,tF,tF,tF,tF,tF,tF,tF,tF,tF,tF,tF,tF] (by kernel_rfl) rfl rfl (HLK.out _ (below_drew1 (Below.refl _ _))) (fun hHeld => ?_)
  have HQ0 := aM (below_drew1 (Below.refl w1q1.heap.size w1q1))
  generalize w1q1.drew = w1q1q0 at HQ0 hHeld ⊢
  refine sv 0 31 #[tT,tF,tF,tF,tF,tF,tF,tF,tF,tF,tF,tF,tF,tF] ?_
  refine sv 1 32 #[tT,tT,tF,tF,tF,tF,tF,tF,tF,tF,tF,tF,tF,tF] ?_
  refine sv 2 33 #[tT,tT,tT,tF,tF,tF,tF,tF,tF,tF,tF,tF,tF,tF] ?_
  refine sv 4 35 #[tT,tT,tT,tF,tT,tF,tF,tF,tF,tF,tF,tF,tF,tF] ?_
  refine st 3 34 #[tT,tT,tT,tT,tT,tF,tF,tF,tF,tF,tF,tF,tF,tF] hHeld ?_
  refine st 5 36 #[tT,tT,tT,tT,tT,tT,tF,tF,tF,tF,tF,tF,tF,tF] hHeld ?_
  refine one_ (i := 6) (N := some 37) #[tT,tT,tT,tT,tT,tT,tT,tF,tF,tF,tF,tF,tF,tF] rfl rfl (by kernel_rfl) (by decide) (fun K hK => ?_)
  refine goes_ Tryz.func44 (by kernel_rfl) rfl #[.string v, .int .i64 t] (by rfl) rfl rfl (by (try simp only [List.map_toArray, List.map_cons, List.map_nil]); first | done | rfl) ?_
  (with_reducible refine (line_Bounds.calls k2 v t q1 q2 q3 _ HK2.out).mono ?_)
  rintro e w1q1q1 ⟨rfl, hb⟩
  have HQ1 := aM (bP HQ0.out hb)
  refine ⟨_, rfl, hK.out _ _ (HLK.out _ HQ1.out) (fun hHeld => ?_)⟩
  clear hK K hb HQ0
  refine norm_ (a' := ?_) ?_ ?_
  rotate_left
  ·simp only [Act.put, List.setIfInBounds_toArray, List.set_cons_zero, List.set_cons_succ, i64_w, i32_w]
   rfl
  refine sv 7 30 #[tT,tT,tT,tT,tT,tT,tT,tT,tF,tF,tF,tF,tF,tF] ?_
  refine sv 8 38 #[tT,tT,tT,tT,tT,tT,tT,tT,tT,tF,tF,tF,tF,tF] ?_
  refine sv 9 39 #[tT,tT,tT,tT,tT,tT,tT,tT,tT,tT,tF,tF,tF,tF] ?_
  refine sv 10 40 #[tT,tT,tT,tT,tT,tT,tT,tT,tT,tT,tT,tF,tF,tF] ?_
  refine sv 11 9 #[tT,tT,tT,tT,tT,tT,tT,tT,tT,tT,tT,tT,tF,tF] ?_
  refine sv 12 10 #[tT,tT,tT,tT,tT,tT,tT,tT,tT,tT,tT,tT,tT,tF] ?_
  refine sv 13 11 #[tT,tT,tT,tT,tT,tT,tT,tT,tT,tT,tT,tT,tT,tT] ?_
  refine done_ (by kernel_rfl) ?_
  clear HLK hHeld
  have HB3 := aM (bP HB2.out HQ1.out)
  go_wp2
  go_ret2
  exact ⟨rfl, HB3.out⟩
theorem right_ok (h : DeskAt w0 g A c ov w s l v y d) (hv : v.size ≤ 100000) (f t : Int) (ln : Bool) :
  Calls Tryz.prog 30 #[.pointer (some ⟨g, 0, none⟩), .agg #[.int .i64 f, .int .i64 t, .bool ln]] w fun e w' => e = .returned (.bool (rightD v f t ln)) ∧ Below w.heap.size w w' := by
 have hct := count_ev v hv
 have HD := aM h
 have HC := aM hct
 have hsz : wrap64 ((v.size : Int)) = (v.size : Int) := by unfold wrap64; omega
 have hee := ends_len_le v
 have hep := ends_pos v
 have hse : wrap64 (((ends v).length : Int) - 1) = ((ends v).length : Int) - 1 := by unfold wrap64; omega
 have hdv := (bC h.hg 1).trans (rfl : _ = some (Value.slice A l.length c))
 clear h hct hdv
 cases ln with
 | false =>
  have hR : rightD v f t false = (decide (0 ≤ f) && (decide (f ≤ t) && decide (t ≤ (v.size : Int)))) := rfl
  rw [hR]
  go_enter Tryz.func30, Tryz.ntmps30
  go_wp2_with (first
   | ((with_reducible refine gate_dst (N := 3) rfl ?_); refine box_event ?hg (N := 3) ?hd (cs := #[.int .i64 f, .int .i64 t, .bool false]) (t := 28) ?hr ?_; (case hd => rfl); (case hg => rfl); (case hr => first | (go_simp; done) | (go_simp; rfl)); intro gb hg w1 hbox hb; have BK := aM hbox; have HB := aM hb; have HD1 := aM (HD.out.below hb); clear hb hbox hg; have hcz0 := (bC BK.out 0).trans (rfl : _ = some (Value.int .i64 f)); have hcz1 := (bC BK.out 1).trans (rfl : _ = some (Value.int .i64 t)); have hcz2 := (bC BK.out 2).trans (rfl : _ = some (Value.bool false)); have hdv := (bC HD1.out.hg 2).trans (rfl : _ = some (Value.string v)))
   )
  all_goals go_ret
  all_goals refine ⟨congrArg (fun b => Ending.returned (.bool b)) ?_, HB.out⟩
  all_goals
   rw [Bool.eq_iff_iff]
   simp only [Bool.and_eq_true, decide_eq_true_eq, Bool.false_eq_true, false_iff, not_and]
   omega
 | true =>
  have hR : rightD v f t true = (decide (0 ≤ f) && (decide (f ≤ t) && decide (t ≤ ((ends v).length : Int) - 1))) := rfl
  rw [hR]
  go_enter Tryz.func30, Tryz.ntmps30
  go_wp2_with (first
   | ((with_reducible refine gate_dst (N := 3) rfl ?_); refine box_event ?hg (N := 3) ?hd (cs := #[.int .i64 f, .int .i64 t, .bool true]) (t := 28) ?hr ?_; (case hd => rfl); (case hg => rfl); (case hr => first | (go_simp; done) | (go_simp; rfl)); intro gb hg w1 hbox hb; have BK := aM hbox; have HB := aM hb; have HD1 := aM (HD.out.below hb); clear hb hbox hg; have hcz2 := (bC BK.out 2).trans (rfl : _ = some (Value.bool true)); have hdv := (bC HD1.out.hg 2).trans (rfl : _ = some (Value.string v)))
   | ((with_reducible refine gate_callee (f := 72) rfl ?_); refine goesL_ (some 17) rfl rfl Tryz.func72 (by kernel_rfl) rfl #[.string v] rfl (by (try simp only [List.map_toArray, List.map_cons, List.map_nil]); first | done | rfl) ?_; (with_reducible refine (line_Count.calls v _ _ HC.out).mono ?_); rintro e w2 ⟨rfl, hb⟩; refine ⟨_, rfl, ?_⟩; have BK2 := aM (bB BK.out hb); have HB2 := aM (bP HB.out hb); clear hb; have hcy0 := (bC BK2.out 0).trans (rfl : _ = some (Value.int .i64 f)); have hcy1 := (bC BK2.out 1).trans (rfl : _ = some (Value.int .i64 t)))
   )
  all_goals go_ret
  all_goals refine ⟨congrArg (fun b => Ending.returned (.bool b)) ?_, HB2.out⟩
  all_goals
   rw [Bool.eq_iff_iff]
   simp only [Bool.and_eq_true, decide_eq_true_eq, Bool.false_eq_true, false_iff, not_and]
   omega
end
end Go.Proofs.YtjkfkiebhgkolaaGreatDoor.PB
end

section
namespace Go.Proofs.YtjkfkiebhgkolaaGreatDoor.PB
open Go.RowKit Go.Maps Go.Proofs.YtjkfkiebhgkolaaGreatDoorW.PrintWords Go.Proofs.YtjkfkiebhgkolaaGreatDoorW.PrintLast Go.Proofs.YtjkfkiebhgkolaaGreatDoorW.PrintMore
set_option maxRecDepth 100000
set_option linter.unusedVariables false
set_option linter.unusedSimpArgs false
section
variable {w0 : World} {g : Nat} {A : Option Addr} {c : Nat} {ov : Value} {w W : World} {s : ByteArray} {l : List S68} {v : ByteArray} {y : Int} {d : TX}
theorem of_len1 (s : ByteArray) (l : List S68) (a b : Int) (x : ByteArray) (m : List S68) : (ofS s l a b x m).2.2.1.length ≤ big := by
 unfold ofS
 split
 ·exact len_big (cutS_len s l a b)
 ·exact Nat.zero_le _
theorem of_len2 (s : ByteArray) (l : List S68) (a b : Int) (x : ByteArray) (m : List S68) (hm : m.length ≤ big) : (ofS s l a b x m).2.2.2.2.1.length ≤ big := by
 unfold ofS
 split
 ·exact hm
 ·exact Nat.zero_le _
set_option maxHeartbeats 4000000 in
theorem turn_ok (h : DeskAt w0 g A c ov w s l v y d) (a b : Int) :
  Calls Tryz.prog 50 #[.pointer (some ⟨g, 0, none⟩), .int .i64 a, .int .i64 b] w fun e w' => ∃ vo vn : Value, e = .returned (.tuple #[.agg #[.int .i64 (turnD s l y d a b).1.1, .string (turnD s l y d a b).1.2.1, vo, .string (turnD s l y d a b).1.2.2.2.1, vn], .string (turnD s l y d a b).2, .int .i64 (turnD s l y d a b).1.2.2.2.2.2]) ∧
   Kd.R k68 68 w' w.heap.size (fun k_ => some k_ ≠ (vn : Value).ownBlock) vo (turnD s l y d a b).1.2.2.1 ∧ Kd.R k68 68 w' w.heap.size (fun k_ => some k_ ≠ (vo : Value).ownBlock) vn (turnD s l y d a b).1.2.2.2.2.1 ∧ Below w.heap.size w w' := by
 obtain ⟨db, dr, de⟩ := d
 obtain ⟨Ao, co, rfl, hco, hCo⟩ := Kd.R_reads h.hR
 have HD := aM h
 have HCO := aM hco
 have HS := aM h.size
 by_cases hd : de = 0
 ·have hdn : dr.length ≤ 20000 := h.hn
  obtain ⟨k1, hf1⟩ := (of_ev s l h.hl a b db dr (len_big hdn)).rounds
  have hlo := of_len1 s l a b db dr
  have hln := of_len2 s l a b db dr (len_big hdn)
  subst hd
  by_cases hq : (ofS s l a b db dr).2.2.2.2.2 = 0
  ·obtain ⟨k2, hf2⟩ := (apply_ev s l h.hl (ofS s l a b db dr).1 (ofS s l a b db dr).2.1 (ofS s l a b db dr).2.2.1 (ofS s l a b db dr).2.2.2.1 (ofS s l a b db dr).2.2.2.2.1 hlo hln).rounds
   have hla := applyT_len s l (ofS s l a b db dr).1 (ofS s l a b db dr).2.1 (ofS s l a b db dr).2.2.1 (ofS s l a b db dr).2.2.2.1 (ofS s l a b db dr).2.2.2.2.1
   obtain ⟨k3, hf3⟩ := (view_ev (applyT s l (ofS s l a b db dr).1 (ofS s l a b db dr).2.1 (ofS s l a b db dr).2.2.1 (ofS s l a b db dr).2.2.2.1 (ofS s l a b db dr).2.2.2.2.1).1 (applyT s l (ofS s l a b db dr).1 (ofS s l a b db dr).2.1 (ofS s l a b db dr).2.2.1 (ofS s l a b db dr).2.2.2.1 (ofS s l a b db dr).2.2.2.2.1).2.1 (len_big hla) y).rounds
   have HRR : turnD s l y (db, dr, 0) a b = (ofS s l a b db dr, (viewS (applyT s l (ofS s l a b db dr).1 (ofS s l a b db dr).2.1 (ofS s l a b db dr).2.2.1 (ofS s l a b db dr).2.2.2.1 (ofS s l a b db dr).2.2.2.2.1).1 (applyT s l (ofS s l a b db dr).1 (ofS s l a b db dr).2.1 (ofS s l a b db dr).2.2.1 (ofS s l a b db dr).2.2.2.1 (ofS s l a b db dr).2.2.2.2.1).2.1 y).1) := by
    unfold turnD
    rw [if_pos rfl, if_pos hq]
   rw [HRR]
   clear HRR hlo hln hla h hco hCo
   generalize ofS s l a b db dr = r at hf1 hf2 hf3 hq ⊢
   obtain ⟨r1, r2, r3, r4, r5, r6⟩ := r
   dsimp only at hf1 hf2 hf3 hq ⊢
   generalize applyT s l r1 r2 r3 r4 r5 = u at hf2 hf3 ⊢
   obtain ⟨u1, u2, u3⟩ := u
   dsimp only at hf2 hf3 ⊢
   generalize viewS u1 u2 y = z at hf3 ⊢
   obtain ⟨z1, z2⟩ := z
   dsimp only at hf3 ⊢
   subst hq
   have HF1 := aM hf1
   have HF2 := aM hf2
   have HF3 := aM hf3
   clear hf1 hf2 hf3
   go_enter Tryz.func50, Tryz.ntmps50
   go_wp2_with (first
    | (refine gB 6 #[.int .i64 0, .string ⟨#[]⟩, .slice none 0 0, .string ⟨#[]⟩, .slice none 0 0] 36 (fun ge hg W1 BE hb => ?_); have Gge := g0 hg; replace HD := tl hb HD; have HB := aM hb; clear hb hg; replace hd4 := zC HD.out.hg 6 (.int .i64 0))
    )
   have hb := below_drew1 (Below.refl W1.heap.size W1)
   replace HD := tl hb HD
   replace HB := tl hb HB
   replace BE := tl hb BE
   clear hb
   refine oS1 17 (fun W => W.cell? ⟨g, 0, none⟩ = some (.string s) ∧ W.cell? ⟨g, 1, none⟩ = some (.slice A l.length c) ∧ W.cell? ⟨g, 4, none⟩ = some (.string db) ∧ W.cell? ⟨g, 5, none⟩ = some (.slice Ao dr.length co)) [15] ⟨zC HD.out.hg 0 _, zC HD.out.hg 1 _, zC HD.out.hg 4 _, zC HD.out.hg 5 _⟩ (fun hHeld => ?_)
   generalize W1.drew = W2 at HD HB BE hHeld ⊢
   refine sv 0 26 (z 17 1) ?_
   refine sv 1 27 (z 17 3) ?_
   refine sv 2 28 (z 17 7) ?_
   refine sv 4 30 (z 17 23) ?_
   refine sv 5 31 (z 17 55) ?_
   refine sv 6 32 (z 17 119) ?_
   refine sv 7 33 (z 17 247) ?_
   refine sv 8 34 (z 17 503) ?_
   refine st 3 29 (z 17 511) hHeld ?_
   refine st 9 35 (z 17 1023) hHeld ?_
   refine join_ (σ := Value × Value × Nat) 2 (z 17 32767) (fun s_ => [(36, .tuple #[.agg #[.int .i64 r1, .string r2, (s_.1), .string r4, (s_.2.1)], .int .i64 0]), (9, .pointer (some ⟨(s_.2.2), 0, none⟩)), (25, .tuple #[.agg #[.int .i64 r1, .string r2, (s_.1), .string r4, (s_.2.1)], .int .i64 0]), (37, .agg #[.int .i64 r1, .string r2, (s_.1), .string r4, (s_.2.1)]), (38, .int .i64 0)]) (fun s_ W => (W.cell? ⟨g, 0, none⟩ = some (.string s) ∧ W.cell? ⟨g, 1, none⟩ = some (.slice A l.length c) ∧ W.cell? ⟨g, 4, none⟩ = some (.string db) ∧ W.cell? ⟨g, 5, none⟩ = some (.slice Ao dr.length co)) ∧ W.heap[ge]? = some (.cells #[.int .i64 0, .string ⟨#[]⟩, .slice none 0 0, .string ⟨#[]⟩, .slice none 0 0] 36 (0, 0)) ∧ W.heap[(s_.2.2)]? = some (.cells #[.int .i64 0, .string ⟨#[]⟩, .slice none 0 0, .string ⟨#[]⟩, .slice none 0 0] 36 (0, 0)) ∧ Below w.heap.size w W ∧ DeskAt w0 g A c (.slice Ao dr.length co) W s l v y (db, dr, 0) ∧ Kd.R k68 68 W w.heap.size (fun k_ => some k_ ≠ ((s_.1) : Value).ownBlock) (s_.2.1) r5 ∧ Kd.R k68 68 W w.heap.size (fun k_ => some k_ ≠ ((s_.2.1) : Value).ownBlock) (s_.1) r3 ∧ w.heap.size ≤ (s_.2.2) ∧ (s_.2.2) ≠ ge) ?_ ?_
   rotate_left
   ·intro hCont
    refine two_ (i := 10) (j := 14) (Ni := some 36) (Nj := some 9) (z 17 2047) (z 17 17407) rfl rfl rfl rfl (by kernel_rfl) (by decide) (by decide) (fun K hK => ?_) (fun K hK => ?_)
    ·refine goes_ Tryz.func104 (by kernel_rfl) rfl #[.agg #[.string s, .slice A l.length c], .int .i64 a, .int .i64 b, .agg #[.string db, .slice Ao dr.length co]] (by rfl) rfl rfl (by (try simp only [List.map_toArray, List.map_cons, List.map_nil]); first | done | rfl) ?_
     clear hHeld
     (with_reducible refine (edit_Of.calls k1 s A c l a b db Ao co dr r1 r2 r3 r4 r5 0 _ HD.out.hC HD.out.hc (rR HD.out.hR).2.2 HCO.out HF1.out).mono ?_)
     rintro e W3 ⟨vo, vn, rfl, ho, hn, hb⟩
     have HO := aM (rL ho HB.out.size)
     have HN := aM (rL hn HB.out.size)
     replace HD := tl hb HD
     replace HB := tl hb HB
     replace BE := tl hb BE
     clear ho hn
     refine ⟨_, rfl, hK.out _ _ ⟨zC HD.out.hg 0 _, zC HD.out.hg 1 _, zC HD.out.hg 4 _, zC HD.out.hg 5 _⟩ (fun hHeld => ?_)⟩
     clear hK K hb
     refine norm_ (a' := ?_) ?_ ?_
     rotate_left
     ·show Act.put _ (some 36) _ = _
      simp only [Act.put, List.setIfInBounds_toArray, List.set_cons_zero, List.set_cons_succ, i64_w, i32_w]
      rfl
     refine sv 11 25 (z 17 4095) ?_
     refine sv 12 37 (z 17 8191) ?_
     refine sv 13 38 (z 17 16383) ?_
     refine one_ (i := 14) (N := some 9) (z 17 32767) rfl rfl (by kernel_rfl) (by decide) (fun K hK => ?_)
     refine box_step ?hg (N := 9) ?hd (cs := #[.int .i64 0, .string ⟨#[]⟩, .slice none 0 0, .string ⟨#[]⟩, .slice none 0 0]) (t := 36) ?hr ?_; (case hd => rfl); (case hg => rfl); (case hr => first | (go_simp; done) | (go_simp; rfl))
     clear hHeld
     intro gf hg W4 hbox hb
     have Ggf := gG hg HB
     have Ngfge := gN hg BE
     replace HD := tl hb HD
     replace HB := tl hb HB
     replace BE := tl hb BE
     replace HO := tl hb HO
     replace HN := tl hb HN
     have BF := aM hbox
     refine hK.out _ _ ⟨zC HD.out.hg 0 _, zC HD.out.hg 1 _, zC HD.out.hg 4 _, zC HD.out.hg 5 _⟩ (fun hHeld => ?_)
     clear hK K hb hbox hg
     refine norm_ (a' := ?_) ?_ ?_
     rotate_left
     ·show Act.put _ (some 9) _ = _
      simp only [Act.put, List.setIfInBounds_toArray, List.set_cons_zero, List.set_cons_succ, i64_w, i32_w]
      rfl
     exact norm_ (by simp only [Go.Proofs.YtjkfkiebhgkolaaGreatDoorW.PrintLast.putAll, Act.put, List.setIfInBounds_toArray, List.set_cons_zero, List.set_cons_succ]) (hCont (vo, vn, gf) _ ⟨hHeld, BE.out, BF.out, HB.out, HD.out, HN.out, HO.out, Ggf.out, Ngfge.out⟩)
    ·refine box_step ?hg (N := 9) ?hd (cs := #[.int .i64 0, .string ⟨#[]⟩, .slice none 0 0, .string ⟨#[]⟩, .slice none 0 0]) (t := 36) ?hr ?_; (case hd => rfl); (case hg => rfl); (case hr => first | (go_simp; done) | (go_simp; rfl))
     clear hHeld
     intro gf hg W3 hbox hb
     have Ggf := gG hg HB
     have Ngfge := gN hg BE
     replace HD := tl hb HD
     replace HB := tl hb HB
     replace BE := tl hb BE
     have BF := aM hbox
     refine hK.out _ _ ⟨zC HD.out.hg 0 _, zC HD.out.hg 1 _, zC HD.out.hg 4 _, zC HD.out.hg 5 _⟩ (fun hHeld => ?_)
     clear hK K hb hbox hg
     refine norm_ (a' := ?_) ?_ ?_
     rotate_left
     ·show Act.put _ (some 9) _ = _
      simp only [Act.put, List.setIfInBounds_toArray, List.set_cons_zero, List.set_cons_succ, i64_w, i32_w]
      rfl
     refine one_ (i := 10) (N := some 36) (z 17 18431) rfl rfl (by kernel_rfl) (by decide) (fun K hK => ?_)
     refine goes_ Tryz.func104 (by kernel_rfl) rfl #[.agg #[.string s, .slice A l.length c], .int .i64 a, .int .i64 b, .agg #[.string db, .slice Ao dr.length co]] (by rfl) rfl rfl (by (try simp only [List.map_toArray, List.map_cons, List.map_nil]); first | done | rfl) ?_
     clear hHeld
     (with_reducible refine (edit_Of.calls k1 s A c l a b db Ao co dr r1 r2 r3 r4 r5 0 _ HD.out.hC HD.out.hc (rR HD.out.hR).2.2 HCO.out HF1.out).mono ?_)
     rintro e W4 ⟨vo, vn, rfl, ho, hn, hb⟩
     have HO := aM (rL ho HB.out.size)
     have HN := aM (rL hn HB.out.size)
     replace HD := tl hb HD
     replace HB := tl hb HB
     replace BE := tl hb BE
     replace BF := tl hb BF
     clear ho hn
     refine ⟨_, rfl, hK.out _ _ ⟨zC HD.out.hg 0 _, zC HD.out.hg 1 _, zC HD.out.hg 4 _, zC HD.out.hg 5 _⟩ (fun hHeld => ?_)⟩
     clear hK K hb
     refine norm_ (a' := ?_) ?_ ?_
     rotate_left
     ·show Act.put _ (some 36) _ = _
      simp only [Act.put, List.setIfInBounds_toArray, List.set_cons_zero, List.set_cons_succ, i64_w, i32_w]
      rfl
     refine sv 11 25 (z 17 20479) ?_
     refine sv 12 37 (z 17 24575) ?_
     refine sv 13 38 (z 17 32767) ?_
     exact norm_ (by simp only [Go.Proofs.YtjkfkiebhgkolaaGreatDoorW.PrintLast.putAll, Act.put, List.setIfInBounds_toArray, List.set_cons_zero, List.set_cons_succ]) (hCont (vo, vn, gf) _ ⟨hHeld, BE.out, BF.out, HB.out, HD.out, HN.out, HO.out, Ggf.out, Ngfge.out⟩)
   clear hHeld HD HB BE
   rintro ⟨vo, vn, gf⟩ W5 ⟨hHeld, x_0, x_1, x_2, x_3, x_4, x_5, x_6, x_7⟩
   try dsimp only at x_0 x_1 x_2 x_3 x_4 x_5 x_6 x_7
   have BE := aM x_0
   have BF := aM x_1
   have HB := aM x_2
   have HD := aM x_3
   have HN := aM x_4
   have HO := aM x_5
   have Ggf := aM x_6
   have Ngfge := aM x_7
   clear x_0 x_1 x_2 x_3 x_4 x_5 x_6 x_7
   refine norm_ (a' := ?_) ?_ ?_
   rotate_left
   ·simp only [Go.Proofs.YtjkfkiebhgkolaaGreatDoorW.PrintLast.putAll, Act.put, List.setIfInBounds_toArray, List.set_cons_zero, List.set_cons_succ, i64_w, i32_w]
    rfl
   obtain ⟨Ax, cx, rfl⟩ := Kd.R_slice HO.out
   obtain ⟨Ay, cy, rfl⟩ := Kd.R_slice HN.out
   refine lS 15 (z 17 65535) BF 0 [.int .i64 r1, .string r2, .slice Ax r3.length cx, .string r4, .slice Ay r5.length cy] (fun W6 hP => ?_)
   clear hHeld
   replace BE := sN hP Ngfge BE
   replace HB := sW hP Ggf HB
   replace HD := sD hP BF HS Ggf HD
   replace HN := sR hP BF HN
   replace HO := sR hP BF HO
   replace BF := sX hP BF
   clear hP
   refine sv 16 10 (z 17 131071) ?_
   refine done_ (by kernel_rfl) ?_
   go_wp2
   have hb := below_drew1 (Below.refl W6.heap.size W6)
   replace BE := tl hb BE
   replace BF := tl hb BF
   replace HB := tl hb HB
   replace HD := tl hb HD
   replace HN := tl hb HN
   replace HO := tl hb HO
   clear hb
   refine oS1 12 (fun W => W.cell? ⟨g, 0, none⟩ = some (.string s) ∧ W.cell? ⟨g, 1, none⟩ = some (.slice A l.length c) ∧ W.cell? ⟨gf, 0, none⟩ = some (.int .i64 r1) ∧ W.cell? ⟨gf, 1, none⟩ = some (.string r2) ∧ W.cell? ⟨gf, 2, none⟩ = some (.slice Ax r3.length cx) ∧ W.cell? ⟨gf, 3, none⟩ = some (.string r4) ∧ W.cell? ⟨gf, 4, none⟩ = some (.slice Ay r5.length cy)) [10] ⟨zC HD.out.hg 0 _, zC HD.out.hg 1 _, zC BF.out 0 _, zC BF.out 1 _, zC BF.out 2 _, zC BF.out 3 _, zC BF.out 4 _⟩ (fun hHeld => ?_)
   generalize W6.drew = W7 at BE BF HB HD HN HO hHeld ⊢
   refine sv 0 44 (z 12 1) ?_
   refine sv 1 45 (z 12 3) ?_
   refine sv 2 46 (z 12 7) ?_
   refine st 3 47 (z 12 15) hHeld ?_
   refine st 4 48 (z 12 31) hHeld ?_
   refine join_ (σ := Value × Nat) 2 (z 12 1023) (fun s_ => [(49, .tuple #[.agg #[.string u1, (s_.1)], .int .i64 u3]), (11, .pointer (some ⟨(s_.2), 0, none⟩)), (43, .tuple #[.agg #[.string u1, (s_.1)], .int .i64 u3]), (50, .agg #[.string u1, (s_.1)]), (51, .int .i64 u3)]) (fun s_ W => (W.cell? ⟨g, 0, none⟩ = some (.string s) ∧ W.cell? ⟨g, 1, none⟩ = some (.slice A l.length c) ∧ W.cell? ⟨gf, 0, none⟩ = some (.int .i64 r1) ∧ W.cell? ⟨gf, 1, none⟩ = some (.string r2) ∧ W.cell? ⟨gf, 2, none⟩ = some (.slice Ax r3.length cx) ∧ W.cell? ⟨gf, 3, none⟩ = some (.string r4) ∧ W.cell? ⟨gf, 4, none⟩ = some (.slice Ay r5.length cy)) ∧ W.heap[ge]? = some (.cells #[.int .i64 0, .string ⟨#[]⟩, .slice none 0 0, .string ⟨#[]⟩, .slice none 0 0] 36 (0, 0)) ∧ W.heap[gf]? = some (.cells #[.int .i64 r1, .string r2, .slice Ax r3.length cx, .string r4, .slice Ay r5.length cy] 36 (0, 0)) ∧ W.heap[(s_.2)]? = some (.cells #[.string ⟨#[]⟩, .slice none 0 0] 24 (0, 0)) ∧ Below w.heap.size w W ∧ DeskAt w0 g A c (.slice Ao dr.length co) W s l v y (db, dr, 0) ∧ Kd.R k68 68 W w.heap.size (fun k_ => some k_ ≠ ((.slice Ax r3.length cx : Value) : Value).ownBlock) (.slice Ay r5.length cy : Value) r5 ∧ Kd.R k68 68 W w.heap.size (fun k_ => some k_ ≠ ((.slice Ay r5.length cy : Value) : Value).ownBlock) (.slice Ax r3.length cx : Value) r3 ∧ Kd.R k68 68 W w.heap.size (fun _ => True) (s_.1) u2 ∧ w.heap.size ≤ (s_.2) ∧ (s_.2) ≠ ge ∧ (s_.2) ≠ gf) ?_ ?_
   rotate_left
   ·intro hCont
    refine two_ (i := 5) (j := 9) (Ni := some 49) (Nj := some 11) (z 12 63) (z 12 543) rfl rfl rfl rfl (by kernel_rfl) (by decide) (by decide) (fun K hK => ?_) (fun K hK => ?_)
    ·refine goes_ Tryz.func105 (by kernel_rfl) rfl #[.agg #[.string s, .slice A l.length c], .agg #[.int .i64 r1, .string r2, .slice Ax r3.length cx, .string r4, .slice Ay r5.length cy]] (by rfl) rfl rfl (by (try simp only [List.map_toArray, List.map_cons, List.map_nil]); first | done | rfl) ?_
     clear hHeld
     (with_reducible refine (edit_Apply.calls k2 s A c l r1 r2 Ax cx r3 r4 Ay cy r5 u1 u2 u3 _ HD.out.hC HD.out.hc (rR HO.out).2.2 (rR HO.out).2.1 (rR HN.out).2.2 (rR HN.out).2.1 HF2.out).mono ?_)
     rintro e W8 ⟨vu, rfl, ho, hb⟩
     have HU := aM (rL ho HB.out.size)
     replace BE := tl hb BE
     replace BF := tl hb BF
     replace HB := tl hb HB
     replace HD := tl hb HD
     replace HN := tl hb HN
     replace HO := tl hb HO
     clear ho
     refine ⟨_, rfl, hK.out _ _ ⟨zC HD.out.hg 0 _, zC HD.out.hg 1 _, zC BF.out 0 _, zC BF.out 1 _, zC BF.out 2 _, zC BF.out 3 _, zC BF.out 4 _⟩ (fun hHeld => ?_)⟩
     clear hK K hb
     refine norm_ (a' := ?_) ?_ ?_
     rotate_left
     ·show Act.put _ (some 49) _ = _
      simp only [Act.put, List.setIfInBounds_toArray, List.set_cons_zero, List.set_cons_succ, i64_w, i32_w]
      rfl
     refine sv 6 43 (z 12 127) ?_
     refine sv 7 50 (z 12 255) ?_
     refine sv 8 51 (z 12 511) ?_
     refine one_ (i := 9) (N := some 11) (z 12 1023) rfl rfl (by kernel_rfl) (by decide) (fun K hK => ?_)
     refine box_step ?hg (N := 11) ?hd (cs := #[.string ⟨#[]⟩, .slice none 0 0]) (t := 24) ?hr ?_; (case hd => rfl); (case hg => rfl); (case hr => first | (go_simp; done) | (go_simp; rfl))
     clear hHeld
     intro gu hg W9 hbox hb
     have Ggu := gG hg HB
     have Nguge := gN hg BE
     have Ngugf := gN hg BF
     replace BE := tl hb BE
     replace BF := tl hb BF
     replace HB := tl hb HB
     replace HD := tl hb HD
     replace HN := tl hb HN
     replace HO := tl hb HO
     replace HU := tl hb HU
     have BU := aM hbox
     refine hK.out _ _ ⟨zC HD.out.hg 0 _, zC HD.out.hg 1 _, zC BF.out 0 _, zC BF.out 1 _, zC BF.out 2 _, zC BF.out 3 _, zC BF.out 4 _⟩ (fun hHeld => ?_)
     clear hK K hb hbox hg
     refine norm_ (a' := ?_) ?_ ?_
     rotate_left
     ·show Act.put _ (some 11) _ = _
      simp only [Act.put, List.setIfInBounds_toArray, List.set_cons_zero, List.set_cons_succ, i64_w, i32_w]
      rfl
     exact norm_ (by simp only [Go.Proofs.YtjkfkiebhgkolaaGreatDoorW.PrintLast.putAll, Act.put, List.setIfInBounds_toArray, List.set_cons_zero, List.set_cons_succ]) (hCont (vu, gu) _ ⟨hHeld, BE.out, BF.out, BU.out, HB.out, HD.out, HN.out, HO.out, HU.out, Ggu.out, Nguge.out, Ngugf.out⟩)
    ·refine box_step ?hg (N := 11) ?hd (cs := #[.string ⟨#[]⟩, .slice none 0 0]) (t := 24) ?hr ?_; (case hd => rfl); (case hg => rfl); (case hr => first | (go_simp; done) | (go_simp; rfl))
     clear hHeld
     intro gu hg W8 hbox hb
     have Ggu := gG hg HB
     have Nguge := gN hg BE
     have Ngugf := gN hg BF
     replace BE := tl hb BE
     replace BF := tl hb BF
     replace HB := tl hb HB
     replace HD := tl hb HD
     replace HN := tl hb HN
     replace HO := tl hb HO
     have BU := aM hbox
     refine hK.out _ _ ⟨zC HD.out.hg 0 _, zC HD.out.hg 1 _, zC BF.out 0 _, zC BF.out 1 _, zC BF.out 2 _, zC BF.out 3 _, zC BF.out 4 _⟩ (fun hHeld => ?_)
     clear hK K hb hbox hg
     refine norm_ (a' := ?_) ?_ ?_
     rotate_left
     ·show Act.put _ (some 11) _ = _
      simp only [Act.put, List.setIfInBounds_toArray, List.set_cons_zero, List.set_cons_succ, i64_w, i32_w]
      rfl
     refine one_ (i := 5) (N := some 49) (z 12 575) rfl rfl (by kernel_rfl) (by decide) (fun K hK => ?_)
     refine goes_ Tryz.func105 (by kernel_rfl) rfl #[.agg #[.string s, .slice A l.length c], .agg #[.int .i64 r1, .string r2, .slice Ax r3.length cx, .string r4, .slice Ay r5.length cy]] (by rfl) rfl rfl (by (try simp only [List.map_toArray, List.map_cons, List.map_nil]); first | done | rfl) ?_
     clear hHeld
     (with_reducible refine (edit_Apply.calls k2 s A c l r1 r2 Ax cx r3 r4 Ay cy r5 u1 u2 u3 _ HD.out.hC HD.out.hc (rR HO.out).2.2 (rR HO.out).2.1 (rR HN.out).2.2 (rR HN.out).2.1 HF2.out).mono ?_)
     rintro e W9 ⟨vu, rfl, ho, hb⟩
     have HU := aM (rL ho HB.out.size)
     replace BE := tl hb BE
     replace BF := tl hb BF
     replace HB := tl hb HB
     replace HD := tl hb HD
     replace HN := tl hb HN
     replace HO := tl hb HO
     replace BU := tl hb BU
     clear ho
     refine ⟨_, rfl, hK.out _ _ ⟨zC HD.out.hg 0 _, zC HD.out.hg 1 _, zC BF.out 0 _, zC BF.out 1 _, zC BF.out 2 _, zC BF.out 3 _, zC BF.out 4 _⟩ (fun hHeld => ?_)⟩
     clear hK K hb
     refine norm_ (a' := ?_) ?_ ?_
     rotate_left
     ·show Act.put _ (some 49) _ = _
      simp only [Act.put, List.setIfInBounds_toArray, List.set_cons_zero, List.set_cons_succ, i64_w, i32_w]
      rfl
     refine sv 6 43 (z 12 639) ?_
     refine sv 7 50 (z 12 767) ?_
     refine sv 8 51 (z 12 1023) ?_
     exact norm_ (by simp only [Go.Proofs.YtjkfkiebhgkolaaGreatDoorW.PrintLast.putAll, Act.put, List.setIfInBounds_toArray, List.set_cons_zero, List.set_cons_succ]) (hCont (vu, gu) _ ⟨hHeld, BE.out, BF.out, BU.out, HB.out, HD.out, HN.out, HO.out, HU.out, Ggu.out, Nguge.out, Ngugf.out⟩)
   clear hHeld BE BF HB HD HN HO
   rintro ⟨vu, gu⟩ W10 ⟨hHeld, x_0, x_1, x_2, x_3, x_4, x_5, x_6, x_7, x_8, x_9, x_10⟩
   try dsimp only at x_0 x_1 x_2 x_3 x_4 x_5 x_6 x_7 x_8 x_9 x_10
   have BE := aM x_0
   have BF := aM x_1
   have BU := aM x_2
   have HB := aM x_3
   have HD := aM x_4
   have HN := aM x_5
   have HO := aM x_6
   have HU := aM x_7
   have Ggu := aM x_8
   have Nguge := aM x_9
   have Ngugf := aM x_10
   clear x_0 x_1 x_2 x_3 x_4 x_5 x_6 x_7 x_8 x_9 x_10
   refine norm_ (a' := ?_) ?_ ?_
   rotate_left
   ·simp only [Go.Proofs.YtjkfkiebhgkolaaGreatDoorW.PrintLast.putAll, Act.put, List.setIfInBounds_toArray, List.set_cons_zero, List.set_cons_succ, i64_w, i32_w]
    rfl
   obtain ⟨Au, cu, rfl⟩ := Kd.R_slice HU.out
   refine lS 10 (z 12 2047) BU 0 [.string u1, .slice Au u2.length cu] (fun W11 hP => ?_)
   clear hHeld
   replace BE := sB hP BU BE
   replace BF := sB hP BU BF
   replace HB := sW hP Ggu HB
   replace HD := sD hP BU HS Ggu HD
   replace HN := sR hP BU HN
   replace HO := sR hP BU HO
   replace HU := sR hP BU HU
   replace BU := sX hP BU
   clear hP
   refine sv 11 12 (z 12 4095) ?_
   refine done_ (by kernel_rfl) ?_
   go_wp2
   have hb := below_drew1 (Below.refl W11.heap.size W11)
   replace BE := tl hb BE
   replace BF := tl hb BF
   replace BU := tl hb BU
   replace HB := tl hb HB
   replace HD := tl hb HD
   replace HN := tl hb HN
   replace HO := tl hb HO
   replace HU := tl hb HU
   clear hb
   refine oS1 11 (fun W => W.cell? ⟨gu, 0, none⟩ = some (.string u1) ∧ W.cell? ⟨gu, 1, none⟩ = some (.slice Au u2.length cu) ∧ W.cell? ⟨g, 3, none⟩ = some (.int .u64 y)) [] ⟨zC BU.out 0 _, zC BU.out 1 _, zC HD.out.hg 3 _⟩ (fun hHeld => ?_)
   generalize W11.drew = W12 at BE BF BU HB HD HN HO HU hHeld ⊢
   refine sv 1 54 (z 11 2) ?_
   refine sv 2 55 (z 11 6) ?_
   refine sv 3 56 (z 11 14) ?_
   refine st 0 53 (z 11 15) hHeld ?_
   refine st 4 57 (z 11 31) hHeld ?_
   refine oC 5 (some 58) (z 11 63) Tryz.func71 #[.agg #[.string u1, .slice Au u2.length cu], .int .u64 y] ?_
   clear hHeld
   (with_reducible refine (strip_View.calls k3 u1 _ _ u2 y z1 z2 _ (rR HU.out).2.2 (rR HU.out).2.1 HF3.out).mono ?_)
   rintro e W13 ⟨rfl, hb⟩
   replace BE := tl hb BE
   replace BF := tl hb BF
   replace BU := tl hb BU
   replace HB := tl hb HB
   replace HD := tl hb HD
   replace HN := tl hb HN
   replace HO := tl hb HO
   replace HU := tl hb HU
   refine ⟨_, rfl, ⟨zC BU.out 0 _, zC BU.out 1 _, zC HD.out.hg 3 _⟩, fun hHeld => nm ?_⟩
   clear hb
   refine sv 6 52 (z 11 127) ?_
   refine sv 7 59 (z 11 255) ?_
   refine sv 8 60 (z 11 511) ?_
   refine sv 9 13 (z 11 1023) ?_
   refine sv 10 14 (z 11 2047) ?_
   refine done_ (by kernel_rfl) ?_
   clear hHeld
   replace hf0 := zC BF.out 0 (.int .i64 r1)
   replace hf1 := zC BF.out 1 (.string r2)
   replace hf2 := zC BF.out 2 (.slice Ax r3.length cx)
   replace hf3 := zC BF.out 3 (.string r4)
   replace hf4 := zC BF.out 4 (.slice Ay r5.length cy)
   go_wp2_with (first
    | (refine gS BE 0 [.int .i64 r1, .string r2, .slice Ax r3.length cx, .string r4, .slice Ay r5.length cy] (fun W14 hP => ?_); replace BF := sM hP Ngfge BF; replace BU := sB hP BE BU; replace HB := sW hP Gge HB; replace HD := sD hP BE HS Gge HD; replace HN := sR hP BE HN; replace HO := sR hP BE HO; replace HU := sR hP BE HU; replace BE := sX hP BE; clear hP)
    )
   refine bodyPost_ret (results_ctt rfl _ _ ge 36 #[.int .i64 r1, .string r2, .slice Ax r3.length cx, .string r4, .slice Ay r5.length cy] (0, 0) _ rfl BE.out Tryz.underlying36 rfl (by kernel_rfl)) rfl ?_
   exact ⟨_, _, rfl, HO.out, HN.out, HB.out⟩
  ·have HRR : turnD s l y (db, dr, 0) a b = ((0, eB, [], eB, [], (ofS s l a b db dr).2.2.2.2.2), eB) := by
    unfold turnD
    rw [if_pos rfl, if_neg hq]
   rw [HRR]
   clear HRR hlo hln h hco hCo
   generalize ofS s l a b db dr = r at hf1 hq ⊢
   obtain ⟨r1, r2, r3, r4, r5, r6⟩ := r
   dsimp only at hf1 hq ⊢
   have b3 : (r6 != 0) = true := bne_iff_ne.2 hq
   have b4 : (r6 == 0) = false := beq_eq_false_iff_ne.2 hq
   clear hq
   have HF1 := aM hf1
   clear hf1
   go_enter Tryz.func50, Tryz.ntmps50
   go_wp2_with (first
    | (refine gB 6 #[.int .i64 0, .string ⟨#[]⟩, .slice none 0 0, .string ⟨#[]⟩, .slice none 0 0] 36 (fun ge hg W1 BE hb => ?_); have Gge := g0 hg; replace HD := tl hb HD; have HB := aM hb; clear hb hg; replace hd4 := zC HD.out.hg 6 (.int .i64 0))
    )
   have hb := below_drew1 (Below.refl W1.heap.size W1)
   replace HD := tl hb HD
   replace HB := tl hb HB
   replace BE := tl hb BE
   clear hb
   refine oS1 17 (fun W => W.cell? ⟨g, 0, none⟩ = some (.string s) ∧ W.cell? ⟨g, 1, none⟩ = some (.slice A l.length c) ∧ W.cell? ⟨g, 4, none⟩ = some (.string db) ∧ W.cell? ⟨g, 5, none⟩ = some (.slice Ao dr.length co)) [15] ⟨zC HD.out.hg 0 _, zC HD.out.hg 1 _, zC HD.out.hg 4 _, zC HD.out.hg 5 _⟩ (fun hHeld => ?_)
   generalize W1.drew = W2 at HD HB BE hHeld ⊢
   refine sv 0 26 (z 17 1) ?_
   refine sv 1 27 (z 17 3) ?_
   refine sv 2 28 (z 17 7) ?_
   refine sv 4 30 (z 17 23) ?_
   refine sv 5 31 (z 17 55) ?_
   refine sv 6 32 (z 17 119) ?_
   refine sv 7 33 (z 17 247) ?_
   refine sv 8 34 (z 17 503) ?_
   refine st 3 29 (z 17 511) hHeld ?_
   refine st 9 35 (z 17 1023) hHeld ?_
   refine join_ (σ := Value × Value × Nat) 2 (z 17 32767) (fun s_ => [(36, .tuple #[.agg #[.int .i64 r1, .string r2, (s_.1), .string r4, (s_.2.1)], .int .i64 r6]), (9, .pointer (some ⟨(s_.2.2), 0, none⟩)), (25, .tuple #[.agg #[.int .i64 r1, .string r2, (s_.1), .string r4, (s_.2.1)], .int .i64 r6]), (37, .agg #[.int .i64 r1, .string r2, (s_.1), .string r4, (s_.2.1)]), (38, .int .i64 r6)]) (fun s_ W => (W.cell? ⟨g, 0, none⟩ = some (.string s) ∧ W.cell? ⟨g, 1, none⟩ = some (.slice A l.length c) ∧ W.cell? ⟨g, 4, none⟩ = some (.string db) ∧ W.cell? ⟨g, 5, none⟩ = some (.slice Ao dr.length co)) ∧ W.heap[ge]? = some (.cells #[.int .i64 0, .string ⟨#[]⟩, .slice none 0 0, .string ⟨#[]⟩, .slice none 0 0] 36 (0, 0)) ∧ W.heap[(s_.2.2)]? = some (.cells #[.int .i64 0, .string ⟨#[]⟩, .slice none 0 0, .string ⟨#[]⟩, .slice none 0 0] 36 (0, 0)) ∧ Below w.heap.size w W ∧ DeskAt w0 g A c (.slice Ao dr.length co) W s l v y (db, dr, 0) ∧ Kd.R k68 68 W w.heap.size (fun k_ => some k_ ≠ ((s_.1) : Value).ownBlock) (s_.2.1) r5 ∧ Kd.R k68 68 W w.heap.size (fun k_ => some k_ ≠ ((s_.2.1) : Value).ownBlock) (s_.1) r3 ∧ w.heap.size ≤ (s_.2.2) ∧ (s_.2.2) ≠ ge) ?_ ?_
   rotate_left
   ·intro hCont
    refine two_ (i := 10) (j := 14) (Ni := some 36) (Nj := some 9) (z 17 2047) (z 17 17407) rfl rfl rfl rfl (by kernel_rfl) (by decide) (by decide) (fun K hK => ?_) (fun K hK => ?_)
    ·refine goes_ Tryz.func104 (by kernel_rfl) rfl #[.agg #[.string s, .slice A l.length c], .int .i64 a, .int .i64 b, .agg #[.string db, .slice Ao dr.length co]] (by rfl) rfl rfl (by (try simp only [List.map_toArray, List.map_cons, List.map_nil]); first | done | rfl) ?_
     clear hHeld
     (with_reducible refine (edit_Of.calls k1 s A c l a b db Ao co dr r1 r2 r3 r4 r5 r6 _ HD.out.hC HD.out.hc (rR HD.out.hR).2.2 HCO.out HF1.out).mono ?_)
     rintro e W3 ⟨vo, vn, rfl, ho, hn, hb⟩
     have HO := aM (rL ho HB.out.size)
     have HN := aM (rL hn HB.out.size)
     replace HD := tl hb HD
     replace HB := tl hb HB
     replace BE := tl hb BE
     clear ho hn
     refine ⟨_, rfl, hK.out _ _ ⟨zC HD.out.hg 0 _, zC HD.out.hg 1 _, zC HD.out.hg 4 _, zC HD.out.hg 5 _⟩ (fun hHeld => ?_)⟩
     clear hK K hb
     refine norm_ (a' := ?_) ?_ ?_
     rotate_left
     ·show Act.put _ (some 36) _ = _
      simp only [Act.put, List.setIfInBounds_toArray, List.set_cons_zero, List.set_cons_succ, i64_w, i32_w]
      rfl
     refine sv 11 25 (z 17 4095) ?_
     refine sv 12 37 (z 17 8191) ?_
     refine sv 13 38 (z 17 16383) ?_
     refine one_ (i := 14) (N := some 9) (z 17 32767) rfl rfl (by kernel_rfl) (by decide) (fun K hK => ?_)
     refine box_step ?hg (N := 9) ?hd (cs := #[.int .i64 0, .string ⟨#[]⟩, .slice none 0 0, .string ⟨#[]⟩, .slice none 0 0]) (t := 36) ?hr ?_; (case hd => rfl); (case hg => rfl); (case hr => first | (go_simp; done) | (go_simp; rfl))
     clear hHeld
     intro gf hg W4 hbox hb
     have Ggf := gG hg HB
     have Ngfge := gN hg BE
     replace HD := tl hb HD
     replace HB := tl hb HB
     replace BE := tl hb BE
     replace HO := tl hb HO
     replace HN := tl hb HN
     have BF := aM hbox
     refine hK.out _ _ ⟨zC HD.out.hg 0 _, zC HD.out.hg 1 _, zC HD.out.hg 4 _, zC HD.out.hg 5 _⟩ (fun hHeld => ?_)
     clear hK K hb hbox hg
     refine norm_ (a' := ?_) ?_ ?_
     rotate_left
     ·show Act.put _ (some 9) _ = _
      simp only [Act.put, List.setIfInBounds_toArray, List.set_cons_zero, List.set_cons_succ, i64_w, i32_w]
      rfl
     exact norm_ (by simp only [Go.Proofs.YtjkfkiebhgkolaaGreatDoorW.PrintLast.putAll, Act.put, List.setIfInBounds_toArray, List.set_cons_zero, List.set_cons_succ]) (hCont (vo, vn, gf) _ ⟨hHeld, BE.out, BF.out, HB.out, HD.out, HN.out, HO.out, Ggf.out, Ngfge.out⟩)
    ·refine box_step ?hg (N := 9) ?hd (cs := #[.int .i64 0, .string ⟨#[]⟩, .slice none 0 0, .string ⟨#[]⟩, .slice none 0 0]) (t := 36) ?hr ?_; (case hd => rfl); (case hg => rfl); (case hr => first | (go_simp; done) | (go_simp; rfl))
     clear hHeld
     intro gf hg W3 hbox hb
     have Ggf := gG hg HB
     have Ngfge := gN hg BE
     replace HD := tl hb HD
     replace HB := tl hb HB
     replace BE := tl hb BE
     have BF := aM hbox
     refine hK.out _ _ ⟨zC HD.out.hg 0 _, zC HD.out.hg 1 _, zC HD.out.hg 4 _, zC HD.out.hg 5 _⟩ (fun hHeld => ?_)
     clear hK K hb hbox hg
     refine norm_ (a' := ?_) ?_ ?_
     rotate_left
     ·show Act.put _ (some 9) _ = _
      simp only [Act.put, List.setIfInBounds_toArray, List.set_cons_zero, List.set_cons_succ, i64_w, i32_w]
      rfl
     refine one_ (i := 10) (N := some 36) (z 17 18431) rfl rfl (by kernel_rfl) (by decide) (fun K hK => ?_)
     refine goes_ Tryz.func104 (by kernel_rfl) rfl #[.agg #[.string s, .slice A l.length c], .int .i64 a, .int .i64 b, .agg #[.string db, .slice Ao dr.length co]] (by rfl) rfl rfl (by (try simp only [List.map_toArray, List.map_cons, List.map_nil]); first | done | rfl) ?_
     clear hHeld
     (with_reducible refine (edit_Of.calls k1 s A c l a b db Ao co dr r1 r2 r3 r4 r5 r6 _ HD.out.hC HD.out.hc (rR HD.out.hR).2.2 HCO.out HF1.out).mono ?_)
     rintro e W4 ⟨vo, vn, rfl, ho, hn, hb⟩
     have HO := aM (rL ho HB.out.size)
     have HN := aM (rL hn HB.out.size)
     replace HD := tl hb HD
     replace HB := tl hb HB
     replace BE := tl hb BE
     replace BF := tl hb BF
     clear ho hn
     refine ⟨_, rfl, hK.out _ _ ⟨zC HD.out.hg 0 _, zC HD.out.hg 1 _, zC HD.out.hg 4 _, zC HD.out.hg 5 _⟩ (fun hHeld => ?_)⟩
     clear hK K hb
     refine norm_ (a' := ?_) ?_ ?_
     rotate_left
     ·show Act.put _ (some 36) _ = _
      simp only [Act.put, List.setIfInBounds_toArray, List.set_cons_zero, List.set_cons_succ, i64_w, i32_w]
      rfl
     refine sv 11 25 (z 17 20479) ?_
     refine sv 12 37 (z 17 24575) ?_
     refine sv 13 38 (z 17 32767) ?_
     exact norm_ (by simp only [Go.Proofs.YtjkfkiebhgkolaaGreatDoorW.PrintLast.putAll, Act.put, List.setIfInBounds_toArray, List.set_cons_zero, List.set_cons_succ]) (hCont (vo, vn, gf) _ ⟨hHeld, BE.out, BF.out, HB.out, HD.out, HN.out, HO.out, Ggf.out, Ngfge.out⟩)
   clear hHeld HD HB BE
   rintro ⟨vo, vn, gf⟩ W5 ⟨hHeld, x_0, x_1, x_2, x_3, x_4, x_5, x_6, x_7⟩
   try dsimp only at x_0 x_1 x_2 x_3 x_4 x_5 x_6 x_7
   have BE := aM x_0
   have BF := aM x_1
   have HB := aM x_2
   have HD := aM x_3
   have HN := aM x_4
   have HO := aM x_5
   have Ggf := aM x_6
   have Ngfge := aM x_7
   clear x_0 x_1 x_2 x_3 x_4 x_5 x_6 x_7
   refine norm_ (a' := ?_) ?_ ?_
   rotate_left
   ·simp only [Go.Proofs.YtjkfkiebhgkolaaGreatDoorW.PrintLast.putAll, Act.put, List.setIfInBounds_toArray, List.set_cons_zero, List.set_cons_succ, i64_w, i32_w]
    rfl
   obtain ⟨Ax, cx, rfl⟩ := Kd.R_slice HO.out
   obtain ⟨Ay, cy, rfl⟩ := Kd.R_slice HN.out
   refine lS 15 (z 17 65535) BF 0 [.int .i64 r1, .string r2, .slice Ax r3.length cx, .string r4, .slice Ay r5.length cy] (fun W6 hP => ?_)
   clear hHeld
   replace BE := sN hP Ngfge BE
   replace HB := sW hP Ggf HB
   replace HD := sD hP BF HS Ggf HD
   replace HN := sR hP BF HN
   replace HO := sR hP BF HO
   replace BF := sX hP BF
   clear hP
   refine sv 16 10 (z 17 131071) ?_
   refine done_ (by kernel_rfl) ?_
   go_wp2_with (first
    | (refine gS BE 0 [.int .i64 0, .string ⟨#[]⟩, .slice none 0 0, .string ⟨#[]⟩, .slice none 0 0] (fun W7 hP => ?_); replace BF := sM hP Ngfge BF; replace HB := sW hP Gge HB; replace HD := sD hP BE HS Gge HD; replace HN := sR hP BE HN; replace HO := sR hP BE HO; replace BE := sX hP BE; clear hP)
    )
   refine bodyPost_ret (results_ctt rfl _ _ ge 36 #[.int .i64 0, .string ⟨#[]⟩, .slice none 0 0, .string ⟨#[]⟩, .slice none 0 0] (0, 0) _ rfl BE.out Tryz.underlying36 rfl (by kernel_rfl)) rfl ?_
   exact ⟨_, _, rfl, Kd.R_nil _ _ _ _ _, Kd.R_nil _ _ _ _ _, HB.out⟩
 ·have HRR : turnD s l y (db, dr, de) a b = ((0, eB, [], eB, [], de), eB) := if_neg hd
  rw [HRR]
  have b3 : (de != 0) = true := bne_iff_ne.2 hd
  have b4 : (de == 0) = false := beq_eq_false_iff_ne.2 hd
  clear h hco hCo hd
  go_enter Tryz.func50, Tryz.ntmps50
  go_wp2_with (first
   | (refine gB 6 #[.int .i64 0, .string ⟨#[]⟩, .slice none 0 0, .string ⟨#[]⟩, .slice none 0 0] 36 (fun ge hg W1 BE hb => ?_); have Gge := g0 hg; replace HD := tl hb HD; have HB := aM hb; clear hb hg; replace hd4 := zC HD.out.hg 6 (.int .i64 de))
   )
  have hb := below_drew1 (Below.refl W1.heap.size W1)
  replace HD := tl hb HD
  replace HB := tl hb HB
  replace BE := tl hb BE
  clear hb
  refine oS1 8 (fun W => W.cell? ⟨g, 6, none⟩ = some (.int .i64 de) ∧ W.cell? ⟨g, 6, none⟩ = some (.int .i64 de)) [] ⟨zC HD.out.hg 6 _, zC HD.out.hg 6 _⟩ (fun hHeld => ?_)
  generalize W1.drew = W2 at HD HB BE hHeld ⊢
  refine sv 0 20 (z 8 1) ?_
  refine sv 1 21 (z 8 3) ?_
  refine sv 2 22 (z 8 7) ?_
  refine sv 3 23 (z 8 15) ?_
  refine st 4 24 (z 8 31) hHeld ?_
  refine oS 5 (z 8 63) BE 0 [.int .i64 0, .string ⟨#[]⟩, .slice none 0 0, .string ⟨#[]⟩, .slice none 0 0] (fun W3 hP => ?_)
  clear hHeld
  replace HD := sD hP BE HS Gge HD
  replace HB := sW hP Gge HB
  replace BE := sX hP BE
  clear hP
  refine ⟨⟨zC HD.out.hg 6 _, zC HD.out.hg 6 _⟩, fun hHeld => ?_⟩
  refine sv 6 7 (z 8 127) ?_
  refine sv 7 8 (z 8 255) ?_
  refine done_ (by kernel_rfl) ?_
  clear hHeld
  go_wp2
  refine bodyPost_ret (results_ctt rfl _ _ ge 36 #[.int .i64 0, .string ⟨#[]⟩, .slice none 0 0, .string ⟨#[]⟩, .slice none 0 0] (0, 0) _ rfl BE.out Tryz.underlying36 rfl (by kernel_rfl)) rfl ?_
  exact ⟨_, _, rfl, Kd.R_nil _ _ _ _ _, Kd.R_nil _ _ _ _ _, HB.out⟩
end
theorem of_parts (s : ByteArray) (l : List S68) (a b : Int) (x : ByteArray) (m : List S68) : ofS s l a b x m =
  if (cutS s l a b).2.2 = 0 then (if goodT x m = true then (if (s.size : Int) - (b - a) + (x.size : Int) > 4096 then (0, eB, [], eB, [], 3) else (a, (cutS s l a b).1, (cutS s l a b).2.1, x, m, 0)) else (0, eB, [], eB, [], 2)) else (0, eB, [], eB, [], 2) := by
 unfold ofS spliceT
 by_cases hw : withinT s l a b = true
 ·have hc : (cutS s l a b).2.2 = 0 := by unfold cutS; rw [if_pos hw]
  rw [if_pos hw, if_pos hc]
  by_cases hg : goodT x m = true
  ·rw [if_pos hg, if_pos hg]
   by_cases hb : (s.size : Int) - (b - a) + (x.size : Int) > 4096
   ·rw [if_pos hb, if_pos hb, if_neg (show ¬ (3 : Int) = 0 by decide)]
   ·rw [if_neg hb, if_neg hb, if_pos rfl]
  ·rw [if_neg hg, if_neg hg, if_neg (show ¬ (2 : Int) = 0 by decide)]
 ·have hc : ¬ (cutS s l a b).2.2 = 0 := by unfold cutS; rw [if_neg hw]; exact (show ¬ (2 : Int) = 0 by decide)
  rw [if_neg hw, if_neg hc, if_neg (show ¬ (2 : Int) = 0 by decide)]
def nR (o : Int) (A : Option Addr) (n c : Nat) : Value := if o = 0 then .slice A n c else .slice none 0 0
set_option maxHeartbeats 2000000 in
theorem rof_ok {s : ByteArray} {A : Option Addr} {c : Nat} {l : List S68} {a b : Int} {x : ByteArray} {Ax : Option Addr} {cx : Nat} {m : List S68} {o1 : Int} {o2 : ByteArray} {o3 : List S68} {o4 : ByteArray} {o5 : List S68} {o6 : Int} {w : World} (hr : Kd.C k68 w A l.length l) (hc : l.length ≤ c) (hl : l.length ≤ big) (hx : Kd.C k68 w Ax m.length m) (hcx : m.length ≤ cx) (hm : m.length ≤ big) (hD : ofS s l a b x m = (o1, o2, o3, o4, o5, o6)) :
  Calls Tryz.prog 111 #[.agg #[.string s, .slice A l.length c], .int .i64 a, .int .i64 b, .agg #[.string x, .slice Ax m.length cx]] w fun e w' => ∃ vo : Value, e = .returned (.tuple #[.agg #[.int .i64 o1, .string o2, vo, .string o4, nR o6 Ax m.length cx], .int .i64 o6]) ∧ Kd.R k68 68 w' w.heap.size (fun _ => True) vo o3 ∧ Below w.heap.size w w' := by
 obtain ⟨k1, hk1⟩ := (rcut_ev s l hl a b).rounds
 obtain ⟨k2, hk2⟩ := (rgoodT_ev x m hm).rounds
 have hwt : (cutS s l a b).2.2 = 0 → withinT s l a b = true := fun h => by
  unfold cutS at h
  split at h
  ·assumption
  ·cases h
 rw [of_parts] at hD
 generalize cutS s l a b = q at hk1 hD hwt
 obtain ⟨x1, x2, x3⟩ := q
 dsimp only at hD hwt
 have HR := aM hr
 have HC := aM hc
 have HX := aM hx
 have HCX := aM hcx
 have HF1 := aM hk1
 have HF2 := aM hk2
 have HM := aM hm
 have HL := aM hl
 clear hr hc hx hcx hk1 hk2 hm hl
 by_cases h3 : x3 = 0
 ·have b1 : (x3 != 0) = false := bne_eq_false_iff_eq.2 h3
  rw [if_pos h3] at hD
  by_cases hg : goodT x m = true
  ·rw [if_pos hg] at hD
   rw [hg] at HF2
   obtain ⟨w1, w2, w3, w4⟩ := withinT_iff.1 (hwt h3)
   obtain ⟨_, _, _, s4, _⟩ := goodT_facts w1
   obtain ⟨_, _, _, x4, _⟩ := goodT_facts hg
   obtain ⟨d1, hd1⟩ : ∃ d1 : Int, d1 = b - a := ⟨_, rfl⟩
   obtain ⟨d2, hd2⟩ : ∃ d2 : Int, d2 = (s.size : Int) - d1 := ⟨_, rfl⟩
   obtain ⟨d3, hd3⟩ : ∃ d3 : Int, d3 = d2 + (x.size : Int) := ⟨_, rfl⟩
   have E1 : wrap64 (b - a) = d1 := by rw [hd1]; unfold wrap64; omega
   have E2 : wrap64 ((s.size : Int) - d1) = d2 := by rw [hd2]; unfold wrap64; omega
   have E3 : wrap64 (d2 + (x.size : Int)) = d3 := by rw [hd3]; unfold wrap64; omega
   rw [← hd1, ← hd2, ← hd3] at hD
   clear hd1 hd2 hd3 w1 w2 w3 w4 s4 x4 hg hwt h3
   by_cases hb : d3 > 4096
   ·rw [if_pos hb] at hD
    have p1 : (d3 > 4096) = True := eq_true hb
    have p2 : (4096 < d3) = True := eq_true hb
    simp only [Prod.mk.injEq] at hD
    obtain ⟨rfl, rfl, rfl, rfl, rfl, rfl⟩ := hD
    go_enter Tryz.func111, Tryz.ntmps111
    go_wp2_with (first
     | (refine gB 4 #[.string s, .slice A l.length c] 24 (fun gt hg W1 BT hb => ?_); have Ggt := g0 hg; have HB := aM hb; clear hb hg)
     | (refine gB 7 #[.string x, .slice Ax m.length cx] 24 (fun gx hg W2 BX hb => ?_); have Ggx := gG hg HB; have Ngxgt := gN hg BT; replace HB := tl hb HB; replace BT := tl hb BT; clear hb hg)
     | (refine gB 8 #[.int .i64 0, .string ⟨#[]⟩, .slice none 0 0, .string ⟨#[]⟩, .slice none 0 0] 36 (fun ge hg W3 BE hb => ?_); have Gge := gG hg HB; replace HB := tl hb HB; replace BT := tl hb BT; replace BX := tl hb BX; clear hb hg; replace ht0 := zC BT.out 0 (.string s); replace ht1 := zC BT.out 1 (.slice A l.length c); replace hx0 := zC BX.out 0 (.string x); replace hx1 := zC BX.out 1 (.slice Ax m.length cx))
     | (refine gC (some 16) Tryz.func83 #[.agg #[.string s, .slice A l.length c], .int .i64 a, .int .i64 b] ?_; (with_reducible refine (bureauref04_Cut.calls k1 s A c l a b x1 x2 x3 _ (cB_ HR.out HB.out) HC.out HF1.out).mono ?_); rintro e W4 ⟨vc, rfl, hq, hb⟩; have HO := aM (rL hq HB.out.size); replace HB := tl hb HB; replace BT := tl hb BT; replace BX := tl hb BX; replace BE := tl hb BE; clear hq; refine ⟨_, rfl, ?_⟩; clear hb; replace ht0 := zC BT.out 0 (.string s); replace ht1 := zC BT.out 1 (.slice A l.length c); replace hx0 := zC BX.out 0 (.string x); replace hx1 := zC BX.out 1 (.slice Ax m.length cx); obtain ⟨Ac, cc, rfl⟩ := Kd.R_slice HO.out)
     | (refine gB 10 #[.string ⟨#[]⟩, .slice none 0 0] 24 (fun go hg W5 BO hb => ?_); have Ggo := gG hg HB; have Ngogt := gN hg BT; have Ngogx := gN hg BX; replace HB := tl hb HB; replace BT := tl hb BT; replace BX := tl hb BX; replace BE := tl hb BE; replace HO := tl hb HO; clear hb hg; replace ht0 := zC BT.out 0 (.string s); replace ht1 := zC BT.out 1 (.slice A l.length c); replace hx0 := zC BX.out 0 (.string x); replace hx1 := zC BX.out 1 (.slice Ax m.length cx))
     | (refine gS BO 0 [.string x1, .slice Ac x2.length cc] (fun W6 hP => ?_); replace HB := sW hP Ggo HB; replace BT := sN hP Ngogt BT; replace BX := sN hP Ngogx BX; replace BE := sB hP BO BE; replace HO := sR hP BO HO; replace BO := sX hP BO; clear hP; replace ht0 := zC BT.out 0 (.string s); replace ht1 := zC BT.out 1 (.slice A l.length c); replace hx0 := zC BX.out 0 (.string x); replace hx1 := zC BX.out 1 (.slice Ax m.length cx))
     | ((with_reducible refine gate_callee (f := 62) rfl ?_); refine gate_guard (by rfl) ?_; refine gC (some 23) Tryz.func62 #[.agg #[.string x, .slice Ax m.length cx]] ?_; (with_reducible refine (bureauref04_Good.calls k2 x Ax cx m true _ (cB_ HX.out HB.out) HCX.out HF2.out).mono ?_); rintro e W7 ⟨rfl, hb⟩; replace HB := tl hb HB; replace BT := tl hb BT; replace BX := tl hb BX; replace BE := tl hb BE; replace HO := tl hb HO; replace BO := tl hb BO; refine ⟨_, rfl, ?_⟩; clear hb; replace ht0 := zC BT.out 0 (.string s); replace ht1 := zC BT.out 1 (.slice A l.length c); replace hx0 := zC BX.out 0 (.string x); replace hx1 := zC BX.out 1 (.slice Ax m.length cx))
     | (refine gS BE 0 [.int .i64 0, .string ⟨#[]⟩, .slice none 0 0, .string ⟨#[]⟩, .slice none 0 0] (fun W8 hP => ?_); replace HB := sW hP Gge HB; replace BT := sB hP BE BT; replace BX := sB hP BE BX; replace HO := sR hP BE HO; replace BO := sB hP BE BO; replace BE := sX hP BE; clear hP)
     )
    refine bodyPost_ret (results_ct rfl _ _ ge 36 #[.int .i64 0, .string ⟨#[]⟩, .slice none 0 0, .string ⟨#[]⟩, .slice none 0 0] (0, 0) _ rfl BE.out Tryz.underlying36 rfl (by kernel_rfl)) rfl ?_
    exact ⟨_, rfl, Kd.R_nil _ _ _ _ _, HB.out⟩
   ·rw [if_neg hb] at hD
    have p1 : (d3 > 4096) = False := eq_false hb
    have p2 : (4096 < d3) = False := eq_false hb
    simp only [Prod.mk.injEq] at hD
    obtain ⟨rfl, rfl, rfl, rfl, rfl, rfl⟩ := hD
    go_enter Tryz.func111, Tryz.ntmps111
    go_wp2_with (first
     | (refine gB 4 #[.string s, .slice A l.length c] 24 (fun gt hg W1 BT hb => ?_); have Ggt := g0 hg; have HB := aM hb; clear hb hg)
     | (refine gB 7 #[.string x, .slice Ax m.length cx] 24 (fun gx hg W2 BX hb => ?_); have Ggx := gG hg HB; have Ngxgt := gN hg BT; replace HB := tl hb HB; replace BT := tl hb BT; clear hb hg)
     | (refine gB 8 #[.int .i64 0, .string ⟨#[]⟩, .slice none 0 0, .string ⟨#[]⟩, .slice none 0 0] 36 (fun ge hg W3 BE hb => ?_); have Gge := gG hg HB; replace HB := tl hb HB; replace BT := tl hb BT; replace BX := tl hb BX; clear hb hg; replace ht0 := zC BT.out 0 (.string s); replace ht1 := zC BT.out 1 (.slice A l.length c); replace hx0 := zC BX.out 0 (.string x); replace hx1 := zC BX.out 1 (.slice Ax m.length cx))
     | (refine gC (some 16) Tryz.func83 #[.agg #[.string s, .slice A l.length c], .int .i64 a, .int .i64 b] ?_; (with_reducible refine (bureauref04_Cut.calls k1 s A c l a b x1 x2 x3 _ (cB_ HR.out HB.out) HC.out HF1.out).mono ?_); rintro e W4 ⟨vc, rfl, hq, hb⟩; have HO := aM (rL hq HB.out.size); replace HB := tl hb HB; replace BT := tl hb BT; replace BX := tl hb BX; replace BE := tl hb BE; clear hq; refine ⟨_, rfl, ?_⟩; clear hb; replace ht0 := zC BT.out 0 (.string s); replace ht1 := zC BT.out 1 (.slice A l.length c); replace hx0 := zC BX.out 0 (.string x); replace hx1 := zC BX.out 1 (.slice Ax m.length cx); obtain ⟨Ac, cc, rfl⟩ := Kd.R_slice HO.out)
     | (refine gB 10 #[.string ⟨#[]⟩, .slice none 0 0] 24 (fun go hg W5 BO hb => ?_); have Ggo := gG hg HB; have Ngogt := gN hg BT; have Ngogx := gN hg BX; replace HB := tl hb HB; replace BT := tl hb BT; replace BX := tl hb BX; replace BE := tl hb BE; replace HO := tl hb HO; clear hb hg; replace ht0 := zC BT.out 0 (.string s); replace ht1 := zC BT.out 1 (.slice A l.length c); replace hx0 := zC BX.out 0 (.string x); replace hx1 := zC BX.out 1 (.slice Ax m.length cx))
     | (refine gS BO 0 [.string x1, .slice Ac x2.length cc] (fun W6 hP => ?_); replace HB := sW hP Ggo HB; replace BT := sN hP Ngogt BT; replace BX := sN hP Ngogx BX; replace BE := sB hP BO BE; replace HO := sR hP BO HO; replace BO := sX hP BO; clear hP; replace ht0 := zC BT.out 0 (.string s); replace ht1 := zC BT.out 1 (.slice A l.length c); replace hx0 := zC BX.out 0 (.string x); replace hx1 := zC BX.out 1 (.slice Ax m.length cx); replace ho0 := zC BO.out 0 (.string x1); replace ho1 := zC BO.out 1 (.slice Ac x2.length cc))
     | ((with_reducible refine gate_callee (f := 62) rfl ?_); refine gate_guard (by rfl) ?_; refine gC (some 23) Tryz.func62 #[.agg #[.string x, .slice Ax m.length cx]] ?_; (with_reducible refine (bureauref04_Good.calls k2 x Ax cx m true _ (cB_ HX.out HB.out) HCX.out HF2.out).mono ?_); rintro e W7 ⟨rfl, hb⟩; replace HB := tl hb HB; replace BT := tl hb BT; replace BX := tl hb BX; replace BE := tl hb BE; replace HO := tl hb HO; replace BO := tl hb BO; refine ⟨_, rfl, ?_⟩; clear hb; replace ht0 := zC BT.out 0 (.string s); replace ht1 := zC BT.out 1 (.slice A l.length c); replace hx0 := zC BX.out 0 (.string x); replace hx1 := zC BX.out 1 (.slice Ax m.length cx); replace ho0 := zC BO.out 0 (.string x1); replace ho1 := zC BO.out 1 (.slice Ac x2.length cc))
     | (refine gS BE 0 [.int .i64 a, .string x1, .slice Ac x2.length cc, .string x, .slice Ax m.length cx] (fun W8 hP => ?_); replace HB := sW hP Gge HB; replace BT := sB hP BE BT; replace BX := sB hP BE BX; replace HO := sR hP BE HO; replace BO := sB hP BE BO; replace BE := sX hP BE; clear hP)
     )
    refine bodyPost_ret (results_ct rfl _ _ ge 36 #[.int .i64 a, .string x1, .slice Ac x2.length cc, .string x, .slice Ax m.length cx] (0, 0) _ rfl BE.out Tryz.underlying36 rfl (by kernel_rfl)) rfl ?_
    exact ⟨_, rfl, HO.out, HB.out⟩
  ·rw [if_neg hg] at hD
   rw [Bool.eq_false_iff.2 hg] at HF2
   simp only [Prod.mk.injEq] at hD
   obtain ⟨rfl, rfl, rfl, rfl, rfl, rfl⟩ := hD
   clear hg hwt h3
   go_enter Tryz.func111, Tryz.ntmps111
   go_wp2_with (first
    | (refine gB 4 #[.string s, .slice A l.length c] 24 (fun gt hg W1 BT hb => ?_); have Ggt := g0 hg; have HB := aM hb; clear hb hg)
    | (refine gB 7 #[.string x, .slice Ax m.length cx] 24 (fun gx hg W2 BX hb => ?_); have Ggx := gG hg HB; have Ngxgt := gN hg BT; replace HB := tl hb HB; replace BT := tl hb BT; clear hb hg)
    | (refine gB 8 #[.int .i64 0, .string ⟨#[]⟩, .slice none 0 0, .string ⟨#[]⟩, .slice none 0 0] 36 (fun ge hg W3 BE hb => ?_); have Gge := gG hg HB; replace HB := tl hb HB; replace BT := tl hb BT; replace BX := tl hb BX; clear hb hg; replace ht0 := zC BT.out 0 (.string s); replace ht1 := zC BT.out 1 (.slice A l.length c); replace hx0 := zC BX.out 0 (.string x); replace hx1 := zC BX.out 1 (.slice Ax m.length cx))
    | (refine gC (some 16) Tryz.func83 #[.agg #[.string s, .slice A l.length c], .int .i64 a, .int .i64 b] ?_; (with_reducible refine (bureauref04_Cut.calls k1 s A c l a b x1 x2 x3 _ (cB_ HR.out HB.out) HC.out HF1.out).mono ?_); rintro e W4 ⟨vc, rfl, hq, hb⟩; have HO := aM (rL hq HB.out.size); replace HB := tl hb HB; replace BT := tl hb BT; replace BX := tl hb BX; replace BE := tl hb BE; clear hq; refine ⟨_, rfl, ?_⟩; clear hb; replace ht0 := zC BT.out 0 (.string s); replace ht1 := zC BT.out 1 (.slice A l.length c); replace hx0 := zC BX.out 0 (.string x); replace hx1 := zC BX.out 1 (.slice Ax m.length cx); obtain ⟨Ac, cc, rfl⟩ := Kd.R_slice HO.out)
    | (refine gB 10 #[.string ⟨#[]⟩, .slice none 0 0] 24 (fun go hg W5 BO hb => ?_); have Ggo := gG hg HB; have Ngogt := gN hg BT; have Ngogx := gN hg BX; replace HB := tl hb HB; replace BT := tl hb BT; replace BX := tl hb BX; replace BE := tl hb BE; replace HO := tl hb HO; clear hb hg; replace ht0 := zC BT.out 0 (.string s); replace ht1 := zC BT.out 1 (.slice A l.length c); replace hx0 := zC BX.out 0 (.string x); replace hx1 := zC BX.out 1 (.slice Ax m.length cx))
    | (refine gS BO 0 [.string x1, .slice Ac x2.length cc] (fun W6 hP => ?_); replace HB := sW hP Ggo HB; replace BT := sN hP Ngogt BT; replace BX := sN hP Ngogx BX; replace BE := sB hP BO BE; replace HO := sR hP BO HO; replace BO := sX hP BO; clear hP; replace ht0 := zC BT.out 0 (.string s); replace ht1 := zC BT.out 1 (.slice A l.length c); replace hx0 := zC BX.out 0 (.string x); replace hx1 := zC BX.out 1 (.slice Ax m.length cx))
    | ((with_reducible refine gate_callee (f := 62) rfl ?_); refine gate_guard (by rfl) ?_; refine gC (some 23) Tryz.func62 #[.agg #[.string x, .slice Ax m.length cx]] ?_; (with_reducible refine (bureauref04_Good.calls k2 x Ax cx m false _ (cB_ HX.out HB.out) HCX.out HF2.out).mono ?_); rintro e W7 ⟨rfl, hb⟩; replace HB := tl hb HB; replace BT := tl hb BT; replace BX := tl hb BX; replace BE := tl hb BE; replace HO := tl hb HO; replace BO := tl hb BO; refine ⟨_, rfl, ?_⟩; clear hb; replace ht0 := zC BT.out 0 (.string s); replace ht1 := zC BT.out 1 (.slice A l.length c); replace hx0 := zC BX.out 0 (.string x); replace hx1 := zC BX.out 1 (.slice Ax m.length cx))
    | (refine gS BE 0 [.int .i64 0, .string ⟨#[]⟩, .slice none 0 0, .string ⟨#[]⟩, .slice none 0 0] (fun W8 hP => ?_); replace HB := sW hP Gge HB; replace BT := sB hP BE BT; replace BX := sB hP BE BX; replace HO := sR hP BE HO; replace BO := sB hP BE BO; replace BE := sX hP BE; clear hP)
    )
   refine bodyPost_ret (results_ct rfl _ _ ge 36 #[.int .i64 0, .string ⟨#[]⟩, .slice none 0 0, .string ⟨#[]⟩, .slice none 0 0] (0, 0) _ rfl BE.out Tryz.underlying36 rfl (by kernel_rfl)) rfl ?_
   exact ⟨_, rfl, Kd.R_nil _ _ _ _ _, HB.out⟩
 ·have b1 : (x3 != 0) = true := bne_iff_ne.2 h3
  rw [if_neg h3] at hD
  simp only [Prod.mk.injEq] at hD
  obtain ⟨rfl, rfl, rfl, rfl, rfl, rfl⟩ := hD
  clear hwt h3
  go_enter Tryz.func111, Tryz.ntmps111
  go_wp2_with (first
   | (refine gB 4 #[.string s, .slice A l.length c] 24 (fun gt hg W1 BT hb => ?_); have Ggt := g0 hg; have HB := aM hb; clear hb hg)
   | (refine gB 7 #[.string x, .slice Ax m.length cx] 24 (fun gx hg W2 BX hb => ?_); have Ggx := gG hg HB; have Ngxgt := gN hg BT; replace HB := tl hb HB; replace BT := tl hb BT; clear hb hg)
   | (refine gB 8 #[.int .i64 0, .string ⟨#[]⟩, .slice none 0 0, .string ⟨#[]⟩, .slice none 0 0] 36 (fun ge hg W3 BE hb => ?_); have Gge := gG hg HB; replace HB := tl hb HB; replace BT := tl hb BT; replace BX := tl hb BX; clear hb hg; replace ht0 := zC BT.out 0 (.string s); replace ht1 := zC BT.out 1 (.slice A l.length c); replace hx0 := zC BX.out 0 (.string x); replace hx1 := zC BX.out 1 (.slice Ax m.length cx))
   | (refine gC (some 16) Tryz.func83 #[.agg #[.string s, .slice A l.length c], .int .i64 a, .int .i64 b] ?_; (with_reducible refine (bureauref04_Cut.calls k1 s A c l a b x1 x2 x3 _ (cB_ HR.out HB.out) HC.out HF1.out).mono ?_); rintro e W4 ⟨vc, rfl, hq, hb⟩; have HO := aM (rL hq HB.out.size); replace HB := tl hb HB; replace BT := tl hb BT; replace BX := tl hb BX; replace BE := tl hb BE; clear hq; refine ⟨_, rfl, ?_⟩; clear hb; replace ht0 := zC BT.out 0 (.string s); replace ht1 := zC BT.out 1 (.slice A l.length c); replace hx0 := zC BX.out 0 (.string x); replace hx1 := zC BX.out 1 (.slice Ax m.length cx); obtain ⟨Ac, cc, rfl⟩ := Kd.R_slice HO.out)
   | (refine gB 10 #[.string ⟨#[]⟩, .slice none 0 0] 24 (fun go hg W5 BO hb => ?_); have Ggo := gG hg HB; have Ngogt := gN hg BT; have Ngogx := gN hg BX; replace HB := tl hb HB; replace BT := tl hb BT; replace BX := tl hb BX; replace BE := tl hb BE; replace HO := tl hb HO; clear hb hg; replace ht0 := zC BT.out 0 (.string s); replace ht1 := zC BT.out 1 (.slice A l.length c); replace hx0 := zC BX.out 0 (.string x); replace hx1 := zC BX.out 1 (.slice Ax m.length cx))
   | (refine gS BO 0 [.string x1, .slice Ac x2.length cc] (fun W6 hP => ?_); replace HB := sW hP Ggo HB; replace BT := sN hP Ngogt BT; replace BX := sN hP Ngogx BX; replace BE := sB hP BO BE; replace HO := sR hP BO HO; replace BO := sX hP BO; clear hP; replace ht0 := zC BT.out 0 (.string s); replace ht1 := zC BT.out 1 (.slice A l.length c); replace hx0 := zC BX.out 0 (.string x); replace hx1 := zC BX.out 1 (.slice Ax m.length cx))
   | (refine gS BE 0 [.int .i64 0, .string ⟨#[]⟩, .slice none 0 0, .string ⟨#[]⟩, .slice none 0 0] (fun W7 hP => ?_); replace HB := sW hP Gge HB; replace BT := sB hP BE BT; replace BX := sB hP BE BX; replace HO := sR hP BE HO; replace BO := sB hP BE BO; replace BE := sX hP BE; clear hP)
   )
  refine bodyPost_ret (results_ct rfl _ _ ge 36 #[.int .i64 0, .string ⟨#[]⟩, .slice none 0 0, .string ⟨#[]⟩, .slice none 0 0] (0, 0) _ rfl BE.out Tryz.underlying36 rfl (by kernel_rfl)) rfl ?_
  exact ⟨_, rfl, Kd.R_nil _ _ _ _ _, HB.out⟩
set_option maxHeartbeats 2000000 in
theorem rturned_ok {s : ByteArray} {A : Option Addr} {c : Nat} {l : List S68} {y a b : Int} {x : ByteArray} {Ax : Option Addr} {cx : Nat} {m : List S68} {er : Int} {ok : Bool} {u1 : Int} {u2 : ByteArray} {u3 : List S68} {u4 : ByteArray} {u5 : List S68} {u6 : Int} {u7 : ByteArray} {w : World} (hr : Kd.C k68 w A l.length l) (hc : l.length ≤ c) (hl : l.length ≤ big) (hx : Kd.C k68 w Ax m.length m) (hcx : m.length ≤ cx) (hm : m.length ≤ big) (he : er = 0 ∧ ok = true ∨ er = 3 ∧ ok = false) (hw : lab l) (hwm : lab m) (hy : 0 ≤ y ∧ y < 18446744073709551616) (hD : turnD s l y (x, m, er) a b = ((u1, u2, u3, u4, u5, u6), u7)) :
  Calls Tryz.prog 57 #[.agg #[.string s, .slice A l.length c], .int .u64 y, .int .i64 a, .int .i64 b, .agg #[.string x, .slice Ax m.length cx], .bool ok] w fun e w' => ∃ vo : Value, e = .returned (.tuple #[.agg #[.int .i64 u1, .string u2, vo, .string u4, nR u6 Ax m.length cx], .string u7, .int .i64 u6]) ∧ Kd.R k68 68 w' w.heap.size (fun _ => True) vo u3 ∧ Below w.heap.size w w' := by
 have HR := aM hr
 have HC := aM hc
 have HX := aM hx
 have HCX := aM hcx
 have HM := aM hm
 have HL := aM hl
 rcases he with ⟨rfl, rfl⟩ | ⟨rfl, rfl⟩
 ·by_cases hq : (ofS s l a b x m).2.2.2.2.2 = 0
  ·obtain ⟨h1, h2⟩ := rapply_of hl hm hq
   obtain ⟨k1, hk1⟩ := h1.rounds
   have ht : turnD s l y (x, m, 0) a b = (ofS s l a b x m, (viewS (spliceT s l a b x m).1 (spliceT s l a b x m).2.1 y).1) := by
    unfold turnD
    rw [if_pos rfl, if_pos hq]
    dsimp only
    rw [h2]
   obtain ⟨k2, hk2⟩ := (rview_ev (spliceT s l a b x m).1 (spliceT s l a b x m).2.1 (len_big (spliceT_len _ _ _ _ _ _)) y (lab_splice hw hwm _ _) hy).rounds
   have h5 : (ofS s l a b x m).2.2.2.2.1 = m := by
    unfold ofS at hq ⊢
    split
    ·rfl
    ·rename_i h; rw [if_neg h] at hq; exact absurd hq h
   have h3 := of_len1 s l a b x m
   rw [ht] at hD
   clear ht h2 h1 hr hc hx hcx hm hl hw hwm hy
   generalize hof : ofS s l a b x m = o at hD hk1 hq h5 h3
   generalize spliceT s l a b x m = p at hD hk1 hk2
   obtain ⟨o1, o2, o3, o4, o5, o6⟩ := o
   obtain ⟨p1, p2, p3⟩ := p
   dsimp only at hD hk1 hk2 hq h5 h3
   generalize viewS p1 p2 y = q at hD hk2
   obtain ⟨q1, q2⟩ := q
   simp only [Prod.mk.injEq] at hD
   subst h5
   obtain ⟨⟨rfl, rfl, rfl, rfl, rfl, rfl⟩, rfl⟩ := hD
   subst hq
   have HOF := aM hof
   have HAP := aM hk1
   have HVI := aM hk2
   clear hof hk1 hk2 h3
   go_enter Tryz.func57, Tryz.ntmps57
   go_wp2_with (first
    | (refine gB 6 #[.string s, .slice A l.length c] 24 (fun gt hg W1 BT hb => ?_); have Ggt := g0 hg; have HB := aM hb; clear hb hg)
    | (refine gB 10 #[.string x, .slice Ax o5.length cx] 24 (fun gx hg W2 BX hb => ?_); have Ggx := gG hg HB; have Ngxgt := gN hg BT; replace HB := tl hb HB; replace BT := tl hb BT; clear hb hg)
    | (refine gB 12 #[.int .i64 0, .string ⟨#[]⟩, .slice none 0 0, .string ⟨#[]⟩, .slice none 0 0] 36 (fun ge hg W3 BE hb => ?_); have Gge := gG hg HB; replace HB := tl hb HB; replace BT := tl hb BT; replace BX := tl hb BX; clear hb hg; replace ht0 := zC BT.out 0 (.string s); replace ht1 := zC BT.out 1 (.slice A l.length c); replace hx0 := zC BX.out 0 (.string x); replace hx1 := zC BX.out 1 (.slice Ax o5.length cx))
    | (refine gC (some 29) Tryz.func111 #[.agg #[.string s, .slice A l.length c], .int .i64 a, .int .i64 b, .agg #[.string x, .slice Ax o5.length cx]] ?_; (with_reducible refine (rof_ok (cB_ HR.out HB.out) HC.out HL.out (cB_ HX.out HB.out) HCX.out HM.out HOF.out).mono ?_); rintro e W4 ⟨vo, rfl, ho, hb⟩; have HO := aM (rL ho HB.out.size); replace HB := tl hb HB; replace BT := tl hb BT; replace BX := tl hb BX; replace BE := tl hb BE; clear ho; refine ⟨_, rfl, ?_⟩; clear hb; replace ht0 := zC BT.out 0 (.string s); replace ht1 := zC BT.out 1 (.slice A l.length c); replace hx0 := zC BX.out 0 (.string x); replace hx1 := zC BX.out 1 (.slice Ax o5.length cx); obtain ⟨Ao, co, rfl⟩ := Kd.R_slice HO.out)
    | (refine gB 15 #[.int .i64 0, .string ⟨#[]⟩, .slice none 0 0, .string ⟨#[]⟩, .slice none 0 0] 36 (fun gq hg W5 BQ hb => ?_); have Ggq := gG hg HB; have Ngqge := gN hg BE; replace HB := tl hb HB; replace BT := tl hb BT; replace BX := tl hb BX; replace BE := tl hb BE; replace HO := tl hb HO; clear hb hg; replace ht0 := zC BT.out 0 (.string s); replace ht1 := zC BT.out 1 (.slice A l.length c))
    | (refine gS BQ 0 [.int .i64 o1, .string o2, .slice Ao o3.length co, .string o4, .slice Ax o5.length cx] (fun W6 hP => ?_); replace HB := sW hP Ggq HB; replace BT := sB hP BQ BT; replace BX := sB hP BQ BX; replace BE := sN hP Ngqge BE; replace HO := sR hP BQ HO; replace BQ := sX hP BQ; clear hP; replace ht0 := zC BT.out 0 (.string s); replace ht1 := zC BT.out 1 (.slice A l.length c); replace hq0 := zC BQ.out 0 (.int .i64 o1); replace hq1 := zC BQ.out 1 (.string o2); replace hq2 := zC BQ.out 2 (.slice Ao o3.length co); replace hq3 := zC BQ.out 3 (.string o4); replace hq4 := zC BQ.out 4 (.slice Ax o5.length cx))
    | (refine gC (some 39) Tryz.func22 #[.agg #[.string s, .slice A l.length c], .agg #[.int .i64 o1, .string o2, .slice Ao o3.length co, .string o4, .slice Ax o5.length cx]] ?_; (with_reducible refine (bureauref07_Apply.calls k1 s A c l o1 o2 Ao co o3 o4 Ax cx o5 p1 p2 p3 _ (cB_ HR.out HB.out) HC.out (rR HO.out).2.2 (rR HO.out).2.1 (cB_ HX.out HB.out) HCX.out HAP.out).mono ?_); rintro e W7 ⟨vu, rfl, hu, hb⟩; have HU := aM (rL hu HB.out.size); replace HB := tl hb HB; replace BT := tl hb BT; replace BX := tl hb BX; replace BE := tl hb BE; replace HO := tl hb HO; replace BQ := tl hb BQ; clear hu; refine ⟨_, rfl, ?_⟩; clear hb; replace ht0 := zC BT.out 0 (.string s); replace ht1 := zC BT.out 1 (.slice A l.length c); replace hq0 := zC BQ.out 0 (.int .i64 o1); replace hq1 := zC BQ.out 1 (.string o2); replace hq2 := zC BQ.out 2 (.slice Ao o3.length co); replace hq3 := zC BQ.out 3 (.string o4); replace hq4 := zC BQ.out 4 (.slice Ax o5.length cx); obtain ⟨Au, cu, rfl⟩ := Kd.R_slice HU.out)
    | (refine gB 17 #[.string ⟨#[]⟩, .slice none 0 0] 24 (fun gu hg W8 BU hb => ?_); have Ggu := gG hg HB; have Ngugt := gN hg BT; have Ngugx := gN hg BX; replace HB := tl hb HB; replace BT := tl hb BT; replace BX := tl hb BX; replace BE := tl hb BE; replace HO := tl hb HO; replace BQ := tl hb BQ; replace HU := tl hb HU; clear hb hg; replace hq0 := zC BQ.out 0 (.int .i64 o1); replace hq1 := zC BQ.out 1 (.string o2); replace hq2 := zC BQ.out 2 (.slice Ao o3.length co); replace hq3 := zC BQ.out 3 (.string o4); replace hq4 := zC BQ.out 4 (.slice Ax o5.length cx))
    | (refine gS BU 0 [.string p1, .slice Au p2.length cu] (fun W9 hP => ?_); replace HB := sW hP Ggu HB; replace BT := sN hP Ngugt BT; replace BX := sN hP Ngugx BX; replace BE := sB hP BU BE; replace HO := sR hP BU HO; replace BQ := sB hP BU BQ; replace HU := sR hP BU HU; replace BU := sX hP BU; clear hP; replace hq0 := zC BQ.out 0 (.int .i64 o1); replace hq1 := zC BQ.out 1 (.string o2); replace hq2 := zC BQ.out 2 (.slice Ao o3.length co); replace hq3 := zC BQ.out 3 (.string o4); replace hq4 := zC BQ.out 4 (.slice Ax o5.length cx); replace hu0 := zC BU.out 0 (.string p1); replace hu1 := zC BU.out 1 (.slice Au p2.length cu))
    | (refine gC (some 45) Tryz.func35 #[.agg #[.string p1, .slice Au p2.length cu], .int .u64 y] ?_; (with_reducible refine (bureauref04_View.calls k2 p1 Au cu p2 y q1 q2 _ (rR HU.out).2.2 (rR HU.out).2.1 HVI.out).mono ?_); rintro e W10 ⟨rfl, hb⟩; replace HB := tl hb HB; replace BT := tl hb BT; replace BX := tl hb BX; replace BE := tl hb BE; replace HO := tl hb HO; replace BQ := tl hb BQ; replace HU := tl hb HU; replace BU := tl hb BU; refine ⟨_, rfl, ?_⟩; clear hb; replace hq0 := zC BQ.out 0 (.int .i64 o1); replace hq1 := zC BQ.out 1 (.string o2); replace hq2 := zC BQ.out 2 (.slice Ao o3.length co); replace hq3 := zC BQ.out 3 (.string o4); replace hq4 := zC BQ.out 4 (.slice Ax o5.length cx); replace hu0 := zC BU.out 0 (.string p1); replace hu1 := zC BU.out 1 (.slice Au p2.length cu))
    | (refine gS BE 0 [.int .i64 o1, .string o2, .slice Ao o3.length co, .string o4, .slice Ax o5.length cx] (fun W11 hP => ?_); replace HB := sW hP Gge HB; replace BT := sB hP BE BT; replace BX := sB hP BE BX; replace HO := sR hP BE HO; replace BQ := sM hP Ngqge BQ; replace HU := sR hP BE HU; replace BU := sB hP BE BU; replace BE := sX hP BE; clear hP)
    )
   refine bodyPost_ret (results_ctt rfl _ _ ge 36 #[.int .i64 o1, .string o2, .slice Ao o3.length co, .string o4, .slice Ax o5.length cx] (0, 0) _ rfl BE.out Tryz.underlying36 rfl (by kernel_rfl)) rfl ?_
   exact ⟨_, rfl, HO.out, HB.out⟩
  ·have ht : turnD s l y (x, m, 0) a b = ((0, eB, [], eB, [], (ofS s l a b x m).2.2.2.2.2), eB) := by
    unfold turnD
    rw [if_pos rfl, if_neg hq]
   rw [ht] at hD
   clear ht hr hc hx hcx hm hl hw hwm hy
   generalize hof : ofS s l a b x m = o at hD hq
   obtain ⟨o1, o2, o3, o4, o5, o6⟩ := o
   dsimp only at hD hq
   simp only [Prod.mk.injEq] at hD
   obtain ⟨⟨rfl, rfl, rfl, rfl, rfl, rfl⟩, rfl⟩ := hD
   have b1 : (o6 != 0) = true := bne_iff_ne.2 hq
   have b2 : (o6 == 0) = false := beq_eq_false_iff_ne.2 hq
   have hnr : nR o6 Ax m.length cx = .slice none 0 0 := if_neg hq
   rw [hnr]
   have HOF := aM hof
   have HNR := aM hnr
   clear hof hq hnr
   go_enter Tryz.func57, Tryz.ntmps57
   go_wp2_with (first
    | (refine gB 6 #[.string s, .slice A l.length c] 24 (fun gt hg W1 BT hb => ?_); have Ggt := g0 hg; have HB := aM hb; clear hb hg)
    | (refine gB 10 #[.string x, .slice Ax m.length cx] 24 (fun gx hg W2 BX hb => ?_); have Ggx := gG hg HB; have Ngxgt := gN hg BT; replace HB := tl hb HB; replace BT := tl hb BT; clear hb hg)
    | (refine gB 12 #[.int .i64 0, .string ⟨#[]⟩, .slice none 0 0, .string ⟨#[]⟩, .slice none 0 0] 36 (fun ge hg W3 BE hb => ?_); have Gge := gG hg HB; replace HB := tl hb HB; replace BT := tl hb BT; replace BX := tl hb BX; clear hb hg; replace ht0 := zC BT.out 0 (.string s); replace ht1 := zC BT.out 1 (.slice A l.length c); replace hx0 := zC BX.out 0 (.string x); replace hx1 := zC BX.out 1 (.slice Ax m.length cx))
    | (refine gC (some 29) Tryz.func111 #[.agg #[.string s, .slice A l.length c], .int .i64 a, .int .i64 b, .agg #[.string x, .slice Ax m.length cx]] ?_; (with_reducible refine (rof_ok (cB_ HR.out HB.out) HC.out HL.out (cB_ HX.out HB.out) HCX.out HM.out HOF.out).mono ?_); rintro e W4 ⟨vo, rfl, ho, hb⟩; have HO := aM (rL ho HB.out.size); replace HB := tl hb HB; replace BT := tl hb BT; replace BX := tl hb BX; replace BE := tl hb BE; clear ho; rw [HNR.out]; refine ⟨_, rfl, ?_⟩; clear hb; replace ht0 := zC BT.out 0 (.string s); replace ht1 := zC BT.out 1 (.slice A l.length c); replace hx0 := zC BX.out 0 (.string x); replace hx1 := zC BX.out 1 (.slice Ax m.length cx); obtain ⟨Ao, co, rfl⟩ := Kd.R_slice HO.out)
    | (refine gB 15 #[.int .i64 0, .string ⟨#[]⟩, .slice none 0 0, .string ⟨#[]⟩, .slice none 0 0] 36 (fun gq hg W5 BQ hb => ?_); have Ggq := gG hg HB; have Ngqge := gN hg BE; replace HB := tl hb HB; replace BT := tl hb BT; replace BX := tl hb BX; replace BE := tl hb BE; replace HO := tl hb HO; clear hb hg; replace ht0 := zC BT.out 0 (.string s); replace ht1 := zC BT.out 1 (.slice A l.length c))
    | (refine gS BQ 0 [.int .i64 o1, .string o2, .slice Ao o3.length co, .string o4, .slice none 0 0] (fun W6 hP => ?_); replace HB := sW hP Ggq HB; replace BT := sB hP BQ BT; replace BX := sB hP BQ BX; replace BE := sN hP Ngqge BE; replace HO := sR hP BQ HO; replace BQ := sX hP BQ; clear hP; replace ht0 := zC BT.out 0 (.string s); replace ht1 := zC BT.out 1 (.slice A l.length c))
    | (refine gS BE 0 [.int .i64 0, .string ⟨#[]⟩, .slice none 0 0, .string ⟨#[]⟩, .slice none 0 0] (fun W7 hP => ?_); replace HB := sW hP Gge HB; replace BT := sB hP BE BT; replace BX := sB hP BE BX; replace HO := sR hP BE HO; replace BQ := sM hP Ngqge BQ; replace BE := sX hP BE; clear hP)
    )
   refine bodyPost_ret (results_ctt rfl _ _ ge 36 #[.int .i64 0, .string ⟨#[]⟩, .slice none 0 0, .string ⟨#[]⟩, .slice none 0 0] (0, 0) _ rfl BE.out Tryz.underlying36 rfl (by kernel_rfl)) rfl ?_
   exact ⟨_, rfl, Kd.R_nil _ _ _ _ _, HB.out⟩
 ·rw [show turnD s l y (x, m, 3) a b = ((0, eB, [], eB, [], 3), eB) from if_neg (show ¬ (3 : Int) = 0 by decide)] at hD
  simp only [Prod.mk.injEq] at hD
  obtain ⟨⟨rfl, rfl, rfl, rfl, rfl, rfl⟩, rfl⟩ := hD
  clear hr hc hx hcx hm hl hw hwm hy
  go_enter Tryz.func57, Tryz.ntmps57
  go_wp2_with (first
   | (refine gB 6 #[.string s, .slice A l.length c] 24 (fun gt hg W1 BT hb => ?_); have Ggt := g0 hg; have HB := aM hb; clear hb hg)
   | (refine gB 10 #[.string x, .slice Ax m.length cx] 24 (fun gx hg W2 BX hb => ?_); have Ggx := gG hg HB; have Ngxgt := gN hg BT; replace HB := tl hb HB; replace BT := tl hb BT; clear hb hg)
   | (refine gB 12 #[.int .i64 0, .string ⟨#[]⟩, .slice none 0 0, .string ⟨#[]⟩, .slice none 0 0] 36 (fun ge hg W3 BE hb => ?_); have Gge := gG hg HB; replace HB := tl hb HB; replace BT := tl hb BT; replace BX := tl hb BX; clear hb hg)
   | (refine gS BE 0 [.int .i64 0, .string ⟨#[]⟩, .slice none 0 0, .string ⟨#[]⟩, .slice none 0 0] (fun W4 hP => ?_); replace HB := sW hP Gge HB; replace BT := sB hP BE BT; replace BX := sB hP BE BX; replace BE := sX hP BE; clear hP)
   )
  refine bodyPost_ret (results_ctt rfl _ _ ge 36 #[.int .i64 0, .string ⟨#[]⟩, .slice none 0 0, .string ⟨#[]⟩, .slice none 0 0] (0, 0) _ rfl BE.out Tryz.underlying36 rfl (by kernel_rfl)) rfl ?_
  exact ⟨_, rfl, Kd.R_nil _ _ _ _ _, HB.out⟩
end Go.Proofs.YtjkfkiebhgkolaaGreatDoor.PB
end

section
namespace Go.Proofs.YtjkfkiebhgkolaaGreatDoor.PB
open Go.RowKit Go.Proofs.YtjkfkiebhgkolaaGreatDoorW.PrintWords Go.Proofs.YtjkfkiebhgkolaaGreatDoorW.PrintLast Go.Proofs.YtjkfkiebhgkolaaGreatDoorW.PrintMore
attribute [local go_sem] max2_int min2_int max_two min_two max_three min_three max_four min_four   
set_option linter.unusedVariables false
set_option linter.unusedSimpArgs false
def bureauref10_May.f (a0 : Int) : Option (Bool) := if a0 ≥ 1 then (if a0 ≤ 27 then (some true) else (if a0 ≥ 32 then (if a0 = 127 then (some false) else ((bureauref02_May.f a0).bind fun t828 => (some t828))) else (some false))) else (if a0 ≥ 32 then (if a0 = 127 then (some false) else ((bureauref02_May.f a0).bind fun t829 => (some t829))) else (some false))
set_option maxHeartbeats 8000000 in
set_option maxRecDepth 100000 in
theorem bureauref10_May.calls (a0 : Int) (r : Bool) (w : World) (h : bureauref10_May.f a0 = some r) :
  Calls Tryz.prog 51 #[.int .i64 a0] w fun e w' => e = .returned (.bool r) ∧ Drawn0 w w' := by
 have H : (if a0 ≥ 1 then (if a0 ≤ 27 then (some true) else (if a0 ≥ 32 then (if a0 = 127 then (some false) else ((bureauref02_May.f a0).bind fun t828 => (some t828))) else (some false))) else (if a0 ≥ 32 then (if a0 = 127 then (some false) else ((bureauref02_May.f a0).bind fun t829 => (some t829))) else (some false))) = some r := h
 clear h
 by_cases c2 : a0 ≥ 1
 ·rw [if_pos c2] at H
  have c2b0 : decide (1 ≤ a0) = true := decide_eq_true c2
  clear c2
  by_cases c3 : a0 ≤ 27
  ·rw [if_pos c3] at H
   have c3b0 : decide (a0 ≤ 27) = true := decide_eq_true c3
   clear c3
   obtain rfl := Option.some.inj H
   go_enter Tryz.func51, Tryz.ntmps51
   go_wp2
   go_ret
   exact ⟨by first | rfl | (simp; done) | (simp [*]; done), by repeat (first | exact Drawn0.refl _ | apply Drawn0.step)⟩
  ·rw [if_neg c3] at H
   have c3b0 : decide (a0 ≤ 27) = false := decide_eq_false c3
   clear c3
   by_cases c4 : a0 ≥ 32
   ·rw [if_pos c4] at H
    have c4b0 : decide (32 ≤ a0) = true := decide_eq_true c4
    clear c4
    by_cases c5 : a0 = 127
    ·rw [if_pos c5] at H
     have c5b0 : (a0 == 127) = true := beq_iff_eq.mpr c5
     have c5b1 : (a0 != 127) = false := bne_eq_false_iff_eq.mpr c5
     clear c5
     obtain rfl := Option.some.inj H
     go_enter Tryz.func51, Tryz.ntmps51
     go_wp2
     go_ret
     exact ⟨by first | rfl | (simp; done) | (simp [*]; done), by repeat (first | exact Drawn0.refl _ | apply Drawn0.step)⟩
    ·rw [if_neg c5] at H
     have c5b0 : (a0 == 127) = false := beq_eq_false_iff_ne.mpr c5
     have c5b1 : (a0 != 127) = true := bne_iff_ne.mpr c5
     replace H := Option.bind_eq_some_iff.mp H
     obtain ⟨t828, A60, H⟩ := H
     replace H : (some t828) = some r := H
     have A6 := aM A60
     clear A60
     obtain rfl := Option.some.inj H
     go_enter Tryz.func51, Tryz.ntmps51
     go_wp2_with (first | (go_at_call 106; (with_reducible refine (bureauref02_May.calls a0 t828 _ A6.out).mono ?_); rintro e w' ⟨rfl, ⟨nd, rfl⟩⟩))
     go_ret
     exact ⟨by first | rfl | (simp; done) | (simp [*]; done), by repeat (first | exact Drawn0.refl _ | apply Drawn0.step)⟩
   ·rw [if_neg c4] at H
    have c4b0 : decide (32 ≤ a0) = false := decide_eq_false c4
    clear c4
    obtain rfl := Option.some.inj H
    go_enter Tryz.func51, Tryz.ntmps51
    go_wp2
    go_ret
    exact ⟨by first | rfl | (simp; done) | (simp [*]; done), by repeat (first | exact Drawn0.refl _ | apply Drawn0.step)⟩
 ·rw [if_neg c2] at H
  have c2b0 : decide (1 ≤ a0) = false := decide_eq_false c2
  clear c2
  by_cases c7 : a0 ≥ 32
  ·rw [if_pos c7] at H
   have c7b0 : decide (32 ≤ a0) = true := decide_eq_true c7
   clear c7
   by_cases c8 : a0 = 127
   ·rw [if_pos c8] at H
    have c8b0 : (a0 == 127) = true := beq_iff_eq.mpr c8
    have c8b1 : (a0 != 127) = false := bne_eq_false_iff_eq.mpr c8
    clear c8
    obtain rfl := Option.some.inj H
    go_enter Tryz.func51, Tryz.ntmps51
    go_wp2
    go_ret
    exact ⟨by first | rfl | (simp; done) | (simp [*]; done), by repeat (first | exact Drawn0.refl _ | apply Drawn0.step)⟩
   ·rw [if_neg c8] at H
    have c8b0 : (a0 == 127) = false := beq_eq_false_iff_ne.mpr c8
    have c8b1 : (a0 != 127) = true := bne_iff_ne.mpr c8
    replace H := Option.bind_eq_some_iff.mp H
    obtain ⟨t829, A90, H⟩ := H
    replace H : (some t829) = some r := H
    have A9 := aM A90
    clear A90
    obtain rfl := Option.some.inj H
    go_enter Tryz.func51, Tryz.ntmps51
    go_wp2_with (first | (go_at_call 106; (with_reducible refine (bureauref02_May.calls a0 t829 _ A9.out).mono ?_); rintro e w' ⟨rfl, ⟨nd, rfl⟩⟩))
    go_ret
    exact ⟨by first | rfl | (simp; done) | (simp [*]; done), by repeat (first | exact Drawn0.refl _ | apply Drawn0.step)⟩
  ·rw [if_neg c7] at H
   have c7b0 : decide (32 ≤ a0) = false := decide_eq_false c7
   clear c7
   obtain rfl := Option.some.inj H
   go_enter Tryz.func51, Tryz.ntmps51
   go_wp2
   go_ret
   exact ⟨by first | rfl | (simp; done) | (simp [*]; done), by repeat (first | exact Drawn0.refl _ | apply Drawn0.step)⟩
end Go.Proofs.YtjkfkiebhgkolaaGreatDoor.PB
end

section
namespace Go.Proofs.YtjkfkiebhgkolaaGreatDoor.PB
open Go.RowKit Go.Maps Go.Proofs.YtjkfkiebhgkolaaGreatDoorW.PrintWords Go.Proofs.YtjkfkiebhgkolaaGreatDoorW.PrintLast Go.Proofs.YtjkfkiebhgkolaaGreatDoorW.PrintMore
set_option maxRecDepth 100000
set_option linter.unusedVariables false
set_option linter.unusedSimpArgs false
section
variable {w0 : World} {g : Nat} {A : Option Addr} {c : Nat} {ov : Value} {w W : World} {s : ByteArray} {l : List S68} {v : ByteArray} {y : Int} {d : TX}
def Out3 (w w' : World) (e : Ending) (r : OX) : Prop := ∃ v2 v4 v6 : Value, e = .returned (.tuple #[.agg #[.int .i64 r.1, .string r.2.1, v2, .string r.2.2.2.1, v4, .string r.2.2.2.2.2.1, v6, .bool r.2.2.2.2.2.2.2.1, .bool r.2.2.2.2.2.2.2.2.1, .int .i64 r.2.2.2.2.2.2.2.2.2.1], .int .i64 r.2.2.2.2.2.2.2.2.2.2]) ∧
 Kd.R k68 68 w' w.heap.size (fun k_ => some k_ ≠ (v4 : Value).ownBlock ∧ some k_ ≠ (v6 : Value).ownBlock) v2 r.2.2.1 ∧ Kd.R k68 68 w' w.heap.size (fun k_ => some k_ ≠ (v2 : Value).ownBlock ∧ some k_ ≠ (v6 : Value).ownBlock) v4 r.2.2.2.2.1 ∧ Kd.R k68 68 w' w.heap.size (fun k_ => some k_ ≠ (v2 : Value).ownBlock ∧ some k_ ≠ (v4 : Value).ownBlock) v6 r.2.2.2.2.2.2.1 ∧ Below w.heap.size w w'
theorem R_elder2 {α : Type} {d : Kd α} {e base : Nat} {ok : Nat → Prop} {W w1 : World} {u v1 v2 : Value} {xs : List α} (hu : d.R e W base ok u xs) (h1 : ∀ k, v1.ownBlock = some k → W.heap.size ≤ k) (h2 : ∀ k, v2.ownBlock = some k → W.heap.size ≤ k) (hb : Below W.heap.size W w1) : d.R e w1 base (fun k => some k ≠ v1.ownBlock ∧ some k ≠ v2.ownBlock) u xs :=
 rM (Kd.R_move (Kd.R_bound hu) (fun k hk => hb.block k hk.2.2.1)) (fun k hk => ⟨fun he => by have := h1 k he.symm; have := hk.2.2.1; omega, fun he => by have := h2 k he.symm; have := hk.2.2.1; omega⟩)
theorem R_nil2 {α : Type} {d : Kd α} {e base : Nat} {ok : Nat → Prop} {w : World} {u : Value} {xs : List α} (h : d.R e w base ok u xs) : d.R e w base (fun k => some k ≠ (Value.slice none 0 0).ownBlock ∧ some k ≠ (Value.slice none 0 0).ownBlock) u xs := rM h (fun k _ => ⟨by simp [Value.ownBlock], by simp [Value.ownBlock]⟩)
theorem turn_at (h : DeskAt w0 g A c ov w s l v y d) (a b : Int) {u1 : Int} {u2 : ByteArray} {u3 : List S68} {u4 : ByteArray} {u5 : List S68} {u6 : Int} {u7 : ByteArray} (hu : turnD s l y d a b = ((u1, u2, u3, u4, u5, u6), u7)) :
  Calls Tryz.prog 50 #[.pointer (some ⟨g, 0, none⟩), .int .i64 a, .int .i64 b] w fun e w' => ∃ vo vn : Value, e = .returned (.tuple #[.agg #[.int .i64 u1, .string u2, vo, .string u4, vn], .string u7, .int .i64 u6]) ∧
   Kd.R k68 68 w' w.heap.size (fun k_ => some k_ ≠ (vn : Value).ownBlock) vo u3 ∧ Kd.R k68 68 w' w.heap.size (fun k_ => some k_ ≠ (vo : Value).ownBlock) vn u5 ∧ Below w.heap.size w w' := by
 have h1 := turn_ok h a b
 rw [hu] at h1
 exact h1
end
end Go.Proofs.YtjkfkiebhgkolaaGreatDoor.PB
end
