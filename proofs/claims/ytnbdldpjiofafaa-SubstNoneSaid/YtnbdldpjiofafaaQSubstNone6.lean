/- What the row hangs on, part 6. -/
import Derived.Lib.CountLaws
import Derived.Lib.SplitLaws
import Derived.Lib.IndexMore
import Derived.OpenShut
import Derived.ChangeArms
import Derived.Deep.Slices
import Derived.SizedLaws
import Derived.Deep.MidRow
import Derived.Laws.BitsAllLaws
import Derived.Test.YtnbdldpjiofafaaQSubstNone5
section
namespace Go.Proofs.Ytnbdldpjiofafaa.PB
open Go.RowKit Go.Proofs.YtnbdldpjiofafaaW.PrintWords Go.Proofs.YtnbdldpjiofafaaW.PrintLast Go.Proofs.YtnbdldpjiofafaaW.PrintMore
attribute [local go_sem] max2_int min2_int max_two min_two max_three min_three max_four min_four   
set_option linter.unusedVariables false
set_option linter.unusedSimpArgs false
def bureaulaw15_alive.f (k : Nat)  : Option (Bool) := (some (([(⟨1, 6⟩ : S51)] : List (S51)) : List (S51))).bind fun y246 => ((subst_Do.f k (⟨#[97, 97, 98, 10, 97, 97]⟩ : ByteArray) y246 1 0 1 (⟨#[97]⟩ : ByteArray) (⟨#[120, 121]⟩ : ByteArray) true).bind fun bt250 => ((subst_Do.f k (⟨#[97, 97, 98, 10, 97, 97]⟩ : ByteArray) y246 1 1 1 (⟨#[98]⟩ : ByteArray) (⟨#[]⟩ : ByteArray) false).bind fun bt262 => (if bt250.2.2.2.2.2.2 = 0 then (if bt250.2.2.2.2.2.1 = 4 then (if bt250.2.2.2.1.toList = ([120, 121, 120, 121, 98, 10, 120, 121, 120, 121] : List UInt8) then (some (bt262.2.2.2.2.2.2 == 6)) else (some false)) else (some false)) else (some false))))
theorem bureaulaw15_alive.mono : ∀ k, LeO (bureaulaw15_alive.f k ) (bureaulaw15_alive.f (k + 1) ) := by
 intro  k
 unfold bureaulaw15_alive.f
 repeat' first
   | (with_reducible exact subst_Do.mono _ _ _ _ _ _ _ _ _)
   | (with_reducible exact LeO.refl _)
   | (with_reducible exact LeO.none _)
   | (with_reducible refine LeO.ite ?_ ?_)
   | (with_reducible refine LeO.bind ?_ (fun _ => ?_))
   | exact subst_Do.mono _ _ _ _ _ _ _ _ _
   | exact LeO.none _
   | refine LeO.ite ?_ ?_
   | refine LeO.bind ?_ (fun _ => ?_)
set_option maxHeartbeats 8000000 in
set_option maxRecDepth 100000 in
theorem bureaulaw15_alive.calls (k : Nat)  (r : Bool) (w : World) (hMX : MaxOk w) (h : bureaulaw15_alive.f k  = some r) :
  Calls Try.prog 8 #[] w fun e w' => e = .returned (.bool r) ∧ Below w.heap.size w w' := by
 have HMX := aM hMX
 clear hMX
 have hu51 := Try.underlying51
 have hu24 := Try.underlying24
 have hu28 := Try.underlying28
 have hu32 := Try.underlying32
 have HB := aM (Below.refl w.heap.size w)
 have H : ((some (([(⟨1, 6⟩ : S51)] : List (S51)) : List (S51))).bind fun y246 => ((subst_Do.f k (⟨#[97, 97, 98, 10, 97, 97]⟩ : ByteArray) y246 1 0 1 (⟨#[97]⟩ : ByteArray) (⟨#[120, 121]⟩ : ByteArray) true).bind fun bt250 => ((subst_Do.f k (⟨#[97, 97, 98, 10, 97, 97]⟩ : ByteArray) y246 1 1 1 (⟨#[98]⟩ : ByteArray) (⟨#[]⟩ : ByteArray) false).bind fun bt262 => (if bt250.2.2.2.2.2.2 = 0 then (if bt250.2.2.2.2.2.1 = 4 then (if bt250.2.2.2.1.toList = ([120, 121, 120, 121, 98, 10, 120, 121, 120, 121] : List UInt8) then (some (bt262.2.2.2.2.2.2 == 6)) else (some false)) else (some false)) else (some false))))) = some r := h
 clear h
 obtain ⟨y246, hy246⟩ : ∃ y_ : List (S51), y_ = (([(⟨1, 6⟩ : S51)] : List (S51))) := ⟨_, rfl⟩
 replace H : ((subst_Do.f k (⟨#[97, 97, 98, 10, 97, 97]⟩ : ByteArray) y246 1 0 1 (⟨#[97]⟩ : ByteArray) (⟨#[120, 121]⟩ : ByteArray) true).bind fun bt250 => ((subst_Do.f k (⟨#[97, 97, 98, 10, 97, 97]⟩ : ByteArray) y246 1 1 1 (⟨#[98]⟩ : ByteArray) (⟨#[]⟩ : ByteArray) false).bind fun bt262 => (if bt250.2.2.2.2.2.2 = 0 then (if bt250.2.2.2.2.2.1 = 4 then (if bt250.2.2.2.1.toList = ([120, 121, 120, 121, 98, 10, 120, 121, 120, 121] : List UInt8) then (some (bt262.2.2.2.2.2.2 == 6)) else (some false)) else (some false)) else (some false)))) = some r := by first | (rw [hy246]; with_reducible exact H) | (have H2_ := (Option.bind_some _ _).symm.trans H; rw [hy246]; with_reducible exact H2_) | (have H2_ := (Option.bind_some _ _).symm.trans H; with_reducible exact H2_) | with_reducible exact H | (rw [hy246]; exact H) | exact H
 have Ny246 := aM hy246
 clear hy246
 replace H := Option.bind_eq_some_iff.mp H
 obtain ⟨⟨t250, t251, t252, t255, t256, t259, t260⟩, A10, H⟩ := H
 replace H : ((subst_Do.f k (⟨#[97, 97, 98, 10, 97, 97]⟩ : ByteArray) y246 1 1 1 (⟨#[98]⟩ : ByteArray) (⟨#[]⟩ : ByteArray) false).bind fun bt262 => (if t260 = 0 then (if t259 = 4 then (if t255.toList = ([120, 121, 120, 121, 98, 10, 120, 121, 120, 121] : List UInt8) then (some (bt262.2.2.2.2.2.2 == 6)) else (some false)) else (some false)) else (some false))) = some r := H
 have A1 := aM A10
 clear A10
 replace H := Option.bind_eq_some_iff.mp H
 obtain ⟨⟨t262, t263, t264, t267, t268, t271, t272⟩, A20, H⟩ := H
 replace H : (if t260 = 0 then (if t259 = 4 then (if t255.toList = ([120, 121, 120, 121, 98, 10, 120, 121, 120, 121] : List UInt8) then (some (t272 == 6)) else (some false)) else (some false)) else (some false)) = some r := H
 have A2 := aM A20
 clear A20
 by_cases c3 : t260 = 0
 ·rw [if_pos c3] at H
  have c3b0 : (t260 == 0) = true := beq_iff_eq.mpr c3
  have c3b1 : (t260 != 0) = false := bne_eq_false_iff_eq.mpr c3
  clear c3
  by_cases c4 : t259 = 4
  ·rw [if_pos c4] at H
   have c4b0 : (t259 == 4) = true := beq_iff_eq.mpr c4
   have c4b1 : (t259 != 4) = false := bne_eq_false_iff_eq.mpr c4
   clear c4
   by_cases c5 : t255.toList = ([120, 121, 120, 121, 98, 10, 120, 121, 120, 121] : List UInt8)
   ·rw [if_pos c5] at H
    have c5b0 : (t255.toList == ([120, 121, 120, 121, 98, 10, 120, 121, 120, 121] : List UInt8)) = true := beq_iff_eq.mpr c5
    have c5b1 : (t255.toList != ([120, 121, 120, 121, 98, 10, 120, 121, 120, 121] : List UInt8)) = false := bne_eq_false_iff_eq.mpr c5
    clear c5
    obtain rfl := Option.some.inj H
    go_enter Try.func8, Try.ntmps8
    go_wp2_with (first | ((with_reducible refine gate_dst (N := 9) rfl ?_); refine Kd.R_lit k51 _ 51 ?hg (N := 9) ?hd (xs := ([(⟨1, 6⟩ : S51)] : List (S51))) (inner := [.int .u64 1, .int .i64 6]) (ok := fun _ => True) (okp := fun _ => True) ?hr ?hp (fun _ hk => hk) trivial (Below.refl _ _) (Nat.le_refl _) (by simp) ?_; (case hd | hg => rfl); (case hr => first | (go_simp; done) | (go_simp; rfl)); (case hp => exact (Reps.c2 (show Kd.M k51 _ _ _ (⟨1, 6⟩ : S51) [.int .u64 1, .int .i64 6] from (k51_mkM _ _ _ (⟨1, 6⟩ : S51) )) (Reps.none _ _))); intro v247 w6 ho7 hb hg_ hnew_; clear hg_ hnew_; (first | rw [← Ny246.out] at ho7 | (simp only [Int.reduceToNat] at ho7; rw [← Ny246.out] at ho7)); have n0_ := aM (rL ho7 (bZ (ey HB.out))); have n1_ := aM (bP (ey HB.out) hb); clear HB; have HO248 := n0_; have HB := n1_; clear n0_ n1_; clear hb ho7; obtain ⟨Ao8, co8, eo8⟩ := Kd.R_slice HO248.out; subst eo8) | ((with_reducible refine gate_dst (N := 1) rfl ?_); refine box_event ?hg (N := 1) ?hd (cs := #[.string (⟨#[]⟩ : ByteArray), .slice none 0 0]) (t := 24) ?hr ?_; (case hd | hg => rfl); (case hr => first | (go_simp; done) | (go_simp; rfl)); intro gb249 hg w9 hbox hb; have n0_ := aM (Kd.R_below (ry HO248.out) hb); have n1_ := aM (bP (ey HB.out) hb); have n2_ := aM (hbox); have n3_ := aM ((by rw [hg]; exact (bZ (ey HB.out)) : w.heap.size ≤ gb249)); have n4_ := n3_; clear HO248 HB; have HO248 := n0_; have HB := n1_; have BK249 := n2_; have GW249 := n3_; have GE249 := n4_; clear n0_ n1_ n2_ n3_ n4_; clear hb hbox hg; have hcz10_0 : w9.cell? ⟨gb249, 0, none⟩ = some (.string (⟨#[]⟩ : ByteArray)) := (bC BK249.out 0).trans rfl; have hcz10_1 : w9.cell? ⟨gb249, 1, none⟩ = some (.slice none 0 0) := (bC BK249.out 1).trans rfl; have hfz10_0 := bF BK249.out 0; have hfz10_1 := bF BK249.out 1) | ((with_reducible refine gate_callee (f := 10) rfl ?_); refine goesL_ (some 14) rfl rfl Try.func10 (by kernel_rfl) rfl #[.agg #[.string (⟨#[97, 97, 98, 10, 97, 97]⟩ : ByteArray), .slice Ao8 y246.length co8], .int .u64 1, .agg #[.int .i64 0, .int .i64 1, .string (⟨#[97]⟩ : ByteArray), .string (⟨#[120, 121]⟩ : ByteArray), .bool true]] rfl (by (try simp only [mT, mC, mN]); first | done | rfl | (simp only [lD, lT]; rfl)) ?_; (with_reducible refine (subst_Do.calls k (⟨#[97, 97, 98, 10, 97, 97]⟩ : ByteArray) _ _ y246 1 0 1 (⟨#[97]⟩ : ByteArray) (⟨#[120, 121]⟩ : ByteArray) true t250 t251 t252 t255 t256 t259 t260 _ ?mx6 ?side1 ?side2 A1.out).mono ?_); (case mx6 => exact MaxOk.below HMX.out (by repeat (first | (with_reducible first | exact HB.out | apply ea | apply en | apply ed | refine es ?_ GE249.out) | exact HB.out))); (case side1 => refine (rR (e := 51) (base := w.heap.size) (ok := fun k_ => True) (n := y246.length) (c := co8) ?_).2.2; exact (by (with_reducible repeat (first | apply ra | apply rn | apply rd_)); exact (rM (rF (p := ⟨gb249, 1, none⟩) (rF (p := ⟨gb249, 0, none⟩) (rT HO248.out BK249.out (by decide)) (fun _ hk => hk.2) (.string (⟨#[97, 97, 98, 10, 97, 97]⟩ : ByteArray))) (fun _ hk => hk.2) (.slice Ao8 y246.length co8)) (fun _ h_ => h_.1)))); (case side2 => exact (rR HO248.out).2.1); rintro e w11 ⟨v253, v257, rfl, ho0, ho1, hb⟩; refine ⟨_, rfl, ?_⟩; have n0_ := aM (rM (Kd.R_told (Kd.R_told (Kd.R_old (by (with_reducible repeat (first | apply ra | apply rn | apply rd_)); exact (rM (rF (p := ⟨gb249, 1, none⟩) (rF (p := ⟨gb249, 0, none⟩) (rT HO248.out BK249.out (by decide)) (fun _ hk => hk.2) (.string (⟨#[97, 97, 98, 10, 97, 97]⟩ : ByteArray))) (fun _ hk => hk.2) (.slice Ao8 y246.length co8)) (fun _ h_ => h_.1))) hb) (Kd.R_base ho0)) (Kd.R_base ho1)) (fun _ h_ => h_.1)); have n1_ := aM (rL (Kd.R_new' ho0 (Kd.R_lt (by (with_reducible repeat (first | apply ra | apply rn | apply rd_)); exact (rM (rF (p := ⟨gb249, 1, none⟩) (rF (p := ⟨gb249, 0, none⟩) (rT HO248.out BK249.out (by decide)) (fun _ hk => hk.2) (.string (⟨#[97, 97, 98, 10, 97, 97]⟩ : ByteArray))) (fun _ hk => hk.2) (.slice Ao8 y246.length co8)) (fun _ h_ => h_.1))))) (bZ (by repeat (first | (with_reducible first | exact HB.out | apply ea | apply en | apply ed | refine es ?_ GE249.out) | exact HB.out)))); have n2_ := aM (rL (Kd.R_new' ho1 (Kd.R_lt (by (with_reducible repeat (first | apply ra | apply rn | apply rd_)); exact (rM (rF (p := ⟨gb249, 1, none⟩) (rF (p := ⟨gb249, 0, none⟩) (rT HO248.out BK249.out (by decide)) (fun _ hk => hk.2) (.string (⟨#[97, 97, 98, 10, 97, 97]⟩ : ByteArray))) (fun _ hk => hk.2) (.slice Ao8 y246.length co8)) (fun _ h_ => h_.1))))) (bZ (by repeat (first | (with_reducible first | exact HB.out | apply ea | apply en | apply ed | refine es ?_ GE249.out) | exact HB.out)))); have n3_ := aM (bB (g := gb249) (o := .cells #[.string (⟨#[97, 97, 98, 10, 97, 97]⟩ : ByteArray), .slice Ao8 y246.length co8] 24 (0, 0)) (by (with_reducible repeat (first | apply qn | apply qd | apply qa)); refine bU (cs := #[.string (⟨#[97, 97, 98, 10, 97, 97]⟩ : ByteArray), .slice none 0 0]) ?_ 1 _ rfl; (with_reducible repeat (first | apply qn | apply qd | apply qa)); refine bU (cs := #[.string (⟨#[]⟩ : ByteArray), .slice none 0 0]) ?_ 0 _ rfl; exact qy BK249.out) hb); have n4_ := aM (bP (by repeat (first | (with_reducible first | exact HB.out | apply ea | apply en | apply ed | refine es ?_ GE249.out) | exact HB.out)) hb); clear HO248 BK249 HB; have HO248 := n0_; have HO254 := n1_; have HO258 := n2_; have BK249 := n3_; have HB := n4_; clear n0_ n1_ n2_ n3_ n4_; (try clear hb); (try clear hb2); (try clear hk); (try clear hi); (try clear ho0); (try clear ho1)) | ((with_reducible refine gate_dst (N := 2) rfl ?_); refine box_event ?hg (N := 2) ?hd (cs := #[.int .i64 0, .string (⟨#[]⟩ : ByteArray), .slice none 0 0, .string (⟨#[]⟩ : ByteArray), .slice none 0 0]) (t := 32) ?hr ?_; (case hd | hg => rfl); (case hr => first | (go_simp; done) | (go_simp; rfl)); intro gb261 hg w12 hbox hb; have n0_ := aM (Kd.R_below (ry HO248.out) hb); have n1_ := aM (Kd.R_below (ry HO254.out) hb); have n2_ := aM (Kd.R_below (ry HO258.out) hb); have n3_ := aM (bB (g := gb249) (qy BK249.out) hb); have n4_ := aM (bP (by repeat (first | (with_reducible first | exact HB.out | apply ea | apply en | apply ed | refine es ?_ GE249.out) | exact HB.out)) hb); have n5_ := aM (hbox); have n6_ := aM ((by rw [hg]; exact (bZ (by repeat (first | (with_reducible first | exact HB.out | apply ea | apply en | apply ed | refine es ?_ GE249.out) | exact HB.out))) : w.heap.size ≤ gb261)); have n7_ := n6_; have n8_ := aM ((by rw [hg]; exact Nat.ne_of_lt (blk_lt (g := gb249) (qy BK249.out)) : gb249 ≠ gb261)); have n9_ := aM ((by rw [hg]; exact Nat.ne_of_gt (blk_lt (g := gb249) (qy BK249.out)) : gb261 ≠ gb249)); clear HO248 HO254 HO258 BK249 HB; have HO248 := n0_; have HO254 := n1_; have HO258 := n2_; have BK249 := n3_; have HB := n4_; have BK261 := n5_; have GW261 := n6_; have GE261 := n7_; have NB249_261 := n8_; have NB261_249 := n9_; clear n0_ n1_ n2_ n3_ n4_ n5_ n6_ n7_ n8_ n9_; clear hb hbox hg; have hnb13 := NB261_249.out; have hnc13 := NB249_261.out; have hcz14_0 : w12.cell? ⟨gb261, 0, none⟩ = some (.int .i64 0) := (bC BK261.out 0).trans rfl; have hcz14_1 : w12.cell? ⟨gb261, 1, none⟩ = some (.string (⟨#[]⟩ : ByteArray)) := (bC BK261.out 1).trans rfl; have hcz14_2 : w12.cell? ⟨gb261, 2, none⟩ = some (.slice none 0 0) := (bC BK261.out 2).trans rfl; have hcz14_3 : w12.cell? ⟨gb261, 3, none⟩ = some (.string (⟨#[]⟩ : ByteArray)) := (bC BK261.out 3).trans rfl; have hcz14_4 : w12.cell? ⟨gb261, 4, none⟩ = some (.slice none 0 0) := (bC BK261.out 4).trans rfl; have hfz14_0 := bF BK261.out 0; have hfz14_1 := bF BK261.out 1; have hfz14_2 := bF BK261.out 2; have hfz14_3 := bF BK261.out 3; have hfz14_4 := bF BK261.out 4; obtain ⟨Ao15, co15, eo15⟩ := Kd.R_slice HO254.out; subst eo15; obtain ⟨Ao16, co16, eo16⟩ := Kd.R_slice HO258.out; subst eo16; have hcz17_0 : w12.cell? ⟨gb249, 0, none⟩ = some (.string (⟨#[97, 97, 98, 10, 97, 97]⟩ : ByteArray)) := (bC BK249.out 0).trans rfl; have hcz17_1 : w12.cell? ⟨gb249, 1, none⟩ = some (.slice Ao8 y246.length co8) := (bC BK249.out 1).trans rfl; have hfz17_0 := bF BK249.out 0; have hfz17_1 := bF BK249.out 1) | ((with_reducible refine gate_callee (f := 10) rfl ?_); refine goesL_ (some 21) rfl rfl Try.func10 (by kernel_rfl) rfl #[.agg #[.string (⟨#[97, 97, 98, 10, 97, 97]⟩ : ByteArray), .slice Ao8 y246.length co8], .int .u64 1, .agg #[.int .i64 1, .int .i64 1, .string (⟨#[98]⟩ : ByteArray), .string (⟨#[]⟩ : ByteArray), .bool false]] rfl (by (try simp only [mT, mC, mN]); first | done | rfl | (simp only [lD, lT]; rfl)) ?_; (with_reducible refine (subst_Do.calls k (⟨#[97, 97, 98, 10, 97, 97]⟩ : ByteArray) _ _ y246 1 1 1 (⟨#[98]⟩ : ByteArray) (⟨#[]⟩ : ByteArray) false t262 t263 t264 t267 t268 t271 t272 _ ?mx7 ?side1 ?side2 A2.out).mono ?_); (case mx7 => exact MaxOk.below HMX.out (by repeat (first | (with_reducible first | exact HB.out | apply ea | apply en | apply ed | refine es ?_ GE249.out | refine es ?_ GE261.out) | exact HB.out))); (case side1 => refine (rR (e := 51) (base := w.heap.size) (ok := fun k_ => ((True ∧ some k_ ≠ (.slice Ao15 t252.length co15 : Value).ownBlock) ∧ some k_ ≠ (.slice Ao16 t256.length co16 : Value).ownBlock)) (n := y246.length) (c := co8) ?_).2.2; exact (by (with_reducible repeat (first | apply ra | apply rn | apply rd_)); exact (rM (rF (p := ⟨gb261, 4, none⟩) (rF (p := ⟨gb261, 3, none⟩) (rF (p := ⟨gb261, 2, none⟩) (rF (p := ⟨gb261, 1, none⟩) (rF (p := ⟨gb261, 0, none⟩) (rT HO248.out BK261.out (by decide)) (fun _ hk => hk.2) (.int .i64 t250)) (fun _ hk => hk.2) (.string t251)) (fun _ hk => hk.2) (.slice Ao15 t252.length co15)) (fun _ hk => hk.2) (.string t255)) (fun _ hk => hk.2) (.slice Ao16 t256.length co16)) (fun _ h_ => h_.1)))); (case side2 => exact (rR HO248.out).2.1); rintro e w18 ⟨v265, v269, rfl, ho0, ho1, hb⟩; refine ⟨_, rfl, ?_⟩; have n0_ := aM (rM (Kd.R_told (Kd.R_told (Kd.R_old (by (with_reducible repeat (first | apply ra | apply rn | apply rd_)); exact (rM (rF (p := ⟨gb261, 4, none⟩) (rF (p := ⟨gb261, 3, none⟩) (rF (p := ⟨gb261, 2, none⟩) (rF (p := ⟨gb261, 1, none⟩) (rF (p := ⟨gb261, 0, none⟩) (rT HO248.out BK261.out (by decide)) (fun _ hk => hk.2) (.int .i64 t250)) (fun _ hk => hk.2) (.string t251)) (fun _ hk => hk.2) (.slice Ao15 t252.length co15)) (fun _ hk => hk.2) (.string t255)) (fun _ hk => hk.2) (.slice Ao16 t256.length co16)) (fun _ h_ => h_.1))) hb) (Kd.R_base ho0)) (Kd.R_base ho1)) (fun _ h_ => h_.1)); have n1_ := aM (rM (Kd.R_told (Kd.R_told (Kd.R_old (by (with_reducible repeat (first | apply ra | apply rn | apply rd_)); exact (rM (rF (p := ⟨gb261, 4, none⟩) (rF (p := ⟨gb261, 3, none⟩) (rF (p := ⟨gb261, 2, none⟩) (rF (p := ⟨gb261, 1, none⟩) (rF (p := ⟨gb261, 0, none⟩) (rT HO254.out BK261.out (by decide)) (fun _ hk => hk.2) (.int .i64 t250)) (fun _ hk => hk.2) (.string t251)) (fun _ hk => hk.2) (.slice Ao15 t252.length co15)) (fun _ hk => hk.2) (.string t255)) (fun _ hk => hk.2) (.slice Ao16 t256.length co16)) (fun _ h_ => h_.1))) hb) (Kd.R_base ho0)) (Kd.R_base ho1)) (fun _ h_ => h_.1)); have n2_ := aM (rM (Kd.R_told (Kd.R_told (Kd.R_old (by (with_reducible repeat (first | apply ra | apply rn | apply rd_)); exact (rM (rF (p := ⟨gb261, 4, none⟩) (rF (p := ⟨gb261, 3, none⟩) (rF (p := ⟨gb261, 2, none⟩) (rF (p := ⟨gb261, 1, none⟩) (rF (p := ⟨gb261, 0, none⟩) (rT HO258.out BK261.out (by decide)) (fun _ hk => hk.2) (.int .i64 t250)) (fun _ hk => hk.2) (.string t251)) (fun _ hk => hk.2) (.slice Ao15 t252.length co15)) (fun _ hk => hk.2) (.string t255)) (fun _ hk => hk.2) (.slice Ao16 t256.length co16)) (fun _ h_ => h_.1))) hb) (Kd.R_base ho0)) (Kd.R_base ho1)) (fun _ h_ => h_.1)); have n3_ := aM (rL (Kd.R_new' (Kd.R_new' (Kd.R_new' ho0 (Kd.R_lt (by (with_reducible repeat (first | apply ra | apply rn | apply rd_)); exact (rM (rF (p := ⟨gb261, 4, none⟩) (rF (p := ⟨gb261, 3, none⟩) (rF (p := ⟨gb261, 2, none⟩) (rF (p := ⟨gb261, 1, none⟩) (rF (p := ⟨gb261, 0, none⟩) (rT HO248.out BK261.out (by decide)) (fun _ hk => hk.2) (.int .i64 t250)) (fun _ hk => hk.2) (.string t251)) (fun _ hk => hk.2) (.slice Ao15 t252.length co15)) (fun _ hk => hk.2) (.string t255)) (fun _ hk => hk.2) (.slice Ao16 t256.length co16)) (fun _ h_ => h_.1))))) (Kd.R_lt (by (with_reducible repeat (first | apply ra | apply rn | apply rd_)); exact (rM (rF (p := ⟨gb261, 4, none⟩) (rF (p := ⟨gb261, 3, none⟩) (rF (p := ⟨gb261, 2, none⟩) (rF (p := ⟨gb261, 1, none⟩) (rF (p := ⟨gb261, 0, none⟩) (rT HO254.out BK261.out (by decide)) (fun _ hk => hk.2) (.int .i64 t250)) (fun _ hk => hk.2) (.string t251)) (fun _ hk => hk.2) (.slice Ao15 t252.length co15)) (fun _ hk => hk.2) (.string t255)) (fun _ hk => hk.2) (.slice Ao16 t256.length co16)) (fun _ h_ => h_.1))))) (Kd.R_lt (by (with_reducible repeat (first | apply ra | apply rn | apply rd_)); exact (rM (rF (p := ⟨gb261, 4, none⟩) (rF (p := ⟨gb261, 3, none⟩) (rF (p := ⟨gb261, 2, none⟩) (rF (p := ⟨gb261, 1, none⟩) (rF (p := ⟨gb261, 0, none⟩) (rT HO258.out BK261.out (by decide)) (fun _ hk => hk.2) (.int .i64 t250)) (fun _ hk => hk.2) (.string t251)) (fun _ hk => hk.2) (.slice Ao15 t252.length co15)) (fun _ hk => hk.2) (.string t255)) (fun _ hk => hk.2) (.slice Ao16 t256.length co16)) (fun _ h_ => h_.1))))) (bZ (by repeat (first | (with_reducible first | exact HB.out | apply ea | apply en | apply ed | refine es ?_ GE249.out | refine es ?_ GE261.out) | exact HB.out)))); have n4_ := aM (rL (Kd.R_new' (Kd.R_new' (Kd.R_new' ho1 (Kd.R_lt (by (with_reducible repeat (first | apply ra | apply rn | apply rd_)); exact (rM (rF (p := ⟨gb261, 4, none⟩) (rF (p := ⟨gb261, 3, none⟩) (rF (p := ⟨gb261, 2, none⟩) (rF (p := ⟨gb261, 1, none⟩) (rF (p := ⟨gb261, 0, none⟩) (rT HO248.out BK261.out (by decide)) (fun _ hk => hk.2) (.int .i64 t250)) (fun _ hk => hk.2) (.string t251)) (fun _ hk => hk.2) (.slice Ao15 t252.length co15)) (fun _ hk => hk.2) (.string t255)) (fun _ hk => hk.2) (.slice Ao16 t256.length co16)) (fun _ h_ => h_.1))))) (Kd.R_lt (by (with_reducible repeat (first | apply ra | apply rn | apply rd_)); exact (rM (rF (p := ⟨gb261, 4, none⟩) (rF (p := ⟨gb261, 3, none⟩) (rF (p := ⟨gb261, 2, none⟩) (rF (p := ⟨gb261, 1, none⟩) (rF (p := ⟨gb261, 0, none⟩) (rT HO254.out BK261.out (by decide)) (fun _ hk => hk.2) (.int .i64 t250)) (fun _ hk => hk.2) (.string t251)) (fun _ hk => hk.2) (.slice Ao15 t252.length co15)) (fun _ hk => hk.2) (.string t255)) (fun _ hk => hk.2) (.slice Ao16 t256.length co16)) (fun _ h_ => h_.1))))) (Kd.R_lt (by (with_reducible repeat (first | apply ra | apply rn | apply rd_)); exact (rM (rF (p := ⟨gb261, 4, none⟩) (rF (p := ⟨gb261, 3, none⟩) (rF (p := ⟨gb261, 2, none⟩) (rF (p := ⟨gb261, 1, none⟩) (rF (p := ⟨gb261, 0, none⟩) (rT HO258.out BK261.out (by decide)) (fun _ hk => hk.2) (.int .i64 t250)) (fun _ hk => hk.2) (.string t251)) (fun _ hk => hk.2) (.slice Ao15 t252.length co15)) (fun _ hk => hk.2) (.string t255)) (fun _ hk => hk.2) (.slice Ao16 t256.length co16)) (fun _ h_ => h_.1))))) (bZ (by repeat (first | (with_reducible first | exact HB.out | apply ea | apply en | apply ed | refine es ?_ GE249.out | refine es ?_ GE261.out) | exact HB.out)))); have n5_ := aM (bB (g := gb249) (o := .cells #[.string (⟨#[97, 97, 98, 10, 97, 97]⟩ : ByteArray), .slice Ao8 y246.length co8] 24 (0, 0)) (by (with_reducible repeat (first | apply qn | apply qd | apply qa)); refine bR ?_ NB249_261.out _; (with_reducible repeat (first | apply qn | apply qd | apply qa)); refine bR ?_ NB249_261.out _; (with_reducible repeat (first | apply qn | apply qd | apply qa)); refine bR ?_ NB249_261.out _; (with_reducible repeat (first | apply qn | apply qd | apply qa)); refine bR ?_ NB249_261.out _; (with_reducible repeat (first | apply qn | apply qd | apply qa)); refine bR ?_ NB249_261.out _; exact qy BK249.out) hb); have n6_ := aM (bB (g := gb261) (o := .cells #[.int .i64 t250, .string t251, .slice Ao15 t252.length co15, .string t255, .slice Ao16 t256.length co16] 32 (0, 0)) (by (with_reducible repeat (first | apply qn | apply qd | apply qa)); refine bU (cs := #[.int .i64 t250, .string t251, .slice Ao15 t252.length co15, .string t255, .slice none 0 0]) ?_ 4 _ rfl; (with_reducible repeat (first | apply qn | apply qd | apply qa)); refine bU (cs := #[.int .i64 t250, .string t251, .slice Ao15 t252.length co15, .string (⟨#[]⟩ : ByteArray), .slice none 0 0]) ?_ 3 _ rfl; (with_reducible repeat (first | apply qn | apply qd | apply qa)); refine bU (cs := #[.int .i64 t250, .string t251, .slice none 0 0, .string (⟨#[]⟩ : ByteArray), .slice none 0 0]) ?_ 2 _ rfl; (with_reducible repeat (first | apply qn | apply qd | apply qa)); refine bU (cs := #[.int .i64 t250, .string (⟨#[]⟩ : ByteArray), .slice none 0 0, .string (⟨#[]⟩ : ByteArray), .slice none 0 0]) ?_ 1 _ rfl; (with_reducible repeat (first | apply qn | apply qd | apply qa)); refine bU (cs := #[.int .i64 0, .string (⟨#[]⟩ : ByteArray), .slice none 0 0, .string (⟨#[]⟩ : ByteArray), .slice none 0 0]) ?_ 0 _ rfl; exact qy BK261.out) hb); have n7_ := aM (bP (by repeat (first | (with_reducible first | exact HB.out | apply ea | apply en | apply ed | refine es ?_ GE249.out | refine es ?_ GE261.out) | exact HB.out)) hb); clear HO248 HO254 HO258 BK249 BK261 HB; have HO248 := n0_; have HO254 := n1_; have HO258 := n2_; have HO266 := n3_; have HO270 := n4_; have BK249 := n5_; have BK261 := n6_; have HB := n7_; clear n0_ n1_ n2_ n3_ n4_ n5_ n6_ n7_; (try clear hb); (try clear hb2); (try clear hk); (try clear hi); (try clear ho0); (try clear ho1)) | ((with_reducible refine gate_dst (N := 5) rfl ?_); refine box_event ?hg (N := 5) ?hd (cs := #[.int .i64 0, .string (⟨#[]⟩ : ByteArray), .slice none 0 0, .string (⟨#[]⟩ : ByteArray), .slice none 0 0]) (t := 32) ?hr ?_; (case hd | hg => rfl); (case hr => first | (go_simp; done) | (go_simp; rfl)); intro gb273 hg w19 hbox hb; have n0_ := aM (Kd.R_below (ry HO248.out) hb); have n1_ := aM (Kd.R_below (ry HO254.out) hb); have n2_ := aM (Kd.R_below (ry HO258.out) hb); have n3_ := aM (Kd.R_below (ry HO266.out) hb); have n4_ := aM (Kd.R_below (ry HO270.out) hb); have n5_ := aM (bB (g := gb249) (qy BK249.out) hb); have n6_ := aM (bB (g := gb261) (qy BK261.out) hb); have n7_ := aM (bP (by repeat (first | (with_reducible first | exact HB.out | apply ea | apply en | apply ed | refine es ?_ GE249.out | refine es ?_ GE261.out) | exact HB.out)) hb); have n8_ := aM (hbox); have n9_ := aM ((by rw [hg]; exact (bZ (by repeat (first | (with_reducible first | exact HB.out | apply ea | apply en | apply ed | refine es ?_ GE249.out | refine es ?_ GE261.out) | exact HB.out))) : w.heap.size ≤ gb273)); have n10_ := n9_; have n11_ := aM ((by rw [hg]; exact Nat.ne_of_lt (blk_lt (g := gb249) (qy BK249.out)) : gb249 ≠ gb273)); have n12_ := aM ((by rw [hg]; exact Nat.ne_of_gt (blk_lt (g := gb249) (qy BK249.out)) : gb273 ≠ gb249)); have n13_ := aM ((by rw [hg]; exact Nat.ne_of_lt (blk_lt (g := gb261) (qy BK261.out)) : gb261 ≠ gb273)); have n14_ := aM ((by rw [hg]; exact Nat.ne_of_gt (blk_lt (g := gb261) (qy BK261.out)) : gb273 ≠ gb261)); clear HO248 HO254 HO258 HO266 HO270 BK249 BK261 HB; have HO248 := n0_; have HO254 := n1_; have HO258 := n2_; have HO266 := n3_; have HO270 := n4_; have BK249 := n5_; have BK261 := n6_; have HB := n7_; have BK273 := n8_; have GW273 := n9_; have GE273 := n10_; have NB249_273 := n11_; have NB273_249 := n12_; have NB261_273 := n13_; have NB273_261 := n14_; clear n0_ n1_ n2_ n3_ n4_ n5_ n6_ n7_ n8_ n9_ n10_ n11_ n12_ n13_ n14_; clear hb hbox hg; have hnb20 := NB273_249.out; have hnc20 := NB249_273.out; have hnb21 := NB273_261.out; have hnc21 := NB261_273.out; have hcz22_0 : w19.cell? ⟨gb273, 0, none⟩ = some (.int .i64 0) := (bC BK273.out 0).trans rfl; have hcz22_1 : w19.cell? ⟨gb273, 1, none⟩ = some (.string (⟨#[]⟩ : ByteArray)) := (bC BK273.out 1).trans rfl; have hcz22_2 : w19.cell? ⟨gb273, 2, none⟩ = some (.slice none 0 0) := (bC BK273.out 2).trans rfl; have hcz22_3 : w19.cell? ⟨gb273, 3, none⟩ = some (.string (⟨#[]⟩ : ByteArray)) := (bC BK273.out 3).trans rfl; have hcz22_4 : w19.cell? ⟨gb273, 4, none⟩ = some (.slice none 0 0) := (bC BK273.out 4).trans rfl; have hfz22_0 := bF BK273.out 0; have hfz22_1 := bF BK273.out 1; have hfz22_2 := bF BK273.out 2; have hfz22_3 := bF BK273.out 3; have hfz22_4 := bF BK273.out 4; obtain ⟨Ao23, co23, eo23⟩ := Kd.R_slice HO266.out; subst eo23; obtain ⟨Ao24, co24, eo24⟩ := Kd.R_slice HO270.out; subst eo24; have hcz25_0 : w19.cell? ⟨gb261, 0, none⟩ = some (.int .i64 t250) := (bC BK261.out 0).trans rfl; have hcz25_1 : w19.cell? ⟨gb261, 1, none⟩ = some (.string t251) := (bC BK261.out 1).trans rfl; have hcz25_2 : w19.cell? ⟨gb261, 2, none⟩ = some (.slice Ao15 t252.length co15) := (bC BK261.out 2).trans rfl; have hcz25_3 : w19.cell? ⟨gb261, 3, none⟩ = some (.string t255) := (bC BK261.out 3).trans rfl; have hcz25_4 : w19.cell? ⟨gb261, 4, none⟩ = some (.slice Ao16 t256.length co16) := (bC BK261.out 4).trans rfl; have hfz25_0 := bF BK261.out 0; have hfz25_1 := bF BK261.out 1; have hfz25_2 := bF BK261.out 2; have hfz25_3 := bF BK261.out 3; have hfz25_4 := bF BK261.out 4))
    go_ret
    exact ⟨by first | rfl | (simp [errW_none, errW_some] <;> rfl) | (simp [*, errW_none, errW_some] <;> rfl), by repeat (first | (with_reducible first | exact HB.out | apply ea | apply en | apply ed | refine es ?_ GE249.out | refine es ?_ GE261.out | refine es ?_ GE273.out) | exact HB.out)⟩
   ·rw [if_neg c5] at H
    have c5b0 : (t255.toList == ([120, 121, 120, 121, 98, 10, 120, 121, 120, 121] : List UInt8)) = false := beq_eq_false_iff_ne.mpr c5
    have c5b1 : (t255.toList != ([120, 121, 120, 121, 98, 10, 120, 121, 120, 121] : List UInt8)) = true := bne_iff_ne.mpr c5
    obtain rfl := Option.some.inj H
    go_enter Try.func8, Try.ntmps8
    go_wp2_with (first | ((with_reducible refine gate_dst (N := 9) rfl ?_); refine Kd.R_lit k51 _ 51 ?hg (N := 9) ?hd (xs := ([(⟨1, 6⟩ : S51)] : List (S51))) (inner := [.int .u64 1, .int .i64 6]) (ok := fun _ => True) (okp := fun _ => True) ?hr ?hp (fun _ hk => hk) trivial (Below.refl _ _) (Nat.le_refl _) (by simp) ?_; (case hd | hg => rfl); (case hr => first | (go_simp; done) | (go_simp; rfl)); (case hp => exact (Reps.c2 (show Kd.M k51 _ _ _ (⟨1, 6⟩ : S51) [.int .u64 1, .int .i64 6] from (k51_mkM _ _ _ (⟨1, 6⟩ : S51) )) (Reps.none _ _))); intro v247 w26 ho27 hb hg_ hnew_; clear hg_ hnew_; (first | rw [← Ny246.out] at ho27 | (simp only [Int.reduceToNat] at ho27; rw [← Ny246.out] at ho27)); have n0_ := aM (rL ho27 (bZ (ey HB.out))); have n1_ := aM (bP (ey HB.out) hb); clear HB; have HO248 := n0_; have HB := n1_; clear n0_ n1_; clear hb ho27; obtain ⟨Ao28, co28, eo28⟩ := Kd.R_slice HO248.out; subst eo28) | ((with_reducible refine gate_dst (N := 1) rfl ?_); refine box_event ?hg (N := 1) ?hd (cs := #[.string (⟨#[]⟩ : ByteArray), .slice none 0 0]) (t := 24) ?hr ?_; (case hd | hg => rfl); (case hr => first | (go_simp; done) | (go_simp; rfl)); intro gb249 hg w29 hbox hb; have n0_ := aM (Kd.R_below (ry HO248.out) hb); have n1_ := aM (bP (ey HB.out) hb); have n2_ := aM (hbox); have n3_ := aM ((by rw [hg]; exact (bZ (ey HB.out)) : w.heap.size ≤ gb249)); have n4_ := n3_; clear HO248 HB; have HO248 := n0_; have HB := n1_; have BK249 := n2_; have GW249 := n3_; have GE249 := n4_; clear n0_ n1_ n2_ n3_ n4_; clear hb hbox hg; have hcz30_0 : w29.cell? ⟨gb249, 0, none⟩ = some (.string (⟨#[]⟩ : ByteArray)) := (bC BK249.out 0).trans rfl; have hcz30_1 : w29.cell? ⟨gb249, 1, none⟩ = some (.slice none 0 0) := (bC BK249.out 1).trans rfl; have hfz30_0 := bF BK249.out 0; have hfz30_1 := bF BK249.out 1) | ((with_reducible refine gate_callee (f := 10) rfl ?_); refine goesL_ (some 14) rfl rfl Try.func10 (by kernel_rfl) rfl #[.agg #[.string (⟨#[97, 97, 98, 10, 97, 97]⟩ : ByteArray), .slice Ao28 y246.length co28], .int .u64 1, .agg #[.int .i64 0, .int .i64 1, .string (⟨#[97]⟩ : ByteArray), .string (⟨#[120, 121]⟩ : ByteArray), .bool true]] rfl (by (try simp only [mT, mC, mN]); first | done | rfl | (simp only [lD, lT]; rfl)) ?_; (with_reducible refine (subst_Do.calls k (⟨#[97, 97, 98, 10, 97, 97]⟩ : ByteArray) _ _ y246 1 0 1 (⟨#[97]⟩ : ByteArray) (⟨#[120, 121]⟩ : ByteArray) true t250 t251 t252 t255 t256 t259 t260 _ ?mx8 ?side1 ?side2 A1.out).mono ?_); (case mx8 => exact MaxOk.below HMX.out (by repeat (first | (with_reducible first | exact HB.out | apply ea | apply en | apply ed | refine es ?_ GE249.out) | exact HB.out))); (case side1 => refine (rR (e := 51) (base := w.heap.size) (ok := fun k_ => True) (n := y246.length) (c := co28) ?_).2.2; exact (by (with_reducible repeat (first | apply ra | apply rn | apply rd_)); exact (rM (rF (p := ⟨gb249, 1, none⟩) (rF (p := ⟨gb249, 0, none⟩) (rT HO248.out BK249.out (by decide)) (fun _ hk => hk.2) (.string (⟨#[97, 97, 98, 10, 97, 97]⟩ : ByteArray))) (fun _ hk => hk.2) (.slice Ao28 y246.length co28)) (fun _ h_ => h_.1)))); (case side2 => exact (rR HO248.out).2.1); rintro e w31 ⟨v253, v257, rfl, ho0, ho1, hb⟩; refine ⟨_, rfl, ?_⟩; have n0_ := aM (rM (Kd.R_told (Kd.R_told (Kd.R_old (by (with_reducible repeat (first | apply ra | apply rn | apply rd_)); exact (rM (rF (p := ⟨gb249, 1, none⟩) (rF (p := ⟨gb249, 0, none⟩) (rT HO248.out BK249.out (by decide)) (fun _ hk => hk.2) (.string (⟨#[97, 97, 98, 10, 97, 97]⟩ : ByteArray))) (fun _ hk => hk.2) (.slice Ao28 y246.length co28)) (fun _ h_ => h_.1))) hb) (Kd.R_base ho0)) (Kd.R_base ho1)) (fun _ h_ => h_.1)); have n1_ := aM (rL (Kd.R_new' ho0 (Kd.R_lt (by (with_reducible repeat (first | apply ra | apply rn | apply rd_)); exact (rM (rF (p := ⟨gb249, 1, none⟩) (rF (p := ⟨gb249, 0, none⟩) (rT HO248.out BK249.out (by decide)) (fun _ hk => hk.2) (.string (⟨#[97, 97, 98, 10, 97, 97]⟩ : ByteArray))) (fun _ hk => hk.2) (.slice Ao28 y246.length co28)) (fun _ h_ => h_.1))))) (bZ (by repeat (first | (with_reducible first | exact HB.out | apply ea | apply en | apply ed | refine es ?_ GE249.out) | exact HB.out)))); have n2_ := aM (rL (Kd.R_new' ho1 (Kd.R_lt (by (with_reducible repeat (first | apply ra | apply rn | apply rd_)); exact (rM (rF (p := ⟨gb249, 1, none⟩) (rF (p := ⟨gb249, 0, none⟩) (rT HO248.out BK249.out (by decide)) (fun _ hk => hk.2) (.string (⟨#[97, 97, 98, 10, 97, 97]⟩ : ByteArray))) (fun _ hk => hk.2) (.slice Ao28 y246.length co28)) (fun _ h_ => h_.1))))) (bZ (by repeat (first | (with_reducible first | exact HB.out | apply ea | apply en | apply ed | refine es ?_ GE249.out) | exact HB.out)))); have n3_ := aM (bB (g := gb249) (o := .cells #[.string (⟨#[97, 97, 98, 10, 97, 97]⟩ : ByteArray), .slice Ao28 y246.length co28] 24 (0, 0)) (by (with_reducible repeat (first | apply qn | apply qd | apply qa)); refine bU (cs := #[.string (⟨#[97, 97, 98, 10, 97, 97]⟩ : ByteArray), .slice none 0 0]) ?_ 1 _ rfl; (with_reducible repeat (first | apply qn | apply qd | apply qa)); refine bU (cs := #[.string (⟨#[]⟩ : ByteArray), .slice none 0 0]) ?_ 0 _ rfl; exact qy BK249.out) hb); have n4_ := aM (bP (by repeat (first | (with_reducible first | exact HB.out | apply ea | apply en | apply ed | refine es ?_ GE249.out) | exact HB.out)) hb); clear HO248 BK249 HB; have HO248 := n0_; have HO254 := n1_; have HO258 := n2_; have BK249 := n3_; have HB := n4_; clear n0_ n1_ n2_ n3_ n4_; (try clear hb); (try clear hb2); (try clear hk); (try clear hi); (try clear ho0); (try clear ho1)) | ((with_reducible refine gate_dst (N := 2) rfl ?_); refine box_event ?hg (N := 2) ?hd (cs := #[.int .i64 0, .string (⟨#[]⟩ : ByteArray), .slice none 0 0, .string (⟨#[]⟩ : ByteArray), .slice none 0 0]) (t := 32) ?hr ?_; (case hd | hg => rfl); (case hr => first | (go_simp; done) | (go_simp; rfl)); intro gb261 hg w32 hbox hb; have n0_ := aM (Kd.R_below (ry HO248.out) hb); have n1_ := aM (Kd.R_below (ry HO254.out) hb); have n2_ := aM (Kd.R_below (ry HO258.out) hb); have n3_ := aM (bB (g := gb249) (qy BK249.out) hb); have n4_ := aM (bP (by repeat (first | (with_reducible first | exact HB.out | apply ea | apply en | apply ed | refine es ?_ GE249.out) | exact HB.out)) hb); have n5_ := aM (hbox); have n6_ := aM ((by rw [hg]; exact (bZ (by repeat (first | (with_reducible first | exact HB.out | apply ea | apply en | apply ed | refine es ?_ GE249.out) | exact HB.out))) : w.heap.size ≤ gb261)); have n7_ := n6_; have n8_ := aM ((by rw [hg]; exact Nat.ne_of_lt (blk_lt (g := gb249) (qy BK249.out)) : gb249 ≠ gb261)); have n9_ := aM ((by rw [hg]; exact Nat.ne_of_gt (blk_lt (g := gb249) (qy BK249.out)) : gb261 ≠ gb249)); clear HO248 HO254 HO258 BK249 HB; have HO248 := n0_; have HO254 := n1_; have HO258 := n2_; have BK249 := n3_; have HB := n4_; have BK261 := n5_; have GW261 := n6_; have GE261 := n7_; have NB249_261 := n8_; have NB261_249 := n9_; clear n0_ n1_ n2_ n3_ n4_ n5_ n6_ n7_ n8_ n9_; clear hb hbox hg; have hnb33 := NB261_249.out; have hnc33 := NB249_261.out; have hcz34_0 : w32.cell? ⟨gb261, 0, none⟩ = some (.int .i64 0) := (bC BK261.out 0).trans rfl; have hcz34_1 : w32.cell? ⟨gb261, 1, none⟩ = some (.string (⟨#[]⟩ : ByteArray)) := (bC BK261.out 1).trans rfl; have hcz34_2 : w32.cell? ⟨gb261, 2, none⟩ = some (.slice none 0 0) := (bC BK261.out 2).trans rfl; have hcz34_3 : w32.cell? ⟨gb261, 3, none⟩ = some (.string (⟨#[]⟩ : ByteArray)) := (bC BK261.out 3).trans rfl; have hcz34_4 : w32.cell? ⟨gb261, 4, none⟩ = some (.slice none 0 0) := (bC BK261.out 4).trans rfl; have hfz34_0 := bF BK261.out 0; have hfz34_1 := bF BK261.out 1; have hfz34_2 := bF BK261.out 2; have hfz34_3 := bF BK261.out 3; have hfz34_4 := bF BK261.out 4; obtain ⟨Ao35, co35, eo35⟩ := Kd.R_slice HO254.out; subst eo35; obtain ⟨Ao36, co36, eo36⟩ := Kd.R_slice HO258.out; subst eo36; have hcz37_0 : w32.cell? ⟨gb249, 0, none⟩ = some (.string (⟨#[97, 97, 98, 10, 97, 97]⟩ : ByteArray)) := (bC BK249.out 0).trans rfl; have hcz37_1 : w32.cell? ⟨gb249, 1, none⟩ = some (.slice Ao28 y246.length co28) := (bC BK249.out 1).trans rfl; have hfz37_0 := bF BK249.out 0; have hfz37_1 := bF BK249.out 1) | ((with_reducible refine gate_callee (f := 10) rfl ?_); refine goesL_ (some 21) rfl rfl Try.func10 (by kernel_rfl) rfl #[.agg #[.string (⟨#[97, 97, 98, 10, 97, 97]⟩ : ByteArray), .slice Ao28 y246.length co28], .int .u64 1, .agg #[.int .i64 1, .int .i64 1, .string (⟨#[98]⟩ : ByteArray), .string (⟨#[]⟩ : ByteArray), .bool false]] rfl (by (try simp only [mT, mC, mN]); first | done | rfl | (simp only [lD, lT]; rfl)) ?_; (with_reducible refine (subst_Do.calls k (⟨#[97, 97, 98, 10, 97, 97]⟩ : ByteArray) _ _ y246 1 1 1 (⟨#[98]⟩ : ByteArray) (⟨#[]⟩ : ByteArray) false t262 t263 t264 t267 t268 t271 t272 _ ?mx9 ?side1 ?side2 A2.out).mono ?_); (case mx9 => exact MaxOk.below HMX.out (by repeat (first | (with_reducible first | exact HB.out | apply ea | apply en | apply ed | refine es ?_ GE249.out | refine es ?_ GE261.out) | exact HB.out))); (case side1 => refine (rR (e := 51) (base := w.heap.size) (ok := fun k_ => ((True ∧ some k_ ≠ (.slice Ao35 t252.length co35 : Value).ownBlock) ∧ some k_ ≠ (.slice Ao36 t256.length co36 : Value).ownBlock)) (n := y246.length) (c := co28) ?_).2.2; exact (by (with_reducible repeat (first | apply ra | apply rn | apply rd_)); exact (rM (rF (p := ⟨gb261, 4, none⟩) (rF (p := ⟨gb261, 3, none⟩) (rF (p := ⟨gb261, 2, none⟩) (rF (p := ⟨gb261, 1, none⟩) (rF (p := ⟨gb261, 0, none⟩) (rT HO248.out BK261.out (by decide)) (fun _ hk => hk.2) (.int .i64 t250)) (fun _ hk => hk.2) (.string t251)) (fun _ hk => hk.2) (.slice Ao35 t252.length co35)) (fun _ hk => hk.2) (.string t255)) (fun _ hk => hk.2) (.slice Ao36 t256.length co36)) (fun _ h_ => h_.1)))); (case side2 => exact (rR HO248.out).2.1); rintro e w38 ⟨v265, v269, rfl, ho0, ho1, hb⟩; refine ⟨_, rfl, ?_⟩; have n0_ := aM (rM (Kd.R_told (Kd.R_told (Kd.R_old (by (with_reducible repeat (first | apply ra | apply rn | apply rd_)); exact (rM (rF (p := ⟨gb261, 4, none⟩) (rF (p := ⟨gb261, 3, none⟩) (rF (p := ⟨gb261, 2, none⟩) (rF (p := ⟨gb261, 1, none⟩) (rF (p := ⟨gb261, 0, none⟩) (rT HO248.out BK261.out (by decide)) (fun _ hk => hk.2) (.int .i64 t250)) (fun _ hk => hk.2) (.string t251)) (fun _ hk => hk.2) (.slice Ao35 t252.length co35)) (fun _ hk => hk.2) (.string t255)) (fun _ hk => hk.2) (.slice Ao36 t256.length co36)) (fun _ h_ => h_.1))) hb) (Kd.R_base ho0)) (Kd.R_base ho1)) (fun _ h_ => h_.1)); have n1_ := aM (rM (Kd.R_told (Kd.R_told (Kd.R_old (by (with_reducible repeat (first | apply ra | apply rn | apply rd_)); exact (rM (rF (p := ⟨gb261, 4, none⟩) (rF (p := ⟨gb261, 3, none⟩) (rF (p := ⟨gb261, 2, none⟩) (rF (p := ⟨gb261, 1, none⟩) (rF (p := ⟨gb261, 0, none⟩) (rT HO254.out BK261.out (by decide)) (fun _ hk => hk.2) (.int .i64 t250)) (fun _ hk => hk.2) (.string t251)) (fun _ hk => hk.2) (.slice Ao35 t252.length co35)) (fun _ hk => hk.2) (.string t255)) (fun _ hk => hk.2) (.slice Ao36 t256.length co36)) (fun _ h_ => h_.1))) hb) (Kd.R_base ho0)) (Kd.R_base ho1)) (fun _ h_ => h_.1)); have n2_ := aM (rM (Kd.R_told (Kd.R_told (Kd.R_old (by (with_reducible repeat (first | apply ra | apply rn | apply rd_)); exact (rM (rF (p := ⟨gb261, 4, none⟩) (rF (p := ⟨gb261, 3, none⟩) (rF (p := ⟨gb261, 2, none⟩) (rF (p := ⟨gb261, 1, none⟩) (rF (p := ⟨gb261, 0, none⟩) (rT HO258.out BK261.out (by decide)) (fun _ hk => hk.2) (.int .i64 t250)) (fun _ hk => hk.2) (.string t251)) (fun _ hk => hk.2) (.slice Ao35 t252.length co35)) (fun _ hk => hk.2) (.string t255)) (fun _ hk => hk.2) (.slice Ao36 t256.length co36)) (fun _ h_ => h_.1))) hb) (Kd.R_base ho0)) (Kd.R_base ho1)) (fun _ h_ => h_.1)); have n3_ := aM (rL (Kd.R_new' (Kd.R_new' (Kd.R_new' ho0 (Kd.R_lt (by (with_reducible repeat (first | apply ra | apply rn | apply rd_)); exact (rM (rF (p := ⟨gb261, 4, none⟩) (rF (p := ⟨gb261, 3, none⟩) (rF (p := ⟨gb261, 2, none⟩) (rF (p := ⟨gb261, 1, none⟩) (rF (p := ⟨gb261, 0, none⟩) (rT HO248.out BK261.out (by decide)) (fun _ hk => hk.2) (.int .i64 t250)) (fun _ hk => hk.2) (.string t251)) (fun _ hk => hk.2) (.slice Ao35 t252.length co35)) (fun _ hk => hk.2) (.string t255)) (fun _ hk => hk.2) (.slice Ao36 t256.length co36)) (fun _ h_ => h_.1))))) (Kd.R_lt (by (with_reducible repeat (first | apply ra | apply rn | apply rd_)); exact (rM (rF (p := ⟨gb261, 4, none⟩) (rF (p := ⟨gb261, 3, none⟩) (rF (p := ⟨gb261, 2, none⟩) (rF (p := ⟨gb261, 1, none⟩) (rF (p := ⟨gb261, 0, none⟩) (rT HO254.out BK261.out (by decide)) (fun _ hk => hk.2) (.int .i64 t250)) (fun _ hk => hk.2) (.string t251)) (fun _ hk => hk.2) (.slice Ao35 t252.length co35)) (fun _ hk => hk.2) (.string t255)) (fun _ hk => hk.2) (.slice Ao36 t256.length co36)) (fun _ h_ => h_.1))))) (Kd.R_lt (by (with_reducible repeat (first | apply ra | apply rn | apply rd_)); exact (rM (rF (p := ⟨gb261, 4, none⟩) (rF (p := ⟨gb261, 3, none⟩) (rF (p := ⟨gb261, 2, none⟩) (rF (p := ⟨gb261, 1, none⟩) (rF (p := ⟨gb261, 0, none⟩) (rT HO258.out BK261.out (by decide)) (fun _ hk => hk.2) (.int .i64 t250)) (fun _ hk => hk.2) (.string t251)) (fun _ hk => hk.2) (.slice Ao35 t252.length co35)) (fun _ hk => hk.2) (.string t255)) (fun _ hk => hk.2) (.slice Ao36 t256.length co36)) (fun _ h_ => h_.1))))) (bZ (by repeat (first | (with_reducible first | exact HB.out | apply ea | apply en | apply ed | refine es ?_ GE249.out | refine es ?_ GE261.out) | exact HB.out)))); have n4_ := aM (rL (Kd.R_new' (Kd.R_new' (Kd.R_new' ho1 (Kd.R_lt (by (with_reducible repeat (first | apply ra | apply rn | apply rd_)); exact (rM (rF (p := ⟨gb261, 4, none⟩) (rF (p := ⟨gb261, 3, none⟩) (rF (p := ⟨gb261, 2, none⟩) (rF (p := ⟨gb261, 1, none⟩) (rF (p := ⟨gb261, 0, none⟩) (rT HO248.out BK261.out (by decide)) (fun _ hk => hk.2) (.int .i64 t250)) (fun _ hk => hk.2) (.string t251)) (fun _ hk => hk.2) (.slice Ao35 t252.length co35)) (fun _ hk => hk.2) (.string t255)) (fun _ hk => hk.2) (.slice Ao36 t256.length co36)) (fun _ h_ => h_.1))))) (Kd.R_lt (by (with_reducible repeat (first | apply ra | apply rn | apply rd_)); exact (rM (rF (p := ⟨gb261, 4, none⟩) (rF (p := ⟨gb261, 3, none⟩) (rF (p := ⟨gb261, 2, none⟩) (rF (p := ⟨gb261, 1, none⟩) (rF (p := ⟨gb261, 0, none⟩) (rT HO254.out BK261.out (by decide)) (fun _ hk => hk.2) (.int .i64 t250)) (fun _ hk => hk.2) (.string t251)) (fun _ hk => hk.2) (.slice Ao35 t252.length co35)) (fun _ hk => hk.2) (.string t255)) (fun _ hk => hk.2) (.slice Ao36 t256.length co36)) (fun _ h_ => h_.1))))) (Kd.R_lt (by (with_reducible repeat (first | apply ra | apply rn | apply rd_)); exact (rM (rF (p := ⟨gb261, 4, none⟩) (rF (p := ⟨gb261, 3, none⟩) (rF (p := ⟨gb261, 2, none⟩) (rF (p := ⟨gb261, 1, none⟩) (rF (p := ⟨gb261, 0, none⟩) (rT HO258.out BK261.out (by decide)) (fun _ hk => hk.2) (.int .i64 t250)) (fun _ hk => hk.2) (.string t251)) (fun _ hk => hk.2) (.slice Ao35 t252.length co35)) (fun _ hk => hk.2) (.string t255)) (fun _ hk => hk.2) (.slice Ao36 t256.length co36)) (fun _ h_ => h_.1))))) (bZ (by repeat (first | (with_reducible first | exact HB.out | apply ea | apply en | apply ed | refine es ?_ GE249.out | refine es ?_ GE261.out) | exact HB.out)))); have n5_ := aM (bB (g := gb249) (o := .cells #[.string (⟨#[97, 97, 98, 10, 97, 97]⟩ : ByteArray), .slice Ao28 y246.length co28] 24 (0, 0)) (by (with_reducible repeat (first | apply qn | apply qd | apply qa)); refine bR ?_ NB249_261.out _; (with_reducible repeat (first | apply qn | apply qd | apply qa)); refine bR ?_ NB249_261.out _; (with_reducible repeat (first | apply qn | apply qd | apply qa)); refine bR ?_ NB249_261.out _; (with_reducible repeat (first | apply qn | apply qd | apply qa)); refine bR ?_ NB249_261.out _; (with_reducible repeat (first | apply qn | apply qd | apply qa)); refine bR ?_ NB249_261.out _; exact qy BK249.out) hb); have n6_ := aM (bB (g := gb261) (o := .cells #[.int .i64 t250, .string t251, .slice Ao35 t252.length co35, .string t255, .slice Ao36 t256.length co36] 32 (0, 0)) (by (with_reducible repeat (first | apply qn | apply qd | apply qa)); refine bU (cs := #[.int .i64 t250, .string t251, .slice Ao35 t252.length co35, .string t255, .slice none 0 0]) ?_ 4 _ rfl; (with_reducible repeat (first | apply qn | apply qd | apply qa)); refine bU (cs := #[.int .i64 t250, .string t251, .slice Ao35 t252.length co35, .string (⟨#[]⟩ : ByteArray), .slice none 0 0]) ?_ 3 _ rfl; (with_reducible repeat (first | apply qn | apply qd | apply qa)); refine bU (cs := #[.int .i64 t250, .string t251, .slice none 0 0, .string (⟨#[]⟩ : ByteArray), .slice none 0 0]) ?_ 2 _ rfl; (with_reducible repeat (first | apply qn | apply qd | apply qa)); refine bU (cs := #[.int .i64 t250, .string (⟨#[]⟩ : ByteArray), .slice none 0 0, .string (⟨#[]⟩ : ByteArray), .slice none 0 0]) ?_ 1 _ rfl; (with_reducible repeat (first | apply qn | apply qd | apply qa)); refine bU (cs := #[.int .i64 0, .string (⟨#[]⟩ : ByteArray), .slice none 0 0, .string (⟨#[]⟩ : ByteArray), .slice none 0 0]) ?_ 0 _ rfl; exact qy BK261.out) hb); have n7_ := aM (bP (by repeat (first | (with_reducible first | exact HB.out | apply ea | apply en | apply ed | refine es ?_ GE249.out | refine es ?_ GE261.out) | exact HB.out)) hb); clear HO248 HO254 HO258 BK249 BK261 HB; have HO248 := n0_; have HO254 := n1_; have HO258 := n2_; have HO266 := n3_; have HO270 := n4_; have BK249 := n5_; have BK261 := n6_; have HB := n7_; clear n0_ n1_ n2_ n3_ n4_ n5_ n6_ n7_; (try clear hb); (try clear hb2); (try clear hk); (try clear hi); (try clear ho0); (try clear ho1)) | ((with_reducible refine gate_dst (N := 5) rfl ?_); refine box_event ?hg (N := 5) ?hd (cs := #[.int .i64 0, .string (⟨#[]⟩ : ByteArray), .slice none 0 0, .string (⟨#[]⟩ : ByteArray), .slice none 0 0]) (t := 32) ?hr ?_; (case hd | hg => rfl); (case hr => first | (go_simp; done) | (go_simp; rfl)); intro gb273 hg w39 hbox hb; have n0_ := aM (Kd.R_below (ry HO248.out) hb); have n1_ := aM (Kd.R_below (ry HO254.out) hb); have n2_ := aM (Kd.R_below (ry HO258.out) hb); have n3_ := aM (Kd.R_below (ry HO266.out) hb); have n4_ := aM (Kd.R_below (ry HO270.out) hb); have n5_ := aM (bB (g := gb249) (qy BK249.out) hb); have n6_ := aM (bB (g := gb261) (qy BK261.out) hb); have n7_ := aM (bP (by repeat (first | (with_reducible first | exact HB.out | apply ea | apply en | apply ed | refine es ?_ GE249.out | refine es ?_ GE261.out) | exact HB.out)) hb); have n8_ := aM (hbox); have n9_ := aM ((by rw [hg]; exact (bZ (by repeat (first | (with_reducible first | exact HB.out | apply ea | apply en | apply ed | refine es ?_ GE249.out | refine es ?_ GE261.out) | exact HB.out))) : w.heap.size ≤ gb273)); have n10_ := n9_; have n11_ := aM ((by rw [hg]; exact Nat.ne_of_lt (blk_lt (g := gb249) (qy BK249.out)) : gb249 ≠ gb273)); have n12_ := aM ((by rw [hg]; exact Nat.ne_of_gt (blk_lt (g := gb249) (qy BK249.out)) : gb273 ≠ gb249)); have n13_ := aM ((by rw [hg]; exact Nat.ne_of_lt (blk_lt (g := gb261) (qy BK261.out)) : gb261 ≠ gb273)); have n14_ := aM ((by rw [hg]; exact Nat.ne_of_gt (blk_lt (g := gb261) (qy BK261.out)) : gb273 ≠ gb261)); clear HO248 HO254 HO258 HO266 HO270 BK249 BK261 HB; have HO248 := n0_; have HO254 := n1_; have HO258 := n2_; have HO266 := n3_; have HO270 := n4_; have BK249 := n5_; have BK261 := n6_; have HB := n7_; have BK273 := n8_; have GW273 := n9_; have GE273 := n10_; have NB249_273 := n11_; have NB273_249 := n12_; have NB261_273 := n13_; have NB273_261 := n14_; clear n0_ n1_ n2_ n3_ n4_ n5_ n6_ n7_ n8_ n9_ n10_ n11_ n12_ n13_ n14_; clear hb hbox hg; have hnb40 := NB273_249.out; have hnc40 := NB249_273.out; have hnb41 := NB273_261.out; have hnc41 := NB261_273.out; have hcz42_0 : w39.cell? ⟨gb273, 0, none⟩ = some (.int .i64 0) := (bC BK273.out 0).trans rfl; have hcz42_1 : w39.cell? ⟨gb273, 1, none⟩ = some (.string (⟨#[]⟩ : ByteArray)) := (bC BK273.out 1).trans rfl; have hcz42_2 : w39.cell? ⟨gb273, 2, none⟩ = some (.slice none 0 0) := (bC BK273.out 2).trans rfl; have hcz42_3 : w39.cell? ⟨gb273, 3, none⟩ = some (.string (⟨#[]⟩ : ByteArray)) := (bC BK273.out 3).trans rfl; have hcz42_4 : w39.cell? ⟨gb273, 4, none⟩ = some (.slice none 0 0) := (bC BK273.out 4).trans rfl; have hfz42_0 := bF BK273.out 0; have hfz42_1 := bF BK273.out 1; have hfz42_2 := bF BK273.out 2; have hfz42_3 := bF BK273.out 3; have hfz42_4 := bF BK273.out 4; obtain ⟨Ao43, co43, eo43⟩ := Kd.R_slice HO266.out; subst eo43; obtain ⟨Ao44, co44, eo44⟩ := Kd.R_slice HO270.out; subst eo44; have hcz45_0 : w39.cell? ⟨gb261, 0, none⟩ = some (.int .i64 t250) := (bC BK261.out 0).trans rfl; have hcz45_1 : w39.cell? ⟨gb261, 1, none⟩ = some (.string t251) := (bC BK261.out 1).trans rfl; have hcz45_2 : w39.cell? ⟨gb261, 2, none⟩ = some (.slice Ao35 t252.length co35) := (bC BK261.out 2).trans rfl; have hcz45_3 : w39.cell? ⟨gb261, 3, none⟩ = some (.string t255) := (bC BK261.out 3).trans rfl; have hcz45_4 : w39.cell? ⟨gb261, 4, none⟩ = some (.slice Ao36 t256.length co36) := (bC BK261.out 4).trans rfl; have hfz45_0 := bF BK261.out 0; have hfz45_1 := bF BK261.out 1; have hfz45_2 := bF BK261.out 2; have hfz45_3 := bF BK261.out 3; have hfz45_4 := bF BK261.out 4))
    go_ret
    exact ⟨by first | rfl | (simp [errW_none, errW_some] <;> rfl) | (simp [*, errW_none, errW_some] <;> rfl), by repeat (first | (with_reducible first | exact HB.out | apply ea | apply en | apply ed | refine es ?_ GE249.out | refine es ?_ GE261.out | refine es ?_ GE273.out) | exact HB.out)⟩
  ·rw [if_neg c4] at H
   have c4b0 : (t259 == 4) = false := beq_eq_false_iff_ne.mpr c4
   have c4b1 : (t259 != 4) = true := bne_iff_ne.mpr c4
   obtain rfl := Option.some.inj H
   go_enter Try.func8, Try.ntmps8
   go_wp2_with (first | ((with_reducible refine gate_dst (N := 9) rfl ?_); refine Kd.R_lit k51 _ 51 ?hg (N := 9) ?hd (xs := ([(⟨1, 6⟩ : S51)] : List (S51))) (inner := [.int .u64 1, .int .i64 6]) (ok := fun _ => True) (okp := fun _ => True) ?hr ?hp (fun _ hk => hk) trivial (Below.refl _ _) (Nat.le_refl _) (by simp) ?_; (case hd | hg => rfl); (case hr => first | (go_simp; done) | (go_simp; rfl)); (case hp => exact (Reps.c2 (show Kd.M k51 _ _ _ (⟨1, 6⟩ : S51) [.int .u64 1, .int .i64 6] from (k51_mkM _ _ _ (⟨1, 6⟩ : S51) )) (Reps.none _ _))); intro v247 w46 ho47 hb hg_ hnew_; clear hg_ hnew_; (first | rw [← Ny246.out] at ho47 | (simp only [Int.reduceToNat] at ho47; rw [← Ny246.out] at ho47)); have n0_ := aM (rL ho47 (bZ (ey HB.out))); have n1_ := aM (bP (ey HB.out) hb); clear HB; have HO248 := n0_; have HB := n1_; clear n0_ n1_; clear hb ho47; obtain ⟨Ao48, co48, eo48⟩ := Kd.R_slice HO248.out; subst eo48) | ((with_reducible refine gate_dst (N := 1) rfl ?_); refine box_event ?hg (N := 1) ?hd (cs := #[.string (⟨#[]⟩ : ByteArray), .slice none 0 0]) (t := 24) ?hr ?_; (case hd | hg => rfl); (case hr => first | (go_simp; done) | (go_simp; rfl)); intro gb249 hg w49 hbox hb; have n0_ := aM (Kd.R_below (ry HO248.out) hb); have n1_ := aM (bP (ey HB.out) hb); have n2_ := aM (hbox); have n3_ := aM ((by rw [hg]; exact (bZ (ey HB.out)) : w.heap.size ≤ gb249)); have n4_ := n3_; clear HO248 HB; have HO248 := n0_; have HB := n1_; have BK249 := n2_; have GW249 := n3_; have GE249 := n4_; clear n0_ n1_ n2_ n3_ n4_; clear hb hbox hg; have hcz50_0 : w49.cell? ⟨gb249, 0, none⟩ = some (.string (⟨#[]⟩ : ByteArray)) := (bC BK249.out 0).trans rfl; have hcz50_1 : w49.cell? ⟨gb249, 1, none⟩ = some (.slice none 0 0) := (bC BK249.out 1).trans rfl; have hfz50_0 := bF BK249.out 0; have hfz50_1 := bF BK249.out 1) | ((with_reducible refine gate_callee (f := 10) rfl ?_); refine goesL_ (some 14) rfl rfl Try.func10 (by kernel_rfl) rfl #[.agg #[.string (⟨#[97, 97, 98, 10, 97, 97]⟩ : ByteArray), .slice Ao48 y246.length co48], .int .u64 1, .agg #[.int .i64 0, .int .i64 1, .string (⟨#[97]⟩ : ByteArray), .string (⟨#[120, 121]⟩ : ByteArray), .bool true]] rfl (by (try simp only [mT, mC, mN]); first | done | rfl | (simp only [lD, lT]; rfl)) ?_; (with_reducible refine (subst_Do.calls k (⟨#[97, 97, 98, 10, 97, 97]⟩ : ByteArray) _ _ y246 1 0 1 (⟨#[97]⟩ : ByteArray) (⟨#[120, 121]⟩ : ByteArray) true t250 t251 t252 t255 t256 t259 t260 _ ?mx10 ?side1 ?side2 A1.out).mono ?_); (case mx10 => exact MaxOk.below HMX.out (by repeat (first | (with_reducible first | exact HB.out | apply ea | apply en | apply ed | refine es ?_ GE249.out) | exact HB.out))); (case side1 => refine (rR (e := 51) (base := w.heap.size) (ok := fun k_ => True) (n := y246.length) (c := co48) ?_).2.2; exact (by (with_reducible repeat (first | apply ra | apply rn | apply rd_)); exact (rM (rF (p := ⟨gb249, 1, none⟩) (rF (p := ⟨gb249, 0, none⟩) (rT HO248.out BK249.out (by decide)) (fun _ hk => hk.2) (.string (⟨#[97, 97, 98, 10, 97, 97]⟩ : ByteArray))) (fun _ hk => hk.2) (.slice Ao48 y246.length co48)) (fun _ h_ => h_.1)))); (case side2 => exact (rR HO248.out).2.1); rintro e w51 ⟨v253, v257, rfl, ho0, ho1, hb⟩; refine ⟨_, rfl, ?_⟩; have n0_ := aM (rM (Kd.R_told (Kd.R_told (Kd.R_old (by (with_reducible repeat (first | apply ra | apply rn | apply rd_)); exact (rM (rF (p := ⟨gb249, 1, none⟩) (rF (p := ⟨gb249, 0, none⟩) (rT HO248.out BK249.out (by decide)) (fun _ hk => hk.2) (.string (⟨#[97, 97, 98, 10, 97, 97]⟩ : ByteArray))) (fun _ hk => hk.2) (.slice Ao48 y246.length co48)) (fun _ h_ => h_.1))) hb) (Kd.R_base ho0)) (Kd.R_base ho1)) (fun _ h_ => h_.1)); have n1_ := aM (rL (Kd.R_new' ho0 (Kd.R_lt (by (with_reducible repeat (first | apply ra | apply rn | apply rd_)); exact (rM (rF (p := ⟨gb249, 1, none⟩) (rF (p := ⟨gb249, 0, none⟩) (rT HO248.out BK249.out (by decide)) (fun _ hk => hk.2) (.string (⟨#[97, 97, 98, 10, 97, 97]⟩ : ByteArray))) (fun _ hk => hk.2) (.slice Ao48 y246.length co48)) (fun _ h_ => h_.1))))) (bZ (by repeat (first | (with_reducible first | exact HB.out | apply ea | apply en | apply ed | refine es ?_ GE249.out) | exact HB.out)))); have n2_ := aM (rL (Kd.R_new' ho1 (Kd.R_lt (by (with_reducible repeat (first | apply ra | apply rn | apply rd_)); exact (rM (rF (p := ⟨gb249, 1, none⟩) (rF (p := ⟨gb249, 0, none⟩) (rT HO248.out BK249.out (by decide)) (fun _ hk => hk.2) (.string (⟨#[97, 97, 98, 10, 97, 97]⟩ : ByteArray))) (fun _ hk => hk.2) (.slice Ao48 y246.length co48)) (fun _ h_ => h_.1))))) (bZ (by repeat (first | (with_reducible first | exact HB.out | apply ea | apply en | apply ed | refine es ?_ GE249.out) | exact HB.out)))); have n3_ := aM (bB (g := gb249) (o := .cells #[.string (⟨#[97, 97, 98, 10, 97, 97]⟩ : ByteArray), .slice Ao48 y246.length co48] 24 (0, 0)) (by (with_reducible repeat (first | apply qn | apply qd | apply qa)); refine bU (cs := #[.string (⟨#[97, 97, 98, 10, 97, 97]⟩ : ByteArray), .slice none 0 0]) ?_ 1 _ rfl; (with_reducible repeat (first | apply qn | apply qd | apply qa)); refine bU (cs := #[.string (⟨#[]⟩ : ByteArray), .slice none 0 0]) ?_ 0 _ rfl; exact qy BK249.out) hb); have n4_ := aM (bP (by repeat (first | (with_reducible first | exact HB.out | apply ea | apply en | apply ed | refine es ?_ GE249.out) | exact HB.out)) hb); clear HO248 BK249 HB; have HO248 := n0_; have HO254 := n1_; have HO258 := n2_; have BK249 := n3_; have HB := n4_; clear n0_ n1_ n2_ n3_ n4_; (try clear hb); (try clear hb2); (try clear hk); (try clear hi); (try clear ho0); (try clear ho1)) | ((with_reducible refine gate_dst (N := 2) rfl ?_); refine box_event ?hg (N := 2) ?hd (cs := #[.int .i64 0, .string (⟨#[]⟩ : ByteArray), .slice none 0 0, .string (⟨#[]⟩ : ByteArray), .slice none 0 0]) (t := 32) ?hr ?_; (case hd | hg => rfl); (case hr => first | (go_simp; done) | (go_simp; rfl)); intro gb261 hg w52 hbox hb; have n0_ := aM (Kd.R_below (ry HO248.out) hb); have n1_ := aM (Kd.R_below (ry HO254.out) hb); have n2_ := aM (Kd.R_below (ry HO258.out) hb); have n3_ := aM (bB (g := gb249) (qy BK249.out) hb); have n4_ := aM (bP (by repeat (first | (with_reducible first | exact HB.out | apply ea | apply en | apply ed | refine es ?_ GE249.out) | exact HB.out)) hb); have n5_ := aM (hbox); have n6_ := aM ((by rw [hg]; exact (bZ (by repeat (first | (with_reducible first | exact HB.out | apply ea | apply en | apply ed | refine es ?_ GE249.out) | exact HB.out))) : w.heap.size ≤ gb261)); have n7_ := n6_; have n8_ := aM ((by rw [hg]; exact Nat.ne_of_lt (blk_lt (g := gb249) (qy BK249.out)) : gb249 ≠ gb261)); have n9_ := aM ((by rw [hg]; exact Nat.ne_of_gt (blk_lt (g := gb249) (qy BK249.out)) : gb261 ≠ gb249)); clear HO248 HO254 HO258 BK249 HB; have HO248 := n0_; have HO254 := n1_; have HO258 := n2_; have BK249 := n3_; have HB := n4_; have BK261 := n5_; have GW261 := n6_; have GE261 := n7_; have NB249_261 := n8_; have NB261_249 := n9_; clear n0_ n1_ n2_ n3_ n4_ n5_ n6_ n7_ n8_ n9_; clear hb hbox hg; have hnb53 := NB261_249.out; have hnc53 := NB249_261.out; have hcz54_0 : w52.cell? ⟨gb261, 0, none⟩ = some (.int .i64 0) := (bC BK261.out 0).trans rfl; have hcz54_1 : w52.cell? ⟨gb261, 1, none⟩ = some (.string (⟨#[]⟩ : ByteArray)) := (bC BK261.out 1).trans rfl; have hcz54_2 : w52.cell? ⟨gb261, 2, none⟩ = some (.slice none 0 0) := (bC BK261.out 2).trans rfl; have hcz54_3 : w52.cell? ⟨gb261, 3, none⟩ = some (.string (⟨#[]⟩ : ByteArray)) := (bC BK261.out 3).trans rfl; have hcz54_4 : w52.cell? ⟨gb261, 4, none⟩ = some (.slice none 0 0) := (bC BK261.out 4).trans rfl; have hfz54_0 := bF BK261.out 0; have hfz54_1 := bF BK261.out 1; have hfz54_2 := bF BK261.out 2; have hfz54_3 := bF BK261.out 3; have hfz54_4 := bF BK261.out 4; obtain ⟨Ao55, co55, eo55⟩ := Kd.R_slice HO254.out; subst eo55; obtain ⟨Ao56, co56, eo56⟩ := Kd.R_slice HO258.out; subst eo56; have hcz57_0 : w52.cell? ⟨gb249, 0, none⟩ = some (.string (⟨#[97, 97, 98, 10, 97, 97]⟩ : ByteArray)) := (bC BK249.out 0).trans rfl; have hcz57_1 : w52.cell? ⟨gb249, 1, none⟩ = some (.slice Ao48 y246.length co48) := (bC BK249.out 1).trans rfl; have hfz57_0 := bF BK249.out 0; have hfz57_1 := bF BK249.out 1) | ((with_reducible refine gate_callee (f := 10) rfl ?_); refine goesL_ (some 21) rfl rfl Try.func10 (by kernel_rfl) rfl #[.agg #[.string (⟨#[97, 97, 98, 10, 97, 97]⟩ : ByteArray), .slice Ao48 y246.length co48], .int .u64 1, .agg #[.int .i64 1, .int .i64 1, .string (⟨#[98]⟩ : ByteArray), .string (⟨#[]⟩ : ByteArray), .bool false]] rfl (by (try simp only [mT, mC, mN]); first | done | rfl | (simp only [lD, lT]; rfl)) ?_; (with_reducible refine (subst_Do.calls k (⟨#[97, 97, 98, 10, 97, 97]⟩ : ByteArray) _ _ y246 1 1 1 (⟨#[98]⟩ : ByteArray) (⟨#[]⟩ : ByteArray) false t262 t263 t264 t267 t268 t271 t272 _ ?mx11 ?side1 ?side2 A2.out).mono ?_); (case mx11 => exact MaxOk.below HMX.out (by repeat (first | (with_reducible first | exact HB.out | apply ea | apply en | apply ed | refine es ?_ GE249.out | refine es ?_ GE261.out) | exact HB.out))); (case side1 => refine (rR (e := 51) (base := w.heap.size) (ok := fun k_ => ((True ∧ some k_ ≠ (.slice Ao55 t252.length co55 : Value).ownBlock) ∧ some k_ ≠ (.slice Ao56 t256.length co56 : Value).ownBlock)) (n := y246.length) (c := co48) ?_).2.2; exact (by (with_reducible repeat (first | apply ra | apply rn | apply rd_)); exact (rM (rF (p := ⟨gb261, 4, none⟩) (rF (p := ⟨gb261, 3, none⟩) (rF (p := ⟨gb261, 2, none⟩) (rF (p := ⟨gb261, 1, none⟩) (rF (p := ⟨gb261, 0, none⟩) (rT HO248.out BK261.out (by decide)) (fun _ hk => hk.2) (.int .i64 t250)) (fun _ hk => hk.2) (.string t251)) (fun _ hk => hk.2) (.slice Ao55 t252.length co55)) (fun _ hk => hk.2) (.string t255)) (fun _ hk => hk.2) (.slice Ao56 t256.length co56)) (fun _ h_ => h_.1)))); (case side2 => exact (rR HO248.out).2.1); rintro e w58 ⟨v265, v269, rfl, ho0, ho1, hb⟩; refine ⟨_, rfl, ?_⟩; have n0_ := aM (rM (Kd.R_told (Kd.R_told (Kd.R_old (by (with_reducible repeat (first | apply ra | apply rn | apply rd_)); exact (rM (rF (p := ⟨gb261, 4, none⟩) (rF (p := ⟨gb261, 3, none⟩) (rF (p := ⟨gb261, 2, none⟩) (rF (p := ⟨gb261, 1, none⟩) (rF (p := ⟨gb261, 0, none⟩) (rT HO248.out BK261.out (by decide)) (fun _ hk => hk.2) (.int .i64 t250)) (fun _ hk => hk.2) (.string t251)) (fun _ hk => hk.2) (.slice Ao55 t252.length co55)) (fun _ hk => hk.2) (.string t255)) (fun _ hk => hk.2) (.slice Ao56 t256.length co56)) (fun _ h_ => h_.1))) hb) (Kd.R_base ho0)) (Kd.R_base ho1)) (fun _ h_ => h_.1)); have n1_ := aM (rM (Kd.R_told (Kd.R_told (Kd.R_old (by (with_reducible repeat (first | apply ra | apply rn | apply rd_)); exact (rM (rF (p := ⟨gb261, 4, none⟩) (rF (p := ⟨gb261, 3, none⟩) (rF (p := ⟨gb261, 2, none⟩) (rF (p := ⟨gb261, 1, none⟩) (rF (p := ⟨gb261, 0, none⟩) (rT HO254.out BK261.out (by decide)) (fun _ hk => hk.2) (.int .i64 t250)) (fun _ hk => hk.2) (.string t251)) (fun _ hk => hk.2) (.slice Ao55 t252.length co55)) (fun _ hk => hk.2) (.string t255)) (fun _ hk => hk.2) (.slice Ao56 t256.length co56)) (fun _ h_ => h_.1))) hb) (Kd.R_base ho0)) (Kd.R_base ho1)) (fun _ h_ => h_.1)); have n2_ := aM (rM (Kd.R_told (Kd.R_told (Kd.R_old (by (with_reducible repeat (first | apply ra | apply rn | apply rd_)); exact (rM (rF (p := ⟨gb261, 4, none⟩) (rF (p := ⟨gb261, 3, none⟩) (rF (p := ⟨gb261, 2, none⟩) (rF (p := ⟨gb261, 1, none⟩) (rF (p := ⟨gb261, 0, none⟩) (rT HO258.out BK261.out (by decide)) (fun _ hk => hk.2) (.int .i64 t250)) (fun _ hk => hk.2) (.string t251)) (fun _ hk => hk.2) (.slice Ao55 t252.length co55)) (fun _ hk => hk.2) (.string t255)) (fun _ hk => hk.2) (.slice Ao56 t256.length co56)) (fun _ h_ => h_.1))) hb) (Kd.R_base ho0)) (Kd.R_base ho1)) (fun _ h_ => h_.1)); have n3_ := aM (rL (Kd.R_new' (Kd.R_new' (Kd.R_new' ho0 (Kd.R_lt (by (with_reducible repeat (first | apply ra | apply rn | apply rd_)); exact (rM (rF (p := ⟨gb261, 4, none⟩) (rF (p := ⟨gb261, 3, none⟩) (rF (p := ⟨gb261, 2, none⟩) (rF (p := ⟨gb261, 1, none⟩) (rF (p := ⟨gb261, 0, none⟩) (rT HO248.out BK261.out (by decide)) (fun _ hk => hk.2) (.int .i64 t250)) (fun _ hk => hk.2) (.string t251)) (fun _ hk => hk.2) (.slice Ao55 t252.length co55)) (fun _ hk => hk.2) (.string t255)) (fun _ hk => hk.2) (.slice Ao56 t256.length co56)) (fun _ h_ => h_.1))))) (Kd.R_lt (by (with_reducible repeat (first | apply ra | apply rn | apply rd_)); exact (rM (rF (p := ⟨gb261, 4, none⟩) (rF (p := ⟨gb261, 3, none⟩) (rF (p := ⟨gb261, 2, none⟩) (rF (p := ⟨gb261, 1, none⟩) (rF (p := ⟨gb261, 0, none⟩) (rT HO254.out BK261.out (by decide)) (fun _ hk => hk.2) (.int .i64 t250)) (fun _ hk => hk.2) (.string t251)) (fun _ hk => hk.2) (.slice Ao55 t252.length co55)) (fun _ hk => hk.2) (.string t255)) (fun _ hk => hk.2) (.slice Ao56 t256.length co56)) (fun _ h_ => h_.1))))) (Kd.R_lt (by (with_reducible repeat (first | apply ra | apply rn | apply rd_)); exact (rM (rF (p := ⟨gb261, 4, none⟩) (rF (p := ⟨gb261, 3, none⟩) (rF (p := ⟨gb261, 2, none⟩) (rF (p := ⟨gb261, 1, none⟩) (rF (p := ⟨gb261, 0, none⟩) (rT HO258.out BK261.out (by decide)) (fun _ hk => hk.2) (.int .i64 t250)) (fun _ hk => hk.2) (.string t251)) (fun _ hk => hk.2) (.slice Ao55 t252.length co55)) (fun _ hk => hk.2) (.string t255)) (fun _ hk => hk.2) (.slice Ao56 t256.length co56)) (fun _ h_ => h_.1))))) (bZ (by repeat (first | (with_reducible first | exact HB.out | apply ea | apply en | apply ed | refine es ?_ GE249.out | refine es ?_ GE261.out) | exact HB.out)))); have n4_ := aM (rL (Kd.R_new' (Kd.R_new' (Kd.R_new' ho1 (Kd.R_lt (by (with_reducible repeat (first | apply ra | apply rn | apply rd_)); exact (rM (rF (p := ⟨gb261, 4, none⟩) (rF (p := ⟨gb261, 3, none⟩) (rF (p := ⟨gb261, 2, none⟩) (rF (p := ⟨gb261, 1, none⟩) (rF (p := ⟨gb261, 0, none⟩) (rT HO248.out BK261.out (by decide)) (fun _ hk => hk.2) (.int .i64 t250)) (fun _ hk => hk.2) (.string t251)) (fun _ hk => hk.2) (.slice Ao55 t252.length co55)) (fun _ hk => hk.2) (.string t255)) (fun _ hk => hk.2) (.slice Ao56 t256.length co56)) (fun _ h_ => h_.1))))) (Kd.R_lt (by (with_reducible repeat (first | apply ra | apply rn | apply rd_)); exact (rM (rF (p := ⟨gb261, 4, none⟩) (rF (p := ⟨gb261, 3, none⟩) (rF (p := ⟨gb261, 2, none⟩) (rF (p := ⟨gb261, 1, none⟩) (rF (p := ⟨gb261, 0, none⟩) (rT HO254.out BK261.out (by decide)) (fun _ hk => hk.2) (.int .i64 t250)) (fun _ hk => hk.2) (.string t251)) (fun _ hk => hk.2) (.slice Ao55 t252.length co55)) (fun _ hk => hk.2) (.string t255)) (fun _ hk => hk.2) (.slice Ao56 t256.length co56)) (fun _ h_ => h_.1))))) (Kd.R_lt (by (with_reducible repeat (first | apply ra | apply rn | apply rd_)); exact (rM (rF (p := ⟨gb261, 4, none⟩) (rF (p := ⟨gb261, 3, none⟩) (rF (p := ⟨gb261, 2, none⟩) (rF (p := ⟨gb261, 1, none⟩) (rF (p := ⟨gb261, 0, none⟩) (rT HO258.out BK261.out (by decide)) (fun _ hk => hk.2) (.int .i64 t250)) (fun _ hk => hk.2) (.string t251)) (fun _ hk => hk.2) (.slice Ao55 t252.length co55)) (fun _ hk => hk.2) (.string t255)) (fun _ hk => hk.2) (.slice Ao56 t256.length co56)) (fun _ h_ => h_.1))))) (bZ (by repeat (first | (with_reducible first | exact HB.out | apply ea | apply en | apply ed | refine es ?_ GE249.out | refine es ?_ GE261.out) | exact HB.out)))); have n5_ := aM (bB (g := gb249) (o := .cells #[.string (⟨#[97, 97, 98, 10, 97, 97]⟩ : ByteArray), .slice Ao48 y246.length co48] 24 (0, 0)) (by (with_reducible repeat (first | apply qn | apply qd | apply qa)); refine bR ?_ NB249_261.out _; (with_reducible repeat (first | apply qn | apply qd | apply qa)); refine bR ?_ NB249_261.out _; (with_reducible repeat (first | apply qn | apply qd | apply qa)); refine bR ?_ NB249_261.out _; (with_reducible repeat (first | apply qn | apply qd | apply qa)); refine bR ?_ NB249_261.out _; (with_reducible repeat (first | apply qn | apply qd | apply qa)); refine bR ?_ NB249_261.out _; exact qy BK249.out) hb); have n6_ := aM (bB (g := gb261) (o := .cells #[.int .i64 t250, .string t251, .slice Ao55 t252.length co55, .string t255, .slice Ao56 t256.length co56] 32 (0, 0)) (by (with_reducible repeat (first | apply qn | apply qd | apply qa)); refine bU (cs := #[.int .i64 t250, .string t251, .slice Ao55 t252.length co55, .string t255, .slice none 0 0]) ?_ 4 _ rfl; (with_reducible repeat (first | apply qn | apply qd | apply qa)); refine bU (cs := #[.int .i64 t250, .string t251, .slice Ao55 t252.length co55, .string (⟨#[]⟩ : ByteArray), .slice none 0 0]) ?_ 3 _ rfl; (with_reducible repeat (first | apply qn | apply qd | apply qa)); refine bU (cs := #[.int .i64 t250, .string t251, .slice none 0 0, .string (⟨#[]⟩ : ByteArray), .slice none 0 0]) ?_ 2 _ rfl; (with_reducible repeat (first | apply qn | apply qd | apply qa)); refine bU (cs := #[.int .i64 t250, .string (⟨#[]⟩ : ByteArray), .slice none 0 0, .string (⟨#[]⟩ : ByteArray), .slice none 0 0]) ?_ 1 _ rfl; (with_reducible repeat (first | apply qn | apply qd | apply qa)); refine bU (cs := #[.int .i64 0, .string (⟨#[]⟩ : ByteArray), .slice none 0 0, .string (⟨#[]⟩ : ByteArray), .slice none 0 0]) ?_ 0 _ rfl; exact qy BK261.out) hb); have n7_ := aM (bP (by repeat (first | (with_reducible first | exact HB.out | apply ea | apply en | apply ed | refine es ?_ GE249.out | refine es ?_ GE261.out) | exact HB.out)) hb); clear HO248 HO254 HO258 BK249 BK261 HB; have HO248 := n0_; have HO254 := n1_; have HO258 := n2_; have HO266 := n3_; have HO270 := n4_; have BK249 := n5_; have BK261 := n6_; have HB := n7_; clear n0_ n1_ n2_ n3_ n4_ n5_ n6_ n7_; (try clear hb); (try clear hb2); (try clear hk); (try clear hi); (try clear ho0); (try clear ho1)) | ((with_reducible refine gate_dst (N := 5) rfl ?_); refine box_event ?hg (N := 5) ?hd (cs := #[.int .i64 0, .string (⟨#[]⟩ : ByteArray), .slice none 0 0, .string (⟨#[]⟩ : ByteArray), .slice none 0 0]) (t := 32) ?hr ?_; (case hd | hg => rfl); (case hr => first | (go_simp; done) | (go_simp; rfl)); intro gb273 hg w59 hbox hb; have n0_ := aM (Kd.R_below (ry HO248.out) hb); have n1_ := aM (Kd.R_below (ry HO254.out) hb); have n2_ := aM (Kd.R_below (ry HO258.out) hb); have n3_ := aM (Kd.R_below (ry HO266.out) hb); have n4_ := aM (Kd.R_below (ry HO270.out) hb); have n5_ := aM (bB (g := gb249) (qy BK249.out) hb); have n6_ := aM (bB (g := gb261) (qy BK261.out) hb); have n7_ := aM (bP (by repeat (first | (with_reducible first | exact HB.out | apply ea | apply en | apply ed | refine es ?_ GE249.out | refine es ?_ GE261.out) | exact HB.out)) hb); have n8_ := aM (hbox); have n9_ := aM ((by rw [hg]; exact (bZ (by repeat (first | (with_reducible first | exact HB.out | apply ea | apply en | apply ed | refine es ?_ GE249.out | refine es ?_ GE261.out) | exact HB.out))) : w.heap.size ≤ gb273)); have n10_ := n9_; have n11_ := aM ((by rw [hg]; exact Nat.ne_of_lt (blk_lt (g := gb249) (qy BK249.out)) : gb249 ≠ gb273)); have n12_ := aM ((by rw [hg]; exact Nat.ne_of_gt (blk_lt (g := gb249) (qy BK249.out)) : gb273 ≠ gb249)); have n13_ := aM ((by rw [hg]; exact Nat.ne_of_lt (blk_lt (g := gb261) (qy BK261.out)) : gb261 ≠ gb273)); have n14_ := aM ((by rw [hg]; exact Nat.ne_of_gt (blk_lt (g := gb261) (qy BK261.out)) : gb273 ≠ gb261)); clear HO248 HO254 HO258 HO266 HO270 BK249 BK261 HB; have HO248 := n0_; have HO254 := n1_; have HO258 := n2_; have HO266 := n3_; have HO270 := n4_; have BK249 := n5_; have BK261 := n6_; have HB := n7_; have BK273 := n8_; have GW273 := n9_; have GE273 := n10_; have NB249_273 := n11_; have NB273_249 := n12_; have NB261_273 := n13_; have NB273_261 := n14_; clear n0_ n1_ n2_ n3_ n4_ n5_ n6_ n7_ n8_ n9_ n10_ n11_ n12_ n13_ n14_; clear hb hbox hg; have hnb60 := NB273_249.out; have hnc60 := NB249_273.out; have hnb61 := NB273_261.out; have hnc61 := NB261_273.out; have hcz62_0 : w59.cell? ⟨gb273, 0, none⟩ = some (.int .i64 0) := (bC BK273.out 0).trans rfl; have hcz62_1 : w59.cell? ⟨gb273, 1, none⟩ = some (.string (⟨#[]⟩ : ByteArray)) := (bC BK273.out 1).trans rfl; have hcz62_2 : w59.cell? ⟨gb273, 2, none⟩ = some (.slice none 0 0) := (bC BK273.out 2).trans rfl; have hcz62_3 : w59.cell? ⟨gb273, 3, none⟩ = some (.string (⟨#[]⟩ : ByteArray)) := (bC BK273.out 3).trans rfl; have hcz62_4 : w59.cell? ⟨gb273, 4, none⟩ = some (.slice none 0 0) := (bC BK273.out 4).trans rfl; have hfz62_0 := bF BK273.out 0; have hfz62_1 := bF BK273.out 1; have hfz62_2 := bF BK273.out 2; have hfz62_3 := bF BK273.out 3; have hfz62_4 := bF BK273.out 4; obtain ⟨Ao63, co63, eo63⟩ := Kd.R_slice HO266.out; subst eo63; obtain ⟨Ao64, co64, eo64⟩ := Kd.R_slice HO270.out; subst eo64))
   go_ret
   exact ⟨by first | rfl | (simp [errW_none, errW_some] <;> rfl) | (simp [*, errW_none, errW_some] <;> rfl), by repeat (first | (with_reducible first | exact HB.out | apply ea | apply en | apply ed | refine es ?_ GE249.out | refine es ?_ GE261.out | refine es ?_ GE273.out) | exact HB.out)⟩
 ·rw [if_neg c3] at H
  have c3b0 : (t260 == 0) = false := beq_eq_false_iff_ne.mpr c3
  have c3b1 : (t260 != 0) = true := bne_iff_ne.mpr c3
  obtain rfl := Option.some.inj H
  go_enter Try.func8, Try.ntmps8
  go_wp2_with (first | ((with_reducible refine gate_dst (N := 9) rfl ?_); refine Kd.R_lit k51 _ 51 ?hg (N := 9) ?hd (xs := ([(⟨1, 6⟩ : S51)] : List (S51))) (inner := [.int .u64 1, .int .i64 6]) (ok := fun _ => True) (okp := fun _ => True) ?hr ?hp (fun _ hk => hk) trivial (Below.refl _ _) (Nat.le_refl _) (by simp) ?_; (case hd | hg => rfl); (case hr => first | (go_simp; done) | (go_simp; rfl)); (case hp => exact (Reps.c2 (show Kd.M k51 _ _ _ (⟨1, 6⟩ : S51) [.int .u64 1, .int .i64 6] from (k51_mkM _ _ _ (⟨1, 6⟩ : S51) )) (Reps.none _ _))); intro v247 w65 ho66 hb hg_ hnew_; clear hg_ hnew_; (first | rw [← Ny246.out] at ho66 | (simp only [Int.reduceToNat] at ho66; rw [← Ny246.out] at ho66)); have n0_ := aM (rL ho66 (bZ (ey HB.out))); have n1_ := aM (bP (ey HB.out) hb); clear HB; have HO248 := n0_; have HB := n1_; clear n0_ n1_; clear hb ho66; obtain ⟨Ao67, co67, eo67⟩ := Kd.R_slice HO248.out; subst eo67) | ((with_reducible refine gate_dst (N := 1) rfl ?_); refine box_event ?hg (N := 1) ?hd (cs := #[.string (⟨#[]⟩ : ByteArray), .slice none 0 0]) (t := 24) ?hr ?_; (case hd | hg => rfl); (case hr => first | (go_simp; done) | (go_simp; rfl)); intro gb249 hg w68 hbox hb; have n0_ := aM (Kd.R_below (ry HO248.out) hb); have n1_ := aM (bP (ey HB.out) hb); have n2_ := aM (hbox); have n3_ := aM ((by rw [hg]; exact (bZ (ey HB.out)) : w.heap.size ≤ gb249)); have n4_ := n3_; clear HO248 HB; have HO248 := n0_; have HB := n1_; have BK249 := n2_; have GW249 := n3_; have GE249 := n4_; clear n0_ n1_ n2_ n3_ n4_; clear hb hbox hg; have hcz69_0 : w68.cell? ⟨gb249, 0, none⟩ = some (.string (⟨#[]⟩ : ByteArray)) := (bC BK249.out 0).trans rfl; have hcz69_1 : w68.cell? ⟨gb249, 1, none⟩ = some (.slice none 0 0) := (bC BK249.out 1).trans rfl; have hfz69_0 := bF BK249.out 0; have hfz69_1 := bF BK249.out 1) | ((with_reducible refine gate_callee (f := 10) rfl ?_); refine goesL_ (some 14) rfl rfl Try.func10 (by kernel_rfl) rfl #[.agg #[.string (⟨#[97, 97, 98, 10, 97, 97]⟩ : ByteArray), .slice Ao67 y246.length co67], .int .u64 1, .agg #[.int .i64 0, .int .i64 1, .string (⟨#[97]⟩ : ByteArray), .string (⟨#[120, 121]⟩ : ByteArray), .bool true]] rfl (by (try simp only [mT, mC, mN]); first | done | rfl | (simp only [lD, lT]; rfl)) ?_; (with_reducible refine (subst_Do.calls k (⟨#[97, 97, 98, 10, 97, 97]⟩ : ByteArray) _ _ y246 1 0 1 (⟨#[97]⟩ : ByteArray) (⟨#[120, 121]⟩ : ByteArray) true t250 t251 t252 t255 t256 t259 t260 _ ?mx12 ?side1 ?side2 A1.out).mono ?_); (case mx12 => exact MaxOk.below HMX.out (by repeat (first | (with_reducible first | exact HB.out | apply ea | apply en | apply ed | refine es ?_ GE249.out) | exact HB.out))); (case side1 => refine (rR (e := 51) (base := w.heap.size) (ok := fun k_ => True) (n := y246.length) (c := co67) ?_).2.2; exact (by (with_reducible repeat (first | apply ra | apply rn | apply rd_)); exact (rM (rF (p := ⟨gb249, 1, none⟩) (rF (p := ⟨gb249, 0, none⟩) (rT HO248.out BK249.out (by decide)) (fun _ hk => hk.2) (.string (⟨#[97, 97, 98, 10, 97, 97]⟩ : ByteArray))) (fun _ hk => hk.2) (.slice Ao67 y246.length co67)) (fun _ h_ => h_.1)))); (case side2 => exact (rR HO248.out).2.1); rintro e w70 ⟨v253, v257, rfl, ho0, ho1, hb⟩; refine ⟨_, rfl, ?_⟩; have n0_ := aM (rM (Kd.R_told (Kd.R_told (Kd.R_old (by (with_reducible repeat (first | apply ra | apply rn | apply rd_)); exact (rM (rF (p := ⟨gb249, 1, none⟩) (rF (p := ⟨gb249, 0, none⟩) (rT HO248.out BK249.out (by decide)) (fun _ hk => hk.2) (.string (⟨#[97, 97, 98, 10, 97, 97]⟩ : ByteArray))) (fun _ hk => hk.2) (.slice Ao67 y246.length co67)) (fun _ h_ => h_.1))) hb) (Kd.R_base ho0)) (Kd.R_base ho1)) (fun _ h_ => h_.1)); have n1_ := aM (rL (Kd.R_new' ho0 (Kd.R_lt (by (with_reducible repeat (first | apply ra | apply rn | apply rd_)); exact (rM (rF (p := ⟨gb249, 1, none⟩) (rF (p := ⟨gb249, 0, none⟩) (rT HO248.out BK249.out (by decide)) (fun _ hk => hk.2) (.string (⟨#[97, 97, 98, 10, 97, 97]⟩ : ByteArray))) (fun _ hk => hk.2) (.slice Ao67 y246.length co67)) (fun _ h_ => h_.1))))) (bZ (by repeat (first | (with_reducible first | exact HB.out | apply ea | apply en | apply ed | refine es ?_ GE249.out) | exact HB.out)))); have n2_ := aM (rL (Kd.R_new' ho1 (Kd.R_lt (by (with_reducible repeat (first | apply ra | apply rn | apply rd_)); exact (rM (rF (p := ⟨gb249, 1, none⟩) (rF (p := ⟨gb249, 0, none⟩) (rT HO248.out BK249.out (by decide)) (fun _ hk => hk.2) (.string (⟨#[97, 97, 98, 10, 97, 97]⟩ : ByteArray))) (fun _ hk => hk.2) (.slice Ao67 y246.length co67)) (fun _ h_ => h_.1))))) (bZ (by repeat (first | (with_reducible first | exact HB.out | apply ea | apply en | apply ed | refine es ?_ GE249.out) | exact HB.out)))); have n3_ := aM (bB (g := gb249) (o := .cells #[.string (⟨#[97, 97, 98, 10, 97, 97]⟩ : ByteArray), .slice Ao67 y246.length co67] 24 (0, 0)) (by (with_reducible repeat (first | apply qn | apply qd | apply qa)); refine bU (cs := #[.string (⟨#[97, 97, 98, 10, 97, 97]⟩ : ByteArray), .slice none 0 0]) ?_ 1 _ rfl; (with_reducible repeat (first | apply qn | apply qd | apply qa)); refine bU (cs := #[.string (⟨#[]⟩ : ByteArray), .slice none 0 0]) ?_ 0 _ rfl; exact qy BK249.out) hb); have n4_ := aM (bP (by repeat (first | (with_reducible first | exact HB.out | apply ea | apply en | apply ed | refine es ?_ GE249.out) | exact HB.out)) hb); clear HO248 BK249 HB; have HO248 := n0_; have HO254 := n1_; have HO258 := n2_; have BK249 := n3_; have HB := n4_; clear n0_ n1_ n2_ n3_ n4_; (try clear hb); (try clear hb2); (try clear hk); (try clear hi); (try clear ho0); (try clear ho1)) | ((with_reducible refine gate_dst (N := 2) rfl ?_); refine box_event ?hg (N := 2) ?hd (cs := #[.int .i64 0, .string (⟨#[]⟩ : ByteArray), .slice none 0 0, .string (⟨#[]⟩ : ByteArray), .slice none 0 0]) (t := 32) ?hr ?_; (case hd | hg => rfl); (case hr => first | (go_simp; done) | (go_simp; rfl)); intro gb261 hg w71 hbox hb; have n0_ := aM (Kd.R_below (ry HO248.out) hb); have n1_ := aM (Kd.R_below (ry HO254.out) hb); have n2_ := aM (Kd.R_below (ry HO258.out) hb); have n3_ := aM (bB (g := gb249) (qy BK249.out) hb); have n4_ := aM (bP (by repeat (first | (with_reducible first | exact HB.out | apply ea | apply en | apply ed | refine es ?_ GE249.out) | exact HB.out)) hb); have n5_ := aM (hbox); have n6_ := aM ((by rw [hg]; exact (bZ (by repeat (first | (with_reducible first | exact HB.out | apply ea | apply en | apply ed | refine es ?_ GE249.out) | exact HB.out))) : w.heap.size ≤ gb261)); have n7_ := n6_; have n8_ := aM ((by rw [hg]; exact Nat.ne_of_lt (blk_lt (g := gb249) (qy BK249.out)) : gb249 ≠ gb261)); have n9_ := aM ((by rw [hg]; exact Nat.ne_of_gt (blk_lt (g := gb249) (qy BK249.out)) : gb261 ≠ gb249)); clear HO248 HO254 HO258 BK249 HB; have HO248 := n0_; have HO254 := n1_; have HO258 := n2_; have BK249 := n3_; have HB := n4_; have BK261 := n5_; have GW261 := n6_; have GE261 := n7_; have NB249_261 := n8_; have NB261_249 := n9_; clear n0_ n1_ n2_ n3_ n4_ n5_ n6_ n7_ n8_ n9_; clear hb hbox hg; have hnb72 := NB261_249.out; have hnc72 := NB249_261.out; have hcz73_0 : w71.cell? ⟨gb261, 0, none⟩ = some (.int .i64 0) := (bC BK261.out 0).trans rfl; have hcz73_1 : w71.cell? ⟨gb261, 1, none⟩ = some (.string (⟨#[]⟩ : ByteArray)) := (bC BK261.out 1).trans rfl; have hcz73_2 : w71.cell? ⟨gb261, 2, none⟩ = some (.slice none 0 0) := (bC BK261.out 2).trans rfl; have hcz73_3 : w71.cell? ⟨gb261, 3, none⟩ = some (.string (⟨#[]⟩ : ByteArray)) := (bC BK261.out 3).trans rfl; have hcz73_4 : w71.cell? ⟨gb261, 4, none⟩ = some (.slice none 0 0) := (bC BK261.out 4).trans rfl; have hfz73_0 := bF BK261.out 0; have hfz73_1 := bF BK261.out 1; have hfz73_2 := bF BK261.out 2; have hfz73_3 := bF BK261.out 3; have hfz73_4 := bF BK261.out 4; obtain ⟨Ao74, co74, eo74⟩ := Kd.R_slice HO254.out; subst eo74; obtain ⟨Ao75, co75, eo75⟩ := Kd.R_slice HO258.out; subst eo75; have hcz76_0 : w71.cell? ⟨gb249, 0, none⟩ = some (.string (⟨#[97, 97, 98, 10, 97, 97]⟩ : ByteArray)) := (bC BK249.out 0).trans rfl; have hcz76_1 : w71.cell? ⟨gb249, 1, none⟩ = some (.slice Ao67 y246.length co67) := (bC BK249.out 1).trans rfl; have hfz76_0 := bF BK249.out 0; have hfz76_1 := bF BK249.out 1) | ((with_reducible refine gate_callee (f := 10) rfl ?_); refine goesL_ (some 21) rfl rfl Try.func10 (by kernel_rfl) rfl #[.agg #[.string (⟨#[97, 97, 98, 10, 97, 97]⟩ : ByteArray), .slice Ao67 y246.length co67], .int .u64 1, .agg #[.int .i64 1, .int .i64 1, .string (⟨#[98]⟩ : ByteArray), .string (⟨#[]⟩ : ByteArray), .bool false]] rfl (by (try simp only [mT, mC, mN]); first | done | rfl | (simp only [lD, lT]; rfl)) ?_; (with_reducible refine (subst_Do.calls k (⟨#[97, 97, 98, 10, 97, 97]⟩ : ByteArray) _ _ y246 1 1 1 (⟨#[98]⟩ : ByteArray) (⟨#[]⟩ : ByteArray) false t262 t263 t264 t267 t268 t271 t272 _ ?mx13 ?side1 ?side2 A2.out).mono ?_); (case mx13 => exact MaxOk.below HMX.out (by repeat (first | (with_reducible first | exact HB.out | apply ea | apply en | apply ed | refine es ?_ GE249.out | refine es ?_ GE261.out) | exact HB.out))); (case side1 => refine (rR (e := 51) (base := w.heap.size) (ok := fun k_ => ((True ∧ some k_ ≠ (.slice Ao74 t252.length co74 : Value).ownBlock) ∧ some k_ ≠ (.slice Ao75 t256.length co75 : Value).ownBlock)) (n := y246.length) (c := co67) ?_).2.2; exact (by (with_reducible repeat (first | apply ra | apply rn | apply rd_)); exact (rM (rF (p := ⟨gb261, 4, none⟩) (rF (p := ⟨gb261, 3, none⟩) (rF (p := ⟨gb261, 2, none⟩) (rF (p := ⟨gb261, 1, none⟩) (rF (p := ⟨gb261, 0, none⟩) (rT HO248.out BK261.out (by decide)) (fun _ hk => hk.2) (.int .i64 t250)) (fun _ hk => hk.2) (.string t251)) (fun _ hk => hk.2) (.slice Ao74 t252.length co74)) (fun _ hk => hk.2) (.string t255)) (fun _ hk => hk.2) (.slice Ao75 t256.length co75)) (fun _ h_ => h_.1)))); (case side2 => exact (rR HO248.out).2.1); rintro e w77 ⟨v265, v269, rfl, ho0, ho1, hb⟩; refine ⟨_, rfl, ?_⟩; have n0_ := aM (rM (Kd.R_told (Kd.R_told (Kd.R_old (by (with_reducible repeat (first | apply ra | apply rn | apply rd_)); exact (rM (rF (p := ⟨gb261, 4, none⟩) (rF (p := ⟨gb261, 3, none⟩) (rF (p := ⟨gb261, 2, none⟩) (rF (p := ⟨gb261, 1, none⟩) (rF (p := ⟨gb261, 0, none⟩) (rT HO248.out BK261.out (by decide)) (fun _ hk => hk.2) (.int .i64 t250)) (fun _ hk => hk.2) (.string t251)) (fun _ hk => hk.2) (.slice Ao74 t252.length co74)) (fun _ hk => hk.2) (.string t255)) (fun _ hk => hk.2) (.slice Ao75 t256.length co75)) (fun _ h_ => h_.1))) hb) (Kd.R_base ho0)) (Kd.R_base ho1)) (fun _ h_ => h_.1)); have n1_ := aM (rM (Kd.R_told (Kd.R_told (Kd.R_old (by (with_reducible repeat (first | apply ra | apply rn | apply rd_)); exact (rM (rF (p := ⟨gb261, 4, none⟩) (rF (p := ⟨gb261, 3, none⟩) (rF (p := ⟨gb261, 2, none⟩) (rF (p := ⟨gb261, 1, none⟩) (rF (p := ⟨gb261, 0, none⟩) (rT HO254.out BK261.out (by decide)) (fun _ hk => hk.2) (.int .i64 t250)) (fun _ hk => hk.2) (.string t251)) (fun _ hk => hk.2) (.slice Ao74 t252.length co74)) (fun _ hk => hk.2) (.string t255)) (fun _ hk => hk.2) (.slice Ao75 t256.length co75)) (fun _ h_ => h_.1))) hb) (Kd.R_base ho0)) (Kd.R_base ho1)) (fun _ h_ => h_.1)); have n2_ := aM (rM (Kd.R_told (Kd.R_told (Kd.R_old (by (with_reducible repeat (first | apply ra | apply rn | apply rd_)); exact (rM (rF (p := ⟨gb261, 4, none⟩) (rF (p := ⟨gb261, 3, none⟩) (rF (p := ⟨gb261, 2, none⟩) (rF (p := ⟨gb261, 1, none⟩) (rF (p := ⟨gb261, 0, none⟩) (rT HO258.out BK261.out (by decide)) (fun _ hk => hk.2) (.int .i64 t250)) (fun _ hk => hk.2) (.string t251)) (fun _ hk => hk.2) (.slice Ao74 t252.length co74)) (fun _ hk => hk.2) (.string t255)) (fun _ hk => hk.2) (.slice Ao75 t256.length co75)) (fun _ h_ => h_.1))) hb) (Kd.R_base ho0)) (Kd.R_base ho1)) (fun _ h_ => h_.1)); have n3_ := aM (rL (Kd.R_new' (Kd.R_new' (Kd.R_new' ho0 (Kd.R_lt (by (with_reducible repeat (first | apply ra | apply rn | apply rd_)); exact (rM (rF (p := ⟨gb261, 4, none⟩) (rF (p := ⟨gb261, 3, none⟩) (rF (p := ⟨gb261, 2, none⟩) (rF (p := ⟨gb261, 1, none⟩) (rF (p := ⟨gb261, 0, none⟩) (rT HO248.out BK261.out (by decide)) (fun _ hk => hk.2) (.int .i64 t250)) (fun _ hk => hk.2) (.string t251)) (fun _ hk => hk.2) (.slice Ao74 t252.length co74)) (fun _ hk => hk.2) (.string t255)) (fun _ hk => hk.2) (.slice Ao75 t256.length co75)) (fun _ h_ => h_.1))))) (Kd.R_lt (by (with_reducible repeat (first | apply ra | apply rn | apply rd_)); exact (rM (rF (p := ⟨gb261, 4, none⟩) (rF (p := ⟨gb261, 3, none⟩) (rF (p := ⟨gb261, 2, none⟩) (rF (p := ⟨gb261, 1, none⟩) (rF (p := ⟨gb261, 0, none⟩) (rT HO254.out BK261.out (by decide)) (fun _ hk => hk.2) (.int .i64 t250)) (fun _ hk => hk.2) (.string t251)) (fun _ hk => hk.2) (.slice Ao74 t252.length co74)) (fun _ hk => hk.2) (.string t255)) (fun _ hk => hk.2) (.slice Ao75 t256.length co75)) (fun _ h_ => h_.1))))) (Kd.R_lt (by (with_reducible repeat (first | apply ra | apply rn | apply rd_)); exact (rM (rF (p := ⟨gb261, 4, none⟩) (rF (p := ⟨gb261, 3, none⟩) (rF (p := ⟨gb261, 2, none⟩) (rF (p := ⟨gb261, 1, none⟩) (rF (p := ⟨gb261, 0, none⟩) (rT HO258.out BK261.out (by decide)) (fun _ hk => hk.2) (.int .i64 t250)) (fun _ hk => hk.2) (.string t251)) (fun _ hk => hk.2) (.slice Ao74 t252.length co74)) (fun _ hk => hk.2) (.string t255)) (fun _ hk => hk.2) (.slice Ao75 t256.length co75)) (fun _ h_ => h_.1))))) (bZ (by repeat (first | (with_reducible first | exact HB.out | apply ea | apply en | apply ed | refine es ?_ GE249.out | refine es ?_ GE261.out) | exact HB.out)))); have n4_ := aM (rL (Kd.R_new' (Kd.R_new' (Kd.R_new' ho1 (Kd.R_lt (by (with_reducible repeat (first | apply ra | apply rn | apply rd_)); exact (rM (rF (p := ⟨gb261, 4, none⟩) (rF (p := ⟨gb261, 3, none⟩) (rF (p := ⟨gb261, 2, none⟩) (rF (p := ⟨gb261, 1, none⟩) (rF (p := ⟨gb261, 0, none⟩) (rT HO248.out BK261.out (by decide)) (fun _ hk => hk.2) (.int .i64 t250)) (fun _ hk => hk.2) (.string t251)) (fun _ hk => hk.2) (.slice Ao74 t252.length co74)) (fun _ hk => hk.2) (.string t255)) (fun _ hk => hk.2) (.slice Ao75 t256.length co75)) (fun _ h_ => h_.1))))) (Kd.R_lt (by (with_reducible repeat (first | apply ra | apply rn | apply rd_)); exact (rM (rF (p := ⟨gb261, 4, none⟩) (rF (p := ⟨gb261, 3, none⟩) (rF (p := ⟨gb261, 2, none⟩) (rF (p := ⟨gb261, 1, none⟩) (rF (p := ⟨gb261, 0, none⟩) (rT HO254.out BK261.out (by decide)) (fun _ hk => hk.2) (.int .i64 t250)) (fun _ hk => hk.2) (.string t251)) (fun _ hk => hk.2) (.slice Ao74 t252.length co74)) (fun _ hk => hk.2) (.string t255)) (fun _ hk => hk.2) (.slice Ao75 t256.length co75)) (fun _ h_ => h_.1))))) (Kd.R_lt (by (with_reducible repeat (first | apply ra | apply rn | apply rd_)); exact (rM (rF (p := ⟨gb261, 4, none⟩) (rF (p := ⟨gb261, 3, none⟩) (rF (p := ⟨gb261, 2, none⟩) (rF (p := ⟨gb261, 1, none⟩) (rF (p := ⟨gb261, 0, none⟩) (rT HO258.out BK261.out (by decide)) (fun _ hk => hk.2) (.int .i64 t250)) (fun _ hk => hk.2) (.string t251)) (fun _ hk => hk.2) (.slice Ao74 t252.length co74)) (fun _ hk => hk.2) (.string t255)) (fun _ hk => hk.2) (.slice Ao75 t256.length co75)) (fun _ h_ => h_.1))))) (bZ (by repeat (first | (with_reducible first | exact HB.out | apply ea | apply en | apply ed | refine es ?_ GE249.out | refine es ?_ GE261.out) | exact HB.out)))); have n5_ := aM (bB (g := gb249) (o := .cells #[.string (⟨#[97, 97, 98, 10, 97, 97]⟩ : ByteArray), .slice Ao67 y246.length co67] 24 (0, 0)) (by (with_reducible repeat (first | apply qn | apply qd | apply qa)); refine bR ?_ NB249_261.out _; (with_reducible repeat (first | apply qn | apply qd | apply qa)); refine bR ?_ NB249_261.out _; (with_reducible repeat (first | apply qn | apply qd | apply qa)); refine bR ?_ NB249_261.out _; (with_reducible repeat (first | apply qn | apply qd | apply qa)); refine bR ?_ NB249_261.out _; (with_reducible repeat (first | apply qn | apply qd | apply qa)); refine bR ?_ NB249_261.out _; exact qy BK249.out) hb); have n6_ := aM (bB (g := gb261) (o := .cells #[.int .i64 t250, .string t251, .slice Ao74 t252.length co74, .string t255, .slice Ao75 t256.length co75] 32 (0, 0)) (by (with_reducible repeat (first | apply qn | apply qd | apply qa)); refine bU (cs := #[.int .i64 t250, .string t251, .slice Ao74 t252.length co74, .string t255, .slice none 0 0]) ?_ 4 _ rfl; (with_reducible repeat (first | apply qn | apply qd | apply qa)); refine bU (cs := #[.int .i64 t250, .string t251, .slice Ao74 t252.length co74, .string (⟨#[]⟩ : ByteArray), .slice none 0 0]) ?_ 3 _ rfl; (with_reducible repeat (first | apply qn | apply qd | apply qa)); refine bU (cs := #[.int .i64 t250, .string t251, .slice none 0 0, .string (⟨#[]⟩ : ByteArray), .slice none 0 0]) ?_ 2 _ rfl; (with_reducible repeat (first | apply qn | apply qd | apply qa)); refine bU (cs := #[.int .i64 t250, .string (⟨#[]⟩ : ByteArray), .slice none 0 0, .string (⟨#[]⟩ : ByteArray), .slice none 0 0]) ?_ 1 _ rfl; (with_reducible repeat (first | apply qn | apply qd | apply qa)); refine bU (cs := #[.int .i64 0, .string (⟨#[]⟩ : ByteArray), .slice none 0 0, .string (⟨#[]⟩ : ByteArray), .slice none 0 0]) ?_ 0 _ rfl; exact qy BK261.out) hb); have n7_ := aM (bP (by repeat (first | (with_reducible first | exact HB.out | apply ea | apply en | apply ed | refine es ?_ GE249.out | refine es ?_ GE261.out) | exact HB.out)) hb); clear HO248 HO254 HO258 BK249 BK261 HB; have HO248 := n0_; have HO254 := n1_; have HO258 := n2_; have HO266 := n3_; have HO270 := n4_; have BK249 := n5_; have BK261 := n6_; have HB := n7_; clear n0_ n1_ n2_ n3_ n4_ n5_ n6_ n7_; (try clear hb); (try clear hb2); (try clear hk); (try clear hi); (try clear ho0); (try clear ho1)) | ((with_reducible refine gate_dst (N := 5) rfl ?_); refine box_event ?hg (N := 5) ?hd (cs := #[.int .i64 0, .string (⟨#[]⟩ : ByteArray), .slice none 0 0, .string (⟨#[]⟩ : ByteArray), .slice none 0 0]) (t := 32) ?hr ?_; (case hd | hg => rfl); (case hr => first | (go_simp; done) | (go_simp; rfl)); intro gb273 hg w78 hbox hb; have n0_ := aM (Kd.R_below (ry HO248.out) hb); have n1_ := aM (Kd.R_below (ry HO254.out) hb); have n2_ := aM (Kd.R_below (ry HO258.out) hb); have n3_ := aM (Kd.R_below (ry HO266.out) hb); have n4_ := aM (Kd.R_below (ry HO270.out) hb); have n5_ := aM (bB (g := gb249) (qy BK249.out) hb); have n6_ := aM (bB (g := gb261) (qy BK261.out) hb); have n7_ := aM (bP (by repeat (first | (with_reducible first | exact HB.out | apply ea | apply en | apply ed | refine es ?_ GE249.out | refine es ?_ GE261.out) | exact HB.out)) hb); have n8_ := aM (hbox); have n9_ := aM ((by rw [hg]; exact (bZ (by repeat (first | (with_reducible first | exact HB.out | apply ea | apply en | apply ed | refine es ?_ GE249.out | refine es ?_ GE261.out) | exact HB.out))) : w.heap.size ≤ gb273)); have n10_ := n9_; have n11_ := aM ((by rw [hg]; exact Nat.ne_of_lt (blk_lt (g := gb249) (qy BK249.out)) : gb249 ≠ gb273)); have n12_ := aM ((by rw [hg]; exact Nat.ne_of_gt (blk_lt (g := gb249) (qy BK249.out)) : gb273 ≠ gb249)); have n13_ := aM ((by rw [hg]; exact Nat.ne_of_lt (blk_lt (g := gb261) (qy BK261.out)) : gb261 ≠ gb273)); have n14_ := aM ((by rw [hg]; exact Nat.ne_of_gt (blk_lt (g := gb261) (qy BK261.out)) : gb273 ≠ gb261)); clear HO248 HO254 HO258 HO266 HO270 BK249 BK261 HB; have HO248 := n0_; have HO254 := n1_; have HO258 := n2_; have HO266 := n3_; have HO270 := n4_; have BK249 := n5_; have BK261 := n6_; have HB := n7_; have BK273 := n8_; have GW273 := n9_; have GE273 := n10_; have NB249_273 := n11_; have NB273_249 := n12_; have NB261_273 := n13_; have NB273_261 := n14_; clear n0_ n1_ n2_ n3_ n4_ n5_ n6_ n7_ n8_ n9_ n10_ n11_ n12_ n13_ n14_; clear hb hbox hg; have hnb79 := NB273_249.out; have hnc79 := NB249_273.out; have hnb80 := NB273_261.out; have hnc80 := NB261_273.out; have hcz81_0 : w78.cell? ⟨gb273, 0, none⟩ = some (.int .i64 0) := (bC BK273.out 0).trans rfl; have hcz81_1 : w78.cell? ⟨gb273, 1, none⟩ = some (.string (⟨#[]⟩ : ByteArray)) := (bC BK273.out 1).trans rfl; have hcz81_2 : w78.cell? ⟨gb273, 2, none⟩ = some (.slice none 0 0) := (bC BK273.out 2).trans rfl; have hcz81_3 : w78.cell? ⟨gb273, 3, none⟩ = some (.string (⟨#[]⟩ : ByteArray)) := (bC BK273.out 3).trans rfl; have hcz81_4 : w78.cell? ⟨gb273, 4, none⟩ = some (.slice none 0 0) := (bC BK273.out 4).trans rfl; have hfz81_0 := bF BK273.out 0; have hfz81_1 := bF BK273.out 1; have hfz81_2 := bF BK273.out 2; have hfz81_3 := bF BK273.out 3; have hfz81_4 := bF BK273.out 4; obtain ⟨Ao82, co82, eo82⟩ := Kd.R_slice HO266.out; subst eo82; obtain ⟨Ao83, co83, eo83⟩ := Kd.R_slice HO270.out; subst eo83))
  go_ret
  exact ⟨by first | rfl | (simp [errW_none, errW_some] <;> rfl) | (simp [*, errW_none, errW_some] <;> rfl), by repeat (first | (with_reducible first | exact HB.out | apply ea | apply en | apply ed | refine es ?_ GE249.out | refine es ?_ GE261.out | refine es ?_ GE273.out) | exact HB.out)⟩
end Go.Proofs.Ytnbdldpjiofafaa.PB
end

section
namespace Go.Proofs.Ytnbdldpjiofafaa.PB
open Go.RowKit Go.Proofs.YtnbdldpjiofafaaW.PrintWords Go.Proofs.YtnbdldpjiofafaaW.PrintLast Go.Proofs.YtnbdldpjiofafaaW.PrintMore
attribute [local go_sem] max2_int min2_int max_two min_two max_three min_three max_four min_four   
set_option linter.unusedVariables false
set_option linter.unusedSimpArgs false
def bureaulaw15_SubstNone.j0 : Nat → Int → Bool → ByteArray → List (S51) → Int → Int → ByteArray → ByteArray → Bool → Option (Bool)
 | 0, _, _, _, _, _, _, _, _, _ => none
 | k + 1, x1, x46, x572000, x572001, x573000, x573001, x573002, x573003, x573004 => if x46 = true then (some true) else ((subst_Do.f k x572000 x572001 x1 x573000 x573001 x573002 x573003 true).bind fun bt576 => (if bt576.2.2.2.2.2.2 = 0 then ((bureauref07_Apply.f k x572000 x572001 bt576.1 bt576.2.1 bt576.2.2.1 bt576.2.2.2.1 bt576.2.2.2.2.1).bind fun bt588 => ((subst_Do.f k bt588.1 bt588.2.1 x1 x573000 x573001 x573002 x573003 true).bind fun bt594 => (if bt588.2.2 = 0 then (some (bt594.2.2.2.2.2.2 == 6)) else (some false)))) else (some true)))
def bureaulaw15_SubstNone.f (k : Nat) (a0_0 : ByteArray) (l0_1 : List (S51)) (a1 : Int) (a2_0 : Int) (a2_1 : Int) (a2_2 : ByteArray) (a2_3 : ByteArray) (a2_4 : Bool) : Option (Bool) := (bureaulaw15_alive.f k).bind fun t573 => (if t573 = true then ((bureaulaw15_fits.f a0_0 l0_1 a2_0 a2_1 a2_2 a2_3 a2_4).bind fun t574 => (if t574 = true then (if (a2_3.size : Int) = 0 then (bureaulaw15_SubstNone.j0 k a1 true a0_0 l0_1 a2_0 a2_1 a2_2 a2_3 a2_4) else (if (a2_3.size : Int) > 64 then (bureaulaw15_SubstNone.j0 k a1 true a0_0 l0_1 a2_0 a2_1 a2_2 a2_3 a2_4) else (if (a2_2.size : Int) > 64 then (bureaulaw15_SubstNone.j0 k a1 true a0_0 l0_1 a2_0 a2_1 a2_2 a2_3 a2_4) else (if a2_2.size + 1 ≤ 9223372036854775807 then ((bureaulaw15_common.f k a2_3 (a2_2 ++ (⟨#[10]⟩ : ByteArray))).bind fun t575 => (bureaulaw15_SubstNone.j0 k a1 t575 a0_0 l0_1 a2_0 a2_1 a2_2 a2_3 a2_4)) else (none))))) else (bureaulaw15_SubstNone.j0 k a1 true a0_0 l0_1 a2_0 a2_1 a2_2 a2_3 a2_4))) else (some false))
set_option maxHeartbeats 8000000 in
set_option maxRecDepth 100000 in
theorem bureaulaw15_SubstNone.calls (k : Nat) (a0_0 : ByteArray) (A0_1 : Option Addr) (c0_1 : Nat) (l0_1 : List (S51)) (a1 : Int) (a2_0 : Int) (a2_1 : Int) (a2_2 : ByteArray) (a2_3 : ByteArray) (a2_4 : Bool) (r : Bool) (w : World) (hMX : MaxOk w) (hr0_1 : Kd.C k51 w A0_1 l0_1.length l0_1) (hc0_1 : l0_1.length ≤ c0_1) (h : bureaulaw15_SubstNone.f k a0_0 l0_1 a1 a2_0 a2_1 a2_2 a2_3 a2_4 = some r) :
  Calls Try.prog 5 #[.agg #[.string a0_0, .slice A0_1 l0_1.length c0_1], .int .u64 a1, .agg #[.int .i64 a2_0, .int .i64 a2_1, .string a2_2, .string a2_3, .bool a2_4]] w fun e w' => e = .returned (.bool r) ∧ Below w.heap.size w w' := by
 have HMX := aM hMX
 clear hMX
 have hu24 := Try.underlying24
 have hu28 := Try.underlying28
 have hu32 := Try.underlying32
 have HR0_1 := aM hr0_1
 have HC0_1 := aM hc0_1
 clear hr0_1 hc0_1
 have HB := aM (Below.refl w.heap.size w)
 have H : ((bureaulaw15_alive.f k).bind fun t573 => (if t573 = true then ((bureaulaw15_fits.f a0_0 l0_1 a2_0 a2_1 a2_2 a2_3 a2_4).bind fun t574 => (if t574 = true then (if (a2_3.size : Int) = 0 then (bureaulaw15_SubstNone.j0 k a1 true a0_0 l0_1 a2_0 a2_1 a2_2 a2_3 a2_4) else (if (a2_3.size : Int) > 64 then (bureaulaw15_SubstNone.j0 k a1 true a0_0 l0_1 a2_0 a2_1 a2_2 a2_3 a2_4) else (if (a2_2.size : Int) > 64 then (bureaulaw15_SubstNone.j0 k a1 true a0_0 l0_1 a2_0 a2_1 a2_2 a2_3 a2_4) else (if a2_2.size + 1 ≤ 9223372036854775807 then ((bureaulaw15_common.f k a2_3 (a2_2 ++ (⟨#[10]⟩ : ByteArray))).bind fun t575 => (bureaulaw15_SubstNone.j0 k a1 t575 a0_0 l0_1 a2_0 a2_1 a2_2 a2_3 a2_4)) else (none))))) else (bureaulaw15_SubstNone.j0 k a1 true a0_0 l0_1 a2_0 a2_1 a2_2 a2_3 a2_4))) else (some false))) = some r := h
 clear h
 replace H := Option.bind_eq_some_iff.mp H
 obtain ⟨t573, A40, H⟩ := H
 replace H : (if t573 = true then ((bureaulaw15_fits.f a0_0 l0_1 a2_0 a2_1 a2_2 a2_3 a2_4).bind fun t574 => (if t574 = true then (if (a2_3.size : Int) = 0 then (bureaulaw15_SubstNone.j0 k a1 true a0_0 l0_1 a2_0 a2_1 a2_2 a2_3 a2_4) else (if (a2_3.size : Int) > 64 then (bureaulaw15_SubstNone.j0 k a1 true a0_0 l0_1 a2_0 a2_1 a2_2 a2_3 a2_4) else (if (a2_2.size : Int) > 64 then (bureaulaw15_SubstNone.j0 k a1 true a0_0 l0_1 a2_0 a2_1 a2_2 a2_3 a2_4) else (if a2_2.size + 1 ≤ 9223372036854775807 then ((bureaulaw15_common.f k a2_3 (a2_2 ++ (⟨#[10]⟩ : ByteArray))).bind fun t575 => (bureaulaw15_SubstNone.j0 k a1 t575 a0_0 l0_1 a2_0 a2_1 a2_2 a2_3 a2_4)) else (none))))) else (bureaulaw15_SubstNone.j0 k a1 true a0_0 l0_1 a2_0 a2_1 a2_2 a2_3 a2_4))) else (some false)) = some r := H
 have A4 := aM A40
 clear A40
 by_cases c5 : t573 = true
 ·subst c5
  have H1 : ((bureaulaw15_fits.f a0_0 l0_1 a2_0 a2_1 a2_2 a2_3 a2_4).bind fun t574 => (if t574 = true then (if (a2_3.size : Int) = 0 then (bureaulaw15_SubstNone.j0 k a1 true a0_0 l0_1 a2_0 a2_1 a2_2 a2_3 a2_4) else (if (a2_3.size : Int) > 64 then (bureaulaw15_SubstNone.j0 k a1 true a0_0 l0_1 a2_0 a2_1 a2_2 a2_3 a2_4) else (if (a2_2.size : Int) > 64 then (bureaulaw15_SubstNone.j0 k a1 true a0_0 l0_1 a2_0 a2_1 a2_2 a2_3 a2_4) else (if a2_2.size + 1 ≤ 9223372036854775807 then ((bureaulaw15_common.f k a2_3 (a2_2 ++ (⟨#[10]⟩ : ByteArray))).bind fun t575 => (bureaulaw15_SubstNone.j0 k a1 t575 a0_0 l0_1 a2_0 a2_1 a2_2 a2_3 a2_4)) else (none))))) else (bureaulaw15_SubstNone.j0 k a1 true a0_0 l0_1 a2_0 a2_1 a2_2 a2_3 a2_4))) = some r := by rw [if_pos rfl] at H; exact H
  clear H
  have H := H1
  clear H1
  have HC6 := aM H
  clear H
  go_enter Try.func5, Try.ntmps5
  go_upto_region 3 with (first | ((with_reducible refine gate_dst (N := 3) rfl ?_); (try (refine gate_guard (by rfl) ?_; dsimp only)); refine box_event ?hg (N := 3) ?hd (cs := #[.string a0_0, .slice A0_1 l0_1.length c0_1]) (t := 24) ?hr ?_; (case hd | hg => rfl); (case hr => first | (go_simp; done) | (go_simp; rfl)); intro gb571 hg w7 hbox hb; have n0_ := aM (bP (ey HB.out) hb); have n1_ := aM (hbox); have n2_ := aM ((by rw [hg]; exact (bZ (ey HB.out)) : w.heap.size ≤ gb571)); have n3_ := n2_; clear HB; have HB := n0_; have BK571 := n1_; have GW571 := n2_; have GE571 := n3_; clear n0_ n1_ n2_ n3_; clear hb hbox hg) | ((with_reducible refine gate_dst (N := 5) rfl ?_); (try (refine gate_guard (by rfl) ?_; dsimp only)); refine box_event ?hg (N := 5) ?hd (cs := #[.int .i64 a2_0, .int .i64 a2_1, .string a2_2, .string a2_3, .bool a2_4]) (t := 28) ?hr ?_; (case hd | hg => rfl); (case hr => first | (go_simp; done) | (go_simp; rfl)); intro gb572 hg w8 hbox hb; have n0_ := aM (bB (g := gb571) (qy BK571.out) hb); have n1_ := aM (bP (by repeat (first | (with_reducible first | exact HB.out | apply ea | apply en | apply ed | refine es ?_ GE571.out) | exact HB.out)) hb); have n2_ := aM (hbox); have n3_ := aM ((by rw [hg]; exact (bZ (by repeat (first | (with_reducible first | exact HB.out | apply ea | apply en | apply ed | refine es ?_ GE571.out) | exact HB.out))) : w.heap.size ≤ gb572)); have n4_ := n3_; have n5_ := aM ((by rw [hg]; exact Nat.ne_of_lt (blk_lt (g := gb571) (qy BK571.out)) : gb571 ≠ gb572)); have n6_ := aM ((by rw [hg]; exact Nat.ne_of_gt (blk_lt (g := gb571) (qy BK571.out)) : gb572 ≠ gb571)); clear BK571 HB; have BK571 := n0_; have HB := n1_; have BK572 := n2_; have GW572 := n3_; have GE572 := n4_; have NB571_572 := n5_; have NB572_571 := n6_; clear n0_ n1_ n2_ n3_ n4_ n5_ n6_; clear hb hbox hg) | ((with_reducible refine gate_callee (f := 8) rfl ?_); refine goesL_ (some 15) rfl rfl Try.func8 (by kernel_rfl) rfl #[] rfl (by (try simp only [mT, mC, mN]); first | done | rfl | (simp only [lD, lT]; rfl)) ?_; (with_reducible refine (bureaulaw15_alive.calls k  true _ ?mx34 A4.out).mono ?_); (case mx34 => exact MaxOk.below HMX.out (by repeat (first | (with_reducible first | exact HB.out | apply ea | apply en | apply ed | refine es ?_ GE571.out | refine es ?_ GE572.out) | exact HB.out))); rintro e w9 ⟨rfl, hb⟩; refine ⟨_, rfl, ?_⟩; have n0_ := aM (bB (g := gb571) (qy BK571.out) hb); have n1_ := aM (bB (g := gb572) (qy BK572.out) hb); have n2_ := aM (bP (by repeat (first | (with_reducible first | exact HB.out | apply ea | apply en | apply ed | refine es ?_ GE571.out | refine es ?_ GE572.out) | exact HB.out)) hb); clear BK571 BK572 HB; have BK571 := n0_; have BK572 := n1_; have HB := n2_; clear n0_ n1_ n2_; (try clear hb); (try clear hb2); (try clear hk); (try clear hi)))
  (try simp only [Act.put, sA, sZ, sS])
  go_cut [46] (fun v46 wc => ∃ (kq : Nat) (x46_5 : Bool), v46 = .bool x46_5 ∧ Aside0 (bureaulaw15_SubstNone.j0 kq a1 x46_5 a0_0 l0_1 a2_0 a2_1 a2_2 a2_3 a2_4 = some r) ∧ Aside0 (kq ≤ k) ∧ Aside0 (wc.heap[gb571]? = some (.cells #[.string a0_0, (.slice A0_1 l0_1.length c0_1)] 24 (0, 0))) ∧ Aside0 (wc.heap[gb572]? = some (.cells #[.int .i64 a2_0, .int .i64 a2_1, .string a2_2, .string a2_3, .bool a2_4] 28 (0, 0))) ∧ Aside0 (Below w.heap.size w wc))
  case first =>
   have H := HC6.out
   clear HC6
   replace H := Option.bind_eq_some_iff.mp H
   obtain ⟨t574, A100, H⟩ := H
   replace H : (if t574 = true then (if (a2_3.size : Int) = 0 then (bureaulaw15_SubstNone.j0 k a1 true a0_0 l0_1 a2_0 a2_1 a2_2 a2_3 a2_4) else (if (a2_3.size : Int) > 64 then (bureaulaw15_SubstNone.j0 k a1 true a0_0 l0_1 a2_0 a2_1 a2_2 a2_3 a2_4) else (if (a2_2.size : Int) > 64 then (bureaulaw15_SubstNone.j0 k a1 true a0_0 l0_1 a2_0 a2_1 a2_2 a2_3 a2_4) else (if a2_2.size + 1 ≤ 9223372036854775807 then ((bureaulaw15_common.f k a2_3 (a2_2 ++ (⟨#[10]⟩ : ByteArray))).bind fun t575 => (bureaulaw15_SubstNone.j0 k a1 t575 a0_0 l0_1 a2_0 a2_1 a2_2 a2_3 a2_4)) else (none))))) else (bureaulaw15_SubstNone.j0 k a1 true a0_0 l0_1 a2_0 a2_1 a2_2 a2_3 a2_4)) = some r := H
   have A10 := aM A100
   clear A100
   by_cases c11 : t574 = true
   ·subst c11
    have H1 : (if (a2_3.size : Int) = 0 then (bureaulaw15_SubstNone.j0 k a1 true a0_0 l0_1 a2_0 a2_1 a2_2 a2_3 a2_4) else (if (a2_3.size : Int) > 64 then (bureaulaw15_SubstNone.j0 k a1 true a0_0 l0_1 a2_0 a2_1 a2_2 a2_3 a2_4) else (if (a2_2.size : Int) > 64 then (bureaulaw15_SubstNone.j0 k a1 true a0_0 l0_1 a2_0 a2_1 a2_2 a2_3 a2_4) else (if a2_2.size + 1 ≤ 9223372036854775807 then ((bureaulaw15_common.f k a2_3 (a2_2 ++ (⟨#[10]⟩ : ByteArray))).bind fun t575 => (bureaulaw15_SubstNone.j0 k a1 t575 a0_0 l0_1 a2_0 a2_1 a2_2 a2_3 a2_4)) else (none))))) = some r := by rw [if_pos rfl] at H; exact H
    clear H
    have H := H1
    clear H1
    by_cases c12 : (a2_3.size : Int) = 0
    ·rw [if_pos c12] at H
     have c12b0 : ((a2_3.size : Int) == 0) = true := beq_iff_eq.mpr c12
     have c12b1 : ((a2_3.size : Int) != 0) = false := bne_eq_false_iff_eq.mpr c12
     clear c12
     (first | rw [c12b0] | (simp only [i64_w, i32_w]; rw [c12b0]) | skip)
     have H' := aM H
     clear H
     have hnb13 := NB571_572.out
     have hnc13 := NB572_571.out
     have hcz14_0 : w9.cell? ⟨gb571, 0, none⟩ = some (.string a0_0) := (bC BK571.out 0).trans rfl
     have hcz14_1 : w9.cell? ⟨gb571, 1, none⟩ = some (.slice A0_1 l0_1.length c0_1) := (bC BK571.out 1).trans rfl
     have hfz14_0 := bF BK571.out 0
     have hfz14_1 := bF BK571.out 1
     have hcz15_0 : w9.cell? ⟨gb572, 0, none⟩ = some (.int .i64 a2_0) := (bC BK572.out 0).trans rfl
     have hcz15_1 : w9.cell? ⟨gb572, 1, none⟩ = some (.int .i64 a2_1) := (bC BK572.out 1).trans rfl
     have hcz15_2 : w9.cell? ⟨gb572, 2, none⟩ = some (.string a2_2) := (bC BK572.out 2).trans rfl
     have hcz15_3 : w9.cell? ⟨gb572, 3, none⟩ = some (.string a2_3) := (bC BK572.out 3).trans rfl
     have hcz15_4 : w9.cell? ⟨gb572, 4, none⟩ = some (.bool a2_4) := (bC BK572.out 4).trans rfl
     have hfz15_0 := bF BK572.out 0
     have hfz15_1 := bF BK572.out 1
     have hfz15_2 := bF BK572.out 2
     have hfz15_3 := bF BK572.out 3
     have hfz15_4 := bF BK572.out 4
     go_wp2_with (first | ((with_reducible refine gate_callee (f := 9) rfl ?_); refine goesL_ (some 19) rfl rfl Try.func9 (by kernel_rfl) rfl #[.agg #[.string a0_0, .slice A0_1 l0_1.length c0_1], .agg #[.int .i64 a2_0, .int .i64 a2_1, .string a2_2, .string a2_3, .bool a2_4]] rfl (by (try simp only [mT, mC, mN]); first | done | rfl | (simp only [lD, lT]; rfl)) ?_; (with_reducible refine (bureaulaw15_fits.calls a0_0 _ _ l0_1 a2_0 a2_1 a2_2 a2_3 a2_4 true _ ?side1 ?side2 A10.out).mono ?_); (case side1 => repeat (first | exact (cB_ HR0_1.out HB.out) | (with_reducible refine Kd.C_alloc ?_ _) | (with_reducible refine Kd.C_drewN ?_ _) | (with_reducible refine Kd.C_drew ?_))); (case side2 => exact HC0_1.out); rintro e w16 ⟨rfl, hb⟩; refine ⟨_, rfl, ?_⟩; have n0_ := aM (bB (g := gb571) (qy BK571.out) hb); have n1_ := aM (bB (g := gb572) (qy BK572.out) hb); have n2_ := aM (bP (by repeat (first | (with_reducible first | exact HB.out | apply ea | apply en | apply ed | refine es ?_ GE571.out | refine es ?_ GE572.out) | exact HB.out)) hb); clear BK571 BK572 HB; have BK571 := n0_; have BK572 := n1_; have HB := n2_; clear n0_ n1_ n2_; (try clear hb); (try clear hb2); (try clear hk); (try clear hi); have hcz17_0 : w16.cell? ⟨gb572, 0, none⟩ = some (.int .i64 a2_0) := (bC BK572.out 0).trans rfl; have hcz17_1 : w16.cell? ⟨gb572, 1, none⟩ = some (.int .i64 a2_1) := (bC BK572.out 1).trans rfl; have hcz17_2 : w16.cell? ⟨gb572, 2, none⟩ = some (.string a2_2) := (bC BK572.out 2).trans rfl; have hcz17_3 : w16.cell? ⟨gb572, 3, none⟩ = some (.string a2_3) := (bC BK572.out 3).trans rfl; have hcz17_4 : w16.cell? ⟨gb572, 4, none⟩ = some (.bool a2_4) := (bC BK572.out 4).trans rfl; have hfz17_0 := bF BK572.out 0; have hfz17_1 := bF BK572.out 1; have hfz17_2 := bF BK572.out 2; have hfz17_3 := bF BK572.out 3; have hfz17_4 := bF BK572.out 4))
     go_meet
     case rel => exact ⟨_, (true), (by first | rfl | (simp; done) | (simp [*]; done)), H', ⟨by first | omega | exact Nat.le_refl _⟩, ⟨by exact qy BK571.out⟩, ⟨by exact qy BK572.out⟩, ⟨by repeat (first | (with_reducible first | exact HB.out | apply ea | apply en | apply ed | refine es ?_ GE571.out | refine es ?_ GE572.out) | exact HB.out)⟩⟩
    ·rw [if_neg c12] at H
     have c12b0 : ((a2_3.size : Int) == 0) = false := beq_eq_false_iff_ne.mpr c12
     have c12b1 : ((a2_3.size : Int) != 0) = true := bne_iff_ne.mpr c12
     (first | rw [c12b0] | (simp only [i64_w, i32_w]; rw [c12b0]) | skip)
     by_cases c18 : (a2_3.size : Int) > 64
     ·rw [if_pos c18] at H
      have c18b0 : decide (64 < (a2_3.size : Int)) = true := decide_eq_true c18
      have c18b1 : decide (64 < a2_3.size) = true := decide_eq_true (by omega)
      clear c18
      have H' := aM H
      clear H
      have hnb19 := NB571_572.out
      have hnc19 := NB572_571.out
      have hcz20_0 : w9.cell? ⟨gb571, 0, none⟩ = some (.string a0_0) := (bC BK571.out 0).trans rfl
      have hcz20_1 : w9.cell? ⟨gb571, 1, none⟩ = some (.slice A0_1 l0_1.length c0_1) := (bC BK571.out 1).trans rfl
      have hfz20_0 := bF BK571.out 0
      have hfz20_1 := bF BK571.out 1
      have hcz21_0 : w9.cell? ⟨gb572, 0, none⟩ = some (.int .i64 a2_0) := (bC BK572.out 0).trans rfl
      have hcz21_1 : w9.cell? ⟨gb572, 1, none⟩ = some (.int .i64 a2_1) := (bC BK572.out 1).trans rfl
      have hcz21_2 : w9.cell? ⟨gb572, 2, none⟩ = some (.string a2_2) := (bC BK572.out 2).trans rfl
      have hcz21_3 : w9.cell? ⟨gb572, 3, none⟩ = some (.string a2_3) := (bC BK572.out 3).trans rfl
      have hcz21_4 : w9.cell? ⟨gb572, 4, none⟩ = some (.bool a2_4) := (bC BK572.out 4).trans rfl
      have hfz21_0 := bF BK572.out 0
      have hfz21_1 := bF BK572.out 1
      have hfz21_2 := bF BK572.out 2
      have hfz21_3 := bF BK572.out 3
      have hfz21_4 := bF BK572.out 4
      go_wp2_with (first | ((with_reducible refine gate_callee (f := 9) rfl ?_); refine goesL_ (some 19) rfl rfl Try.func9 (by kernel_rfl) rfl #[.agg #[.string a0_0, .slice A0_1 l0_1.length c0_1], .agg #[.int .i64 a2_0, .int .i64 a2_1, .string a2_2, .string a2_3, .bool a2_4]] rfl (by (try simp only [mT, mC, mN]); first | done | rfl | (simp only [lD, lT]; rfl)) ?_; (with_reducible refine (bureaulaw15_fits.calls a0_0 _ _ l0_1 a2_0 a2_1 a2_2 a2_3 a2_4 true _ ?side1 ?side2 A10.out).mono ?_); (case side1 => repeat (first | exact (cB_ HR0_1.out HB.out) | (with_reducible refine Kd.C_alloc ?_ _) | (with_reducible refine Kd.C_drewN ?_ _) | (with_reducible refine Kd.C_drew ?_))); (case side2 => exact HC0_1.out); rintro e w22 ⟨rfl, hb⟩; refine ⟨_, rfl, ?_⟩; have n0_ := aM (bB (g := gb571) (qy BK571.out) hb); have n1_ := aM (bB (g := gb572) (qy BK572.out) hb); have n2_ := aM (bP (by repeat (first | (with_reducible first | exact HB.out | apply ea | apply en | apply ed | refine es ?_ GE571.out | refine es ?_ GE572.out) | exact HB.out)) hb); clear BK571 BK572 HB; have BK571 := n0_; have BK572 := n1_; have HB := n2_; clear n0_ n1_ n2_; (try clear hb); (try clear hb2); (try clear hk); (try clear hi); have hcz23_0 : w22.cell? ⟨gb572, 0, none⟩ = some (.int .i64 a2_0) := (bC BK572.out 0).trans rfl; have hcz23_1 : w22.cell? ⟨gb572, 1, none⟩ = some (.int .i64 a2_1) := (bC BK572.out 1).trans rfl; have hcz23_2 : w22.cell? ⟨gb572, 2, none⟩ = some (.string a2_2) := (bC BK572.out 2).trans rfl; have hcz23_3 : w22.cell? ⟨gb572, 3, none⟩ = some (.string a2_3) := (bC BK572.out 3).trans rfl; have hcz23_4 : w22.cell? ⟨gb572, 4, none⟩ = some (.bool a2_4) := (bC BK572.out 4).trans rfl; have hfz23_0 := bF BK572.out 0; have hfz23_1 := bF BK572.out 1; have hfz23_2 := bF BK572.out 2; have hfz23_3 := bF BK572.out 3; have hfz23_4 := bF BK572.out 4))
      go_meet
      case rel => exact ⟨_, (true), (by first | rfl | (simp; done) | (simp [*]; done)), H', ⟨by first | omega | exact Nat.le_refl _⟩, ⟨by exact qy BK571.out⟩, ⟨by exact qy BK572.out⟩, ⟨by repeat (first | (with_reducible first | exact HB.out | apply ea | apply en | apply ed | refine es ?_ GE571.out | refine es ?_ GE572.out) | exact HB.out)⟩⟩
     ·rw [if_neg c18] at H
      have c18b0 : decide (64 < (a2_3.size : Int)) = false := decide_eq_false c18
      have c18b1 : decide (64 < a2_3.size) = false := decide_eq_false (by omega)
      clear c18
      by_cases c24 : (a2_2.size : Int) > 64
      ·rw [if_pos c24] at H
       have c24b0 : decide (64 < (a2_2.size : Int)) = true := decide_eq_true c24
       have c24b1 : decide (64 < a2_2.size) = true := decide_eq_true (by omega)
       clear c24
       have H' := aM H
       clear H
       have hnb25 := NB571_572.out
       have hnc25 := NB572_571.out
       have hcz26_0 : w9.cell? ⟨gb571, 0, none⟩ = some (.string a0_0) := (bC BK571.out 0).trans rfl
       have hcz26_1 : w9.cell? ⟨gb571, 1, none⟩ = some (.slice A0_1 l0_1.length c0_1) := (bC BK571.out 1).trans rfl
       have hfz26_0 := bF BK571.out 0
       have hfz26_1 := bF BK571.out 1
       have hcz27_0 : w9.cell? ⟨gb572, 0, none⟩ = some (.int .i64 a2_0) := (bC BK572.out 0).trans rfl
       have hcz27_1 : w9.cell? ⟨gb572, 1, none⟩ = some (.int .i64 a2_1) := (bC BK572.out 1).trans rfl
       have hcz27_2 : w9.cell? ⟨gb572, 2, none⟩ = some (.string a2_2) := (bC BK572.out 2).trans rfl
       have hcz27_3 : w9.cell? ⟨gb572, 3, none⟩ = some (.string a2_3) := (bC BK572.out 3).trans rfl
       have hcz27_4 : w9.cell? ⟨gb572, 4, none⟩ = some (.bool a2_4) := (bC BK572.out 4).trans rfl
       have hfz27_0 := bF BK572.out 0
       have hfz27_1 := bF BK572.out 1
       have hfz27_2 := bF BK572.out 2
       have hfz27_3 := bF BK572.out 3
       have hfz27_4 := bF BK572.out 4
       go_wp2_with (first | ((with_reducible refine gate_callee (f := 9) rfl ?_); refine goesL_ (some 19) rfl rfl Try.func9 (by kernel_rfl) rfl #[.agg #[.string a0_0, .slice A0_1 l0_1.length c0_1], .agg #[.int .i64 a2_0, .int .i64 a2_1, .string a2_2, .string a2_3, .bool a2_4]] rfl (by (try simp only [mT, mC, mN]); first | done | rfl | (simp only [lD, lT]; rfl)) ?_; (with_reducible refine (bureaulaw15_fits.calls a0_0 _ _ l0_1 a2_0 a2_1 a2_2 a2_3 a2_4 true _ ?side1 ?side2 A10.out).mono ?_); (case side1 => repeat (first | exact (cB_ HR0_1.out HB.out) | (with_reducible refine Kd.C_alloc ?_ _) | (with_reducible refine Kd.C_drewN ?_ _) | (with_reducible refine Kd.C_drew ?_))); (case side2 => exact HC0_1.out); rintro e w28 ⟨rfl, hb⟩; refine ⟨_, rfl, ?_⟩; have n0_ := aM (bB (g := gb571) (qy BK571.out) hb); have n1_ := aM (bB (g := gb572) (qy BK572.out) hb); have n2_ := aM (bP (by repeat (first | (with_reducible first | exact HB.out | apply ea | apply en | apply ed | refine es ?_ GE571.out | refine es ?_ GE572.out) | exact HB.out)) hb); clear BK571 BK572 HB; have BK571 := n0_; have BK572 := n1_; have HB := n2_; clear n0_ n1_ n2_; (try clear hb); (try clear hb2); (try clear hk); (try clear hi); have hcz29_0 : w28.cell? ⟨gb572, 0, none⟩ = some (.int .i64 a2_0) := (bC BK572.out 0).trans rfl; have hcz29_1 : w28.cell? ⟨gb572, 1, none⟩ = some (.int .i64 a2_1) := (bC BK572.out 1).trans rfl; have hcz29_2 : w28.cell? ⟨gb572, 2, none⟩ = some (.string a2_2) := (bC BK572.out 2).trans rfl; have hcz29_3 : w28.cell? ⟨gb572, 3, none⟩ = some (.string a2_3) := (bC BK572.out 3).trans rfl; have hcz29_4 : w28.cell? ⟨gb572, 4, none⟩ = some (.bool a2_4) := (bC BK572.out 4).trans rfl; have hfz29_0 := bF BK572.out 0; have hfz29_1 := bF BK572.out 1; have hfz29_2 := bF BK572.out 2; have hfz29_3 := bF BK572.out 3; have hfz29_4 := bF BK572.out 4))
       go_meet
       case rel => exact ⟨_, (true), (by first | rfl | (simp; done) | (simp [*]; done)), H', ⟨by first | omega | exact Nat.le_refl _⟩, ⟨by exact qy BK571.out⟩, ⟨by exact qy BK572.out⟩, ⟨by repeat (first | (with_reducible first | exact HB.out | apply ea | apply en | apply ed | refine es ?_ GE571.out | refine es ?_ GE572.out) | exact HB.out)⟩⟩
      ·rw [if_neg c24] at H
       have c24b0 : decide (64 < (a2_2.size : Int)) = false := decide_eq_false c24
       have c24b1 : decide (64 < a2_2.size) = false := decide_eq_false (by omega)
       clear c24
       by_cases c30 : a2_2.size + 1 ≤ 9223372036854775807
       ·rw [if_pos c30] at H
        have c30b0 := eq_true c30
        have c30b1 : decide (a2_2.size + 1 ≤ 9223372036854775807) = true := decide_eq_true c30
        try have c30b2 : (9223372036854775807 < a2_2.size + 1) = False := eq_false (Nat.not_lt.2 c30)
        replace H := Option.bind_eq_some_iff.mp H
        obtain ⟨t575, A310, H⟩ := H
        replace H : (bureaulaw15_SubstNone.j0 k a1 t575 a0_0 l0_1 a2_0 a2_1 a2_2 a2_3 a2_4) = some r := H
        have A31 := aM A310
        clear A310
        have H' := aM H
        clear H
        have hnb32 := NB571_572.out
        have hnc32 := NB572_571.out
        have hcz33_0 : w9.cell? ⟨gb571, 0, none⟩ = some (.string a0_0) := (bC BK571.out 0).trans rfl
        have hcz33_1 : w9.cell? ⟨gb571, 1, none⟩ = some (.slice A0_1 l0_1.length c0_1) := (bC BK571.out 1).trans rfl
        have hfz33_0 := bF BK571.out 0
        have hfz33_1 := bF BK571.out 1
        have hcz34_0 : w9.cell? ⟨gb572, 0, none⟩ = some (.int .i64 a2_0) := (bC BK572.out 0).trans rfl
        have hcz34_1 : w9.cell? ⟨gb572, 1, none⟩ = some (.int .i64 a2_1) := (bC BK572.out 1).trans rfl
        have hcz34_2 : w9.cell? ⟨gb572, 2, none⟩ = some (.string a2_2) := (bC BK572.out 2).trans rfl
        have hcz34_3 : w9.cell? ⟨gb572, 3, none⟩ = some (.string a2_3) := (bC BK572.out 3).trans rfl
        have hcz34_4 : w9.cell? ⟨gb572, 4, none⟩ = some (.bool a2_4) := (bC BK572.out 4).trans rfl
        have hfz34_0 := bF BK572.out 0
        have hfz34_1 := bF BK572.out 1
        have hfz34_2 := bF BK572.out 2
        have hfz34_3 := bF BK572.out 3
        have hfz34_4 := bF BK572.out 4
        go_wp2_with (first | ((with_reducible refine gate_callee (f := 9) rfl ?_); refine goesL_ (some 19) rfl rfl Try.func9 (by kernel_rfl) rfl #[.agg #[.string a0_0, .slice A0_1 l0_1.length c0_1], .agg #[.int .i64 a2_0, .int .i64 a2_1, .string a2_2, .string a2_3, .bool a2_4]] rfl (by (try simp only [mT, mC, mN]); first | done | rfl | (simp only [lD, lT]; rfl)) ?_; (with_reducible refine (bureaulaw15_fits.calls a0_0 _ _ l0_1 a2_0 a2_1 a2_2 a2_3 a2_4 true _ ?side1 ?side2 A10.out).mono ?_); (case side1 => repeat (first | exact (cB_ HR0_1.out HB.out) | (with_reducible refine Kd.C_alloc ?_ _) | (with_reducible refine Kd.C_drewN ?_ _) | (with_reducible refine Kd.C_drew ?_))); (case side2 => exact HC0_1.out); rintro e w35 ⟨rfl, hb⟩; refine ⟨_, rfl, ?_⟩; have n0_ := aM (bB (g := gb571) (qy BK571.out) hb); have n1_ := aM (bB (g := gb572) (qy BK572.out) hb); have n2_ := aM (bP (by repeat (first | (with_reducible first | exact HB.out | apply ea | apply en | apply ed | refine es ?_ GE571.out | refine es ?_ GE572.out) | exact HB.out)) hb); clear BK571 BK572 HB; have BK571 := n0_; have BK572 := n1_; have HB := n2_; clear n0_ n1_ n2_; (try clear hb); (try clear hb2); (try clear hk); (try clear hi); have hcz36_0 : w35.cell? ⟨gb572, 0, none⟩ = some (.int .i64 a2_0) := (bC BK572.out 0).trans rfl; have hcz36_1 : w35.cell? ⟨gb572, 1, none⟩ = some (.int .i64 a2_1) := (bC BK572.out 1).trans rfl; have hcz36_2 : w35.cell? ⟨gb572, 2, none⟩ = some (.string a2_2) := (bC BK572.out 2).trans rfl; have hcz36_3 : w35.cell? ⟨gb572, 3, none⟩ = some (.string a2_3) := (bC BK572.out 3).trans rfl; have hcz36_4 : w35.cell? ⟨gb572, 4, none⟩ = some (.bool a2_4) := (bC BK572.out 4).trans rfl; have hfz36_0 := bF BK572.out 0; have hfz36_1 := bF BK572.out 1; have hfz36_2 := bF BK572.out 2; have hfz36_3 := bF BK572.out 3; have hfz36_4 := bF BK572.out 4) | (go_at_call 15; (with_reducible refine (bureaulaw15_common.calls k a2_3 (a2_2 ++ (⟨#[10]⟩ : ByteArray)) t575 _ A31.out).mono ?_); rintro e w' ⟨rfl, ⟨nd, rfl⟩⟩))
        go_meet
        case rel => exact ⟨_, (t575), (by first | rfl | (simp; done) | (simp [*]; done)), H', ⟨by first | omega | exact Nat.le_refl _⟩, ⟨by exact qy BK571.out⟩, ⟨by exact qy BK572.out⟩, ⟨by repeat (first | (with_reducible first | exact HB.out | apply ea | apply en | apply ed | refine es ?_ GE571.out | refine es ?_ GE572.out) | exact HB.out)⟩⟩
       ·rw [if_neg c30] at H
        exact absurd H (by simp)
   ·replace c11 := Bool.eq_false_iff.mpr c11
    subst c11
    have H1 : (bureaulaw15_SubstNone.j0 k a1 true a0_0 l0_1 a2_0 a2_1 a2_2 a2_3 a2_4) = some r := by rw [if_neg (show ¬ (false = true) by decide)] at H; exact H
    clear H
    have H := H1
    clear H1
    have H' := aM H
    clear H
    have hnb37 := NB571_572.out
    have hnc37 := NB572_571.out
    have hcz38_0 : w9.cell? ⟨gb571, 0, none⟩ = some (.string a0_0) := (bC BK571.out 0).trans rfl
    have hcz38_1 : w9.cell? ⟨gb571, 1, none⟩ = some (.slice A0_1 l0_1.length c0_1) := (bC BK571.out 1).trans rfl
    have hfz38_0 := bF BK571.out 0
    have hfz38_1 := bF BK571.out 1
    have hcz39_0 : w9.cell? ⟨gb572, 0, none⟩ = some (.int .i64 a2_0) := (bC BK572.out 0).trans rfl
    have hcz39_1 : w9.cell? ⟨gb572, 1, none⟩ = some (.int .i64 a2_1) := (bC BK572.out 1).trans rfl
    have hcz39_2 : w9.cell? ⟨gb572, 2, none⟩ = some (.string a2_2) := (bC BK572.out 2).trans rfl
    have hcz39_3 : w9.cell? ⟨gb572, 3, none⟩ = some (.string a2_3) := (bC BK572.out 3).trans rfl
    have hcz39_4 : w9.cell? ⟨gb572, 4, none⟩ = some (.bool a2_4) := (bC BK572.out 4).trans rfl
    have hfz39_0 := bF BK572.out 0
    have hfz39_1 := bF BK572.out 1
    have hfz39_2 := bF BK572.out 2
    have hfz39_3 := bF BK572.out 3
    have hfz39_4 := bF BK572.out 4
    go_wp2_with (first | ((with_reducible refine gate_callee (f := 9) rfl ?_); refine goesL_ (some 19) rfl rfl Try.func9 (by kernel_rfl) rfl #[.agg #[.string a0_0, .slice A0_1 l0_1.length c0_1], .agg #[.int .i64 a2_0, .int .i64 a2_1, .string a2_2, .string a2_3, .bool a2_4]] rfl (by (try simp only [mT, mC, mN]); first | done | rfl | (simp only [lD, lT]; rfl)) ?_; (with_reducible refine (bureaulaw15_fits.calls a0_0 _ _ l0_1 a2_0 a2_1 a2_2 a2_3 a2_4 false _ ?side1 ?side2 A10.out).mono ?_); (case side1 => repeat (first | exact (cB_ HR0_1.out HB.out) | (with_reducible refine Kd.C_alloc ?_ _) | (with_reducible refine Kd.C_drewN ?_ _) | (with_reducible refine Kd.C_drew ?_))); (case side2 => exact HC0_1.out); rintro e w40 ⟨rfl, hb⟩; refine ⟨_, rfl, ?_⟩; have n0_ := aM (bB (g := gb571) (qy BK571.out) hb); have n1_ := aM (bB (g := gb572) (qy BK572.out) hb); have n2_ := aM (bP (by repeat (first | (with_reducible first | exact HB.out | apply ea | apply en | apply ed | refine es ?_ GE571.out | refine es ?_ GE572.out) | exact HB.out)) hb); clear BK571 BK572 HB; have BK571 := n0_; have BK572 := n1_; have HB := n2_; clear n0_ n1_ n2_; (try clear hb); (try clear hb2); (try clear hk); (try clear hi)))
    go_meet
    case rel => exact ⟨_, (true), (by first | rfl | (simp; done) | (simp [*]; done)), H', ⟨by first | omega | exact Nat.le_refl _⟩, ⟨by exact qy BK571.out⟩, ⟨by exact qy BK572.out⟩, ⟨by repeat (first | (with_reducible first | exact HB.out | apply ea | apply en | apply ed | refine es ?_ GE571.out | refine es ?_ GE572.out) | exact HB.out)⟩⟩
  case rest =>
   clear HC6
   try clear c1
   try clear c2
   try clear p2
   try clear c3
   try clear c5
   try clear c8
   try clear c9
   try clear c11
   try clear c12
   try clear c12b0
   try clear c12b1
   try clear c13
   try clear c18
   try clear c18b0
   try clear c18b1
   try clear c19
   try clear c24
   try clear c24b0
   try clear c24b1
   try clear c25
   try clear c30
   try clear c30b0
   try clear c30b1
   try clear c30b2
   try clear c32
   try clear c37
   try clear hcz14_0
   try clear hcz14_1
   try clear hcz15_0
   try clear hcz15_1
   try clear hcz15_2
   try clear hcz15_3
   try clear hcz15_4
   try clear hcz17_0
   try clear hcz17_1
   try clear hcz17_2
   try clear hcz17_3
   try clear hcz17_4
   try clear hcz20_0
   try clear hcz20_1
   try clear hcz21_0
   try clear hcz21_1
   try clear hcz21_2
   try clear hcz21_3
   try clear hcz21_4
   try clear hcz23_0
   try clear hcz23_1
   try clear hcz23_2
   try clear hcz23_3
   try clear hcz23_4
   try clear hcz26_0
   try clear hcz26_1
   try clear hcz27_0
   try clear hcz27_1
   try clear hcz27_2
   try clear hcz27_3
   try clear hcz27_4
   try clear hcz29_0
   try clear hcz29_1
   try clear hcz29_2
   try clear hcz29_3
   try clear hcz29_4
   try clear hcz33_0
   try clear hcz33_1
   try clear hcz34_0
   try clear hcz34_1
   try clear hcz34_2
   try clear hcz34_3
   try clear hcz34_4
   try clear hcz36_0
   try clear hcz36_1
   try clear hcz36_2
   try clear hcz36_3
   try clear hcz36_4
   try clear hcz38_0
   try clear hcz38_1
   try clear hcz39_0
   try clear hcz39_1
   try clear hcz39_2
   try clear hcz39_3
   try clear hcz39_4
   try clear hfz14_0
   try clear hfz14_1
   try clear hfz15_0
   try clear hfz15_1
   try clear hfz15_2
   try clear hfz15_3
   try clear hfz15_4
   try clear hfz17_0
   try clear hfz17_1
   try clear hfz17_2
   try clear hfz17_3
   try clear hfz17_4
   try clear hfz20_0
   try clear hfz20_1
   try clear hfz21_0
   try clear hfz21_1
   try clear hfz21_2
   try clear hfz21_3
   try clear hfz21_4
   try clear hfz23_0
   try clear hfz23_1
   try clear hfz23_2
   try clear hfz23_3
   try clear hfz23_4
   try clear hfz26_0
   try clear hfz26_1
   try clear hfz27_0
   try clear hfz27_1
   try clear hfz27_2
   try clear hfz27_3
   try clear hfz27_4
   try clear hfz29_0
   try clear hfz29_1
   try clear hfz29_2
   try clear hfz29_3
   try clear hfz29_4
   try clear hfz33_0
   try clear hfz33_1
   try clear hfz34_0
   try clear hfz34_1
   try clear hfz34_2
   try clear hfz34_3
   try clear hfz34_4
   try clear hfz36_0
   try clear hfz36_1
   try clear hfz36_2
   try clear hfz36_3
   try clear hfz36_4
   try clear hfz38_0
   try clear hfz38_1
   try clear hfz39_0
   try clear hfz39_1
   try clear hfz39_2
   try clear hfz39_3
   try clear hfz39_4
   obtain ⟨kq, x46_5, rfl, HA, HJ5, BK571, BK572, HB⟩ := hcut
   cases kq with
   | zero => exact absurd HA.out (by simp [bureaulaw15_SubstNone.j0])
   | succ kj5 =>
    have H := HA.out
    clear HA
    simp only [bureaulaw15_SubstNone.j0] at H
    by_cases c41 : x46_5 = true
    ·subst c41
     have H1 : (some true) = some r := by rw [if_pos rfl] at H; exact H
     clear H
     have H := H1
     clear H1
     obtain rfl := Option.some.inj H
     go_wp2
     go_ret
     exact ⟨by first | rfl | (simp [errW_none, errW_some] <;> rfl) | (simp [*, errW_none, errW_some] <;> rfl), by repeat (first | (with_reducible first | exact HB.out | apply ea | apply en | apply ed | refine es ?_ GE571.out | refine es ?_ GE572.out) | exact HB.out)⟩
    ·replace c41 := Bool.eq_false_iff.mpr c41
     subst c41
     have H1 : ((subst_Do.f kj5 a0_0 l0_1 a1 a2_0 a2_1 a2_2 a2_3 true).bind fun bt576 => (if bt576.2.2.2.2.2.2 = 0 then ((bureauref07_Apply.f kj5 a0_0 l0_1 bt576.1 bt576.2.1 bt576.2.2.1 bt576.2.2.2.1 bt576.2.2.2.2.1).bind fun bt588 => ((subst_Do.f kj5 bt588.1 bt588.2.1 a1 a2_0 a2_1 a2_2 a2_3 true).bind fun bt594 => (if bt588.2.2 = 0 then (some (bt594.2.2.2.2.2.2 == 6)) else (some false)))) else (some true))) = some r := by rw [if_neg (show ¬ (false = true) by decide)] at H; exact H
     clear H
     have H := H1
     clear H1
     replace H := Option.bind_eq_some_iff.mp H
     obtain ⟨⟨t576, t577, t578, t581, t582, t585, t586⟩, A420, H⟩ := H
     replace H : (if t586 = 0 then ((bureauref07_Apply.f kj5 a0_0 l0_1 t576 t577 t578 t581 t582).bind fun bt588 => ((subst_Do.f kj5 bt588.1 bt588.2.1 a1 a2_0 a2_1 a2_2 a2_3 true).bind fun bt594 => (if bt588.2.2 = 0 then (some (bt594.2.2.2.2.2.2 == 6)) else (some false)))) else (some true)) = some r := H
     have A42 := aM A420
     clear A420
     by_cases c43 : t586 = 0
     ·rw [if_pos c43] at H
      have c43b0 : (t586 == 0) = true := beq_iff_eq.mpr c43
      have c43b1 : (t586 != 0) = false := bne_eq_false_iff_eq.mpr c43
      clear c43
      replace H := Option.bind_eq_some_iff.mp H
      obtain ⟨⟨t588, t589, t592⟩, A440, H⟩ := H
      replace H : ((subst_Do.f kj5 t588 t589 a1 a2_0 a2_1 a2_2 a2_3 true).bind fun bt594 => (if t592 = 0 then (some (bt594.2.2.2.2.2.2 == 6)) else (some false))) = some r := H
      have A44 := aM A440
      clear A440
      replace H := Option.bind_eq_some_iff.mp H
      obtain ⟨⟨t594, t595, t596, t599, t600, t603, t604⟩, A450, H⟩ := H
      replace H : (if t592 = 0 then (some (t604 == 6)) else (some false)) = some r := H
      have A45 := aM A450
      clear A450
      by_cases c46 : t592 = 0
      ·rw [if_pos c46] at H
       have c46b0 : (t592 == 0) = true := beq_iff_eq.mpr c46
       have c46b1 : (t592 != 0) = false := bne_eq_false_iff_eq.mpr c46
       clear c46
       obtain rfl := Option.some.inj H
       have hnb47 := NB572_571.out
       have hnc47 := NB571_572.out
       have hcz48_0 : wc.cell? ⟨gb572, 0, none⟩ = some (.int .i64 a2_0) := (bC BK572.out 0).trans rfl
       have hcz48_1 : wc.cell? ⟨gb572, 1, none⟩ = some (.int .i64 a2_1) := (bC BK572.out 1).trans rfl
       have hcz48_2 : wc.cell? ⟨gb572, 2, none⟩ = some (.string a2_2) := (bC BK572.out 2).trans rfl
       have hcz48_3 : wc.cell? ⟨gb572, 3, none⟩ = some (.string a2_3) := (bC BK572.out 3).trans rfl
       have hcz48_4 : wc.cell? ⟨gb572, 4, none⟩ = some (.bool a2_4) := (bC BK572.out 4).trans rfl
       have hfz48_0 := bF BK572.out 0
       have hfz48_1 := bF BK572.out 1
       have hfz48_2 := bF BK572.out 2
       have hfz48_3 := bF BK572.out 3
       have hfz48_4 := bF BK572.out 4
       have hcz49_0 : wc.cell? ⟨gb571, 0, none⟩ = some (.string a0_0) := (bC BK571.out 0).trans rfl
       have hcz49_1 : wc.cell? ⟨gb571, 1, none⟩ = some (.slice A0_1 l0_1.length c0_1) := (bC BK571.out 1).trans rfl
       have hfz49_0 := bF BK571.out 0
       have hfz49_1 := bF BK571.out 1
       go_wp2_with (first | ((with_reducible refine gate_callee (f := 10) rfl ?_); refine goesL_ (some 52) rfl rfl Try.func10 (by kernel_rfl) rfl #[.agg #[.string a0_0, .slice A0_1 l0_1.length c0_1], .int .u64 a1, .agg #[.int .i64 a2_0, .int .i64 a2_1, .string a2_2, .string a2_3, .bool true]] rfl (by (try simp only [mT, mC, mN]); first | done | rfl | (simp only [lD, lT]; rfl)) ?_; (with_reducible refine (subst_Do.calls kj5 a0_0 _ _ l0_1 a1 a2_0 a2_1 a2_2 a2_3 true t576 t577 t578 t581 t582 t585 t586 _ ?mx35 ?side1 ?side2 A42.out).mono ?_); (case mx35 => exact MaxOk.below HMX.out (by repeat (first | (with_reducible first | exact HB.out | apply ea | apply en | apply ed | refine es ?_ GE571.out | refine es ?_ GE572.out) | exact HB.out))); (case side1 => exact cB_ HR0_1.out (by repeat (first | (with_reducible first | exact HB.out | apply ea | apply en | apply ed | refine es ?_ GE571.out | refine es ?_ GE572.out) | exact HB.out))); (case side2 => exact HC0_1.out); rintro e w50 ⟨v579, v583, rfl, ho0, ho1, hb⟩; refine ⟨_, rfl, ?_⟩; have n0_ := aM (rL ho0 (bZ (by repeat (first | (with_reducible first | exact HB.out | apply ea | apply en | apply ed | refine es ?_ GE571.out | refine es ?_ GE572.out) | exact HB.out)))); have n1_ := aM (rL ho1 (bZ (by repeat (first | (with_reducible first | exact HB.out | apply ea | apply en | apply ed | refine es ?_ GE571.out | refine es ?_ GE572.out) | exact HB.out)))); have n2_ := aM (bB (g := gb571) (o := .cells #[.string a0_0, .slice A0_1 l0_1.length c0_1] 24 (0, 0)) (by (with_reducible repeat (first | apply qn | apply qd | apply qa)); refine bR ?_ NB571_572.out _; exact qy BK571.out) hb); have n3_ := aM (bB (g := gb572) (o := .cells #[.int .i64 a2_0, .int .i64 a2_1, .string a2_2, .string a2_3, .bool true] 28 (0, 0)) (by (with_reducible repeat (first | apply qn | apply qd | apply qa)); refine bU (cs := #[.int .i64 a2_0, .int .i64 a2_1, .string a2_2, .string a2_3, .bool a2_4]) ?_ 4 _ rfl; exact qy BK572.out) hb); have n4_ := aM (bP (by repeat (first | (with_reducible first | exact HB.out | apply ea | apply en | apply ed | refine es ?_ GE571.out | refine es ?_ GE572.out) | exact HB.out)) hb); clear BK571 BK572 HB; have HO580 := n0_; have HO584 := n1_; have BK571 := n2_; have BK572 := n3_; have HB := n4_; clear n0_ n1_ n2_ n3_ n4_; (try clear hb); (try clear hb2); (try clear hk); (try clear hi); (try clear ho0); (try clear ho1)) | ((with_reducible refine gate_dst (N := 7) rfl ?_); (try (refine gate_guard (by rfl) ?_; dsimp only)); refine box_event ?hg (N := 7) ?hd (cs := #[.int .i64 0, .string (⟨#[]⟩ : ByteArray), .slice none 0 0, .string (⟨#[]⟩ : ByteArray), .slice none 0 0]) (t := 32) ?hr ?_; (case hd | hg => rfl); (case hr => first | (go_simp; done) | (go_simp; rfl)); intro gb587 hg w51 hbox hb; have n0_ := aM (Kd.R_below (ry HO580.out) hb); have n1_ := aM (Kd.R_below (ry HO584.out) hb); have n2_ := aM (bB (g := gb571) (qy BK571.out) hb); have n3_ := aM (bB (g := gb572) (qy BK572.out) hb); have n4_ := aM (bP (by repeat (first | (with_reducible first | exact HB.out | apply ea | apply en | apply ed | refine es ?_ GE571.out | refine es ?_ GE572.out) | exact HB.out)) hb); have n5_ := aM (hbox); have n6_ := aM ((by rw [hg]; exact (bZ (by repeat (first | (with_reducible first | exact HB.out | apply ea | apply en | apply ed | refine es ?_ GE571.out | refine es ?_ GE572.out) | exact HB.out))) : w.heap.size ≤ gb587)); have n7_ := n6_; have n8_ := aM ((by rw [hg]; exact Nat.ne_of_lt (blk_lt (g := gb571) (qy BK571.out)) : gb571 ≠ gb587)); have n9_ := aM ((by rw [hg]; exact Nat.ne_of_gt (blk_lt (g := gb571) (qy BK571.out)) : gb587 ≠ gb571)); have n10_ := aM ((by rw [hg]; exact Nat.ne_of_lt (blk_lt (g := gb572) (qy BK572.out)) : gb572 ≠ gb587)); have n11_ := aM ((by rw [hg]; exact Nat.ne_of_gt (blk_lt (g := gb572) (qy BK572.out)) : gb587 ≠ gb572)); clear HO580 HO584 BK571 BK572 HB; have HO580 := n0_; have HO584 := n1_; have BK571 := n2_; have BK572 := n3_; have HB := n4_; have BK587 := n5_; have GW587 := n6_; have GE587 := n7_; have NB571_587 := n8_; have NB587_571 := n9_; have NB572_587 := n10_; have NB587_572 := n11_; clear n0_ n1_ n2_ n3_ n4_ n5_ n6_ n7_ n8_ n9_ n10_ n11_; clear hb hbox hg; have hnb52 := NB587_571.out; have hnc52 := NB571_587.out; have hnb53 := NB587_572.out; have hnc53 := NB572_587.out; have hcz54_0 : w51.cell? ⟨gb587, 0, none⟩ = some (.int .i64 0) := (bC BK587.out 0).trans rfl; have hcz54_1 : w51.cell? ⟨gb587, 1, none⟩ = some (.string (⟨#[]⟩ : ByteArray)) := (bC BK587.out 1).trans rfl; have hcz54_2 : w51.cell? ⟨gb587, 2, none⟩ = some (.slice none 0 0) := (bC BK587.out 2).trans rfl; have hcz54_3 : w51.cell? ⟨gb587, 3, none⟩ = some (.string (⟨#[]⟩ : ByteArray)) := (bC BK587.out 3).trans rfl; have hcz54_4 : w51.cell? ⟨gb587, 4, none⟩ = some (.slice none 0 0) := (bC BK587.out 4).trans rfl; have hfz54_0 := bF BK587.out 0; have hfz54_1 := bF BK587.out 1; have hfz54_2 := bF BK587.out 2; have hfz54_3 := bF BK587.out 3; have hfz54_4 := bF BK587.out 4; obtain ⟨Ao55, co55, eo55⟩ := Kd.R_slice HO580.out; subst eo55; obtain ⟨Ao56, co56, eo56⟩ := Kd.R_slice HO584.out; subst eo56; have hcz57_0 : w51.cell? ⟨gb571, 0, none⟩ = some (.string a0_0) := (bC BK571.out 0).trans rfl; have hcz57_1 : w51.cell? ⟨gb571, 1, none⟩ = some (.slice A0_1 l0_1.length c0_1) := (bC BK571.out 1).trans rfl; have hfz57_0 := bF BK571.out 0; have hfz57_1 := bF BK571.out 1) | ((with_reducible refine gate_callee (f := 14) rfl ?_); refine goesL_ (some 61) rfl rfl Try.func14 (by kernel_rfl) rfl #[.agg #[.string a0_0, .slice A0_1 l0_1.length c0_1], .agg #[.int .i64 t576, .string t577, .slice Ao55 t578.length co55, .string t581, .slice Ao56 t582.length co56]] rfl (by (try simp only [mT, mC, mN]); first | done | rfl | (simp only [lD, lT]; rfl)) ?_; (with_reducible refine (bureauref07_Apply.calls kj5 a0_0 _ _ l0_1 t576 t577 _ _ t578 t581 _ _ t582 t588 t589 t592 _ ?side1 ?side2 ?side3 ?side4 ?side5 ?side6 A44.out).mono ?_); (case side1 => exact cB_ HR0_1.out (by repeat (first | (with_reducible first | exact HB.out | apply ea | apply en | apply ed | refine es ?_ GE571.out | refine es ?_ GE572.out | refine es ?_ GE587.out) | exact HB.out))); (case side2 => exact HC0_1.out); (case side3 => refine (rR (e := 51) (base := w.heap.size) (ok := fun k_ => some k_ ≠ (.slice Ao56 t582.length co56 : Value).ownBlock) (n := t578.length) (c := co55) ?_).2.2; exact (by (with_reducible repeat (first | apply ra | apply rn | apply rd_)); exact (rM (rF (p := ⟨gb587, 4, none⟩) (rF (p := ⟨gb587, 3, none⟩) (rF (p := ⟨gb587, 2, none⟩) (rF (p := ⟨gb587, 1, none⟩) (rF (p := ⟨gb587, 0, none⟩) (rT HO580.out BK587.out (by decide)) (fun _ hk => hk.2) (.int .i64 t576)) (fun _ hk => hk.2) (.string t577)) (fun _ hk => hk.2) (.slice Ao55 t578.length co55)) (fun _ hk => hk.2) (.string t581)) (fun _ hk => hk.2) (.slice Ao56 t582.length co56)) (fun _ h_ => h_.1)))); (case side4 => exact (rR HO580.out).2.1); (case side5 => refine (rR (e := 51) (base := w.heap.size) (ok := fun k_ => some k_ ≠ (.slice Ao55 t578.length co55 : Value).ownBlock) (n := t582.length) (c := co56) ?_).2.2; exact (by (with_reducible repeat (first | apply ra | apply rn | apply rd_)); exact (rM (rF (p := ⟨gb587, 4, none⟩) (rF (p := ⟨gb587, 3, none⟩) (rF (p := ⟨gb587, 2, none⟩) (rF (p := ⟨gb587, 1, none⟩) (rF (p := ⟨gb587, 0, none⟩) (rT HO584.out BK587.out (by decide)) (fun _ hk => hk.2) (.int .i64 t576)) (fun _ hk => hk.2) (.string t577)) (fun _ hk => hk.2) (.slice Ao55 t578.length co55)) (fun _ hk => hk.2) (.string t581)) (fun _ hk => hk.2) (.slice Ao56 t582.length co56)) (fun _ h_ => h_.1)))); (case side6 => exact (rR HO584.out).2.1); rintro e w58 ⟨v590, rfl, ho0, hb⟩; refine ⟨_, rfl, ?_⟩; have n0_ := aM (rE (by (with_reducible repeat (first | apply ra | apply rn | apply rd_)); exact (rM (rF (p := ⟨gb587, 4, none⟩) (rF (p := ⟨gb587, 3, none⟩) (rF (p := ⟨gb587, 2, none⟩) (rF (p := ⟨gb587, 1, none⟩) (rF (p := ⟨gb587, 0, none⟩) (rT HO580.out BK587.out (by decide)) (fun _ hk => hk.2) (.int .i64 t576)) (fun _ hk => hk.2) (.string t577)) (fun _ hk => hk.2) (.slice Ao55 t578.length co55)) (fun _ hk => hk.2) (.string t581)) (fun _ hk => hk.2) (.slice Ao56 t582.length co56)) (fun _ h_ => h_.1))) (Kd.R_base ho0) hb); have n1_ := aM (rE (by (with_reducible repeat (first | apply ra | apply rn | apply rd_)); exact (rM (rF (p := ⟨gb587, 4, none⟩) (rF (p := ⟨gb587, 3, none⟩) (rF (p := ⟨gb587, 2, none⟩) (rF (p := ⟨gb587, 1, none⟩) (rF (p := ⟨gb587, 0, none⟩) (rT HO584.out BK587.out (by decide)) (fun _ hk => hk.2) (.int .i64 t576)) (fun _ hk => hk.2) (.string t577)) (fun _ hk => hk.2) (.slice Ao55 t578.length co55)) (fun _ hk => hk.2) (.string t581)) (fun _ hk => hk.2) (.slice Ao56 t582.length co56)) (fun _ h_ => h_.1))) (Kd.R_base ho0) hb); have n2_ := aM (rL (Kd.R_new' (Kd.R_new' ho0 (Kd.R_lt (by (with_reducible repeat (first | apply ra | apply rn | apply rd_)); exact (rM (rF (p := ⟨gb587, 4, none⟩) (rF (p := ⟨gb587, 3, none⟩) (rF (p := ⟨gb587, 2, none⟩) (rF (p := ⟨gb587, 1, none⟩) (rF (p := ⟨gb587, 0, none⟩) (rT HO580.out BK587.out (by decide)) (fun _ hk => hk.2) (.int .i64 t576)) (fun _ hk => hk.2) (.string t577)) (fun _ hk => hk.2) (.slice Ao55 t578.length co55)) (fun _ hk => hk.2) (.string t581)) (fun _ hk => hk.2) (.slice Ao56 t582.length co56)) (fun _ h_ => h_.1))))) (Kd.R_lt (by (with_reducible repeat (first | apply ra | apply rn | apply rd_)); exact (rM (rF (p := ⟨gb587, 4, none⟩) (rF (p := ⟨gb587, 3, none⟩) (rF (p := ⟨gb587, 2, none⟩) (rF (p := ⟨gb587, 1, none⟩) (rF (p := ⟨gb587, 0, none⟩) (rT HO584.out BK587.out (by decide)) (fun _ hk => hk.2) (.int .i64 t576)) (fun _ hk => hk.2) (.string t577)) (fun _ hk => hk.2) (.slice Ao55 t578.length co55)) (fun _ hk => hk.2) (.string t581)) (fun _ hk => hk.2) (.slice Ao56 t582.length co56)) (fun _ h_ => h_.1))))) (bZ (by repeat (first | (with_reducible first | exact HB.out | apply ea | apply en | apply ed | refine es ?_ GE571.out | refine es ?_ GE572.out | refine es ?_ GE587.out) | exact HB.out)))); have n3_ := aM (bB (g := gb571) (o := .cells #[.string a0_0, .slice A0_1 l0_1.length c0_1] 24 (0, 0)) (by (with_reducible repeat (first | apply qn | apply qd | apply qa)); refine bR ?_ NB571_587.out _; (with_reducible repeat (first | apply qn | apply qd | apply qa)); refine bR ?_ NB571_587.out _; (with_reducible repeat (first | apply qn | apply qd | apply qa)); refine bR ?_ NB571_587.out _; (with_reducible repeat (first | apply qn | apply qd | apply qa)); refine bR ?_ NB571_587.out _; (with_reducible repeat (first | apply qn | apply qd | apply qa)); refine bR ?_ NB571_587.out _; exact qy BK571.out) hb); have n4_ := aM (bB (g := gb572) (o := .cells #[.int .i64 a2_0, .int .i64 a2_1, .string a2_2, .string a2_3, .bool true] 28 (0, 0)) (by (with_reducible repeat (first | apply qn | apply qd | apply qa)); refine bR ?_ NB572_587.out _; (with_reducible repeat (first | apply qn | apply qd | apply qa)); refine bR ?_ NB572_587.out _; (with_reducible repeat (first | apply qn | apply qd | apply qa)); refine bR ?_ NB572_587.out _; (with_reducible repeat (first | apply qn | apply qd | apply qa)); refine bR ?_ NB572_587.out _; (with_reducible repeat (first | apply qn | apply qd | apply qa)); refine bR ?_ NB572_587.out _; exact qy BK572.out) hb); have n5_ := aM (bB (g := gb587) (o := .cells #[.int .i64 t576, .string t577, .slice Ao55 t578.length co55, .string t581, .slice Ao56 t582.length co56] 32 (0, 0)) (by (with_reducible repeat (first | apply qn | apply qd | apply qa)); refine bU (cs := #[.int .i64 t576, .string t577, .slice Ao55 t578.length co55, .string t581, .slice none 0 0]) ?_ 4 _ rfl; (with_reducible repeat (first | apply qn | apply qd | apply qa)); refine bU (cs := #[.int .i64 t576, .string t577, .slice Ao55 t578.length co55, .string (⟨#[]⟩ : ByteArray), .slice none 0 0]) ?_ 3 _ rfl; (with_reducible repeat (first | apply qn | apply qd | apply qa)); refine bU (cs := #[.int .i64 t576, .string t577, .slice none 0 0, .string (⟨#[]⟩ : ByteArray), .slice none 0 0]) ?_ 2 _ rfl; (with_reducible repeat (first | apply qn | apply qd | apply qa)); refine bU (cs := #[.int .i64 t576, .string (⟨#[]⟩ : ByteArray), .slice none 0 0, .string (⟨#[]⟩ : ByteArray), .slice none 0 0]) ?_ 1 _ rfl; (with_reducible repeat (first | apply qn | apply qd | apply qa)); refine bU (cs := #[.int .i64 0, .string (⟨#[]⟩ : ByteArray), .slice none 0 0, .string (⟨#[]⟩ : ByteArray), .slice none 0 0]) ?_ 0 _ rfl; exact qy BK587.out) hb); have n6_ := aM (bP (by repeat (first | (with_reducible first | exact HB.out | apply ea | apply en | apply ed | refine es ?_ GE571.out | refine es ?_ GE572.out | refine es ?_ GE587.out) | exact HB.out)) hb); clear HO580 HO584 BK571 BK572 BK587 HB; have HO580 := n0_; have HO584 := n1_; have HO591 := n2_; have BK571 := n3_; have BK572 := n4_; have BK587 := n5_; have HB := n6_; clear n0_ n1_ n2_ n3_ n4_ n5_ n6_; (try clear hb); (try clear hb2); (try clear hk); (try clear hi); (try clear ho0)) | ((with_reducible refine gate_dst (N := 10) rfl ?_); (try (refine gate_guard (by rfl) ?_; dsimp only)); refine box_event ?hg (N := 10) ?hd (cs := #[.string (⟨#[]⟩ : ByteArray), .slice none 0 0]) (t := 24) ?hr ?_; (case hd | hg => rfl); (case hr => first | (go_simp; done) | (go_simp; rfl)); intro gb593 hg w59 hbox hb; have n0_ := aM (Kd.R_below (ry HO580.out) hb); have n1_ := aM (Kd.R_below (ry HO584.out) hb); have n2_ := aM (Kd.R_below (ry HO591.out) hb); have n3_ := aM (bB (g := gb571) (qy BK571.out) hb); have n4_ := aM (bB (g := gb572) (qy BK572.out) hb); have n5_ := aM (bB (g := gb587) (qy BK587.out) hb); have n6_ := aM (bP (by repeat (first | (with_reducible first | exact HB.out | apply ea | apply en | apply ed | refine es ?_ GE571.out | refine es ?_ GE572.out | refine es ?_ GE587.out) | exact HB.out)) hb); have n7_ := aM (hbox); have n8_ := aM ((by rw [hg]; exact (bZ (by repeat (first | (with_reducible first | exact HB.out | apply ea | apply en | apply ed | refine es ?_ GE571.out | refine es ?_ GE572.out | refine es ?_ GE587.out) | exact HB.out))) : w.heap.size ≤ gb593)); have n9_ := n8_; have n10_ := aM ((by rw [hg]; exact Nat.ne_of_lt (blk_lt (g := gb571) (qy BK571.out)) : gb571 ≠ gb593)); have n11_ := aM ((by rw [hg]; exact Nat.ne_of_gt (blk_lt (g := gb571) (qy BK571.out)) : gb593 ≠ gb571)); have n12_ := aM ((by rw [hg]; exact Nat.ne_of_lt (blk_lt (g := gb572) (qy BK572.out)) : gb572 ≠ gb593)); have n13_ := aM ((by rw [hg]; exact Nat.ne_of_gt (blk_lt (g := gb572) (qy BK572.out)) : gb593 ≠ gb572)); have n14_ := aM ((by rw [hg]; exact Nat.ne_of_lt (blk_lt (g := gb587) (qy BK587.out)) : gb587 ≠ gb593)); have n15_ := aM ((by rw [hg]; exact Nat.ne_of_gt (blk_lt (g := gb587) (qy BK587.out)) : gb593 ≠ gb587)); clear HO580 HO584 HO591 BK571 BK572 BK587 HB; have HO580 := n0_; have HO584 := n1_; have HO591 := n2_; have BK571 := n3_; have BK572 := n4_; have BK587 := n5_; have HB := n6_; have BK593 := n7_; have GW593 := n8_; have GE593 := n9_; have NB571_593 := n10_; have NB593_571 := n11_; have NB572_593 := n12_; have NB593_572 := n13_; have NB587_593 := n14_; have NB593_587 := n15_; clear n0_ n1_ n2_ n3_ n4_ n5_ n6_ n7_ n8_ n9_ n10_ n11_ n12_ n13_ n14_ n15_; clear hb hbox hg; have hnb60 := NB593_571.out; have hnc60 := NB571_593.out; have hnb61 := NB593_572.out; have hnc61 := NB572_593.out; have hnb62 := NB593_587.out; have hnc62 := NB587_593.out; have hcz63_0 : w59.cell? ⟨gb593, 0, none⟩ = some (.string (⟨#[]⟩ : ByteArray)) := (bC BK593.out 0).trans rfl; have hcz63_1 : w59.cell? ⟨gb593, 1, none⟩ = some (.slice none 0 0) := (bC BK593.out 1).trans rfl; have hfz63_0 := bF BK593.out 0; have hfz63_1 := bF BK593.out 1; obtain ⟨Ao64, co64, eo64⟩ := Kd.R_slice HO591.out; subst eo64; have hcz65_0 : w59.cell? ⟨gb572, 0, none⟩ = some (.int .i64 a2_0) := (bC BK572.out 0).trans rfl; have hcz65_1 : w59.cell? ⟨gb572, 1, none⟩ = some (.int .i64 a2_1) := (bC BK572.out 1).trans rfl; have hcz65_2 : w59.cell? ⟨gb572, 2, none⟩ = some (.string a2_2) := (bC BK572.out 2).trans rfl; have hcz65_3 : w59.cell? ⟨gb572, 3, none⟩ = some (.string a2_3) := (bC BK572.out 3).trans rfl; have hcz65_4 : w59.cell? ⟨gb572, 4, none⟩ = some (.bool true) := (bC BK572.out 4).trans rfl; have hfz65_0 := bF BK572.out 0; have hfz65_1 := bF BK572.out 1; have hfz65_2 := bF BK572.out 2; have hfz65_3 := bF BK572.out 3; have hfz65_4 := bF BK572.out 4) | ((with_reducible refine gate_callee (f := 10) rfl ?_); refine goesL_ (some 68) rfl rfl Try.func10 (by kernel_rfl) rfl #[.agg #[.string t588, .slice Ao64 t589.length co64], .int .u64 a1, .agg #[.int .i64 a2_0, .int .i64 a2_1, .string a2_2, .string a2_3, .bool true]] rfl (by (try simp only [mT, mC, mN]); first | done | rfl | (simp only [lD, lT]; rfl)) ?_; (with_reducible refine (subst_Do.calls kj5 t588 _ _ t589 a1 a2_0 a2_1 a2_2 a2_3 true t594 t595 t596 t599 t600 t603 t604 _ ?mx36 ?side1 ?side2 A45.out).mono ?_); (case mx36 => exact MaxOk.below HMX.out (by repeat (first | (with_reducible first | exact HB.out | apply ea | apply en | apply ed | refine es ?_ GE571.out | refine es ?_ GE572.out | refine es ?_ GE587.out | refine es ?_ GE593.out) | exact HB.out))); (case side1 => refine (rR (e := 51) (base := w.heap.size) (ok := fun k_ => ((True ∧ some k_ ≠ (.slice Ao55 t578.length co55 : Value).ownBlock) ∧ some k_ ≠ (.slice Ao56 t582.length co56 : Value).ownBlock)) (n := t589.length) (c := co64) ?_).2.2; exact (by (with_reducible repeat (first | apply ra | apply rn | apply rd_)); exact (rM (rF (p := ⟨gb593, 1, none⟩) (rF (p := ⟨gb593, 0, none⟩) (rT HO591.out BK593.out (by decide)) (fun _ hk => hk.2) (.string t588)) (fun _ hk => hk.2) (.slice Ao64 t589.length co64)) (fun _ h_ => h_.1)))); (case side2 => exact (rR HO591.out).2.1); rintro e w66 ⟨v597, v601, rfl, ho0, ho1, hb⟩; refine ⟨_, rfl, ?_⟩; have n0_ := aM (rM (Kd.R_told (Kd.R_told (Kd.R_old (by (with_reducible repeat (first | apply ra | apply rn | apply rd_)); exact (rM (rF (p := ⟨gb593, 1, none⟩) (rF (p := ⟨gb593, 0, none⟩) (rT HO580.out BK593.out (by decide)) (fun _ hk => hk.2) (.string t588)) (fun _ hk => hk.2) (.slice Ao64 t589.length co64)) (fun _ h_ => h_.1))) hb) (Kd.R_base ho0)) (Kd.R_base ho1)) (fun _ h_ => h_.1)); have n1_ := aM (rM (Kd.R_told (Kd.R_told (Kd.R_old (by (with_reducible repeat (first | apply ra | apply rn | apply rd_)); exact (rM (rF (p := ⟨gb593, 1, none⟩) (rF (p := ⟨gb593, 0, none⟩) (rT HO584.out BK593.out (by decide)) (fun _ hk => hk.2) (.string t588)) (fun _ hk => hk.2) (.slice Ao64 t589.length co64)) (fun _ h_ => h_.1))) hb) (Kd.R_base ho0)) (Kd.R_base ho1)) (fun _ h_ => h_.1)); have n2_ := aM (rM (Kd.R_told (Kd.R_told (Kd.R_old (by (with_reducible repeat (first | apply ra | apply rn | apply rd_)); exact (rM (rF (p := ⟨gb593, 1, none⟩) (rF (p := ⟨gb593, 0, none⟩) (rT HO591.out BK593.out (by decide)) (fun _ hk => hk.2) (.string t588)) (fun _ hk => hk.2) (.slice Ao64 t589.length co64)) (fun _ h_ => h_.1))) hb) (Kd.R_base ho0)) (Kd.R_base ho1)) (fun _ h_ => h_.1)); have n3_ := aM (rL (Kd.R_new' (Kd.R_new' (Kd.R_new' ho0 (Kd.R_lt (by (with_reducible repeat (first | apply ra | apply rn | apply rd_)); exact (rM (rF (p := ⟨gb593, 1, none⟩) (rF (p := ⟨gb593, 0, none⟩) (rT HO580.out BK593.out (by decide)) (fun _ hk => hk.2) (.string t588)) (fun _ hk => hk.2) (.slice Ao64 t589.length co64)) (fun _ h_ => h_.1))))) (Kd.R_lt (by (with_reducible repeat (first | apply ra | apply rn | apply rd_)); exact (rM (rF (p := ⟨gb593, 1, none⟩) (rF (p := ⟨gb593, 0, none⟩) (rT HO584.out BK593.out (by decide)) (fun _ hk => hk.2) (.string t588)) (fun _ hk => hk.2) (.slice Ao64 t589.length co64)) (fun _ h_ => h_.1))))) (Kd.R_lt (by (with_reducible repeat (first | apply ra | apply rn | apply rd_)); exact (rM (rF (p := ⟨gb593, 1, none⟩) (rF (p := ⟨gb593, 0, none⟩) (rT HO591.out BK593.out (by decide)) (fun _ hk => hk.2) (.string t588)) (fun _ hk => hk.2) (.slice Ao64 t589.length co64)) (fun _ h_ => h_.1))))) (bZ (by repeat (first | (with_reducible first | exact HB.out | apply ea | apply en | apply ed | refine es ?_ GE571.out | refine es ?_ GE572.out | refine es ?_ GE587.out | refine es ?_ GE593.out) | exact HB.out)))); have n4_ := aM (rL (Kd.R_new' (Kd.R_new' (Kd.R_new' ho1 (Kd.R_lt (by (with_reducible repeat (first | apply ra | apply rn | apply rd_)); exact (rM (rF (p := ⟨gb593, 1, none⟩) (rF (p := ⟨gb593, 0, none⟩) (rT HO580.out BK593.out (by decide)) (fun _ hk => hk.2) (.string t588)) (fun _ hk => hk.2) (.slice Ao64 t589.length co64)) (fun _ h_ => h_.1))))) (Kd.R_lt (by (with_reducible repeat (first | apply ra | apply rn | apply rd_)); exact (rM (rF (p := ⟨gb593, 1, none⟩) (rF (p := ⟨gb593, 0, none⟩) (rT HO584.out BK593.out (by decide)) (fun _ hk => hk.2) (.string t588)) (fun _ hk => hk.2) (.slice Ao64 t589.length co64)) (fun _ h_ => h_.1))))) (Kd.R_lt (by (with_reducible repeat (first | apply ra | apply rn | apply rd_)); exact (rM (rF (p := ⟨gb593, 1, none⟩) (rF (p := ⟨gb593, 0, none⟩) (rT HO591.out BK593.out (by decide)) (fun _ hk => hk.2) (.string t588)) (fun _ hk => hk.2) (.slice Ao64 t589.length co64)) (fun _ h_ => h_.1))))) (bZ (by repeat (first | (with_reducible first | exact HB.out | apply ea | apply en | apply ed | refine es ?_ GE571.out | refine es ?_ GE572.out | refine es ?_ GE587.out | refine es ?_ GE593.out) | exact HB.out)))); have n5_ := aM (bB (g := gb571) (o := .cells #[.string a0_0, .slice A0_1 l0_1.length c0_1] 24 (0, 0)) (by (with_reducible repeat (first | apply qn | apply qd | apply qa)); refine bR ?_ NB571_593.out _; (with_reducible repeat (first | apply qn | apply qd | apply qa)); refine bR ?_ NB571_593.out _; exact qy BK571.out) hb); have n6_ := aM (bB (g := gb572) (o := .cells #[.int .i64 a2_0, .int .i64 a2_1, .string a2_2, .string a2_3, .bool true] 28 (0, 0)) (by (with_reducible repeat (first | apply qn | apply qd | apply qa)); refine bR ?_ NB572_593.out _; (with_reducible repeat (first | apply qn | apply qd | apply qa)); refine bR ?_ NB572_593.out _; exact qy BK572.out) hb); have n7_ := aM (bB (g := gb587) (o := .cells #[.int .i64 t576, .string t577, .slice Ao55 t578.length co55, .string t581, .slice Ao56 t582.length co56] 32 (0, 0)) (by (with_reducible repeat (first | apply qn | apply qd | apply qa)); refine bR ?_ NB587_593.out _; (with_reducible repeat (first | apply qn | apply qd | apply qa)); refine bR ?_ NB587_593.out _; exact qy BK587.out) hb); have n8_ := aM (bB (g := gb593) (o := .cells #[.string t588, .slice Ao64 t589.length co64] 24 (0, 0)) (by (with_reducible repeat (first | apply qn | apply qd | apply qa)); refine bU (cs := #[.string t588, .slice none 0 0]) ?_ 1 _ rfl; (with_reducible repeat (first | apply qn | apply qd | apply qa)); refine bU (cs := #[.string (⟨#[]⟩ : ByteArray), .slice none 0 0]) ?_ 0 _ rfl; exact qy BK593.out) hb); have n9_ := aM (bP (by repeat (first | (with_reducible first | exact HB.out | apply ea | apply en | apply ed | refine es ?_ GE571.out | refine es ?_ GE572.out | refine es ?_ GE587.out | refine es ?_ GE593.out) | exact HB.out)) hb); clear HO580 HO584 HO591 BK571 BK572 BK587 BK593 HB; have HO580 := n0_; have HO584 := n1_; have HO591 := n2_; have HO598 := n3_; have HO602 := n4_; have BK571 := n5_; have BK572 := n6_; have BK587 := n7_; have BK593 := n8_; have HB := n9_; clear n0_ n1_ n2_ n3_ n4_ n5_ n6_ n7_ n8_ n9_; (try clear hb); (try clear hb2); (try clear hk); (try clear hi); (try clear ho0); (try clear ho1)) | ((with_reducible refine gate_dst (N := 12) rfl ?_); (try (refine gate_guard (by rfl) ?_; dsimp only)); refine box_event ?hg (N := 12) ?hd (cs := #[.int .i64 0, .string (⟨#[]⟩ : ByteArray), .slice none 0 0, .string (⟨#[]⟩ : ByteArray), .slice none 0 0]) (t := 32) ?hr ?_; (case hd | hg => rfl); (case hr => first | (go_simp; done) | (go_simp; rfl)); intro gb605 hg w67 hbox hb; have n0_ := aM (Kd.R_below (ry HO580.out) hb); have n1_ := aM (Kd.R_below (ry HO584.out) hb); have n2_ := aM (Kd.R_below (ry HO591.out) hb); have n3_ := aM (Kd.R_below (ry HO598.out) hb); have n4_ := aM (Kd.R_below (ry HO602.out) hb); have n5_ := aM (bB (g := gb571) (qy BK571.out) hb); have n6_ := aM (bB (g := gb572) (qy BK572.out) hb); have n7_ := aM (bB (g := gb587) (qy BK587.out) hb); have n8_ := aM (bB (g := gb593) (qy BK593.out) hb); have n9_ := aM (bP (by repeat (first | (with_reducible first | exact HB.out | apply ea | apply en | apply ed | refine es ?_ GE571.out | refine es ?_ GE572.out | refine es ?_ GE587.out | refine es ?_ GE593.out) | exact HB.out)) hb); have n10_ := aM (hbox); have n11_ := aM ((by rw [hg]; exact (bZ (by repeat (first | (with_reducible first | exact HB.out | apply ea | apply en | apply ed | refine es ?_ GE571.out | refine es ?_ GE572.out | refine es ?_ GE587.out | refine es ?_ GE593.out) | exact HB.out))) : w.heap.size ≤ gb605)); have n12_ := n11_; have n13_ := aM ((by rw [hg]; exact Nat.ne_of_lt (blk_lt (g := gb571) (qy BK571.out)) : gb571 ≠ gb605)); have n14_ := aM ((by rw [hg]; exact Nat.ne_of_gt (blk_lt (g := gb571) (qy BK571.out)) : gb605 ≠ gb571)); have n15_ := aM ((by rw [hg]; exact Nat.ne_of_lt (blk_lt (g := gb572) (qy BK572.out)) : gb572 ≠ gb605)); have n16_ := aM ((by rw [hg]; exact Nat.ne_of_gt (blk_lt (g := gb572) (qy BK572.out)) : gb605 ≠ gb572)); have n17_ := aM ((by rw [hg]; exact Nat.ne_of_lt (blk_lt (g := gb587) (qy BK587.out)) : gb587 ≠ gb605)); have n18_ := aM ((by rw [hg]; exact Nat.ne_of_gt (blk_lt (g := gb587) (qy BK587.out)) : gb605 ≠ gb587)); have n19_ := aM ((by rw [hg]; exact Nat.ne_of_lt (blk_lt (g := gb593) (qy BK593.out)) : gb593 ≠ gb605)); have n20_ := aM ((by rw [hg]; exact Nat.ne_of_gt (blk_lt (g := gb593) (qy BK593.out)) : gb605 ≠ gb593)); clear HO580 HO584 HO591 HO598 HO602 BK571 BK572 BK587 BK593 HB; have HO580 := n0_; have HO584 := n1_; have HO591 := n2_; have HO598 := n3_; have HO602 := n4_; have BK571 := n5_; have BK572 := n6_; have BK587 := n7_; have BK593 := n8_; have HB := n9_; have BK605 := n10_; have GW605 := n11_; have GE605 := n12_; have NB571_605 := n13_; have NB605_571 := n14_; have NB572_605 := n15_; have NB605_572 := n16_; have NB587_605 := n17_; have NB605_587 := n18_; have NB593_605 := n19_; have NB605_593 := n20_; clear n0_ n1_ n2_ n3_ n4_ n5_ n6_ n7_ n8_ n9_ n10_ n11_ n12_ n13_ n14_ n15_ n16_ n17_ n18_ n19_ n20_; clear hb hbox hg; have hnb68 := NB605_571.out; have hnc68 := NB571_605.out; have hnb69 := NB605_572.out; have hnc69 := NB572_605.out; have hnb70 := NB605_587.out; have hnc70 := NB587_605.out; have hnb71 := NB605_593.out; have hnc71 := NB593_605.out; have hcz72_0 : w67.cell? ⟨gb605, 0, none⟩ = some (.int .i64 0) := (bC BK605.out 0).trans rfl; have hcz72_1 : w67.cell? ⟨gb605, 1, none⟩ = some (.string (⟨#[]⟩ : ByteArray)) := (bC BK605.out 1).trans rfl; have hcz72_2 : w67.cell? ⟨gb605, 2, none⟩ = some (.slice none 0 0) := (bC BK605.out 2).trans rfl; have hcz72_3 : w67.cell? ⟨gb605, 3, none⟩ = some (.string (⟨#[]⟩ : ByteArray)) := (bC BK605.out 3).trans rfl; have hcz72_4 : w67.cell? ⟨gb605, 4, none⟩ = some (.slice none 0 0) := (bC BK605.out 4).trans rfl; have hfz72_0 := bF BK605.out 0; have hfz72_1 := bF BK605.out 1; have hfz72_2 := bF BK605.out 2; have hfz72_3 := bF BK605.out 3; have hfz72_4 := bF BK605.out 4; obtain ⟨Ao73, co73, eo73⟩ := Kd.R_slice HO598.out; subst eo73; obtain ⟨Ao74, co74, eo74⟩ := Kd.R_slice HO602.out; subst eo74))
       go_ret
       exact ⟨by first | rfl | (simp [errW_none, errW_some] <;> rfl) | (simp [*, errW_none, errW_some] <;> rfl), by repeat (first | (with_reducible first | exact HB.out | apply ea | apply en | apply ed | refine es ?_ GE571.out | refine es ?_ GE572.out | refine es ?_ GE587.out | refine es ?_ GE593.out | refine es ?_ GE605.out) | exact HB.out)⟩
      ·rw [if_neg c46] at H
       have c46b0 : (t592 == 0) = false := beq_eq_false_iff_ne.mpr c46
       have c46b1 : (t592 != 0) = true := bne_iff_ne.mpr c46
       obtain rfl := Option.some.inj H
       have hnb75 := NB572_571.out
       have hnc75 := NB571_572.out
       have hcz76_0 : wc.cell? ⟨gb572, 0, none⟩ = some (.int .i64 a2_0) := (bC BK572.out 0).trans rfl
       have hcz76_1 : wc.cell? ⟨gb572, 1, none⟩ = some (.int .i64 a2_1) := (bC BK572.out 1).trans rfl
       have hcz76_2 : wc.cell? ⟨gb572, 2, none⟩ = some (.string a2_2) := (bC BK572.out 2).trans rfl
       have hcz76_3 : wc.cell? ⟨gb572, 3, none⟩ = some (.string a2_3) := (bC BK572.out 3).trans rfl
       have hcz76_4 : wc.cell? ⟨gb572, 4, none⟩ = some (.bool a2_4) := (bC BK572.out 4).trans rfl
       have hfz76_0 := bF BK572.out 0
       have hfz76_1 := bF BK572.out 1
       have hfz76_2 := bF BK572.out 2
       have hfz76_3 := bF BK572.out 3
       have hfz76_4 := bF BK572.out 4
       have hcz77_0 : wc.cell? ⟨gb571, 0, none⟩ = some (.string a0_0) := (bC BK571.out 0).trans rfl
       have hcz77_1 : wc.cell? ⟨gb571, 1, none⟩ = some (.slice A0_1 l0_1.length c0_1) := (bC BK571.out 1).trans rfl
       have hfz77_0 := bF BK571.out 0
       have hfz77_1 := bF BK571.out 1
       go_wp2_with (first | ((with_reducible refine gate_callee (f := 10) rfl ?_); refine goesL_ (some 52) rfl rfl Try.func10 (by kernel_rfl) rfl #[.agg #[.string a0_0, .slice A0_1 l0_1.length c0_1], .int .u64 a1, .agg #[.int .i64 a2_0, .int .i64 a2_1, .string a2_2, .string a2_3, .bool true]] rfl (by (try simp only [mT, mC, mN]); first | done | rfl | (simp only [lD, lT]; rfl)) ?_; (with_reducible refine (subst_Do.calls kj5 a0_0 _ _ l0_1 a1 a2_0 a2_1 a2_2 a2_3 true t576 t577 t578 t581 t582 t585 t586 _ ?mx37 ?side1 ?side2 A42.out).mono ?_); (case mx37 => exact MaxOk.below HMX.out (by repeat (first | (with_reducible first | exact HB.out | apply ea | apply en | apply ed | refine es ?_ GE571.out | refine es ?_ GE572.out) | exact HB.out))); (case side1 => exact cB_ HR0_1.out (by repeat (first | (with_reducible first | exact HB.out | apply ea | apply en | apply ed | refine es ?_ GE571.out | refine es ?_ GE572.out) | exact HB.out))); (case side2 => exact HC0_1.out); rintro e w78 ⟨v579, v583, rfl, ho0, ho1, hb⟩; refine ⟨_, rfl, ?_⟩; have n0_ := aM (rL ho0 (bZ (by repeat (first | (with_reducible first | exact HB.out | apply ea | apply en | apply ed | refine es ?_ GE571.out | refine es ?_ GE572.out) | exact HB.out)))); have n1_ := aM (rL ho1 (bZ (by repeat (first | (with_reducible first | exact HB.out | apply ea | apply en | apply ed | refine es ?_ GE571.out | refine es ?_ GE572.out) | exact HB.out)))); have n2_ := aM (bB (g := gb571) (o := .cells #[.string a0_0, .slice A0_1 l0_1.length c0_1] 24 (0, 0)) (by (with_reducible repeat (first | apply qn | apply qd | apply qa)); refine bR ?_ NB571_572.out _; exact qy BK571.out) hb); have n3_ := aM (bB (g := gb572) (o := .cells #[.int .i64 a2_0, .int .i64 a2_1, .string a2_2, .string a2_3, .bool true] 28 (0, 0)) (by (with_reducible repeat (first | apply qn | apply qd | apply qa)); refine bU (cs := #[.int .i64 a2_0, .int .i64 a2_1, .string a2_2, .string a2_3, .bool a2_4]) ?_ 4 _ rfl; exact qy BK572.out) hb); have n4_ := aM (bP (by repeat (first | (with_reducible first | exact HB.out | apply ea | apply en | apply ed | refine es ?_ GE571.out | refine es ?_ GE572.out) | exact HB.out)) hb); clear BK571 BK572 HB; have HO580 := n0_; have HO584 := n1_; have BK571 := n2_; have BK572 := n3_; have HB := n4_; clear n0_ n1_ n2_ n3_ n4_; (try clear hb); (try clear hb2); (try clear hk); (try clear hi); (try clear ho0); (try clear ho1)) | ((with_reducible refine gate_dst (N := 7) rfl ?_); (try (refine gate_guard (by rfl) ?_; dsimp only)); refine box_event ?hg (N := 7) ?hd (cs := #[.int .i64 0, .string (⟨#[]⟩ : ByteArray), .slice none 0 0, .string (⟨#[]⟩ : ByteArray), .slice none 0 0]) (t := 32) ?hr ?_; (case hd | hg => rfl); (case hr => first | (go_simp; done) | (go_simp; rfl)); intro gb587 hg w79 hbox hb; have n0_ := aM (Kd.R_below (ry HO580.out) hb); have n1_ := aM (Kd.R_below (ry HO584.out) hb); have n2_ := aM (bB (g := gb571) (qy BK571.out) hb); have n3_ := aM (bB (g := gb572) (qy BK572.out) hb); have n4_ := aM (bP (by repeat (first | (with_reducible first | exact HB.out | apply ea | apply en | apply ed | refine es ?_ GE571.out | refine es ?_ GE572.out) | exact HB.out)) hb); have n5_ := aM (hbox); have n6_ := aM ((by rw [hg]; exact (bZ (by repeat (first | (with_reducible first | exact HB.out | apply ea | apply en | apply ed | refine es ?_ GE571.out | refine es ?_ GE572.out) | exact HB.out))) : w.heap.size ≤ gb587)); have n7_ := n6_; have n8_ := aM ((by rw [hg]; exact Nat.ne_of_lt (blk_lt (g := gb571) (qy BK571.out)) : gb571 ≠ gb587)); have n9_ := aM ((by rw [hg]; exact Nat.ne_of_gt (blk_lt (g := gb571) (qy BK571.out)) : gb587 ≠ gb571)); have n10_ := aM ((by rw [hg]; exact Nat.ne_of_lt (blk_lt (g := gb572) (qy BK572.out)) : gb572 ≠ gb587)); have n11_ := aM ((by rw [hg]; exact Nat.ne_of_gt (blk_lt (g := gb572) (qy BK572.out)) : gb587 ≠ gb572)); clear HO580 HO584 BK571 BK572 HB; have HO580 := n0_; have HO584 := n1_; have BK571 := n2_; have BK572 := n3_; have HB := n4_; have BK587 := n5_; have GW587 := n6_; have GE587 := n7_; have NB571_587 := n8_; have NB587_571 := n9_; have NB572_587 := n10_; have NB587_572 := n11_; clear n0_ n1_ n2_ n3_ n4_ n5_ n6_ n7_ n8_ n9_ n10_ n11_; clear hb hbox hg; have hnb80 := NB587_571.out; have hnc80 := NB571_587.out; have hnb81 := NB587_572.out; have hnc81 := NB572_587.out; have hcz82_0 : w79.cell? ⟨gb587, 0, none⟩ = some (.int .i64 0) := (bC BK587.out 0).trans rfl; have hcz82_1 : w79.cell? ⟨gb587, 1, none⟩ = some (.string (⟨#[]⟩ : ByteArray)) := (bC BK587.out 1).trans rfl; have hcz82_2 : w79.cell? ⟨gb587, 2, none⟩ = some (.slice none 0 0) := (bC BK587.out 2).trans rfl; have hcz82_3 : w79.cell? ⟨gb587, 3, none⟩ = some (.string (⟨#[]⟩ : ByteArray)) := (bC BK587.out 3).trans rfl; have hcz82_4 : w79.cell? ⟨gb587, 4, none⟩ = some (.slice none 0 0) := (bC BK587.out 4).trans rfl; have hfz82_0 := bF BK587.out 0; have hfz82_1 := bF BK587.out 1; have hfz82_2 := bF BK587.out 2; have hfz82_3 := bF BK587.out 3; have hfz82_4 := bF BK587.out 4; obtain ⟨Ao83, co83, eo83⟩ := Kd.R_slice HO580.out; subst eo83; obtain ⟨Ao84, co84, eo84⟩ := Kd.R_slice HO584.out; subst eo84; have hcz85_0 : w79.cell? ⟨gb571, 0, none⟩ = some (.string a0_0) := (bC BK571.out 0).trans rfl; have hcz85_1 : w79.cell? ⟨gb571, 1, none⟩ = some (.slice A0_1 l0_1.length c0_1) := (bC BK571.out 1).trans rfl; have hfz85_0 := bF BK571.out 0; have hfz85_1 := bF BK571.out 1) | ((with_reducible refine gate_callee (f := 14) rfl ?_); refine goesL_ (some 61) rfl rfl Try.func14 (by kernel_rfl) rfl #[.agg #[.string a0_0, .slice A0_1 l0_1.length c0_1], .agg #[.int .i64 t576, .string t577, .slice Ao83 t578.length co83, .string t581, .slice Ao84 t582.length co84]] rfl (by (try simp only [mT, mC, mN]); first | done | rfl | (simp only [lD, lT]; rfl)) ?_; (with_reducible refine (bureauref07_Apply.calls kj5 a0_0 _ _ l0_1 t576 t577 _ _ t578 t581 _ _ t582 t588 t589 t592 _ ?side1 ?side2 ?side3 ?side4 ?side5 ?side6 A44.out).mono ?_); (case side1 => exact cB_ HR0_1.out (by repeat (first | (with_reducible first | exact HB.out | apply ea | apply en | apply ed | refine es ?_ GE571.out | refine es ?_ GE572.out | refine es ?_ GE587.out) | exact HB.out))); (case side2 => exact HC0_1.out); (case side3 => refine (rR (e := 51) (base := w.heap.size) (ok := fun k_ => some k_ ≠ (.slice Ao84 t582.length co84 : Value).ownBlock) (n := t578.length) (c := co83) ?_).2.2; exact (by (with_reducible repeat (first | apply ra | apply rn | apply rd_)); exact (rM (rF (p := ⟨gb587, 4, none⟩) (rF (p := ⟨gb587, 3, none⟩) (rF (p := ⟨gb587, 2, none⟩) (rF (p := ⟨gb587, 1, none⟩) (rF (p := ⟨gb587, 0, none⟩) (rT HO580.out BK587.out (by decide)) (fun _ hk => hk.2) (.int .i64 t576)) (fun _ hk => hk.2) (.string t577)) (fun _ hk => hk.2) (.slice Ao83 t578.length co83)) (fun _ hk => hk.2) (.string t581)) (fun _ hk => hk.2) (.slice Ao84 t582.length co84)) (fun _ h_ => h_.1)))); (case side4 => exact (rR HO580.out).2.1); (case side5 => refine (rR (e := 51) (base := w.heap.size) (ok := fun k_ => some k_ ≠ (.slice Ao83 t578.length co83 : Value).ownBlock) (n := t582.length) (c := co84) ?_).2.2; exact (by (with_reducible repeat (first | apply ra | apply rn | apply rd_)); exact (rM (rF (p := ⟨gb587, 4, none⟩) (rF (p := ⟨gb587, 3, none⟩) (rF (p := ⟨gb587, 2, none⟩) (rF (p := ⟨gb587, 1, none⟩) (rF (p := ⟨gb587, 0, none⟩) (rT HO584.out BK587.out (by decide)) (fun _ hk => hk.2) (.int .i64 t576)) (fun _ hk => hk.2) (.string t577)) (fun _ hk => hk.2) (.slice Ao83 t578.length co83)) (fun _ hk => hk.2) (.string t581)) (fun _ hk => hk.2) (.slice Ao84 t582.length co84)) (fun _ h_ => h_.1)))); (case side6 => exact (rR HO584.out).2.1); rintro e w86 ⟨v590, rfl, ho0, hb⟩; refine ⟨_, rfl, ?_⟩; have n0_ := aM (rE (by (with_reducible repeat (first | apply ra | apply rn | apply rd_)); exact (rM (rF (p := ⟨gb587, 4, none⟩) (rF (p := ⟨gb587, 3, none⟩) (rF (p := ⟨gb587, 2, none⟩) (rF (p := ⟨gb587, 1, none⟩) (rF (p := ⟨gb587, 0, none⟩) (rT HO580.out BK587.out (by decide)) (fun _ hk => hk.2) (.int .i64 t576)) (fun _ hk => hk.2) (.string t577)) (fun _ hk => hk.2) (.slice Ao83 t578.length co83)) (fun _ hk => hk.2) (.string t581)) (fun _ hk => hk.2) (.slice Ao84 t582.length co84)) (fun _ h_ => h_.1))) (Kd.R_base ho0) hb); have n1_ := aM (rE (by (with_reducible repeat (first | apply ra | apply rn | apply rd_)); exact (rM (rF (p := ⟨gb587, 4, none⟩) (rF (p := ⟨gb587, 3, none⟩) (rF (p := ⟨gb587, 2, none⟩) (rF (p := ⟨gb587, 1, none⟩) (rF (p := ⟨gb587, 0, none⟩) (rT HO584.out BK587.out (by decide)) (fun _ hk => hk.2) (.int .i64 t576)) (fun _ hk => hk.2) (.string t577)) (fun _ hk => hk.2) (.slice Ao83 t578.length co83)) (fun _ hk => hk.2) (.string t581)) (fun _ hk => hk.2) (.slice Ao84 t582.length co84)) (fun _ h_ => h_.1))) (Kd.R_base ho0) hb); have n2_ := aM (rL (Kd.R_new' (Kd.R_new' ho0 (Kd.R_lt (by (with_reducible repeat (first | apply ra | apply rn | apply rd_)); exact (rM (rF (p := ⟨gb587, 4, none⟩) (rF (p := ⟨gb587, 3, none⟩) (rF (p := ⟨gb587, 2, none⟩) (rF (p := ⟨gb587, 1, none⟩) (rF (p := ⟨gb587, 0, none⟩) (rT HO580.out BK587.out (by decide)) (fun _ hk => hk.2) (.int .i64 t576)) (fun _ hk => hk.2) (.string t577)) (fun _ hk => hk.2) (.slice Ao83 t578.length co83)) (fun _ hk => hk.2) (.string t581)) (fun _ hk => hk.2) (.slice Ao84 t582.length co84)) (fun _ h_ => h_.1))))) (Kd.R_lt (by (with_reducible repeat (first | apply ra | apply rn | apply rd_)); exact (rM (rF (p := ⟨gb587, 4, none⟩) (rF (p := ⟨gb587, 3, none⟩) (rF (p := ⟨gb587, 2, none⟩) (rF (p := ⟨gb587, 1, none⟩) (rF (p := ⟨gb587, 0, none⟩) (rT HO584.out BK587.out (by decide)) (fun _ hk => hk.2) (.int .i64 t576)) (fun _ hk => hk.2) (.string t577)) (fun _ hk => hk.2) (.slice Ao83 t578.length co83)) (fun _ hk => hk.2) (.string t581)) (fun _ hk => hk.2) (.slice Ao84 t582.length co84)) (fun _ h_ => h_.1))))) (bZ (by repeat (first | (with_reducible first | exact HB.out | apply ea | apply en | apply ed | refine es ?_ GE571.out | refine es ?_ GE572.out | refine es ?_ GE587.out) | exact HB.out)))); have n3_ := aM (bB (g := gb571) (o := .cells #[.string a0_0, .slice A0_1 l0_1.length c0_1] 24 (0, 0)) (by (with_reducible repeat (first | apply qn | apply qd | apply qa)); refine bR ?_ NB571_587.out _; (with_reducible repeat (first | apply qn | apply qd | apply qa)); refine bR ?_ NB571_587.out _; (with_reducible repeat (first | apply qn | apply qd | apply qa)); refine bR ?_ NB571_587.out _; (with_reducible repeat (first | apply qn | apply qd | apply qa)); refine bR ?_ NB571_587.out _; (with_reducible repeat (first | apply qn | apply qd | apply qa)); refine bR ?_ NB571_587.out _; exact qy BK571.out) hb); have n4_ := aM (bB (g := gb572) (o := .cells #[.int .i64 a2_0, .int .i64 a2_1, .string a2_2, .string a2_3, .bool true] 28 (0, 0)) (by (with_reducible repeat (first | apply qn | apply qd | apply qa)); refine bR ?_ NB572_587.out _; (with_reducible repeat (first | apply qn | apply qd | apply qa)); refine bR ?_ NB572_587.out _; (with_reducible repeat (first | apply qn | apply qd | apply qa)); refine bR ?_ NB572_587.out _; (with_reducible repeat (first | apply qn | apply qd | apply qa)); refine bR ?_ NB572_587.out _; (with_reducible repeat (first | apply qn | apply qd | apply qa)); refine bR ?_ NB572_587.out _; exact qy BK572.out) hb); have n5_ := aM (bB (g := gb587) (o := .cells #[.int .i64 t576, .string t577, .slice Ao83 t578.length co83, .string t581, .slice Ao84 t582.length co84] 32 (0, 0)) (by (with_reducible repeat (first | apply qn | apply qd | apply qa)); refine bU (cs := #[.int .i64 t576, .string t577, .slice Ao83 t578.length co83, .string t581, .slice none 0 0]) ?_ 4 _ rfl; (with_reducible repeat (first | apply qn | apply qd | apply qa)); refine bU (cs := #[.int .i64 t576, .string t577, .slice Ao83 t578.length co83, .string (⟨#[]⟩ : ByteArray), .slice none 0 0]) ?_ 3 _ rfl; (with_reducible repeat (first | apply qn | apply qd | apply qa)); refine bU (cs := #[.int .i64 t576, .string t577, .slice none 0 0, .string (⟨#[]⟩ : ByteArray), .slice none 0 0]) ?_ 2 _ rfl; (with_reducible repeat (first | apply qn | apply qd | apply qa)); refine bU (cs := #[.int .i64 t576, .string (⟨#[]⟩ : ByteArray), .slice none 0 0, .string (⟨#[]⟩ : ByteArray), .slice none 0 0]) ?_ 1 _ rfl; (with_reducible repeat (first | apply qn | apply qd | apply qa)); refine bU (cs := #[.int .i64 0, .string (⟨#[]⟩ : ByteArray), .slice none 0 0, .string (⟨#[]⟩ : ByteArray), .slice none 0 0]) ?_ 0 _ rfl; exact qy BK587.out) hb); have n6_ := aM (bP (by repeat (first | (with_reducible first | exact HB.out | apply ea | apply en | apply ed | refine es ?_ GE571.out | refine es ?_ GE572.out | refine es ?_ GE587.out) | exact HB.out)) hb); clear HO580 HO584 BK571 BK572 BK587 HB; have HO580 := n0_; have HO584 := n1_; have HO591 := n2_; have BK571 := n3_; have BK572 := n4_; have BK587 := n5_; have HB := n6_; clear n0_ n1_ n2_ n3_ n4_ n5_ n6_; (try clear hb); (try clear hb2); (try clear hk); (try clear hi); (try clear ho0)) | ((with_reducible refine gate_dst (N := 10) rfl ?_); (try (refine gate_guard (by rfl) ?_; dsimp only)); refine box_event ?hg (N := 10) ?hd (cs := #[.string (⟨#[]⟩ : ByteArray), .slice none 0 0]) (t := 24) ?hr ?_; (case hd | hg => rfl); (case hr => first | (go_simp; done) | (go_simp; rfl)); intro gb593 hg w87 hbox hb; have n0_ := aM (Kd.R_below (ry HO580.out) hb); have n1_ := aM (Kd.R_below (ry HO584.out) hb); have n2_ := aM (Kd.R_below (ry HO591.out) hb); have n3_ := aM (bB (g := gb571) (qy BK571.out) hb); have n4_ := aM (bB (g := gb572) (qy BK572.out) hb); have n5_ := aM (bB (g := gb587) (qy BK587.out) hb); have n6_ := aM (bP (by repeat (first | (with_reducible first | exact HB.out | apply ea | apply en | apply ed | refine es ?_ GE571.out | refine es ?_ GE572.out | refine es ?_ GE587.out) | exact HB.out)) hb); have n7_ := aM (hbox); have n8_ := aM ((by rw [hg]; exact (bZ (by repeat (first | (with_reducible first | exact HB.out | apply ea | apply en | apply ed | refine es ?_ GE571.out | refine es ?_ GE572.out | refine es ?_ GE587.out) | exact HB.out))) : w.heap.size ≤ gb593)); have n9_ := n8_; have n10_ := aM ((by rw [hg]; exact Nat.ne_of_lt (blk_lt (g := gb571) (qy BK571.out)) : gb571 ≠ gb593)); have n11_ := aM ((by rw [hg]; exact Nat.ne_of_gt (blk_lt (g := gb571) (qy BK571.out)) : gb593 ≠ gb571)); have n12_ := aM ((by rw [hg]; exact Nat.ne_of_lt (blk_lt (g := gb572) (qy BK572.out)) : gb572 ≠ gb593)); have n13_ := aM ((by rw [hg]; exact Nat.ne_of_gt (blk_lt (g := gb572) (qy BK572.out)) : gb593 ≠ gb572)); have n14_ := aM ((by rw [hg]; exact Nat.ne_of_lt (blk_lt (g := gb587) (qy BK587.out)) : gb587 ≠ gb593)); have n15_ := aM ((by rw [hg]; exact Nat.ne_of_gt (blk_lt (g := gb587) (qy BK587.out)) : gb593 ≠ gb587)); clear HO580 HO584 HO591 BK571 BK572 BK587 HB; have HO580 := n0_; have HO584 := n1_; have HO591 := n2_; have BK571 := n3_; have BK572 := n4_; have BK587 := n5_; have HB := n6_; have BK593 := n7_; have GW593 := n8_; have GE593 := n9_; have NB571_593 := n10_; have NB593_571 := n11_; have NB572_593 := n12_; have NB593_572 := n13_; have NB587_593 := n14_; have NB593_587 := n15_; clear n0_ n1_ n2_ n3_ n4_ n5_ n6_ n7_ n8_ n9_ n10_ n11_ n12_ n13_ n14_ n15_; clear hb hbox hg; have hnb88 := NB593_571.out; have hnc88 := NB571_593.out; have hnb89 := NB593_572.out; have hnc89 := NB572_593.out; have hnb90 := NB593_587.out; have hnc90 := NB587_593.out; have hcz91_0 : w87.cell? ⟨gb593, 0, none⟩ = some (.string (⟨#[]⟩ : ByteArray)) := (bC BK593.out 0).trans rfl; have hcz91_1 : w87.cell? ⟨gb593, 1, none⟩ = some (.slice none 0 0) := (bC BK593.out 1).trans rfl; have hfz91_0 := bF BK593.out 0; have hfz91_1 := bF BK593.out 1; obtain ⟨Ao92, co92, eo92⟩ := Kd.R_slice HO591.out; subst eo92; have hcz93_0 : w87.cell? ⟨gb572, 0, none⟩ = some (.int .i64 a2_0) := (bC BK572.out 0).trans rfl; have hcz93_1 : w87.cell? ⟨gb572, 1, none⟩ = some (.int .i64 a2_1) := (bC BK572.out 1).trans rfl; have hcz93_2 : w87.cell? ⟨gb572, 2, none⟩ = some (.string a2_2) := (bC BK572.out 2).trans rfl; have hcz93_3 : w87.cell? ⟨gb572, 3, none⟩ = some (.string a2_3) := (bC BK572.out 3).trans rfl; have hcz93_4 : w87.cell? ⟨gb572, 4, none⟩ = some (.bool true) := (bC BK572.out 4).trans rfl; have hfz93_0 := bF BK572.out 0; have hfz93_1 := bF BK572.out 1; have hfz93_2 := bF BK572.out 2; have hfz93_3 := bF BK572.out 3; have hfz93_4 := bF BK572.out 4) | ((with_reducible refine gate_callee (f := 10) rfl ?_); refine goesL_ (some 68) rfl rfl Try.func10 (by kernel_rfl) rfl #[.agg #[.string t588, .slice Ao92 t589.length co92], .int .u64 a1, .agg #[.int .i64 a2_0, .int .i64 a2_1, .string a2_2, .string a2_3, .bool true]] rfl (by (try simp only [mT, mC, mN]); first | done | rfl | (simp only [lD, lT]; rfl)) ?_; (with_reducible refine (subst_Do.calls kj5 t588 _ _ t589 a1 a2_0 a2_1 a2_2 a2_3 true t594 t595 t596 t599 t600 t603 t604 _ ?mx38 ?side1 ?side2 A45.out).mono ?_); (case mx38 => exact MaxOk.below HMX.out (by repeat (first | (with_reducible first | exact HB.out | apply ea | apply en | apply ed | refine es ?_ GE571.out | refine es ?_ GE572.out | refine es ?_ GE587.out | refine es ?_ GE593.out) | exact HB.out))); (case side1 => refine (rR (e := 51) (base := w.heap.size) (ok := fun k_ => ((True ∧ some k_ ≠ (.slice Ao83 t578.length co83 : Value).ownBlock) ∧ some k_ ≠ (.slice Ao84 t582.length co84 : Value).ownBlock)) (n := t589.length) (c := co92) ?_).2.2; exact (by (with_reducible repeat (first | apply ra | apply rn | apply rd_)); exact (rM (rF (p := ⟨gb593, 1, none⟩) (rF (p := ⟨gb593, 0, none⟩) (rT HO591.out BK593.out (by decide)) (fun _ hk => hk.2) (.string t588)) (fun _ hk => hk.2) (.slice Ao92 t589.length co92)) (fun _ h_ => h_.1)))); (case side2 => exact (rR HO591.out).2.1); rintro e w94 ⟨v597, v601, rfl, ho0, ho1, hb⟩; refine ⟨_, rfl, ?_⟩; have n0_ := aM (rM (Kd.R_told (Kd.R_told (Kd.R_old (by (with_reducible repeat (first | apply ra | apply rn | apply rd_)); exact (rM (rF (p := ⟨gb593, 1, none⟩) (rF (p := ⟨gb593, 0, none⟩) (rT HO580.out BK593.out (by decide)) (fun _ hk => hk.2) (.string t588)) (fun _ hk => hk.2) (.slice Ao92 t589.length co92)) (fun _ h_ => h_.1))) hb) (Kd.R_base ho0)) (Kd.R_base ho1)) (fun _ h_ => h_.1)); have n1_ := aM (rM (Kd.R_told (Kd.R_told (Kd.R_old (by (with_reducible repeat (first | apply ra | apply rn | apply rd_)); exact (rM (rF (p := ⟨gb593, 1, none⟩) (rF (p := ⟨gb593, 0, none⟩) (rT HO584.out BK593.out (by decide)) (fun _ hk => hk.2) (.string t588)) (fun _ hk => hk.2) (.slice Ao92 t589.length co92)) (fun _ h_ => h_.1))) hb) (Kd.R_base ho0)) (Kd.R_base ho1)) (fun _ h_ => h_.1)); have n2_ := aM (rM (Kd.R_told (Kd.R_told (Kd.R_old (by (with_reducible repeat (first | apply ra | apply rn | apply rd_)); exact (rM (rF (p := ⟨gb593, 1, none⟩) (rF (p := ⟨gb593, 0, none⟩) (rT HO591.out BK593.out (by decide)) (fun _ hk => hk.2) (.string t588)) (fun _ hk => hk.2) (.slice Ao92 t589.length co92)) (fun _ h_ => h_.1))) hb) (Kd.R_base ho0)) (Kd.R_base ho1)) (fun _ h_ => h_.1)); have n3_ := aM (rL (Kd.R_new' (Kd.R_new' (Kd.R_new' ho0 (Kd.R_lt (by (with_reducible repeat (first | apply ra | apply rn | apply rd_)); exact (rM (rF (p := ⟨gb593, 1, none⟩) (rF (p := ⟨gb593, 0, none⟩) (rT HO580.out BK593.out (by decide)) (fun _ hk => hk.2) (.string t588)) (fun _ hk => hk.2) (.slice Ao92 t589.length co92)) (fun _ h_ => h_.1))))) (Kd.R_lt (by (with_reducible repeat (first | apply ra | apply rn | apply rd_)); exact (rM (rF (p := ⟨gb593, 1, none⟩) (rF (p := ⟨gb593, 0, none⟩) (rT HO584.out BK593.out (by decide)) (fun _ hk => hk.2) (.string t588)) (fun _ hk => hk.2) (.slice Ao92 t589.length co92)) (fun _ h_ => h_.1))))) (Kd.R_lt (by (with_reducible repeat (first | apply ra | apply rn | apply rd_)); exact (rM (rF (p := ⟨gb593, 1, none⟩) (rF (p := ⟨gb593, 0, none⟩) (rT HO591.out BK593.out (by decide)) (fun _ hk => hk.2) (.string t588)) (fun _ hk => hk.2) (.slice Ao92 t589.length co92)) (fun _ h_ => h_.1))))) (bZ (by repeat (first | (with_reducible first | exact HB.out | apply ea | apply en | apply ed | refine es ?_ GE571.out | refine es ?_ GE572.out | refine es ?_ GE587.out | refine es ?_ GE593.out) | exact HB.out)))); have n4_ := aM (rL (Kd.R_new' (Kd.R_new' (Kd.R_new' ho1 (Kd.R_lt (by (with_reducible repeat (first | apply ra | apply rn | apply rd_)); exact (rM (rF (p := ⟨gb593, 1, none⟩) (rF (p := ⟨gb593, 0, none⟩) (rT HO580.out BK593.out (by decide)) (fun _ hk => hk.2) (.string t588)) (fun _ hk => hk.2) (.slice Ao92 t589.length co92)) (fun _ h_ => h_.1))))) (Kd.R_lt (by (with_reducible repeat (first | apply ra | apply rn | apply rd_)); exact (rM (rF (p := ⟨gb593, 1, none⟩) (rF (p := ⟨gb593, 0, none⟩) (rT HO584.out BK593.out (by decide)) (fun _ hk => hk.2) (.string t588)) (fun _ hk => hk.2) (.slice Ao92 t589.length co92)) (fun _ h_ => h_.1))))) (Kd.R_lt (by (with_reducible repeat (first | apply ra | apply rn | apply rd_)); exact (rM (rF (p := ⟨gb593, 1, none⟩) (rF (p := ⟨gb593, 0, none⟩) (rT HO591.out BK593.out (by decide)) (fun _ hk => hk.2) (.string t588)) (fun _ hk => hk.2) (.slice Ao92 t589.length co92)) (fun _ h_ => h_.1))))) (bZ (by repeat (first | (with_reducible first | exact HB.out | apply ea | apply en | apply ed | refine es ?_ GE571.out | refine es ?_ GE572.out | refine es ?_ GE587.out | refine es ?_ GE593.out) | exact HB.out)))); have n5_ := aM (bB (g := gb571) (o := .cells #[.string a0_0, .slice A0_1 l0_1.length c0_1] 24 (0, 0)) (by (with_reducible repeat (first | apply qn | apply qd | apply qa)); refine bR ?_ NB571_593.out _; (with_reducible repeat (first | apply qn | apply qd | apply qa)); refine bR ?_ NB571_593.out _; exact qy BK571.out) hb); have n6_ := aM (bB (g := gb572) (o := .cells #[.int .i64 a2_0, .int .i64 a2_1, .string a2_2, .string a2_3, .bool true] 28 (0, 0)) (by (with_reducible repeat (first | apply qn | apply qd | apply qa)); refine bR ?_ NB572_593.out _; (with_reducible repeat (first | apply qn | apply qd | apply qa)); refine bR ?_ NB572_593.out _; exact qy BK572.out) hb); have n7_ := aM (bB (g := gb587) (o := .cells #[.int .i64 t576, .string t577, .slice Ao83 t578.length co83, .string t581, .slice Ao84 t582.length co84] 32 (0, 0)) (by (with_reducible repeat (first | apply qn | apply qd | apply qa)); refine bR ?_ NB587_593.out _; (with_reducible repeat (first | apply qn | apply qd | apply qa)); refine bR ?_ NB587_593.out _; exact qy BK587.out) hb); have n8_ := aM (bB (g := gb593) (o := .cells #[.string t588, .slice Ao92 t589.length co92] 24 (0, 0)) (by (with_reducible repeat (first | apply qn | apply qd | apply qa)); refine bU (cs := #[.string t588, .slice none 0 0]) ?_ 1 _ rfl; (with_reducible repeat (first | apply qn | apply qd | apply qa)); refine bU (cs := #[.string (⟨#[]⟩ : ByteArray), .slice none 0 0]) ?_ 0 _ rfl; exact qy BK593.out) hb); have n9_ := aM (bP (by repeat (first | (with_reducible first | exact HB.out | apply ea | apply en | apply ed | refine es ?_ GE571.out | refine es ?_ GE572.out | refine es ?_ GE587.out | refine es ?_ GE593.out) | exact HB.out)) hb); clear HO580 HO584 HO591 BK571 BK572 BK587 BK593 HB; have HO580 := n0_; have HO584 := n1_; have HO591 := n2_; have HO598 := n3_; have HO602 := n4_; have BK571 := n5_; have BK572 := n6_; have BK587 := n7_; have BK593 := n8_; have HB := n9_; clear n0_ n1_ n2_ n3_ n4_ n5_ n6_ n7_ n8_ n9_; (try clear hb); (try clear hb2); (try clear hk); (try clear hi); (try clear ho0); (try clear ho1)) | ((with_reducible refine gate_dst (N := 12) rfl ?_); (try (refine gate_guard (by rfl) ?_; dsimp only)); refine box_event ?hg (N := 12) ?hd (cs := #[.int .i64 0, .string (⟨#[]⟩ : ByteArray), .slice none 0 0, .string (⟨#[]⟩ : ByteArray), .slice none 0 0]) (t := 32) ?hr ?_; (case hd | hg => rfl); (case hr => first | (go_simp; done) | (go_simp; rfl)); intro gb605 hg w95 hbox hb; have n0_ := aM (Kd.R_below (ry HO580.out) hb); have n1_ := aM (Kd.R_below (ry HO584.out) hb); have n2_ := aM (Kd.R_below (ry HO591.out) hb); have n3_ := aM (Kd.R_below (ry HO598.out) hb); have n4_ := aM (Kd.R_below (ry HO602.out) hb); have n5_ := aM (bB (g := gb571) (qy BK571.out) hb); have n6_ := aM (bB (g := gb572) (qy BK572.out) hb); have n7_ := aM (bB (g := gb587) (qy BK587.out) hb); have n8_ := aM (bB (g := gb593) (qy BK593.out) hb); have n9_ := aM (bP (by repeat (first | (with_reducible first | exact HB.out | apply ea | apply en | apply ed | refine es ?_ GE571.out | refine es ?_ GE572.out | refine es ?_ GE587.out | refine es ?_ GE593.out) | exact HB.out)) hb); have n10_ := aM (hbox); have n11_ := aM ((by rw [hg]; exact (bZ (by repeat (first | (with_reducible first | exact HB.out | apply ea | apply en | apply ed | refine es ?_ GE571.out | refine es ?_ GE572.out | refine es ?_ GE587.out | refine es ?_ GE593.out) | exact HB.out))) : w.heap.size ≤ gb605)); have n12_ := n11_; have n13_ := aM ((by rw [hg]; exact Nat.ne_of_lt (blk_lt (g := gb571) (qy BK571.out)) : gb571 ≠ gb605)); have n14_ := aM ((by rw [hg]; exact Nat.ne_of_gt (blk_lt (g := gb571) (qy BK571.out)) : gb605 ≠ gb571)); have n15_ := aM ((by rw [hg]; exact Nat.ne_of_lt (blk_lt (g := gb572) (qy BK572.out)) : gb572 ≠ gb605)); have n16_ := aM ((by rw [hg]; exact Nat.ne_of_gt (blk_lt (g := gb572) (qy BK572.out)) : gb605 ≠ gb572)); have n17_ := aM ((by rw [hg]; exact Nat.ne_of_lt (blk_lt (g := gb587) (qy BK587.out)) : gb587 ≠ gb605)); have n18_ := aM ((by rw [hg]; exact Nat.ne_of_gt (blk_lt (g := gb587) (qy BK587.out)) : gb605 ≠ gb587)); have n19_ := aM ((by rw [hg]; exact Nat.ne_of_lt (blk_lt (g := gb593) (qy BK593.out)) : gb593 ≠ gb605)); have n20_ := aM ((by rw [hg]; exact Nat.ne_of_gt (blk_lt (g := gb593) (qy BK593.out)) : gb605 ≠ gb593)); clear HO580 HO584 HO591 HO598 HO602 BK571 BK572 BK587 BK593 HB; have HO580 := n0_; have HO584 := n1_; have HO591 := n2_; have HO598 := n3_; have HO602 := n4_; have BK571 := n5_; have BK572 := n6_; have BK587 := n7_; have BK593 := n8_; have HB := n9_; have BK605 := n10_; have GW605 := n11_; have GE605 := n12_; have NB571_605 := n13_; have NB605_571 := n14_; have NB572_605 := n15_; have NB605_572 := n16_; have NB587_605 := n17_; have NB605_587 := n18_; have NB593_605 := n19_; have NB605_593 := n20_; clear n0_ n1_ n2_ n3_ n4_ n5_ n6_ n7_ n8_ n9_ n10_ n11_ n12_ n13_ n14_ n15_ n16_ n17_ n18_ n19_ n20_; clear hb hbox hg; have hnb96 := NB605_571.out; have hnc96 := NB571_605.out; have hnb97 := NB605_572.out; have hnc97 := NB572_605.out; have hnb98 := NB605_587.out; have hnc98 := NB587_605.out; have hnb99 := NB605_593.out; have hnc99 := NB593_605.out; have hcz100_0 : w95.cell? ⟨gb605, 0, none⟩ = some (.int .i64 0) := (bC BK605.out 0).trans rfl; have hcz100_1 : w95.cell? ⟨gb605, 1, none⟩ = some (.string (⟨#[]⟩ : ByteArray)) := (bC BK605.out 1).trans rfl; have hcz100_2 : w95.cell? ⟨gb605, 2, none⟩ = some (.slice none 0 0) := (bC BK605.out 2).trans rfl; have hcz100_3 : w95.cell? ⟨gb605, 3, none⟩ = some (.string (⟨#[]⟩ : ByteArray)) := (bC BK605.out 3).trans rfl; have hcz100_4 : w95.cell? ⟨gb605, 4, none⟩ = some (.slice none 0 0) := (bC BK605.out 4).trans rfl; have hfz100_0 := bF BK605.out 0; have hfz100_1 := bF BK605.out 1; have hfz100_2 := bF BK605.out 2; have hfz100_3 := bF BK605.out 3; have hfz100_4 := bF BK605.out 4; obtain ⟨Ao101, co101, eo101⟩ := Kd.R_slice HO598.out; subst eo101; obtain ⟨Ao102, co102, eo102⟩ := Kd.R_slice HO602.out; subst eo102))
       go_ret
       exact ⟨by first | rfl | (simp [errW_none, errW_some] <;> rfl) | (simp [*, errW_none, errW_some] <;> rfl), by repeat (first | (with_reducible first | exact HB.out | apply ea | apply en | apply ed | refine es ?_ GE571.out | refine es ?_ GE572.out | refine es ?_ GE587.out | refine es ?_ GE593.out | refine es ?_ GE605.out) | exact HB.out)⟩
     ·rw [if_neg c43] at H
      have c43b0 : (t586 == 0) = false := beq_eq_false_iff_ne.mpr c43
      have c43b1 : (t586 != 0) = true := bne_iff_ne.mpr c43
      obtain rfl := Option.some.inj H
      have hnb103 := NB572_571.out
      have hnc103 := NB571_572.out
      have hcz104_0 : wc.cell? ⟨gb572, 0, none⟩ = some (.int .i64 a2_0) := (bC BK572.out 0).trans rfl
      have hcz104_1 : wc.cell? ⟨gb572, 1, none⟩ = some (.int .i64 a2_1) := (bC BK572.out 1).trans rfl
      have hcz104_2 : wc.cell? ⟨gb572, 2, none⟩ = some (.string a2_2) := (bC BK572.out 2).trans rfl
      have hcz104_3 : wc.cell? ⟨gb572, 3, none⟩ = some (.string a2_3) := (bC BK572.out 3).trans rfl
      have hcz104_4 : wc.cell? ⟨gb572, 4, none⟩ = some (.bool a2_4) := (bC BK572.out 4).trans rfl
      have hfz104_0 := bF BK572.out 0
      have hfz104_1 := bF BK572.out 1
      have hfz104_2 := bF BK572.out 2
      have hfz104_3 := bF BK572.out 3
      have hfz104_4 := bF BK572.out 4
      have hcz105_0 : wc.cell? ⟨gb571, 0, none⟩ = some (.string a0_0) := (bC BK571.out 0).trans rfl
      have hcz105_1 : wc.cell? ⟨gb571, 1, none⟩ = some (.slice A0_1 l0_1.length c0_1) := (bC BK571.out 1).trans rfl
      have hfz105_0 := bF BK571.out 0
      have hfz105_1 := bF BK571.out 1
      go_wp2_with (first | ((with_reducible refine gate_callee (f := 10) rfl ?_); refine goesL_ (some 52) rfl rfl Try.func10 (by kernel_rfl) rfl #[.agg #[.string a0_0, .slice A0_1 l0_1.length c0_1], .int .u64 a1, .agg #[.int .i64 a2_0, .int .i64 a2_1, .string a2_2, .string a2_3, .bool true]] rfl (by (try simp only [mT, mC, mN]); first | done | rfl | (simp only [lD, lT]; rfl)) ?_; (with_reducible refine (subst_Do.calls kj5 a0_0 _ _ l0_1 a1 a2_0 a2_1 a2_2 a2_3 true t576 t577 t578 t581 t582 t585 t586 _ ?mx39 ?side1 ?side2 A42.out).mono ?_); (case mx39 => exact MaxOk.below HMX.out (by repeat (first | (with_reducible first | exact HB.out | apply ea | apply en | apply ed | refine es ?_ GE571.out | refine es ?_ GE572.out) | exact HB.out))); (case side1 => exact cB_ HR0_1.out (by repeat (first | (with_reducible first | exact HB.out | apply ea | apply en | apply ed | refine es ?_ GE571.out | refine es ?_ GE572.out) | exact HB.out))); (case side2 => exact HC0_1.out); rintro e w106 ⟨v579, v583, rfl, ho0, ho1, hb⟩; refine ⟨_, rfl, ?_⟩; have n0_ := aM (rL ho0 (bZ (by repeat (first | (with_reducible first | exact HB.out | apply ea | apply en | apply ed | refine es ?_ GE571.out | refine es ?_ GE572.out) | exact HB.out)))); have n1_ := aM (rL ho1 (bZ (by repeat (first | (with_reducible first | exact HB.out | apply ea | apply en | apply ed | refine es ?_ GE571.out | refine es ?_ GE572.out) | exact HB.out)))); have n2_ := aM (bB (g := gb571) (o := .cells #[.string a0_0, .slice A0_1 l0_1.length c0_1] 24 (0, 0)) (by (with_reducible repeat (first | apply qn | apply qd | apply qa)); refine bR ?_ NB571_572.out _; exact qy BK571.out) hb); have n3_ := aM (bB (g := gb572) (o := .cells #[.int .i64 a2_0, .int .i64 a2_1, .string a2_2, .string a2_3, .bool true] 28 (0, 0)) (by (with_reducible repeat (first | apply qn | apply qd | apply qa)); refine bU (cs := #[.int .i64 a2_0, .int .i64 a2_1, .string a2_2, .string a2_3, .bool a2_4]) ?_ 4 _ rfl; exact qy BK572.out) hb); have n4_ := aM (bP (by repeat (first | (with_reducible first | exact HB.out | apply ea | apply en | apply ed | refine es ?_ GE571.out | refine es ?_ GE572.out) | exact HB.out)) hb); clear BK571 BK572 HB; have HO580 := n0_; have HO584 := n1_; have BK571 := n2_; have BK572 := n3_; have HB := n4_; clear n0_ n1_ n2_ n3_ n4_; (try clear hb); (try clear hb2); (try clear hk); (try clear hi); (try clear ho0); (try clear ho1)) | ((with_reducible refine gate_dst (N := 7) rfl ?_); (try (refine gate_guard (by rfl) ?_; dsimp only)); refine box_event ?hg (N := 7) ?hd (cs := #[.int .i64 0, .string (⟨#[]⟩ : ByteArray), .slice none 0 0, .string (⟨#[]⟩ : ByteArray), .slice none 0 0]) (t := 32) ?hr ?_; (case hd | hg => rfl); (case hr => first | (go_simp; done) | (go_simp; rfl)); intro gb587 hg w107 hbox hb; have n0_ := aM (Kd.R_below (ry HO580.out) hb); have n1_ := aM (Kd.R_below (ry HO584.out) hb); have n2_ := aM (bB (g := gb571) (qy BK571.out) hb); have n3_ := aM (bB (g := gb572) (qy BK572.out) hb); have n4_ := aM (bP (by repeat (first | (with_reducible first | exact HB.out | apply ea | apply en | apply ed | refine es ?_ GE571.out | refine es ?_ GE572.out) | exact HB.out)) hb); have n5_ := aM (hbox); have n6_ := aM ((by rw [hg]; exact (bZ (by repeat (first | (with_reducible first | exact HB.out | apply ea | apply en | apply ed | refine es ?_ GE571.out | refine es ?_ GE572.out) | exact HB.out))) : w.heap.size ≤ gb587)); have n7_ := n6_; have n8_ := aM ((by rw [hg]; exact Nat.ne_of_lt (blk_lt (g := gb571) (qy BK571.out)) : gb571 ≠ gb587)); have n9_ := aM ((by rw [hg]; exact Nat.ne_of_gt (blk_lt (g := gb571) (qy BK571.out)) : gb587 ≠ gb571)); have n10_ := aM ((by rw [hg]; exact Nat.ne_of_lt (blk_lt (g := gb572) (qy BK572.out)) : gb572 ≠ gb587)); have n11_ := aM ((by rw [hg]; exact Nat.ne_of_gt (blk_lt (g := gb572) (qy BK572.out)) : gb587 ≠ gb572)); clear HO580 HO584 BK571 BK572 HB; have HO580 := n0_; have HO584 := n1_; have BK571 := n2_; have BK572 := n3_; have HB := n4_; have BK587 := n5_; have GW587 := n6_; have GE587 := n7_; have NB571_587 := n8_; have NB587_571 := n9_; have NB572_587 := n10_; have NB587_572 := n11_; clear n0_ n1_ n2_ n3_ n4_ n5_ n6_ n7_ n8_ n9_ n10_ n11_; clear hb hbox hg; have hnb108 := NB587_571.out; have hnc108 := NB571_587.out; have hnb109 := NB587_572.out; have hnc109 := NB572_587.out; have hcz110_0 : w107.cell? ⟨gb587, 0, none⟩ = some (.int .i64 0) := (bC BK587.out 0).trans rfl; have hcz110_1 : w107.cell? ⟨gb587, 1, none⟩ = some (.string (⟨#[]⟩ : ByteArray)) := (bC BK587.out 1).trans rfl; have hcz110_2 : w107.cell? ⟨gb587, 2, none⟩ = some (.slice none 0 0) := (bC BK587.out 2).trans rfl; have hcz110_3 : w107.cell? ⟨gb587, 3, none⟩ = some (.string (⟨#[]⟩ : ByteArray)) := (bC BK587.out 3).trans rfl; have hcz110_4 : w107.cell? ⟨gb587, 4, none⟩ = some (.slice none 0 0) := (bC BK587.out 4).trans rfl; have hfz110_0 := bF BK587.out 0; have hfz110_1 := bF BK587.out 1; have hfz110_2 := bF BK587.out 2; have hfz110_3 := bF BK587.out 3; have hfz110_4 := bF BK587.out 4; obtain ⟨Ao111, co111, eo111⟩ := Kd.R_slice HO580.out; subst eo111; obtain ⟨Ao112, co112, eo112⟩ := Kd.R_slice HO584.out; subst eo112))
      go_ret
      exact ⟨by first | rfl | (simp [errW_none, errW_some] <;> rfl) | (simp [*, errW_none, errW_some] <;> rfl), by repeat (first | (with_reducible first | exact HB.out | apply ea | apply en | apply ed | refine es ?_ GE571.out | refine es ?_ GE572.out | refine es ?_ GE587.out) | exact HB.out)⟩
 ·replace c5 := Bool.eq_false_iff.mpr c5
  subst c5
  have H1 : (some false) = some r := by rw [if_neg (show ¬ (false = true) by decide)] at H; exact H
  clear H
  have H := H1
  clear H1
  obtain rfl := Option.some.inj H
  go_enter Try.func5, Try.ntmps5
  go_wp2_with (first | ((with_reducible refine gate_dst (N := 3) rfl ?_); (try (refine gate_guard (by rfl) ?_; dsimp only)); refine box_event ?hg (N := 3) ?hd (cs := #[.string a0_0, .slice A0_1 l0_1.length c0_1]) (t := 24) ?hr ?_; (case hd | hg => rfl); (case hr => first | (go_simp; done) | (go_simp; rfl)); intro gb571 hg w113 hbox hb; have n0_ := aM (bP (ey HB.out) hb); have n1_ := aM (hbox); have n2_ := aM ((by rw [hg]; exact (bZ (ey HB.out)) : w.heap.size ≤ gb571)); have n3_ := n2_; clear HB; have HB := n0_; have BK571 := n1_; have GW571 := n2_; have GE571 := n3_; clear n0_ n1_ n2_ n3_; clear hb hbox hg) | ((with_reducible refine gate_dst (N := 5) rfl ?_); (try (refine gate_guard (by rfl) ?_; dsimp only)); refine box_event ?hg (N := 5) ?hd (cs := #[.int .i64 a2_0, .int .i64 a2_1, .string a2_2, .string a2_3, .bool a2_4]) (t := 28) ?hr ?_; (case hd | hg => rfl); (case hr => first | (go_simp; done) | (go_simp; rfl)); intro gb572 hg w114 hbox hb; have n0_ := aM (bB (g := gb571) (qy BK571.out) hb); have n1_ := aM (bP (by repeat (first | (with_reducible first | exact HB.out | apply ea | apply en | apply ed | refine es ?_ GE571.out) | exact HB.out)) hb); have n2_ := aM (hbox); have n3_ := aM ((by rw [hg]; exact (bZ (by repeat (first | (with_reducible first | exact HB.out | apply ea | apply en | apply ed | refine es ?_ GE571.out) | exact HB.out))) : w.heap.size ≤ gb572)); have n4_ := n3_; have n5_ := aM ((by rw [hg]; exact Nat.ne_of_lt (blk_lt (g := gb571) (qy BK571.out)) : gb571 ≠ gb572)); have n6_ := aM ((by rw [hg]; exact Nat.ne_of_gt (blk_lt (g := gb571) (qy BK571.out)) : gb572 ≠ gb571)); clear BK571 HB; have BK571 := n0_; have HB := n1_; have BK572 := n2_; have GW572 := n3_; have GE572 := n4_; have NB571_572 := n5_; have NB572_571 := n6_; clear n0_ n1_ n2_ n3_ n4_ n5_ n6_; clear hb hbox hg) | ((with_reducible refine gate_callee (f := 8) rfl ?_); refine goesL_ (some 15) rfl rfl Try.func8 (by kernel_rfl) rfl #[] rfl (by (try simp only [mT, mC, mN]); first | done | rfl | (simp only [lD, lT]; rfl)) ?_; (with_reducible refine (bureaulaw15_alive.calls k  false _ ?mx40 A4.out).mono ?_); (case mx40 => exact MaxOk.below HMX.out (by repeat (first | (with_reducible first | exact HB.out | apply ea | apply en | apply ed | refine es ?_ GE571.out | refine es ?_ GE572.out) | exact HB.out))); rintro e w115 ⟨rfl, hb⟩; refine ⟨_, rfl, ?_⟩; have n0_ := aM (bB (g := gb571) (qy BK571.out) hb); have n1_ := aM (bB (g := gb572) (qy BK572.out) hb); have n2_ := aM (bP (by repeat (first | (with_reducible first | exact HB.out | apply ea | apply en | apply ed | refine es ?_ GE571.out | refine es ?_ GE572.out) | exact HB.out)) hb); clear BK571 BK572 HB; have BK571 := n0_; have BK572 := n1_; have HB := n2_; clear n0_ n1_ n2_; (try clear hb); (try clear hb2); (try clear hk); (try clear hi)))
  go_ret
  exact ⟨by first | rfl | (simp [errW_none, errW_some] <;> rfl) | (simp [*, errW_none, errW_some] <;> rfl), by repeat (first | (with_reducible first | exact HB.out | apply ea | apply en | apply ed | refine es ?_ GE571.out | refine es ?_ GE572.out) | exact HB.out)⟩
end Go.Proofs.Ytnbdldpjiofafaa.PB
end

section
namespace Go.Proofs.Ytnbdldpjiofafaa.PB
open Go.Proofs.YtnbdldpjiofafaaW.PrintWords
theorem Ev.pos {α : Type} {c : Prop} [Decidable c] {A B : Nat → Option α} {r : α} (h : c) (k : Ev A r) : Ev (fun n => if c then A n else B n) r := by
  obtain ⟨K, hK⟩ := k
  exact ⟨K, fun n hn => by show (if c then A n else B n) = _; rw [if_pos h]; exact hK n hn⟩
theorem Ev.neg {α : Type} {c : Prop} [Decidable c] {A B : Nat → Option α} {r : α} (h : ¬ c) (k : Ev B r) : Ev (fun n => if c then A n else B n) r := by
  obtain ⟨K, hK⟩ := k
  exact ⟨K, fun n hn => by show (if c then A n else B n) = _; rw [if_neg h]; exact hK n hn⟩
theorem Ev.ite {α : Type} {c : Prop} [Decidable c] {A B : Nat → Option α} {r s : α} (h1 : c → Ev A r) (h2 : ¬ c → Ev B s) : Ev (fun n => if c then A n else B n) (if c then r else s) := by
  by_cases h : c
  · rw [if_pos h]; exact Ev.pos h (h1 h)
  · rw [if_neg h]; exact Ev.neg h (h2 h)
theorem Ev.ite' {α : Type} {c : Prop} [Decidable c] {A B : Nat → Option α} {r : α} (h1 : c → Ev A r) (h2 : ¬ c → Ev B r) : Ev (fun n => if c then A n else B n) r := by
  by_cases h : c
  · exact Ev.pos h (h1 h)
  · exact Ev.neg h (h2 h)
theorem ev_val {α : Type} {g : Nat → Option α} {a b : α} (h : Ev g a) (e : a = b) : Ev g b := e ▸ h
end Go.Proofs.Ytnbdldpjiofafaa.PB
end

section
namespace Go.Proofs.Ytnbdldpjiofafaa.PB
open Go.RowKit Go.Proofs.YtnbdldpjiofafaaW.PrintWords
set_option linter.unusedVariables false
theorem w1n {i n : Nat} (h : i < n) (hn : n ≤ 1000000000000000) : wrap64 ((i : Int) + 1) = ((i + 1 : Nat) : Int) := by unfold wrap64; omega
def lineEnds : List UInt8 → Nat → List Nat
 | [], i => [i]
 | x :: r, i => if x = 10 then i :: lineEnds r (i + 1) else lineEnds r (i + 1)
def ends (v : ByteArray) : List Nat := lineEnds v.data.toList 0
def lineFrom (v : ByteArray) (n : Nat) : Nat := if n = 0 then 0 else (ends v).getD (n - 1) 0 + 1
def lineTo (v : ByteArray) (n : Nat) : Nat := (ends v).getD n 0
theorem lineEnds_ne (l : List UInt8) (i : Nat) : 1 ≤ (lineEnds l i).length := by
 induction l generalizing i with
 | nil => simp [lineEnds]
 | cons x r ih => unfold lineEnds; split; simp; exact ih _
theorem lineEnds_len : ∀ (l : List UInt8) (i : Nat), (lineEnds l i).length = l.count 10 + 1
 | [], i => rfl
 | x :: r, i => by
  unfold lineEnds
  split
  ·rename_i h; rw [List.length_cons, lineEnds_len r, h, List.count_cons_self]
  ·rename_i h; rw [lineEnds_len r, List.count_cons_of_ne h]
theorem le_none : ∀ (l : List UInt8) (a : Nat), (∀ c ∈ l, c ≠ 10) → lineEnds l a = [a + l.length]
 | [], a, _ => rfl
 | x :: r, a, h => by
  rw [lineEnds, if_neg (h x List.mem_cons_self), le_none r (a + 1) (fun c hc => h c (List.mem_cons_of_mem _ hc)), List.length_cons]
  congr 1; omega
theorem le_some : ∀ (o : Nat) (l : List UInt8) (a : Nat), l[o]? = some 10 → (∀ k, k < o → l[k]? ≠ some 10) → lineEnds l a = (a + o) :: lineEnds (l.drop (o + 1)) (a + o + 1)
 | 0, [], a, h, _ => by simp at h
 | 0, x :: r, a, h, _ => by
  have : x = 10 := by simpa using h
  rw [lineEnds, if_pos this]; rfl
 | o + 1, [], a, h, _ => by simp at h
 | o + 1, x :: r, a, h, hn => by
  have hx : x ≠ 10 := by have := hn 0 (by omega); simpa using this
  rw [lineEnds, if_neg hx, le_some o r (a + 1) (by simpa using h) (fun k hk => by have := hn (k + 1) (by omega); simpa using this)]
  rw [show a + 1 + o = a + (o + 1) by omega]; rfl
theorem ib_cases (l : List UInt8) : (Lib.indexByte l 10 = -1 ∧ ∀ c ∈ l, c ≠ 10) ∨ ∃ o : Nat, Lib.indexByte l 10 = (o : Int) ∧ o < l.length ∧ l[o]? = some 10 ∧ ∀ k, k < o → l[k]? ≠ some 10 := by
 have := Lib.indexByte_ge l 10
 rcases Int.lt_or_le (Lib.indexByte l 10) 0 with h | h
 ·have h1 : Lib.indexByte l 10 = -1 := by omega
  refine .inl ⟨h1, fun c hc e => ?_⟩
  obtain ⟨k, hk⟩ := List.getElem?_of_mem hc
  exact Lib.indexByte_none h1 k (by rw [hk, e])
 ·have h1 : Lib.indexByte l 10 = ((Lib.indexByte l 10).toNat : Int) := by omega
  obtain ⟨a, b⟩ := Lib.indexByte_some h1
  exact .inr ⟨_, h1, (List.getElem?_eq_some_iff.1 a).1, a, b⟩
theorem ends_drop (v : ByteArray) : ∀ (i : Nat), i < (ends v).length → lineFrom v i ≤ v.size ∧ (ends v).drop i = lineEnds (v.data.toList.drop (lineFrom v i)) (lineFrom v i)
 | 0, _ => ⟨Nat.zero_le _, rfl⟩
 | i + 1, h => by
  obtain ⟨h1, h2⟩ := ends_drop v i (by omega)
  have hsz : v.data.toList.length = v.size := (Lib.size_eq v).symm
  have hlen : ((ends v).drop i).length = (ends v).length - i := List.length_drop
  rcases ib_cases (v.data.toList.drop (lineFrom v i)) with ⟨_, hno⟩ | ⟨o, _, ho, ha, hb⟩
  ·rw [le_none _ _ hno] at h2
   rw [h2] at hlen
   simp at hlen
   omega
  ·rw [le_some o _ _ ha hb] at h2
   rw [List.length_drop] at ho
   have hg : (ends v).getD i 0 = lineFrom v i + o := by
    have := congrArg (fun q : List Nat => q.getD 0 0) h2
    simpa [List.getD_eq_getElem?_getD] using this
   have hf : lineFrom v (i + 1) = lineFrom v i + o + 1 := by
    unfold lineFrom at hg ⊢
    rw [if_neg (by omega), Nat.add_sub_cancel, hg]
   refine ⟨by omega, ?_⟩
   rw [hf]
   have := congrArg (List.drop 1) h2
   rw [List.drop_drop, List.drop_one, List.tail_cons, List.drop_drop] at this
   rw [this]
   congr 2
theorem line_last (v : ByteArray) (n : Nat) (h : n < (ends v).length) : (Lib.indexByte (v.data.toList.drop (lineFrom v n)) 10 = -1 ∧ lineTo v n = v.size ∧ n + 1 = (ends v).length) ∨
  ∃ o : Nat, Lib.indexByte (v.data.toList.drop (lineFrom v n)) 10 = (o : Int) ∧ lineTo v n = lineFrom v n + o ∧ lineFrom v n + o < v.size ∧ lineFrom v (n + 1) = lineFrom v n + o + 1 ∧ n + 1 < (ends v).length := by
 obtain ⟨h1, h2⟩ := ends_drop v n h
 have hsz : v.data.toList.length = v.size := (Lib.size_eq v).symm
 have hlen : ((ends v).drop n).length = (ends v).length - n := List.length_drop
 have hg : (ends v).getD n 0 = ((ends v).drop n).getD 0 0 := by simp [List.getD_eq_getElem?_getD]
 rcases ib_cases (v.data.toList.drop (lineFrom v n)) with ⟨hi, hno⟩ | ⟨o, hi, ho, ha, hb⟩
 ·rw [le_none _ _ hno] at h2
  rw [h2] at hlen hg
  refine .inl ⟨hi, ?_, by simp at hlen; omega⟩
  unfold lineTo
  rw [hg, List.length_drop]
  simp
  omega
 ·rw [le_some o _ _ ha hb] at h2
  rw [h2] at hlen hg
  rw [List.length_drop] at ho
  have hne := lineEnds_ne ((v.data.toList.drop (lineFrom v n)).drop (o + 1)) (lineFrom v n + o + 1)
  have hto : lineTo v n = lineFrom v n + o := by unfold lineTo; rw [hg]; rfl
  refine .inr ⟨o, hi, hto, by omega, ?_, by simp only [List.length_cons] at hlen; omega⟩
  unfold lineTo at hto
  have : lineFrom v (n + 1) = (ends v).getD n 0 + 1 := by unfold lineFrom; rw [if_neg (by omega), Nat.add_sub_cancel]
  omega
theorem line_range (v : ByteArray) (n : Nat) (h : n < (ends v).length) : lineFrom v n ≤ lineTo v n ∧ lineTo v n ≤ v.size := by
 have := (ends_drop v n h).1
 rcases line_last v n h with ⟨_, h2, _⟩ | ⟨o, _, h2, h3, _, _⟩ <;> omega
theorem line_next (v : ByteArray) (n : Nat) (h : n + 1 < (ends v).length) : lineFrom v (n + 1) = lineTo v n + 1 := by
 unfold lineFrom lineTo; rw [if_neg (by omega), Nat.add_sub_cancel]
theorem ends_len_le (v : ByteArray) : (ends v).length ≤ v.size + 1 := by
 unfold ends
 rw [lineEnds_len, Lib.size_eq v]
 have := List.count_le_length (a := (10 : UInt8)) (l := v.data.toList)
 omega
theorem count_ev (v : ByteArray) (hv : v.size ≤ 100000) : line_Count.f v = some ((ends v).length : Int) := by
 unfold line_Count.f strings_Count.f
 rw [if_pos (show (⟨#[10]⟩ : ByteArray).size = 1 from rfl), Option.bind_some]
 have h : Lib.countByte v.data.toList ((⟨#[10]⟩ : ByteArray).data.toList.getD 0 0) = ((v.data.toList.count 10 : Nat) : Int) := rfl
 have hl := ends_len_le v
 have he : (ends v).length = v.data.toList.count 10 + 1 := lineEnds_len _ _
 rw [h]
 congr 1
 unfold wrap64
 omega
theorem extract_rest (v : ByteArray) (a : Nat) : (v.extract a v.size).data.toList = v.data.toList.drop a := by
 rw [Lib.extract_data]
 rw [List.take_of_length_le]
 rw [List.length_drop, ← Lib.size_eq]
 exact Nat.le_refl _
theorem bounds_ev (v : ByteArray) (hv : v.size ≤ 100000) (n : Nat) (h : n < (ends v).length) : Ev (fun k => line_Bounds.f k v (n : Int)) ((lineFrom v n : Int), (lineTo v n : Int), 0) := by
 have hl := ends_len_le v
 unfold line_Bounds.f
 refine Ev.neg (by omega) ?_
 rw [count_ev v hv]
 refine Ev.bind (Ev.now _) ?_
 rw [decide_eq_false (by omega)]
 refine Ev.step (fun k => by simp only [line_Bounds.j0]; rfl) ?_
 refine Ev.neg (by simp) ?_
 have loop : ∀ (d i : Nat), i + d = n → Ev (fun k => line_Bounds.l0 k v (lineFrom v i : Int) (n : Int) (i : Int)) ((lineFrom v n : Int), (lineTo v n : Int), 0) := by
  intro d
  induction d with
  | zero =>
   intro i hi
   obtain rfl : i = n := by omega
   have hf := (ends_drop v i h).1
   refine Ev.step (fun k => by simp only [line_Bounds.l0]; rfl) ?_
   refine Ev.neg (by omega) (Ev.pos (by omega) (Ev.pos (by omega) ?_))
   unfold strings_IndexByte.f
   rw [Int.toNat_natCast, extract_rest, show (10 : Int).toNat.toUInt8 = 10 from rfl]
   refine Ev.bind (Ev.now _) ?_
   rcases line_last v i h with ⟨h1, h2, _⟩ | ⟨o, h1, h2, h3, _, _⟩
   ·rw [h1]
    refine Ev.pos (by decide) (ev_val (Ev.now _) ?_)
    rw [h2]
   ·rw [h1]
    refine Ev.neg (by omega) (ev_val (Ev.now _) ?_)
    rw [h2, show wrap64 ((lineFrom v i : Int) + (o : Int)) = ((lineFrom v i + o : Nat) : Int) by unfold wrap64; omega]
  | succ d ih =>
   intro i hi
   have hin : i < (ends v).length := by omega
   have hf := (ends_drop v i hin).1
   refine Ev.step (fun k => by simp only [line_Bounds.l0]; rfl) ?_
   refine Ev.pos (by omega) (Ev.pos (by omega) (Ev.pos (by omega) ?_))
   unfold strings_IndexByte.f
   rw [Int.toNat_natCast, extract_rest, show (10 : Int).toNat.toUInt8 = 10 from rfl]
   refine Ev.bind (Ev.now _) ?_
   rcases line_last v i hin with ⟨h1, h2, h3⟩ | ⟨o, h1, h2, h3, h4, _⟩
   ·omega
   ·have e1 : wrap64 ((o : Int) + 1) = ((o + 1 : Nat) : Int) := by unfold wrap64; omega
    have e2 : wrap64 ((lineFrom v i : Int) + ((o + 1 : Nat) : Int)) = ((lineFrom v i + o + 1 : Nat) : Int) := by generalize lineFrom v i = z at *; unfold wrap64; omega
    have hi1 := ih (i + 1) (by omega)
    rw [h4] at hi1
    rw [h1, e1, e2, w1n (show i < n by omega) (by omega)]
    exact hi1
 have := loop n 0 (by omega)
 rw [show lineFrom v 0 = 0 from rfl] at this
 exact this
theorem bt_list (v : ByteArray) (i : Nat) (h : i < v.size) : bt v (i : Int) = ((v.data.toList.getD i 0).toNat : Int) := by
 unfold bt
 rw [dif_pos (by rw [Int.toNat_natCast]; exact h)]
 congr 2
 rw [List.getD_eq_getElem?_getD, List.getElem?_eq_getElem (by rw [← Lib.size_eq]; exact h)]
 rfl
end Go.Proofs.Ytnbdldpjiofafaa.PB
end

section
namespace Go.Proofs.Ytnbdldpjiofafaa.PB
set_option linter.unusedVariables false
def buildS {α : Type} (w r : List α) (m : Nat) : Nat → List Nat → Nat → List α
 | a, [], e => (w.take e).drop a
 | a, p :: ps, e => (w.take p).drop a ++ (r ++ buildS w r m (p + m) ps e)
def spaced (m : Nat) : Nat → List Nat → Nat → Prop
 | a, [], e => a ≤ e
 | a, p :: ps, e => a ≤ p ∧ spaced m (p + m) ps e
theorem spaced_le {m : Nat} : ∀ {ps : List Nat} {a e : Nat}, spaced m a ps e → a ≤ e
 | [], _, _, h => h
 | p :: ps, a, e, h => by have := spaced_le h.2; have := h.1; omega
theorem spaced_mono {m : Nat} : ∀ {ps : List Nat} {a b e : Nat}, b ≤ a → spaced m a ps e → spaced m b ps e
 | [], _, _, _, h, k => Nat.le_trans h k
 | p :: ps, _, _, _, h, k => ⟨Nat.le_trans h k.1, k.2⟩
theorem spaced_app {m : Nat} : ∀ {ps qs : List Nat} {a b e : Nat}, spaced m a ps b → spaced m b qs e → spaced m a (ps ++ qs) e
 | [], qs, a, b, e, h, k => spaced_mono h k
 | p :: ps, qs, a, b, e, h, k => ⟨h.1, spaced_app h.2 k⟩
theorem spaced_mem {m : Nat} : ∀ {ps : List Nat} {a e p : Nat}, spaced m a ps e → p ∈ ps → a ≤ p ∧ p + m ≤ e
 | [], _, _, _, _, h => absurd h (by simp)
 | q :: ps, a, e, p, h, hp => by
  rcases List.mem_cons.1 hp with rfl | hp
  ·exact ⟨h.1, spaced_le h.2⟩
  ·have := spaced_mem h.2 hp
   have := h.1
   omega
theorem spaced_len {m : Nat} (hm : 1 ≤ m) : ∀ {ps : List Nat} {a e : Nat}, spaced m a ps e → a + ps.length * m ≤ e
 | [], _, _, h => by simpa [spaced] using h
 | p :: ps, a, e, h => by
  have := spaced_len hm h.2
  have := h.1
  rw [List.length_cons, Nat.succ_mul]
  omega
theorem build_len {α : Type} (w r : List α) (m : Nat) : ∀ (ps : List Nat) (a e : Nat), e ≤ w.length → spaced m a ps e → (buildS w r m a ps e).length + ps.length * m = (e - a) + ps.length * r.length
 | [], a, e, he, h => by simp [buildS]; omega
 | p :: ps, a, e, he, h => by
  have ih := build_len w r m ps (p + m) e he h.2
  have hle := spaced_le h.2
  have := h.1
  simp only [buildS, List.length_append, List.length_drop, List.length_take, List.length_cons, Nat.succ_mul]
  omega
theorem take_drop_self {α : Type} (w : List α) (a b : Nat) (h : a ≤ b) : (w.take b).drop a ++ w.drop b = w.drop a := by
 conv => rhs; rw [← List.take_append_drop b w]
 by_cases hb : b ≤ w.length
 ·rw [List.drop_append_of_le_length (by rw [List.length_take]; omega)]
 ·rw [List.drop_eq_nil_of_le (show w.length ≤ b by omega), List.append_nil, List.append_nil]
theorem mid_split {α : Type} (w : List α) (a b c : Nat) (h1 : a ≤ b) (h2 : b ≤ c) : (w.take c).drop a = (w.take b).drop a ++ (w.take c).drop b := by
 have := take_drop_self (w.take c) a b h1
 rw [List.take_take, Nat.min_eq_left h2] at this
 exact this.symm
theorem build_zip {α β γ : Type} (f : α → β → γ) (w r : List α) (w' r' : List β) (m : Nat) (hw : w.length = w'.length) (hr : r.length = r'.length) : ∀ (ps : List Nat) (a e : Nat), List.zipWith f (buildS w r m a ps e) (buildS w' r' m a ps e) = buildS (List.zipWith f w w') (List.zipWith f r r') m a ps e
 | [], a, e => by rw [buildS, buildS, buildS, List.take_zipWith, List.drop_zipWith]
 | p :: ps, a, e => by
  have h1 : ((w.take p).drop a).length = ((w'.take p).drop a).length := by rw [List.length_drop, List.length_drop, List.length_take, List.length_take, hw]
  rw [buildS, buildS, buildS, List.zipWith_append h1, List.zipWith_append hr, build_zip f w r w' r' m hw hr ps, List.take_zipWith, List.drop_zipWith]
theorem build_map {α β : Type} (f : α → β) (w r : List α) (m : Nat) : ∀ (ps : List Nat) (a e : Nat), (buildS w r m a ps e).map f = buildS (w.map f) (r.map f) m a ps e
 | [], a, e => by rw [buildS, buildS, List.map_drop, List.map_take]
 | p :: ps, a, e => by rw [buildS, buildS, List.map_append, List.map_append, build_map f w r m ps, List.map_drop, List.map_take]
def scanP (every : Bool) (hit : Nat → Bool) (m e : Nat) : Nat → Nat → List Nat
 | 0, _ => []
 | d + 1, a => if a < e then (if hit a = true then a :: (if every = true then scanP every hit m e d (a + m) else []) else scanP every hit m e d (a + 1)) else []
theorem scanP_end (every : Bool) (hit : Nat → Bool) (m e : Nat) : ∀ (d a : Nat), e ≤ a → scanP every hit m e d a = []
 | 0, a, _ => rfl
 | d + 1, a, h => by rw [scanP, if_neg (by omega)]
theorem scanP_fuel (every : Bool) (hit : Nat → Bool) (m e : Nat) (hm : 1 ≤ m) : ∀ (d d' a : Nat), e - a ≤ d → e - a ≤ d' → scanP every hit m e d a = scanP every hit m e d' a
 | 0, d', a, h, _ => by rw [scanP_end _ _ _ _ d' a (by omega)]; rfl
 | d + 1, 0, a, _, h => by rw [scanP_end _ _ _ _ (d + 1) a (by omega)]; rfl
 | d + 1, d' + 1, a, h, h' => by
  rw [scanP, scanP]
  by_cases ha : a < e
  ·rw [if_pos ha, if_pos ha, scanP_fuel every hit m e hm d d' (a + m) (by omega) (by omega), scanP_fuel every hit m e hm d d' (a + 1) (by omega) (by omega)]
  ·rw [if_neg ha, if_neg ha]
def places (every : Bool) (hit : Nat → Bool) (m e a : Nat) : List Nat := scanP every hit m e (e - a) a
theorem places_end {every : Bool} {hit : Nat → Bool} {m e a : Nat} (h : e ≤ a) : places every hit m e a = [] := scanP_end _ _ _ _ _ _ h
theorem places_hit {every : Bool} {hit : Nat → Bool} {m e a : Nat} (hm : 1 ≤ m) (h : a < e) (hh : hit a = true) : places every hit m e a = a :: (if every = true then places every hit m e (a + m) else []) := by
 unfold places
 obtain ⟨d, hd⟩ : ∃ d, e - a = d + 1 := ⟨e - a - 1, by omega⟩
 rw [hd, scanP, if_pos h, if_pos hh, scanP_fuel every hit m e hm d (e - (a + m)) (a + m) (by omega) (by omega)]
theorem places_miss {every : Bool} {hit : Nat → Bool} {m e a : Nat} (hm : 1 ≤ m) (h : a < e) (hh : ¬ hit a = true) : places every hit m e a = places every hit m e (a + 1) := by
 unfold places
 obtain ⟨d, hd⟩ : ∃ d, e - a = d + 1 := ⟨e - a - 1, by omega⟩
 rw [hd, scanP, if_pos h, if_neg hh, scanP_fuel every hit m e hm d (e - (a + 1)) (a + 1) (by omega) (by omega)]
theorem places_skip {every : Bool} {hit : Nat → Bool} {m e : Nat} (hm : 1 ≤ m) : ∀ (i a : Nat), a + i ≤ e → (∀ k, k < i → ¬ hit (a + k) = true) → places every hit m e a = places every hit m e (a + i)
 | 0, a, _, _ => rfl
 | i + 1, a, h, hn => by
  rw [places_miss hm (by omega) (by simpa using hn 0 (by omega)), places_skip hm i (a + 1) (by omega) (fun k hk => by have := hn (k + 1) (by omega); rwa [show a + 1 + k = a + (k + 1) by omega]), show a + 1 + i = a + (i + 1) by omega]
theorem places_none {every : Bool} {hit : Nat → Bool} {m e a : Nat} (hm : 1 ≤ m) (hn : ∀ k, a ≤ k → k < e → ¬ hit k = true) : places every hit m e a = [] := by
 by_cases h : a ≤ e
 ·rw [places_skip hm (e - a) a (by omega) (fun k hk => hn _ (by omega) (by omega))]
  exact places_end (by omega)
 ·exact places_end (by omega)
theorem places_spaced {every : Bool} {hit : Nat → Bool} {m e : Nat} (hm : 1 ≤ m) (hroom : ∀ k, hit k = true → k + m ≤ e) : ∀ (d a : Nat), e - a ≤ d → a ≤ e → spaced m a (places every hit m e a) e ∧ ∀ p ∈ places every hit m e a, hit p = true := by
 intro d
 induction d with
 | zero => intro a h hle; rw [places_end (by omega)]; exact ⟨hle, fun p hp => absurd hp (by simp)⟩
 | succ d ih =>
  intro a h hle
  by_cases ha : a < e
  ·by_cases hh : hit a = true
   ·rw [places_hit hm ha hh]
    have hr := hroom a hh
    by_cases he : every = true
    ·rw [if_pos he]
     obtain ⟨h1, h2⟩ := ih (a + m) (by omega) hr
     exact ⟨⟨Nat.le_refl _, h1⟩, fun p hp => by rcases List.mem_cons.1 hp with rfl | hp; exact hh; exact h2 p hp⟩
    ·rw [if_neg he]
     exact ⟨⟨Nat.le_refl _, hr⟩, fun p hp => by rw [List.mem_singleton.1 hp]; exact hh⟩
   ·rw [places_miss hm ha hh]
    obtain ⟨h1, h2⟩ := ih (a + 1) (by omega) (by omega)
    exact ⟨spaced_mono (by omega) h1, h2⟩
  ·rw [places_end (by omega)]
   exact ⟨hle, fun p hp => absurd hp (by simp)⟩
end Go.Proofs.Ytnbdldpjiofafaa.PB
end

section
namespace Go.Proofs.Ytnbdldpjiofafaa.PB
open Go.RowKit Go.Proofs.YtnbdldpjiofafaaW.PrintWords
set_option linter.unusedVariables false
set_option maxHeartbeats 1000000
abbrev cnt (L : List UInt8) (p : Nat) : Nat := (L.take p).count 10
theorem cnt_split (L : List UInt8) (p q : Nat) (h : p ≤ q) : cnt L q = cnt L p + ((L.take q).drop p).count 10 := by
 have := mid_split L 0 p q (Nat.zero_le _) h
 rw [List.drop_zero, List.drop_zero] at this
 unfold cnt
 conv => lhs; rw [this, List.count_append]
theorem cnt_mono (L : List UInt8) (p q : Nat) (h : p ≤ q) : cnt L p ≤ cnt L q := by rw [cnt_split L p q h]; omega
theorem drop_take' {α : Type} (L : List α) (a o : Nat) : (L.take (a + o)).drop a = (L.drop a).take o := by rw [List.drop_take, Nat.add_sub_cancel_left]
theorem none_take (M : List UInt8) (o : Nat) (h : ∀ k, k < o → M[k]? ≠ some 10) : (M.take o).count 10 = 0 := by
 rw [List.count_eq_zero]
 intro hm
 obtain ⟨i, hi, e⟩ := List.mem_take_iff_getElem.1 hm
 exact h i (by omega) (by rw [List.getElem?_eq_getElem (by omega), e])
theorem some_take (M : List UInt8) (o : Nat) (h : ∀ k, k < o → M[k]? ≠ some 10) (ho : M[o]? = some 10) : (M.take (o + 1)).count 10 = 1 := by
 rw [List.take_add_one, List.count_append, none_take M o h, ho]
 rfl
theorem line_cnt (v : ByteArray) : ∀ n, n < (ends v).length → cnt v.data.toList (lineFrom v n) = n ∧ cnt v.data.toList (lineTo v n) = n ∧ (lineTo v n < v.size → cnt v.data.toList (lineTo v n + 1) = n + 1) := by
 have step : ∀ n, n < (ends v).length → cnt v.data.toList (lineFrom v n) = n → cnt v.data.toList (lineTo v n) = n ∧ (lineTo v n < v.size → cnt v.data.toList (lineTo v n + 1) = n + 1) := by
  intro n hn hf
  rcases line_last v n hn with ⟨h1, h2, h3⟩ | ⟨o, h1, h2, h3, _, _⟩
  ·rw [h2]
   refine ⟨?_, fun q => absurd q (Nat.lt_irrefl _)⟩
   have hr := (line_range v n hn).1
   rw [cnt_split _ (lineFrom v n) v.size (by omega), hf]
   rcases ib_cases (v.data.toList.drop (lineFrom v n)) with ⟨_, hno⟩ | ⟨o, hi, _⟩
   ·have : ((v.data.toList.take v.size).drop (lineFrom v n)).count 10 = 0 := by
     rw [List.count_eq_zero, List.take_of_length_le (by rw [← Lib.size_eq]; exact Nat.le_refl _)]
     exact fun hm => hno _ hm rfl
    omega
   ·rw [hi] at h1; omega
  ·rcases ib_cases (v.data.toList.drop (lineFrom v n)) with ⟨hi, _⟩ | ⟨o', hi, ho, ha, hb⟩
   ·rw [hi] at h1; omega
   ·have : o' = o := by rw [hi] at h1; omega
    subst this
    rw [h2]
    refine ⟨?_, fun _ => ?_⟩
    ·rw [cnt_split _ (lineFrom v n) _ (by omega), hf, drop_take', none_take _ _ hb]; rfl
    ·rw [Nat.add_assoc, cnt_split _ (lineFrom v n) _ (by omega), hf, drop_take', some_take _ _ hb ha]
 intro n
 induction n with
 | zero =>
  intro hn
  have h0 : cnt v.data.toList (lineFrom v 0) = 0 := by unfold lineFrom cnt; simp
  exact ⟨h0, step 0 hn h0⟩
 | succ n ih =>
  intro hn
  obtain ⟨_, _, h3⟩ := ih (by omega)
  have hnx := line_next v n hn
  have hlt : lineTo v n < v.size := by
   rcases line_last v n (by omega) with ⟨_, _, q⟩ | ⟨o, _, q, q2, _, _⟩ <;> omega
  have h1 : cnt v.data.toList (lineFrom v (n + 1)) = n + 1 := by rw [hnx]; exact h3 hlt
  exact ⟨h1, step _ hn h1⟩
theorem of_line (v : ByteArray) (n p : Nat) (hn : n < (ends v).length) (h1 : lineFrom v n ≤ p) (h2 : p ≤ lineTo v n) : cnt v.data.toList p = n := by
 obtain ⟨q1, q2, _⟩ := line_cnt v n hn
 have a := cnt_mono v.data.toList _ _ h1
 have b := cnt_mono v.data.toList _ _ h2
 omega
theorem in_line (v : ByteArray) (n p : Nat) (hn : n < (ends v).length) (hp : p ≤ v.size) (h : cnt v.data.toList p = n) : lineFrom v n ≤ p ∧ p ≤ lineTo v n := by
 obtain ⟨q1, q2, q3⟩ := line_cnt v n hn
 constructor
 ·refine Nat.le_of_not_lt (fun hlt => ?_)
  cases n with
  | zero => unfold lineFrom at hlt; rw [if_pos rfl] at hlt; omega
  | succ n =>
   rw [line_next v n hn] at hlt
   have := cnt_mono v.data.toList p (lineTo v n) (by omega)
   have := (line_cnt v n (by omega)).2.1
   omega
 ·refine Nat.le_of_not_lt (fun hlt => ?_)
  have := q3 (by omega)
  have := cnt_mono v.data.toList (lineTo v n + 1) p (by omega)
  omega
theorem cnt_ends (v : ByteArray) (p : Nat) : cnt v.data.toList p < (ends v).length := by
 have : (ends v).length = v.data.toList.count 10 + 1 := lineEnds_len _ _
 have h := (List.take_sublist p v.data.toList).count_le 10
 unfold cnt
 omega
theorem scan_full {hit : Nat → Bool} {m e : Nat} (hm : 1 ≤ m) : ∀ (d a h : Nat), e - a ≤ d → a ≤ h → h < e → hit h = true → ∃ q ∈ places true hit m e a, q ≤ h ∧ h < q + m := by
 intro d
 induction d with
 | zero => intro a h h1 h2 h3; omega
 | succ d ih =>
  intro a h h1 h2 h3 hh
  by_cases ha : hit a = true
  ·rw [places_hit hm (by omega) ha, if_pos rfl]
   by_cases hl : h < a + m
   ·exact ⟨a, List.mem_cons_self, h2, hl⟩
   ·obtain ⟨q, hq, w⟩ := ih (a + m) h (by omega) (by omega) h3 hh
    exact ⟨q, List.mem_cons_of_mem _ hq, w⟩
  ·rw [places_miss hm (by omega) ha]
   have : a ≠ h := fun q => ha (q ▸ hh)
   exact ih (a + 1) h (by omega) (by omega) h3 hh
theorem drop_take_drop' {α : Type} (l : List α) (a e p m : Nat) (h1 : a ≤ p) (h2 : p + m ≤ e) : ((((l.take e).drop a).drop (p - a)).take m) = (l.drop p).take m := by
 rw [List.drop_drop, show a + (p - a) = p by omega, List.drop_take, List.take_take, Nat.min_eq_left (by omega)]
theorem gap {α : Type} (w r : List α) (m n : Nat) (hr : 1 ≤ r.length) (hn : 1 ≤ n) : ∀ (ps : List Nat) (a e k : Nat), e ≤ w.length → spaced m a ps e → k + n ≤ (buildS w r m a ps e).length → (∀ x ∈ ((buildS w r m a ps e).drop k).take n, ¬ x ∈ r) →
  ∃ p, a ≤ p ∧ p + n ≤ e ∧ ((buildS w r m a ps e).drop k).take n = (w.drop p).take n ∧ ∀ q ∈ ps, q + m ≤ p ∨ p + n ≤ q
 | [], a, e, k, he, hs, hk, hx => by
  have hl : (buildS w r m a [] e).length = e - a := by rw [buildS, List.length_drop, List.length_take]; omega
  refine ⟨a + k, by omega, by omega, ?_, fun q hq => absurd hq (by simp)⟩
  have := drop_take_drop' w a e (a + k) n (by omega) (by omega)
  rw [Nat.add_sub_cancel_left] at this
  exact this
 | p :: ps, a, e, k, he, hs, hk, hx => by
  have hle := spaced_le hs.2
  have hap := hs.1
  have hG : ((w.take p).drop a).length = p - a := by rw [List.length_drop, List.length_take]; omega
  have eT : buildS w r m a (p :: ps) e = (w.take p).drop a ++ (r ++ buildS w r m (p + m) ps e) := rfl
  rw [eT] at hk hx ⊢
  rw [List.length_append, List.length_append, hG] at hk
  by_cases c1 : k + n ≤ p - a
  ·refine ⟨a + k, by omega, by omega, ?_, fun q hq => ?_⟩
   ·rw [List.drop_append_of_le_length (by omega), List.take_append_of_le_length (by rw [List.length_drop]; omega)]
    have := drop_take_drop' w a p (a + k) n (by omega) (by omega)
    rw [Nat.add_sub_cancel_left] at this
    exact this
   ·rcases List.mem_cons.1 hq with rfl | hq
    ·exact .inr (by omega)
    ·have := (spaced_mem hs.2 hq).1
     exact .inr (by omega)
  by_cases c2 : p - a + r.length ≤ k
  ·have e1 : ((w.take p).drop a ++ (r ++ buildS w r m (p + m) ps e)).drop k = (buildS w r m (p + m) ps e).drop (k - (p - a + r.length)) := by
    rw [← List.append_assoc, List.drop_append, List.drop_eq_nil_of_le (by rw [List.length_append]; omega), List.nil_append, List.length_append, hG]
   rw [e1] at hx ⊢
   obtain ⟨p', h1, h2, h3, h4⟩ := gap w r m n hr hn ps (p + m) e (k - (p - a + r.length)) he hs.2 (by omega) hx
   refine ⟨p', by omega, h2, h3, fun q hq => ?_⟩
   rcases List.mem_cons.1 hq with rfl | hq
   ·exact .inl h1
   ·exact h4 q hq
  ·exfalso
   obtain ⟨i, hi1, hi2, hi3, hi4⟩ : ∃ i, k ≤ i ∧ i < k + n ∧ p - a ≤ i ∧ i < p - a + r.length := ⟨max k (p - a), by omega, by omega, by omega, by omega⟩
   have hlen : i < ((w.take p).drop a ++ (r ++ buildS w r m (p + m) ps e)).length := by rw [List.length_append, List.length_append, hG]; omega
   have hm : ((w.take p).drop a ++ (r ++ buildS w r m (p + m) ps e))[i] ∈ (((w.take p).drop a ++ (r ++ buildS w r m (p + m) ps e)).drop k).take n := by
    rw [List.mem_take_iff_getElem]
    refine ⟨i - k, by rw [List.length_drop]; omega, ?_⟩
    rw [List.getElem_drop]
    congr 1
    omega
   refine hx _ hm ?_
   rw [List.getElem_append_right (by omega), List.getElem_append_left (by omega)]
   exact List.getElem_mem _
theorem build_cnt (w r : List UInt8) (m : Nat) (hr : r.count 10 = 0) : ∀ (ps : List Nat) (a e : Nat), spaced m a ps e → (∀ p ∈ ps, ((w.take (p + m)).drop p).count 10 = 0) → (buildS w r m a ps e).count 10 = ((w.take e).drop a).count 10
 | [], a, e, _, _ => rfl
 | p :: ps, a, e, hs, hp => by
  have hle := spaced_le hs.2
  have ih := build_cnt w r m hr ps (p + m) e hs.2 (fun q hq => hp q (List.mem_cons_of_mem _ hq))
  have := hp p List.mem_cons_self
  rw [buildS, List.count_append, List.count_append, hr, ih, mid_split w a p e hs.1 (by omega), mid_split w p (p + m) e (by omega) hle, List.count_append, List.count_append, this]
end Go.Proofs.Ytnbdldpjiofafaa.PB
end

section
namespace Go.Proofs.Ytnbdldpjiofafaa.PB
open Go.RowKit Go.Proofs.YtnbdldpjiofafaaW.PrintWords
set_option linter.unusedVariables false
instance : DecidableEq S51 := fun a b => decidable_of_iff (a.f0 = b.f0 ∧ a.f1 = b.f1) (by cases a; cases b; simp)
theorem rdT (l : List S51) (i : Nat) : rd_T51 l (i : Int) = l.getD i z51 := by unfold rd_T51; rw [Int.toNat_natCast]
theorem dropT {l : List S51} {i : Nat} (h : i < l.length) : l.drop i = l.getD i z51 :: l.drop (i + 1) := by
 rw [List.drop_eq_getElem_cons h, List.getD_eq_getElem?_getD, List.getElem?_eq_getElem h]; rfl
theorem dropI {l : List Int} {i : Nat} (h : i < l.length) : l.drop i = l.getD i 0 :: l.drop (i + 1) := by
 rw [List.drop_eq_getElem_cons h, List.getD_eq_getElem?_getD, List.getElem?_eq_getElem h]; rfl
theorem w1 {i n : Nat} (h : i < n) (hn : n ≤ 1000000000000000) : wrap64 ((i : Int) + 1) = ((i + 1 : Nat) : Int) := by unfold wrap64; omega
abbrev big : Nat := 1000000000000
theorem total_ev (l : List S51) (hl : l.length ≤ big) : Ev (fun k => runs_Total.f k l) (tot l) := by
 unfold big at hl
 have loop : ∀ (d i : Nat) (n : Int), i + d = l.length → 0 ≤ n → n ≤ 4096 → Ev (fun k => runs_Total.l0 k n l (l.length : Int) (i : Int)) (totF (l.drop i) n) := by
  intro d
  induction d with
  | zero =>
   intro i n hi h0 h1
   refine Ev.step (fun k => by simp only [runs_Total.l0]; rfl) ?_
   refine Ev.neg (by omega) ?_
   rw [List.drop_eq_nil_of_le (by omega)]
   exact Ev.now _
  | succ d ih =>
   intro i n hi h0 h1
   have hlt : i < l.length := by omega
   refine Ev.step (fun k => by simp only [runs_Total.l0]; rfl) ?_
   refine Ev.pos (by omega) (Ev.pos (by omega) (Ev.pos (by omega) ?_))
   rw [dropT hlt, rdT]
   simp only [totF]
   rw [show wrap64 (4096 - n) = 4096 - n by unfold wrap64; omega]
   refine Ev.ite (fun _ => Ev.now _) (fun hc => ?_)
   have hm : wrap64 (n + mx (l.getD i z51).f1 0) = n + (if (l.getD i z51).f1 < 0 then 0 else (l.getD i z51).f1) := by
    unfold mx wrap64
    split <;> omega
   rw [hm, w1 hlt (by omega)]
   exact ih (i + 1) _ (by omega) (by split <;> omega) (by split <;> omega)
 exact loop l.length 0 0 (by omega) (by omega) (by omega)
theorem rtotal_ev (l : List S51) (hl : l.length ≤ big) : Ev (fun k => bureauref03_Total.f k l) (tot l) := by
 unfold big at hl
 have loop : ∀ (d i : Nat) (n : Int), i + d = l.length → 0 ≤ n → n ≤ 4096 → Ev (fun k => bureauref03_Total.l0 k l n (i : Int)) (totF (l.drop i) n) := by
  intro d
  induction d with
  | zero =>
   intro i n hi h0 h1
   refine Ev.step (fun k => by simp only [bureauref03_Total.l0]; rfl) ?_
   refine Ev.neg (by omega) ?_
   rw [List.drop_eq_nil_of_le (by omega)]
   exact Ev.now _
  | succ d ih =>
   intro i n hi h0 h1
   have hlt : i < l.length := by omega
   refine Ev.step (fun k => by simp only [bureauref03_Total.l0]; rfl) ?_
   refine Ev.pos (by omega) (Ev.pos (by omega) ?_)
   rw [dropT hlt, rdT]
   simp only [totF]
   rw [show wrap64 (4096 - n) = 4096 - n by unfold wrap64; omega]
   refine Ev.ite (fun _ => Ev.now _) (fun hc => ?_)
   rw [w1 hlt (by omega)]
   by_cases hp : (l.getD i z51).f1 > 0
   ·refine Ev.pos hp ?_
    rw [show wrap64 (n + (l.getD i z51).f1) = n + (if (l.getD i z51).f1 < 0 then 0 else (l.getD i z51).f1) by rw [if_neg (by omega)]; unfold wrap64; omega]
    exact ih (i + 1) _ (by omega) (by split <;> omega) (by split <;> omega)
   ·refine Ev.neg hp ?_
    have : n = n + (if (l.getD i z51).f1 < 0 then 0 else (l.getD i z51).f1) := by split <;> omega
    rw [← this]
    exact ih (i + 1) _ (by omega) (by omega) (by omega)
 exact loop l.length 0 0 (by omega) (by omega) (by omega)
theorem same_ev (a b : List S51) (hl : a.length ≤ big) : Ev (fun k => bureauref03_Same.f k a b) (decide (a = b)) := by
 unfold big at hl
 unfold bureauref03_Same.f
 by_cases hab : a.length = b.length
 ·refine Ev.pos (by omega) ?_
  have loop : ∀ (d i : Nat), i + d = a.length → Ev (fun k => bureauref03_Same.l0 k a b (i : Int)) (decide (a.drop i = b.drop i)) := by
   intro d
   induction d with
   | zero =>
    intro i hi
    refine Ev.step (fun k => by simp only [bureauref03_Same.l0]; rfl) ?_
    refine Ev.neg (by omega) ?_
    rw [List.drop_eq_nil_of_le (by omega), List.drop_eq_nil_of_le (by omega)]
    exact Ev.now _
   | succ d ih =>
    intro i hi
    have hlt : i < a.length := by omega
    refine Ev.step (fun k => by simp only [bureauref03_Same.l0]; rfl) ?_
    refine Ev.pos (by omega) (Ev.pos (by omega) (Ev.pos (by omega) ?_))
    rw [dropT hlt, dropT (show i < b.length by omega), rdT, rdT, w1 hlt (by omega)]
    by_cases he : a.getD i z51 = b.getD i z51
    ·rw [he]
     refine Ev.neg (by simp) ?_
     exact ev_val (ih (i + 1) (by omega)) (by simp)
    ·refine Ev.pos ?_ ?_
     ·have : ¬ ((a.getD i z51).f0 = (b.getD i z51).f0 ∧ (a.getD i z51).f1 = (b.getD i z51).f1) := fun h => he (by
       cases hx : a.getD i z51; cases hy : b.getD i z51; rw [hx, hy] at h; simp at h; rw [h.1, h.2])
      simp only [Bool.or_eq_true, Bool.not_eq_true', beq_eq_false_iff_ne]
      by_cases h1 : (a.getD i z51).f0 = (b.getD i z51).f0
      ·exact .inr (fun h2 => this ⟨h1, h2⟩)
      ·exact .inl h1
     ·exact ev_val (Ev.now _) (by simp; intro h; exact absurd h he)
  exact loop a.length 0 (by omega)
 ·refine Ev.neg (by omega) ?_
  exact ev_val (Ev.now _) (by simp; intro h; exact hab (by rw [h]))
theorem pack_ev (b : List Int) (hb : b.length ≤ 1000000000000) : Ev (fun k => bureauref03_Pack.f k b) (pack b) := by
 have loop : ∀ (d i : Nat) (acc : List S51), i + d = b.length → acc.length ≤ i → (∀ r ∈ acc, r.f1 ≤ i) → (∀ r ∈ acc, 0 ≤ r.f1) → Ev (fun k => bureauref03_Pack.l0 k b acc (i : Int)) (packTo acc (b.drop i)) := by
  intro d
  induction d with
  | zero =>
   intro i acc hi _ _ _
   refine Ev.step (fun k => by simp only [bureauref03_Pack.l0]; rfl) ?_
   refine Ev.neg (by omega) ?_
   rw [List.drop_eq_nil_of_le (by omega)]
   exact Ev.now _
  | succ d ih =>
   intro i acc hi ha hc h0
   have hlt : i < b.length := by omega
   have hstep : step1 acc (b.getD i 0) = step1 acc (b.getD i 0) := rfl
   refine Ev.step (fun k => by simp only [bureauref03_Pack.l0]; rfl) ?_
   refine Ev.pos (by omega) ?_
   have hrd : rd b (i : Int) = b.getD i 0 := by unfold rd; rw [Int.toNat_natCast]
   rw [hrd, dropI hlt, w1 hlt (by omega)]
   have happ : ∀ x : Int, Ev (fun k => if acc.length < 8796093022208 then bureauref03_Pack.l0 k b (acc ++ [(⟨x, 1⟩ : S51)]) ((i + 1 : Nat) : Int) else none) (packTo (acc ++ [⟨x, 1⟩]) (b.drop (i + 1))) := fun x => by
    refine Ev.pos (by omega) (ih (i + 1) _ (by omega) (by simp; omega) ?_ ?_)
    ·intro r hr
     rcases List.mem_append.1 hr with hr | hr
     ·have := hc r hr; omega
     ·obtain rfl := List.mem_singleton.1 hr; show (1 : Int) ≤ ((i + 1 : Nat) : Int); omega
    ·intro r hr
     rcases List.mem_append.1 hr with hr | hr
     ·exact h0 r hr
     ·obtain rfl := List.mem_singleton.1 hr; show (0 : Int) ≤ 1; omega
   show Ev _ (packTo (step1 acc (b.getD i 0)) (b.drop (i + 1)))
   rcases snoc_cases acc with rfl | ⟨pre, q, rfl⟩
   ·refine Ev.neg (by simp) (Ev.pos (by omega) ?_)
    rw [step1_nil]
    exact happ _
   ·have hlen : (pre ++ [q]).length = pre.length + 1 := by simp
    have hidx : wrap64 (((pre ++ [q]).length : Int) - 1) = ((pre.length : Nat) : Int) := by rw [hlen]; unfold wrap64; omega
    have hget : rd_T51 (pre ++ [q]) ((pre.length : Nat) : Int) = q := by rw [rdT]; simp [List.getD_eq_getElem?_getD]
    refine Ev.pos (by omega) ?_
    rw [hidx, hget]
    refine Ev.pos (by omega) (Ev.pos (by omega) (Ev.pos (by omega) ?_))
    by_cases he : q.f0 = b.getD i 0
    ·refine Ev.pos he ?_
     rw [← he, step1_same]
     have hq := hc q (by simp)
     have hq0 := h0 q (by simp)
     rw [Int.toNat_natCast, show (pre ++ [q]).set pre.length (⟨q.f0, wrap64 (q.f1 + 1)⟩ : S51) = pre ++ [⟨q.f0, q.f1 + 1⟩] by
      rw [show wrap64 (q.f1 + 1) = q.f1 + 1 by unfold wrap64; omega]; simp]
     refine ih (i + 1) _ (by omega) (by simp at ha ⊢; omega) ?_ ?_
     ·intro r hr
      rcases List.mem_append.1 hr with hr | hr
      ·have := hc r (List.mem_append_left _ hr); omega
      ·obtain rfl := List.mem_singleton.1 hr; show q.f1 + 1 ≤ ((i + 1 : Nat) : Int); omega
     ·intro r hr
      rcases List.mem_append.1 hr with hr | hr
      ·exact h0 r (List.mem_append_left _ hr)
      ·obtain rfl := List.mem_singleton.1 hr; show 0 ≤ q.f1 + 1; omega
    ·refine Ev.neg he ?_
     rw [step1_other _ _ _ he]
     exact happ _
 exact loop b.length 0 [] (by omega) (by simp) (by intro r hr; cases hr) (by intro r hr; cases hr)
theorem bytes_ev (l : List S51) (hl : l.length ≤ big) (hb : (bytes l).length ≤ 1000000000000) : Ev (fun k => bureauref03_Bytes.f k l) (bytes l) := by
 unfold big at hl
 have loop : ∀ (d i : Nat) (acc : List Int), i + d = l.length → acc.length + (bytes (l.drop i)).length ≤ 1000000000000 → Ev (fun k => bureauref03_Bytes.l0 k l acc (i : Int)) (acc ++ bytes (l.drop i)) := by
  intro d
  induction d with
  | zero =>
   intro i acc hi _
   refine Ev.step (fun k => by simp only [bureauref03_Bytes.l0]; rfl) ?_
   refine Ev.neg (by omega) ?_
   rw [List.drop_eq_nil_of_le (by omega)]
   exact ev_val (Ev.now _) (by simp [bytes])
  | succ d ih =>
   intro i acc hi hlen
   have hlt : i < l.length := by omega
   rw [dropT hlt, bytes_cons] at hlen ⊢
   rw [List.length_append, List.length_replicate] at hlen
   refine Ev.step (fun k => by simp only [bureauref03_Bytes.l0]; rfl) ?_
   refine Ev.pos (by omega) ?_
   have inner : ∀ (e j : Nat) (acc' : List Int), j + e = (l.getD i z51).f1.toNat → acc' = acc ++ List.replicate j (l.getD i z51).f0 → Ev (fun k => bureauref03_Bytes.l1 k l acc' (i : Int) (j : Int)) (acc ++ (List.replicate (l.getD i z51).f1.toNat (l.getD i z51).f0 ++ bytes (l.drop (i + 1)))) := by
    intro e
    induction e with
    | zero =>
     intro j acc' hj ha
     refine Ev.step (fun k => by simp only [bureauref03_Bytes.l1]; rfl) ?_
     refine Ev.pos (by omega) (Ev.pos (by omega) ?_)
     rw [rdT, w1 hlt (by omega)]
     refine Ev.neg (by omega) ?_
     have := ih (i + 1) acc' (by omega) (by rw [ha, List.length_append, List.length_replicate]; omega)
     refine ev_val this ?_
     rw [ha, List.append_assoc]
     rw [Nat.add_zero] at hj
     rw [hj]
    | succ e ihe =>
     intro j acc' hj ha
     refine Ev.step (fun k => by simp only [bureauref03_Bytes.l1]; rfl) ?_
     refine Ev.pos (by omega) (Ev.pos (by omega) ?_)
     rw [rdT]
     refine Ev.pos (by omega) (Ev.pos (by have hz := congrArg List.length ha; rw [List.length_append, List.length_replicate] at hz; omega) ?_)
     rw [show wrap64 ((j : Int) + 1) = ((j + 1 : Nat) : Int) by unfold wrap64; omega]
     exact ihe (j + 1) _ (by omega) (by rw [ha, List.replicate_succ', List.append_assoc])
   exact inner (l.getD i z51).f1.toNat 0 acc (by omega) (by simp)
 exact ev_val (loop l.length 0 [] (by omega) (by simpa using hb)) (by simp)
theorem good_ev (l : List S51) (hl : l.length ≤ big) : Ev (fun k => runs_Good.f k l) (good l) := by
 have ht := total_ev l hl
 unfold big at hl
 have loop : ∀ (d i : Nat), i + d = l.length → ∀ b : Bool, (b = true ↔ ((0 < i → i < l.length → (l.getD (i - 1) z51).f0 ≠ (l.getD i z51).f0) ∧ nrm (l.drop i) ∧ tot l ≤ 4096)) → Ev (fun k => runs_Good.l0 k l l (l.length : Int) (i : Int)) b := by
  intro d
  induction d with
  | zero =>
   intro i hi b hb
   refine Ev.step (fun k => by simp only [runs_Good.l0]; rfl) ?_
   refine Ev.neg (by omega) ?_
   rw [List.drop_eq_nil_of_le (by omega)] at hb
   refine Ev.bind ht (ev_val (Ev.now _) ?_)
   rw [Bool.eq_iff_iff, hb, decide_eq_true_iff]
   exact ⟨fun h => ⟨fun _ h2 => absurd h2 (by omega), trivial, h⟩, fun h => h.2.2⟩
  | succ d ih =>
   intro i hi b hb
   have hlt : i < l.length := by omega
   have hn : nrm (l.drop i) ↔ 1 ≤ (l.getD i z51).f1 ∧ (i + 1 < l.length → (l.getD i z51).f0 ≠ (l.getD (i + 1) z51).f0) ∧ nrm (l.drop (i + 1)) := by
    rw [dropT hlt]
    by_cases h2 : i + 1 < l.length
    ·rw [dropT h2]
     exact ⟨fun h => ⟨h.1, fun _ => h.2.1, h.2.2⟩, fun h => ⟨h.1, h.2.1 h2, h.2.2⟩⟩
    ·rw [List.drop_eq_nil_of_le (show l.length ≤ i + 1 by omega)]
     exact ⟨fun h => ⟨h, fun h3 => absurd h3 h2, trivial⟩, fun h => h.1⟩
   refine Ev.step (fun k => by simp only [runs_Good.l0]; rfl) ?_
   refine Ev.pos (by omega) (Ev.pos (by omega) (Ev.pos (by omega) ?_))
   rw [rdT, w1 hlt (by omega)]
   by_cases h1 : (l.getD i z51).f1 < 1
   ·refine Ev.pos h1 (ev_val (Ev.now _) ?_)
    rw [Bool.eq_iff_iff, hb, hn]
    exact ⟨fun h => (by cases h), fun h => (by have := h.2.1.1; omega)⟩
   ·refine Ev.neg h1 ?_
    have hrest : ∀ b' : Bool, (b' = true ↔ (nrm (l.drop i) ∧ tot l ≤ 4096)) → Ev (fun k => runs_Good.l0 k l l (l.length : Int) ((i + 1 : Nat) : Int)) b' := fun b' hb' => ih (i + 1) (by omega) b' (by
     rw [hb', hn, show i + 1 - 1 = i by omega]
     exact ⟨fun h => ⟨fun _ => h.1.2.1, h.1.2.2, h.2⟩, fun h => ⟨⟨by omega, h.1 (by omega), h.2.1⟩, h.2.2⟩⟩)
    by_cases h0 : 0 < i
    ·refine Ev.pos (by omega) ?_
     rw [show wrap64 ((i : Int) - 1) = ((i - 1 : Nat) : Int) by unfold wrap64; omega]
     refine Ev.pos (by omega) (Ev.pos (by omega) ?_)
     rw [rdT]
     by_cases he : (l.getD (i - 1) z51).f0 = (l.getD i z51).f0
     ·refine Ev.pos he (ev_val (Ev.now _) ?_)
      rw [Bool.eq_iff_iff, hb]
      exact ⟨fun h => (by cases h), fun h => absurd he (h.1 h0 hlt)⟩
     ·refine Ev.neg he (hrest b ?_)
      rw [hb]
      exact ⟨fun h => h.2, fun h => ⟨fun _ _ => he, h⟩⟩
    ·refine Ev.neg (by omega) (hrest b ?_)
     rw [hb]
     exact ⟨fun h => h.2, fun h => ⟨fun h3 => absurd h3 h0, h⟩⟩
 refine loop l.length 0 (by omega) (good l) ?_
 simp [good]
theorem rgood_ev (l : List S51) (hl : l.length ≤ big) : Ev (fun k => bureauref03_Good.f k l) (good l) := by
 unfold bureauref03_Good.f
 refine Ev.bind (rtotal_ev l hl) ?_
 by_cases ht : tot l > 4096
 ·exact Ev.pos ht (ev_val (Ev.now _) (by simp [good]; intro _; omega))
 ·refine Ev.neg ht ?_
  have hb : (bytes l).length ≤ 4096 := by have := tot_bytes (l := l) (by omega); omega
  refine Ev.bind (bytes_ev l hl (by omega)) (Ev.bind (pack_ev _ (by omega)) (Ev.bind (same_ev _ _ hl) ?_))
  refine ev_val (Ev.now _) ?_
  rw [good, show decide (tot l ≤ 4096) = true by simp; omega, Bool.and_true]
  exact decide_eq_decide.2 nrm_iff.symm
end Go.Proofs.Ytnbdldpjiofafaa.PB
end

section
namespace Go.Proofs.Ytnbdldpjiofafaa.Opn
open Go.ChangeShapes Go.WideShapes Go.Deep Go.Proofs.YtnbdldpjiofafaaW.PrintWords
set_option linter.unusedVariables false
def Opn {α : Type} (P : Program) (w : World) (t : TypeId) (d : Kd α) (wf : α → Prop) : Prop :=
  ∀ (H : Type) (enc : TypeId × Value → H) (base : Nat) (spare : Nat → Bool) (held : Bool) (fuel : Nat) (cs : List Value) (x : DataW H × List MemPlace),
    DataW.trod enc P w base spare held fuel t cs = some x → (∀ n ∈ x.1.weights P t, n ≤ reachBytes) → ∃ a : α, d.K w a cs ∧ wf a
section
variable {P : Program} {w : World}
theorem int {t : TypeId} {k : IntKind} (hu : P.underlying t = some (.int k)) : Opn P w t (Kd.int k) (fun n => (Lit.int k n).wf = true) := by
  intro H enc base spare held fuel cs x h _
  obtain ⟨n, rfl, _, hw⟩ := DataW.trod_int hu h
  exact ⟨n, rfl, hw⟩
theorem bool {t : TypeId} (hu : P.underlying t = some .bool) : Opn P w t Kd.bool (fun _ => True) := by
  intro H enc base spare held fuel cs x h _
  obtain ⟨b, rfl, _⟩ := DataW.trod_bool hu h
  exact ⟨b, rfl, trivial⟩
theorem string {t : TypeId} (hu : P.underlying t = some .string) : Opn P w t Kd.string (fun s => s.size ≤ 140737488351232) := by
  intro H enc base spare held fuel cs x h hz
  obtain ⟨s, rfl, rfl, _⟩ := DataW.trod_string hu h
  refine ⟨s, rfl, ?_⟩
  have := hz s.data.toList.length (by simp [DataW.weights])
  rw [data_length] at this
  exact this
theorem weightsAll_mem {H : Type} {e : TypeId} : ∀ {ds : List (DataW H)} {d : DataW H}, d ∈ ds → ∀ n ∈ d.weights P e, n ∈ DataW.weightsAll P e ds
  | d0 :: ds, d, hd, n, hn => by
    simp only [DataW.weightsAll, List.mem_append]
    rcases List.mem_cons.1 hd with rfl | hd
    · exact .inl hn
    · exact .inr (weightsAll_mem hd n hn)
theorem slice {α : Type} {t e : TypeId} {d : Kd α} {wf : α → Prop} (hu : P.underlying t = some (.slice e)) (hc : P.cellsOf e = d.sz) {B : Nat} (hB : P.bytesOf e = B) (ho : Opn P w e d wf) :
    Opn P w t (Kd.slice e d) (fun xs => xs.length * B ≤ 140737488351232 ∧ ∀ x ∈ xs, wf x) := by
  intro H enc base spare held fuel cs x h hz
  rcases open_slice hu h with ⟨rfl, rfl⟩ | ⟨a, len, cap, m, n, D, Pl, rfl, hb, hl, hm, hmm, rfl, hel⟩
  · exact ⟨[], ⟨none, 0, rfl, Nat.le_refl _, Kd.C_nil _ _⟩, by simp, by intro x hx; cases hx⟩
  · simp only [DataW.weights, hu, List.mem_cons, List.mem_append] at hz
    have hlm : len ≤ m := by rw [hmm]; split <;> omega
    have hall : ∀ i, i < len → ∃ a' : α, (∃ cs', w.cells? base (a.add (i * P.cellsOf e)) (P.cellsOf e) = some cs' ∧ d.K w a' cs') ∧ wf a' := fun i hi => by
      obtain ⟨cs', h1, h2⟩ := hel i (by omega)
      obtain ⟨a', h3, h4⟩ := ho H enc base spare held n cs' _ h2 (fun q hq => hz q (.inr (.inl (weightsAll_mem (List.mem_map.2 ⟨i, List.mem_range.2 hi, rfl⟩) q hq))))
      exact ⟨a', ⟨cs', h1, h3⟩, h4⟩
    obtain ⟨xs, hxs, hx⟩ : ∃ xs : List α, xs.length = len ∧ ∀ i, ∀ h : i < xs.length, (∃ cs', w.cells? base (a.add (i * P.cellsOf e)) (P.cellsOf e) = some cs' ∧ d.K w xs[i] cs') ∧ wf xs[i] := by
      clear hz hel hlm hmm hm hl h
      induction len with
      | zero => exact ⟨[], rfl, fun i h => absurd h (by simp)⟩
      | succ q ih =>
        obtain ⟨xs, h1, h2⟩ := ih (fun i hi => hall i (by omega))
        obtain ⟨a', h3⟩ := hall q (by omega)
        refine ⟨xs ++ [a'], by simp [h1], fun i h => ?_⟩
        by_cases hi : i < xs.length
        · rw [List.getElem_append_left hi]; exact h2 i hi
        · have : i = q := by simp at h; omega
          subst this
          rw [List.getElem_append_right (by omega)]
          simpa using h3
    refine ⟨xs, ⟨some a, cap, by rw [hxs], by omega, rfl, by have : cap ≤ 9223372036854775807 := hm; omega, fun hp => ⟨a, rfl, fun i p hp => ?_⟩⟩, ?_, ?_⟩
    · have hi : i < xs.length := (List.getElem?_eq_some_iff.1 hp).1
      have hpe : p = xs[i] := by rw [List.getElem?_eq_getElem hi] at hp; exact (Option.some.inj hp).symm
      obtain ⟨⟨cs', h1, h2⟩, _⟩ := hx i hi
      rw [hc] at h1
      obtain ⟨_, hcl, hat⟩ := World.cells?_some h1
      refine ⟨cs', by rw [hcl], by rw [hpe]; exact h2, fun j u hu => ?_⟩
      have hj : j < d.sz := by have := (List.getElem?_eq_some_iff.1 hu).1; omega
      have := hat j hj
      rw [← Go.Deep.add_add, this, hu]
    · have := hz _ (.inl rfl)
      rw [hB] at this
      simp only [List.length_map, List.length_range] at this
      rw [hxs]
      exact Nat.le_trans (Nat.mul_le_mul_right _ (by omega)) this
    · intro x hxm
      obtain ⟨i, hi, rfl⟩ := List.mem_iff_getElem.1 hxm
      exact (hx i hi).2
end
end Go.Proofs.Ytnbdldpjiofafaa.Opn
end

section
namespace Go.Proofs.Ytnbdldpjiofafaa.PB
open Go.ChangeShapes Go.WideShapes Go.Proofs.Ytnbdldpjiofafaa Go.Proofs.YtnbdldpjiofafaaW.PrintWords
set_option linter.unusedVariables false
def wf51 (x : S51) : Prop := ((Lit.int .u64 x.f0).wf = true) ∧ ((Lit.int .i64 x.f1).wf = true)
theorem opn51 {w : World} : Opn.Opn Try.prog w 51 k51 wf51 := by
  intro H enc base spare held fuel cs x h hz
  obtain ⟨xs, n, _, rfl, hlen, hyl, hf⟩ := DataW.trod_struct Try.underlying51 h
  have hcl : cs.length = 2 := hlen.trans (by kernel_rfl)
  obtain ⟨y0, y1, rfl⟩ : ∃ y0 y1, xs = [y0, y1] := by
    clear h hz hf hlen hcl; have hyl' : xs.length = 2 := hyl; clear hyl
    match xs, hyl' with | [y0, y1], _ => exact ⟨y0, y1, rfl⟩
  obtain ⟨c0, c1, rfl⟩ : ∃ c0 c1, cs = [c0, c1] := by
    clear h hz hf hlen hyl
    match cs, hcl with | [c0, c1], _ => exact ⟨c0, c1, rfl⟩
  simp only [DataW.weights, Try.underlying51] at hz
  have h0 : DataW.trod enc Try.prog w base spare held n 26 [c0] = some y0 := by have z := hf 0 _ rfl; rwa [show Try.prog.cellsOf _ = 1 from by kernel_rfl] at z
  obtain ⟨a0, k0_, w0⟩ := (Opn.int Try.underlying26) H enc base spare held n _ _ h0 (fun q hq => hz q (by simp [DataW.weightsEach, hq]))
  have h1 : DataW.trod enc Try.prog w base spare held n 3 [c1] = some y1 := by have z := hf 1 _ rfl; rwa [show Try.prog.cellsOf _ = 1 from by kernel_rfl] at z
  obtain ⟨a1, k1_, w1⟩ := (Opn.int Try.underlying3) H enc base spare held n _ _ h1 (fun q hq => hz q (by simp [DataW.weightsEach, hq]))
  exact ⟨⟨a0, a1⟩, ⟨_, _, rfl, k0_, k1_⟩, w0, w1⟩
def wf24 (x : S24) : Prop := (x.f0.size ≤ 140737488351232) ∧ (x.f1.length * 16 ≤ 140737488351232 ∧ ∀ x_ ∈ x.f1, wf51 x_)
theorem opn24 {w : World} : Opn.Opn Try.prog w 24 k24 wf24 := by
  intro H enc base spare held fuel cs x h hz
  obtain ⟨xs, n, _, rfl, hlen, hyl, hf⟩ := DataW.trod_struct Try.underlying24 h
  have hcl : cs.length = 2 := hlen.trans (by kernel_rfl)
  obtain ⟨y0, y1, rfl⟩ : ∃ y0 y1, xs = [y0, y1] := by
    clear h hz hf hlen hcl; have hyl' : xs.length = 2 := hyl; clear hyl
    match xs, hyl' with | [y0, y1], _ => exact ⟨y0, y1, rfl⟩
  obtain ⟨c0, c1, rfl⟩ : ∃ c0 c1, cs = [c0, c1] := by
    clear h hz hf hlen hyl
    match cs, hcl with | [c0, c1], _ => exact ⟨c0, c1, rfl⟩
  simp only [DataW.weights, Try.underlying24] at hz
  have h0 : DataW.trod enc Try.prog w base spare held n 9 [c0] = some y0 := by have z := hf 0 _ rfl; rwa [show Try.prog.cellsOf _ = 1 from by kernel_rfl] at z
  obtain ⟨a0, k0_, w0⟩ := (Opn.string Try.underlying9) H enc base spare held n _ _ h0 (fun q hq => hz q (by simp [DataW.weightsEach, hq]))
  have h1 : DataW.trod enc Try.prog w base spare held n 22 [c1] = some y1 := by have z := hf 1 _ rfl; rwa [show Try.prog.cellsOf _ = 1 from by kernel_rfl] at z
  obtain ⟨a1, k1_, w1⟩ := (Opn.slice Try.underlying22 (by kernel_rfl) (by kernel_rfl : Try.prog.bytesOf 51 = 16) opn51) H enc base spare held n _ _ h1 (fun q hq => hz q (by simp [DataW.weightsEach, hq]))
  exact ⟨⟨a0, a1⟩, ⟨_, _, rfl, k0_, k1_⟩, w0, w1⟩
structure S28 where
  f0 : Int
  f1 : Int
  f2 : ByteArray
  f3 : ByteArray
  f4 : Bool
def z28 : S28 := ⟨(0 : Int), (0 : Int), (⟨#[]⟩ : ByteArray), (⟨#[]⟩ : ByteArray), false⟩
def k28 : Kd S28 := Kd.iso (Kd.pair (Kd.int .i64) (Kd.pair (Kd.int .i64) (Kd.pair Kd.string (Kd.pair Kd.string Kd.bool)))) (fun x : S28 => (x.f0, x.f1, x.f2, x.f3, x.f4))
theorem k28_open {w : World} {x : S28} {cs : List Value} (h : k28.K w x cs) : cs = [.int .i64 x.f0, .int .i64 x.f1, .string x.f2, .string x.f3, .bool x.f4] := by
  obtain ⟨_, _, rfl, rfl, ⟨_, _, rfl, rfl, ⟨_, _, rfl, rfl, ⟨_, _, rfl, rfl, rfl⟩⟩⟩⟩ := h
  exact rfl
def wf28 (x : S28) : Prop := ((Lit.int .i64 x.f0).wf = true) ∧ ((Lit.int .i64 x.f1).wf = true) ∧ (x.f2.size ≤ 140737488351232) ∧ (x.f3.size ≤ 140737488351232) ∧ (True)
theorem opn28 {w : World} : Opn.Opn Try.prog w 28 k28 wf28 := by
  intro H enc base spare held fuel cs x h hz
  obtain ⟨xs, n, _, rfl, hlen, hyl, hf⟩ := DataW.trod_struct Try.underlying28 h
  have hcl : cs.length = 5 := hlen.trans (by kernel_rfl)
  obtain ⟨y0, y1, y2, y3, y4, rfl⟩ : ∃ y0 y1 y2 y3 y4, xs = [y0, y1, y2, y3, y4] := by
    clear h hz hf hlen hcl; have hyl' : xs.length = 5 := hyl; clear hyl
    match xs, hyl' with | [y0, y1, y2, y3, y4], _ => exact ⟨y0, y1, y2, y3, y4, rfl⟩
  obtain ⟨c0, c1, c2, c3, c4, rfl⟩ : ∃ c0 c1 c2 c3 c4, cs = [c0, c1, c2, c3, c4] := by
    clear h hz hf hlen hyl
    match cs, hcl with | [c0, c1, c2, c3, c4], _ => exact ⟨c0, c1, c2, c3, c4, rfl⟩
  simp only [DataW.weights, Try.underlying28] at hz
  have h0 : DataW.trod enc Try.prog w base spare held n 3 [c0] = some y0 := by have z := hf 0 _ rfl; rwa [show Try.prog.cellsOf _ = 1 from by kernel_rfl] at z
  obtain ⟨a0, k0_, w0⟩ := (Opn.int Try.underlying3) H enc base spare held n _ _ h0 (fun q hq => hz q (by simp [DataW.weightsEach, hq]))
  have h1 : DataW.trod enc Try.prog w base spare held n 3 [c1] = some y1 := by have z := hf 1 _ rfl; rwa [show Try.prog.cellsOf _ = 1 from by kernel_rfl] at z
  obtain ⟨a1, k1_, w1⟩ := (Opn.int Try.underlying3) H enc base spare held n _ _ h1 (fun q hq => hz q (by simp [DataW.weightsEach, hq]))
  have h2 : DataW.trod enc Try.prog w base spare held n 9 [c2] = some y2 := by have z := hf 2 _ rfl; rwa [show Try.prog.cellsOf _ = 1 from by kernel_rfl] at z
  obtain ⟨a2, k2_, w2⟩ := (Opn.string Try.underlying9) H enc base spare held n _ _ h2 (fun q hq => hz q (by simp [DataW.weightsEach, hq]))
  have h3 : DataW.trod enc Try.prog w base spare held n 9 [c3] = some y3 := by have z := hf 3 _ rfl; rwa [show Try.prog.cellsOf _ = 1 from by kernel_rfl] at z
  obtain ⟨a3, k3_, w3⟩ := (Opn.string Try.underlying9) H enc base spare held n _ _ h3 (fun q hq => hz q (by simp [DataW.weightsEach, hq]))
  have h4 : DataW.trod enc Try.prog w base spare held n 4 [c4] = some y4 := by have z := hf 4 _ rfl; rwa [show Try.prog.cellsOf _ = 1 from by kernel_rfl] at z
  obtain ⟨a4, k4_, w4⟩ := (Opn.bool Try.underlying4) H enc base spare held n _ _ h4 (fun q hq => hz q (by simp [DataW.weightsEach, hq]))
  exact ⟨⟨a0, a1, a2, a3, a4⟩, ⟨_, _, rfl, k0_, ⟨_, _, rfl, k1_, ⟨_, _, rfl, k2_, ⟨_, _, rfl, k3_, k4_⟩⟩⟩⟩, w0, w1, w2, w3, w4⟩
structure S46 where
  f0 : S28
  f1 : ByteArray
def z46 : S46 := ⟨z28, (⟨#[]⟩ : ByteArray)⟩
end Go.Proofs.Ytnbdldpjiofafaa.PB
end

section
namespace Go.Proofs.Ytnbdldpjiofafaa.PB
open Go.RowKit Go.Proofs.YtnbdldpjiofafaaW.PrintWords
set_option linter.unusedVariables false
theorem capped_nil : capped 0 [] := fun r hr => by cases hr
theorem gather0 (a b : Nat) (l : List S51) (h0 : ∀ r ∈ l, 0 ≤ r.f1) (hl : (bytes l).length ≤ 500000) (ha : a ≤ 500000) (hb : b ≤ 500000) :
  someTo addRun (a : Int) (b : Int) l 0 [] = pack (((bytes l).take b).drop a) := by
 have := someTo_pack a b l 0 [] 0 h0 capped_nil (by omega) (by omega) (by omega) (by omega) (by omega)
 simpa [pack] using this
theorem gather_all (l : List S51) (h0 : ∀ r ∈ l, 0 ≤ r.f1) (hl : (bytes l).length ≤ 4096) : someTo addRun 0 4096 l 0 [] = pack (bytes l) := by
 have := gather0 0 4096 l h0 (by omega) (by omega) (by omega)
 rw [List.take_of_length_le (by omega), List.drop_zero] at this
 exact this
def normalS (l : List S51) : List S51 × Int :=
 if (∃ j : Nat, j < l.length ∧ (rd_T51 l (j : Int)).f1 < 0) then ([], 2) else if tot l > 4096 then ([], 3) else (pack (bytes l), 0)
theorem notneg {l : List S51} (h : ¬ ∃ j : Nat, j < l.length ∧ (rd_T51 l (j : Int)).f1 < 0) : ∀ r ∈ l, 0 ≤ r.f1 := fun r hr => by
 obtain ⟨j, hj, rfl⟩ := List.mem_iff_getElem.1 hr
 have hh : ¬ (rd_T51 l (j : Int)).f1 < 0 := fun hn => h ⟨j, hj, hn⟩
 rw [rdT, List.getD_eq_getElem?_getD, List.getElem?_eq_getElem hj] at hh
 simp at hh
 exact hh
theorem normal_ev (l : List S51) (hl : l.length ≤ big) : Ev (fun k => runs_Normal.f k l) (normalS l) := by
 unfold runs_Normal.f normalS
 refine Ev.ite (fun _ => Ev.now _) (fun hn => ?_)
 refine Ev.bind (total_ev l hl) ?_
 refine Ev.ite (fun _ => Ev.now _) (fun ht => ?_)
 unfold big at hl
 refine Ev.pos (by omega) (ev_val (Ev.now _) ?_)
 have hb := tot_bytes (l := l) (by omega)
 rw [gather_all l (notneg hn) (by omega)]
theorem good_nrm {l : List S51} (h : good l = true) : nrm l ∧ tot l ≤ 4096 := by
 unfold good at h
 simpa using h
theorem nrm_nonneg {l : List S51} (h : nrm l) : ∀ r ∈ l, 0 ≤ r.f1 := fun r hr => by have := nrm_pos h r hr; omega
theorem step1_len (acc : List S51) (x : Int) : (step1 acc x).length ≤ acc.length + 1 := by
 unfold step1
 split
 ·simp
 ·simp
theorem packTo_len (b : List Int) : ∀ acc : List S51, (packTo acc b).length ≤ acc.length + b.length := by
 induction b with
 | nil => intro acc; simp [packTo]
 | cons x b ih => intro acc; have h1 := ih (step1 acc x); have h2 := step1_len acc x; show (packTo (step1 acc x) b).length ≤ _; rw [List.length_cons]; omega
theorem pack_len (b : List Int) : (pack b).length ≤ b.length := by have := packTo_len b []; simpa [pack] using this
end Go.Proofs.Ytnbdldpjiofafaa.PB
end

section
namespace Go.Proofs.Ytnbdldpjiofafaa.PB
open Go.RowKit Go.Proofs.YtnbdldpjiofafaaW.PrintWords Go.Proofs.YtnbdldpjiofafaaW.PrintLast Go.Proofs.YtnbdldpjiofafaaW.PrintMore
attribute [local go_sem] max2_int min2_int max_two min_two max_three min_three max_four min_four
set_option linter.unusedVariables false
set_option linter.unusedSimpArgs false
def belowN (a b : Nat) : Bool := (List.range 64).all (fun i => !a.testBit i || b.testBit i)
theorem belowN_yes {a b : Nat} (h : ∀ i, i < 64 → a.testBit i = true → b.testBit i = true) : belowN a b = true := by
  unfold belowN
  rw [List.all_eq_true]
  intro i hi
  have := h i (List.mem_range.1 hi)
  cases ha : a.testBit i <;> simp_all
theorem belowN_bits (a b : Nat) (ha : a < 2 ^ 64) (hb : b < 2 ^ 64) : (Go.bits .andNot .u64 (a : Int) (b : Int) == 0) = belowN a b := by
  rw [u64_andNot_nat a b ha hb]
  have hs : ∀ i, (a &&& (18446744073709551615 - b)).testBit i = (a.testBit i && (decide (i < 64) && !b.testBit i)) := fun i => by
    rw [Nat.testBit_and, show 18446744073709551615 - b = 2 ^ 64 - (b + 1) by omega, Nat.testBit_two_pow_sub_succ hb]
  cases h : belowN a b with
  | true =>
    have h0 : a &&& (18446744073709551615 - b) = 0 := by
      apply Nat.eq_of_testBit_eq
      intro i
      rw [hs, Nat.zero_testBit]
      by_cases hi : i < 64
      · unfold belowN at h
        have := List.all_eq_true.1 h i (List.mem_range.2 hi)
        cases ha : a.testBit i <;> cases hb : b.testBit i <;> simp_all
      · simp [hi]
    rw [h0]; rfl
  | false =>
    unfold belowN at h
    obtain ⟨i, hi, hc⟩ := List.all_eq_false.1 h
    have hz : (a &&& (18446744073709551615 - b)).testBit i = true := by
      rw [hs]
      have := List.mem_range.1 hi
      cases ha : a.testBit i <;> cases hb : b.testBit i <;> simp_all
    rw [beq_eq_false_iff_ne]
    intro he
    have : a &&& (18446744073709551615 - b) = 0 := by omega
    rw [this, Nat.zero_testBit] at hz
    cases hz
def orAll (l : List Nat) : Nat := l.foldl (· ||| ·) 0
def orAllI (l : List Int) : Int := l.foldl (fun a x => Go.bits .or .u64 a x) 0
theorem orAllI_nat (l : List Nat) (hl : ∀ x ∈ l, x < 2 ^ 64) : orAllI (l.map (fun x : Nat => (x : Int))) = ((orAll l : Nat) : Int) := by
  unfold orAllI orAll
  have : ∀ (l : List Nat) (a : Nat), a < 2 ^ 64 → (∀ x ∈ l, x < 2 ^ 64) → (l.map (fun x : Nat => (x : Int))).foldl (fun a x => Go.bits .or .u64 a x) (a : Int) = ((l.foldl (· ||| ·) a : Nat) : Int) := by
    intro l
    induction l with
    | nil => intro a _ _; rfl
    | cons x l ih =>
      intro a ha hl
      have hx := hl x List.mem_cons_self
      rw [List.map_cons, List.foldl_cons, List.foldl_cons, u64_or_nat a x ha hx]
      exact ih _ (Nat.or_lt_two_pow ha hx) (fun y hy => hl y (List.mem_cons_of_mem _ hy))
  exact this l 0 (by decide) hl
end Go.Proofs.Ytnbdldpjiofafaa.PB
end

section
namespace Go.Proofs.Ytnbdldpjiofafaa.PB
open Go.RowKit Go.Proofs.YtnbdldpjiofafaaW.PrintWords
set_option linter.unusedVariables false
def withinB (l : List S51) (a b : Int) : Bool := good l && (decide (0 ≤ a) && (decide (a ≤ b) && decide (b ≤ tot l)))
theorem withinB_iff {l : List S51} {a b : Int} : withinB l a b = true ↔ good l = true ∧ 0 ≤ a ∧ a ≤ b ∧ b ≤ tot l := by simp [withinB]
theorem within_ev (l : List S51) (hl : l.length ≤ big) (a b : Int) : Ev (fun k => runs_within.f k l a b) (withinB l a b) := by
 unfold runs_within.f
 refine Ev.bind (good_ev l hl) ?_
 by_cases hg : good l = true
 ·refine Ev.pos hg ?_
  by_cases h0 : a ≥ 0
  ·refine Ev.pos h0 ?_
   by_cases h1 : a ≤ b
   ·refine Ev.pos h1 (Ev.bind (total_ev l hl) (ev_val (Ev.now _) ?_))
    simp [withinB, hg, h1, show 0 ≤ a from h0]
   ·exact Ev.neg h1 (ev_val (Ev.now _) (by simp [withinB, h1]))
  ·exact Ev.neg h0 (ev_val (Ev.now _) (by simp [withinB]; intro _ h; omega))
 ·exact Ev.neg hg (ev_val (Ev.now _) (by simp [withinB, hg]))
theorem within_facts {l : List S51} {a b : Int} (h : withinB l a b = true) : ∃ i j : Nat, a = i ∧ b = j ∧ i ≤ j ∧ j ≤ (bytes l).length ∧ (bytes l).length ≤ 4096 ∧ nrm l ∧ tot l = (bytes l).length := by
 obtain ⟨hg, h0, h1, h2⟩ := withinB_iff.1 h
 obtain ⟨hn, ht⟩ := good_nrm hg
 have hb := tot_bytes ht
 obtain ⟨i, rfl⟩ := Int.eq_ofNat_of_zero_le h0
 obtain ⟨j, rfl⟩ := Int.eq_ofNat_of_zero_le (show 0 ≤ b by omega)
 exact ⟨i, j, rfl, rfl, by omega, by omega, by omega, hn, hb⟩
def sliceS (l : List S51) (a b : Int) : List S51 × Int := if withinB l a b = true then (pack (((bytes l).take b.toNat).drop a.toNat), 0) else ([], 2)
theorem slice_ev (l : List S51) (hl : l.length ≤ big) (a b : Int) : Ev (fun k => runs_Slice.f k l a b) (sliceS l a b) := by
 unfold runs_Slice.f sliceS
 refine Ev.bind (within_ev l hl a b) ?_
 refine Ev.ite (fun hw => ?_) (fun _ => Ev.now _)
 obtain ⟨i, j, rfl, rfl, hij, hj, h4, hn, _⟩ := within_facts hw
 unfold big at hl
 refine Ev.pos (by omega) (ev_val (Ev.now _) ?_)
 rw [gather0 i j l (nrm_nonneg hn) (by omega) (by omega) (by omega)]
 rfl
def pos1 (l : List S51) : List Int := (l.filter (fun r => decide (r.f1 > 0))).map (·.f0)
theorem pos1_cons (r : S51) (l : List S51) : pos1 (r :: l) = if r.f1 > 0 then r.f0 :: pos1 l else pos1 l := by
 unfold pos1
 rw [List.filter_cons]
 by_cases h : r.f1 > 0 <;> simp [h]
theorem all_ev (l : List S51) (hl : l.length ≤ big) : Ev (fun k => runs_All.f k l) (orAllI (pos1 l)) := by
 unfold big at hl
 have loop : ∀ (d i : Nat) (n : Int), i + d = l.length → Ev (fun k => runs_All.l0 k n l (l.length : Int) (i : Int)) ((pos1 (l.drop i)).foldl (fun a x => Go.bits .or .u64 a x) n) := by
  intro d
  induction d with
  | zero =>
   intro i n hi
   refine Ev.step (fun k => by simp only [runs_All.l0]; rfl) ?_
   refine Ev.neg (by omega) ?_
   rw [List.drop_eq_nil_of_le (by omega)]
   exact Ev.now _
  | succ d ih =>
   intro i n hi
   have hlt : i < l.length := by omega
   refine Ev.step (fun k => by simp only [runs_All.l0]; rfl) ?_
   refine Ev.pos (by omega) (Ev.pos (by omega) (Ev.pos (by omega) ?_))
   rw [rdT, w1 hlt (by omega), dropT hlt, pos1_cons]
   by_cases hp : (l.getD i z51).f1 > 0
   ·refine Ev.pos hp ?_
    rw [if_pos hp]
    unfold label_Join.f
    refine Ev.bind (Ev.now _) ?_
    exact ih (i + 1) _ (by omega)
   ·refine Ev.neg hp ?_
    rw [if_neg hp]
    exact ih (i + 1) _ (by omega)
 exact loop l.length 0 0 (by omega)
theorem wf_u64 {n : Int} (h : (Lit.int .u64 n).wf = true) : 0 ≤ n ∧ n < 18446744073709551616 := by
 have hmin : IntKind.u64.min = 0 := rfl
 have hmax : IntKind.u64.max = 18446744073709551615 := rfl
 simp only [Lit.wf, Bool.and_eq_true, decide_eq_true_eq, hmin, hmax] at h
 omega
theorem wf_labels {l : List S51} (h : ∀ x ∈ l, wf51 x) : ∀ r ∈ l, 0 ≤ r.f0 ∧ r.f0 < 18446744073709551616 := fun r hr => wf_u64 (h r hr).1
def spliceS (l : List S51) (a b : Int) (m : List S51) : List S51 × Int :=
 if withinB l a b = true then (if good m = true then (if tot l - (b - a) + tot m > 4096 then ([], 3) else (pack ((bytes l).take a.toNat ++ bytes m ++ (bytes l).drop b.toNat), 0)) else ([], 2)) else ([], 2)
theorem good_facts {m : List S51} (h : good m = true) : nrm m ∧ (bytes m).length ≤ 4096 ∧ tot m = (bytes m).length := by
 obtain ⟨hn, ht⟩ := good_nrm h
 have hb := tot_bytes ht
 exact ⟨hn, by omega, hb⟩
theorem spliceRuns_pack (l m : List S51) (i j : Nat) (hi : i ≤ 4096) (hj : j ≤ 4096) (hl : (bytes l).length ≤ 4096) (hm : (bytes m).length ≤ 4096) (hn : nrm l) (hnm : nrm m) :
  spliceRuns l i j m = pack ((bytes l).take i ++ bytes m ++ (bytes l).drop j) := by
 unfold spliceRuns
 have e1 := someTo_pack 0 i l 0 [] 0 (nrm_nonneg hn) capped_nil (by omega) (by omega) (by omega) (by omega) (by omega)
 rw [show ((0 : Nat) : Int) = 0 from rfl, Nat.sub_zero, Nat.sub_zero, List.drop_zero] at e1
 rw [e1]
 have c1 := packTo_capped ((bytes l).take i) (capped_nil) (show (0 : Int) ≤ 0 by omega)
 have hlen1 : ((bytes l).take i).length ≤ 4096 := by rw [List.length_take]; omega
 have e2 := someTo_pack 0 4096 m 0 _ _ (nrm_nonneg hnm) c1 (by omega) (by omega) (by omega) (by omega) (by omega)
 rw [show ((0 : Nat) : Int) = 0 from rfl, show ((4096 : Nat) : Int) = 4096 from rfl, Nat.sub_zero, Nat.sub_zero, List.drop_zero, List.take_of_length_le hm] at e2
 rw [e2]
 have c2 := packTo_capped (bytes m) c1 (by omega)
 have e3 := someTo_pack j 4096 l 0 _ _ (nrm_nonneg hn) c2 (by omega) (by omega) (by omega) (by omega) (by omega)
 rw [show ((0 : Nat) : Int) = 0 from rfl, show ((4096 : Nat) : Int) = 4096 from rfl, Nat.sub_zero, Nat.sub_zero, List.take_of_length_le hl] at e3
 rw [e3]
 unfold pack
 rw [packTo_append, packTo_append]
theorem splice_ev (l : List S51) (hl : l.length ≤ big) (a b : Int) (m : List S51) (hm : m.length ≤ big) : Ev (fun k => runs_Splice.f k l a b m) (spliceS l a b m) := by
 unfold runs_Splice.f spliceS
 refine Ev.bind (within_ev l hl a b) ?_
 refine Ev.ite (fun hw => ?_) (fun _ => Ev.now _)
 refine Ev.bind (good_ev m hm) ?_
 refine Ev.ite (fun hg => ?_) (fun _ => Ev.now _)
 refine Ev.bind (total_ev l hl) (Ev.bind (total_ev m hm) ?_)
 obtain ⟨i, j, rfl, rfl, hij, hj, h4, hn, ht⟩ := within_facts hw
 obtain ⟨hnm, h4m, htm⟩ := good_facts hg
 rw [show wrap64 (wrap64 (tot l - wrap64 ((j : Int) - (i : Int))) + tot m) = tot l - ((j : Int) - (i : Int)) + tot m by unfold wrap64; omega]
 refine Ev.ite (fun _ => Ev.now _) (fun _ => ?_)
 unfold big at hl hm
 refine Ev.pos (by omega) (ev_val (Ev.now _) ?_)
 rw [spliceRuns_pack l m i j (by omega) (by omega) h4 h4m hn hnm]
 rfl
theorem good_pack {b : List Int} (h : b.length ≤ 4096) : good (pack b) = true ∧ tot (pack b) = b.length := by
 have hn := pack_nrm b
 have ht : tot (pack b) = b.length := by
  rw [tot_of_bytes (nrm_nonneg hn) (by rw [pack_bytes]; exact h), pack_bytes]
 exact ⟨by unfold good; rw [Bool.and_eq_true, decide_eq_true_iff, decide_eq_true_iff]; exact ⟨hn, by omega⟩, ht⟩
end Go.Proofs.Ytnbdldpjiofafaa.PB
end

section
namespace Go.Proofs.Ytnbdldpjiofafaa.PB
open Go.RowKit Go.Proofs.YtnbdldpjiofafaaW.PrintWords
set_option linter.unusedVariables false
theorem bytes_mem {l : List S51} {x : Int} (h : x ∈ bytes l) : ∃ r ∈ l, r.f0 = x := by
 obtain ⟨r, hr, hx⟩ := List.mem_flatMap.1 h
 exact ⟨r, hr, (List.eq_of_mem_replicate hx).symm⟩
end Go.Proofs.Ytnbdldpjiofafaa.PB
end

section
namespace Go.Proofs.Ytnbdldpjiofafaa.PB
open Go.RowKit Go.Proofs.YtnbdldpjiofafaaW.PrintWords
set_option linter.unusedVariables false
def goodT (s : ByteArray) (l : List S51) : Bool := good l && decide (tot l = (s.size : Int))
theorem goodT_iff {s : ByteArray} {l : List S51} : goodT s l = true ↔ good l = true ∧ tot l = (s.size : Int) := by simp [goodT]
theorem goodT_facts {s : ByteArray} {l : List S51} (h : goodT s l = true) : good l = true ∧ nrm l ∧ (bytes l).length = s.size ∧ s.size ≤ 4096 ∧ tot l = (s.size : Int) := by
 obtain ⟨h1, h2⟩ := goodT_iff.1 h
 obtain ⟨h3, h4, h5⟩ := good_facts h1
 exact ⟨h1, h3, by omega, by omega, h2⟩
theorem goodT_ev (s : ByteArray) (l : List S51) (hl : l.length ≤ big) : Ev (fun k => strip_Good.f k s l) (goodT s l) := by
 unfold strip_Good.f
 refine Ev.bind (good_ev l hl) ?_
 by_cases hg : good l = true
 ·rw [hg]
  exact Ev.pos rfl (Ev.bind (total_ev l hl) (ev_val (Ev.now _) (by rw [Bool.eq_iff_iff]; simp [goodT, hg])))
 ·exact Ev.neg hg (ev_val (Ev.now _) (by simp [goodT, hg]))
theorem rgoodT_ev (s : ByteArray) (l : List S51) (hl : l.length ≤ big) : Ev (fun k => bureauref04_Good.f k s l) (goodT s l) := by
 unfold bureauref04_Good.f
 refine Ev.bind (rgood_ev l hl) ?_
 by_cases hg : good l = true
 ·rw [hg]
  exact Ev.pos rfl (Ev.bind (rtotal_ev l hl) (ev_val (Ev.now _) (by rw [Bool.eq_iff_iff]; simp [goodT, hg])))
 ·exact Ev.neg hg (ev_val (Ev.now _) (by simp [goodT, hg]))
def withinT (s : ByteArray) (l : List S51) (a b : Int) : Bool := goodT s l && (decide (0 ≤ a) && (decide (a ≤ b) && decide (b ≤ (s.size : Int))))
theorem withinT_iff {s : ByteArray} {l : List S51} {a b : Int} : withinT s l a b = true ↔ goodT s l = true ∧ 0 ≤ a ∧ a ≤ b ∧ b ≤ (s.size : Int) := by simp [withinT]
theorem withinT_ev (s : ByteArray) (l : List S51) (hl : l.length ≤ big) (a b : Int) : Ev (fun k => strip_within.f k s l a b) (withinT s l a b) := by
 unfold strip_within.f
 refine Ev.bind (goodT_ev s l hl) ?_
 by_cases hg : goodT s l = true
 ·refine Ev.pos hg ?_
  by_cases h0 : 0 ≤ a
  ·refine Ev.pos h0 ?_
   by_cases h1 : a ≤ b
   ·exact Ev.pos h1 (ev_val (Ev.now _) (by simp [withinT, hg, h0, h1]))
   ·exact Ev.neg h1 (ev_val (Ev.now _) (by simp [withinT, h1]))
  ·exact Ev.neg h0 (ev_val (Ev.now _) (by simp [withinT, h0]))
 ·exact Ev.neg hg (ev_val (Ev.now _) (by simp [withinT, hg]))
theorem rwithinT_ev (s : ByteArray) (l : List S51) (hl : l.length ≤ big) (a b : Int) : Ev (fun k => bureauref04_Within.f k s l a b) (withinT s l a b) := by
 unfold bureauref04_Within.f
 refine Ev.bind (rgoodT_ev s l hl) ?_
 by_cases hg : goodT s l = true
 ·refine Ev.pos hg ?_
  by_cases h0 : 0 ≤ a
  ·refine Ev.pos h0 ?_
   by_cases h1 : a ≤ b
   ·exact Ev.pos h1 (ev_val (Ev.now _) (by simp [withinT, hg, h0, h1]))
   ·exact Ev.neg h1 (ev_val (Ev.now _) (by simp [withinT, h1]))
  ·exact Ev.neg h0 (ev_val (Ev.now _) (by simp [withinT, h0]))
 ·exact Ev.neg hg (ev_val (Ev.now _) (by simp [withinT, hg]))
theorem withinT_facts {s : ByteArray} {l : List S51} {a b : Int} (h : withinT s l a b = true) : ∃ i j : Nat, a = i ∧ b = j ∧ i ≤ j ∧ j ≤ s.size ∧ goodT s l = true ∧ withinB l a b = true := by
 obtain ⟨h1, h2, h3, h4⟩ := withinT_iff.1 h
 obtain ⟨g1, g2, g3, g4, g5⟩ := goodT_facts h1
 obtain ⟨i, rfl⟩ := Int.eq_ofNat_of_zero_le h2
 obtain ⟨j, rfl⟩ := Int.eq_ofNat_of_zero_le (show 0 ≤ b by omega)
 exact ⟨i, j, rfl, rfl, by omega, by omega, h1, withinB_iff.2 ⟨g1, by omega, by omega, by omega⟩⟩
abbrev TX := ByteArray × List S51 × Int
def makeS (s : ByteArray) (y : Int) : TX := if (s.size : Int) > 4096 then (⟨#[]⟩, [], 3) else (s, pack (List.replicate s.size y), 0)
theorem normal_one (y : Int) (n : Nat) : normalS [⟨y, (n : Int)⟩] = if (n : Int) > 4096 then ([], 3) else (pack (List.replicate n y), 0) := by
 unfold normalS
 rw [if_neg (fun ⟨j, hj, hh⟩ => by
  have : j = 0 := by simpa using hj
  subst this
  have : ((n : Nat) : Int) < 0 := hh
  omega)]
 have ht : tot [(⟨y, (n : Int)⟩ : S51)] = if (n : Int) > 4096 then 4097 else (n : Int) := by
  simp only [tot, totF]
  by_cases h : (n : Int) > 4096
  ·rw [if_pos h, if_pos (by omega)]
  ·rw [if_neg h, if_neg (by omega), if_neg (by omega)]; omega
 rw [ht]
 by_cases h : (n : Int) > 4096
 ·rw [if_pos h, if_pos h, if_pos (by omega)]
 ·rw [if_neg h, if_neg h, if_neg h]
  simp [bytes]
theorem make_ev (s : ByteArray) (y : Int) : Ev (fun k => strip_Make.f k s y) (makeS s y) := by
 unfold strip_Make.f makeS
 refine Ev.bind (normal_ev _ (by simp [big])) ?_
 rw [normal_one]
 by_cases h : (s.size : Int) > 4096
 ·rw [if_pos h, if_pos h]
  exact Ev.neg (by decide) (Ev.now _)
 ·rw [if_neg h, if_neg h]
  exact Ev.pos rfl (Ev.now _)
theorem or_rep (a x : Nat) : ∀ n, (List.replicate (n + 1) x).foldl (· ||| ·) a = a ||| x
 | 0 => rfl
 | n + 1 => by
  rw [List.replicate_succ, List.foldl_cons, or_rep (a ||| x) x n, Nat.or_assoc, Nat.or_self]
theorem or_bytes : ∀ (l : List S51) (a : Nat), ((bytes l).map Int.toNat).foldl (· ||| ·) a = ((pos1 l).map Int.toNat).foldl (· ||| ·) a
 | [], _ => rfl
 | r :: l, a => by
  rw [bytes_cons, pos1_cons, List.map_append, List.map_replicate, List.foldl_append]
  by_cases h : r.f1 > 0
  ·obtain ⟨n, hn⟩ : ∃ n, r.f1.toNat = n + 1 := ⟨r.f1.toNat - 1, by omega⟩
   rw [if_pos h, hn, or_rep, List.map_cons, List.foldl_cons, or_bytes l]
  ·rw [if_neg h, show r.f1.toNat = 0 by omega]
   exact or_bytes l a
theorem toNat_map {L : List Int} (h : ∀ x ∈ L, 0 ≤ x ∧ x < 18446744073709551616) : L = (L.map Int.toNat).map (fun x : Nat => (x : Int)) := by
 induction L with
 | nil => rfl
 | cons x L ih =>
  rw [List.map_cons, List.map_cons, ← ih (fun z hz => h z (List.mem_cons_of_mem _ hz))]
  have := h x List.mem_cons_self
  congr 1
  omega
theorem orAllI_bytes {l : List S51} (hw : ∀ r ∈ l, 0 ≤ r.f0 ∧ r.f0 < 18446744073709551616) : orAllI (bytes l) = orAllI (pos1 l) := by
 have h1 : ∀ x ∈ bytes l, 0 ≤ x ∧ x < 18446744073709551616 := fun x hx => by obtain ⟨r, hr, rfl⟩ := bytes_mem hx; exact hw r hr
 have h2 : ∀ x ∈ pos1 l, 0 ≤ x ∧ x < 18446744073709551616 := fun x hx => by
  obtain ⟨r, hr, rfl⟩ := List.mem_map.1 hx
  exact hw r (List.mem_filter.1 hr).1
 rw [toNat_map h1, toNat_map h2, orAllI_nat _ (fun x hx => by obtain ⟨y, hy, rfl⟩ := List.mem_map.1 hx; have := h1 y hy; omega), orAllI_nat _ (fun x hx => by obtain ⟨y, hy, rfl⟩ := List.mem_map.1 hx; have := h2 y hy; omega)]
 congr 1
 exact or_bytes l 0
def sameT (s : ByteArray) (l : List S51) (t : ByteArray) (m : List S51) : Bool := if s.toList = t.toList then decide (l = m) else false
theorem sameT_self (s : ByteArray) (l : List S51) : sameT s l s l = true := by simp [sameT]
theorem rsame4_ev (s : ByteArray) (l : List S51) (t : ByteArray) (m : List S51) (hl : l.length ≤ big) : Ev (fun k => bureauref04_Same.f k s l t m) (sameT s l t m) := by
 unfold bureauref04_Same.f sameT
 exact Ev.ite (fun _ => Ev.bind (same_ev l m hl) (Ev.now _)) (fun _ => Ev.now _)
def cutS (s : ByteArray) (l : List S51) (a b : Int) : TX := if withinT s l a b = true then (s.extract a.toNat b.toNat, pack (((bytes l).take b.toNat).drop a.toNat), 0) else (⟨#[]⟩, [], 2)
theorem cut_ev (s : ByteArray) (l : List S51) (hl : l.length ≤ big) (a b : Int) : Ev (fun k => strip_Cut.f k s l a b) (cutS s l a b) := by
 unfold strip_Cut.f cutS
 refine Ev.bind (withinT_ev s l hl a b) ?_
 refine Ev.ite (fun hw => ?_) (fun _ => Ev.now _)
 obtain ⟨h1, h2, h3, h4⟩ := withinT_iff.1 hw
 obtain ⟨i, j, rfl, rfl, hij, hj, hg, hwb⟩ := withinT_facts hw
 refine Ev.bind (slice_ev l hl _ _) (Ev.pos h2 (Ev.pos h3 (Ev.pos h4 (ev_val (Ev.now _) ?_))))
 unfold sliceS
 rw [if_pos hwb]
theorem rcut_ev (s : ByteArray) (l : List S51) (hl : l.length ≤ big) (a b : Int) : Ev (fun k => bureauref04_Cut.f k s l a b) (cutS s l a b) := by
 unfold bureauref04_Cut.f cutS
 refine Ev.bind (rwithinT_ev s l hl a b) ?_
 refine Ev.ite (fun hw => ?_) (fun _ => Ev.now _)
 obtain ⟨h1, h2, h3, h4⟩ := withinT_iff.1 hw
 obtain ⟨g1, g2, g3, g4, g5⟩ := goodT_facts h1
 refine Ev.bind (bytes_ev l hl (by omega)) (Ev.pos h2 (Ev.pos h3 (Ev.pos h4 (Ev.pos (by omega) (Ev.bind (pack_ev _ ?_) (Ev.now _))))))
 rw [List.length_drop, List.length_take]
 omega
def spliceT (s : ByteArray) (l : List S51) (a b : Int) (x : ByteArray) (m : List S51) : TX :=
 if withinT s l a b = true then (if goodT x m = true then (if (s.size : Int) - (b - a) + (x.size : Int) > 4096 then (⟨#[]⟩, [], 3) else
  (s.extract 0 a.toNat ++ x ++ s.extract b.toNat s.size, pack ((bytes l).take a.toNat ++ bytes m ++ (bytes l).drop b.toNat), 0)) else (⟨#[]⟩, [], 2)) else (⟨#[]⟩, [], 2)
theorem ext_size (s : ByteArray) (i j : Nat) : (s.extract i j).size ≤ s.size := by rw [ByteArray.size_extract]; omega
theorem splice4_ev (s : ByteArray) (l : List S51) (hl : l.length ≤ big) (a b : Int) (x : ByteArray) (m : List S51) (hm : m.length ≤ big) : Ev (fun k => strip_Splice.f k s l a b x m) (spliceT s l a b x m) := by
 unfold strip_Splice.f spliceT
 refine Ev.bind (withinT_ev s l hl a b) ?_
 have bad : Ev (fun k => strip_Splice.j0 k a b true s l x m) (⟨#[]⟩, [], 2) := by
  refine Ev.step (fun k => by simp only [strip_Splice.j0]; rfl) ?_
  exact Ev.pos (by simp) (Ev.now _)
 refine Ev.ite (fun hw => ?_) (fun _ => bad)
 refine Ev.bind (goodT_ev x m hm) ?_
 by_cases hg : goodT x m = true
 ·rw [if_pos hg, hg]
  refine Ev.step (fun k => by simp only [strip_Splice.j0]; rfl) ?_
  refine Ev.neg (by simp) (Ev.bind (splice_ev l hl a b m hm) ?_)
  obtain ⟨h1, h2, h3, h4⟩ := withinT_iff.1 hw
  obtain ⟨i, j, rfl, rfl, hij, hj, hgl, hwb⟩ := withinT_facts hw
  obtain ⟨g1, g2, g3, g4, g5⟩ := goodT_facts hgl
  obtain ⟨q1, q2, q3, q4, q5⟩ := goodT_facts hg
  have he : spliceS l (i : Int) (j : Int) m = if (s.size : Int) - ((j : Int) - (i : Int)) + (x.size : Int) > 4096 then ([], 3) else (pack ((bytes l).take (i : Int).toNat ++ bytes m ++ (bytes l).drop (j : Int).toNat), 0) := by
   unfold spliceS
   rw [if_pos hwb, if_pos q1, g5, q5]
  rw [he]
  by_cases hb : (s.size : Int) - ((j : Int) - (i : Int)) + (x.size : Int) > 4096
  ·rw [if_pos hb, if_pos hb]
   exact Ev.neg (by decide) (Ev.now _)
  ·rw [if_neg hb, if_neg hb]
   have e1 := ext_size s 0 (i : Int).toNat
   have e2 := ext_size s (j : Int).toNat s.size
   refine Ev.pos rfl (Ev.pos h2 (Ev.pos (by omega) (Ev.pos (by omega) (Ev.pos (by omega) (Ev.pos h4 (Ev.pos ?_ (Ev.now _)))))))
   rw [ByteArray.size_append]
   omega
 ·rw [if_neg hg, show goodT x m = false by simpa using hg]
  exact bad
theorem rsplice4_ev (s : ByteArray) (l : List S51) (hl : l.length ≤ big) (a b : Int) (x : ByteArray) (m : List S51) (hm : m.length ≤ big) : Ev (fun k => bureauref04_Splice.f k s l a b x m) (spliceT s l a b x m) := by
 unfold bureauref04_Splice.f spliceT
 refine Ev.bind (rwithinT_ev s l hl a b) ?_
 have bad : Ev (fun k => bureauref04_Splice.j0 k a b true s l x m) (⟨#[]⟩, [], 2) := by
  refine Ev.step (fun k => by simp only [bureauref04_Splice.j0]; rfl) ?_
  exact Ev.pos (by simp) (Ev.now _)
 refine Ev.ite (fun hw => ?_) (fun _ => bad)
 refine Ev.bind (rgoodT_ev x m hm) ?_
 by_cases hg : goodT x m = true
 ·rw [if_pos hg, hg]
  refine Ev.step (fun k => by simp only [bureauref04_Splice.j0]; rfl) ?_
  refine Ev.neg (by simp) ?_
  obtain ⟨h1, h2, h3, h4⟩ := withinT_iff.1 hw
  obtain ⟨i, j, rfl, rfl, hij, hj, hgl, hwb⟩ := withinT_facts hw
  obtain ⟨g1, g2, g3, g4, g5⟩ := goodT_facts hgl
  obtain ⟨q1, q2, q3, q4, q5⟩ := goodT_facts hg
  rw [show wrap64 (wrap64 ((s.size : Int) - wrap64 ((j : Int) - (i : Int))) + (x.size : Int)) = (s.size : Int) - ((j : Int) - (i : Int)) + (x.size : Int) by unfold wrap64; omega]
  refine Ev.ite (fun _ => Ev.now _) (fun hb => ?_)
  refine Ev.bind (bytes_ev l hl (by omega)) (Ev.bind (bytes_ev m hm (by omega)) ?_)
  generalize hB : bytes l = B at *
  generalize hM : bytes m = M at *
  have hrd : ∀ (L : List Int) (q : Nat), rd L (q : Int) = L.getD q 0 := fun L q => by unfold rd; rw [Int.toNat_natCast]
  have l2 : ∀ (d q : Nat) (acc : List Int), q + d = B.length → acc.length ≤ 8192 + q → Ev (fun k => bureauref04_Splice.l2 k (i : Int) (j : Int) B acc (q : Int) s l x m)
    (s.extract 0 (i : Int).toNat ++ x ++ s.extract (j : Int).toNat s.size, pack (acc ++ B.drop q), 0) := by
   intro d
   induction d with
   | zero =>
    intro q acc hq ha
    refine Ev.step (fun k => by simp only [bureauref04_Splice.l2]; rfl) ?_
    have e1 := ext_size s 0 (i : Int).toNat
    have e2 := ext_size s (j : Int).toNat s.size
    refine Ev.neg (by omega) (Ev.pos h2 (Ev.pos (by omega) (Ev.pos (by omega) (Ev.pos (by omega) (Ev.pos h4 (Ev.pos ?_ ?_))))))
    ·rw [ByteArray.size_append]; omega
    ·rw [List.drop_eq_nil_of_le (by omega), List.append_nil]
     exact Ev.bind (pack_ev _ (by omega)) (Ev.now _)
   | succ d ih =>
    intro q acc hq ha
    have hlt : q < B.length := by omega
    refine Ev.step (fun k => by simp only [bureauref04_Splice.l2]; rfl) ?_
    refine Ev.pos (by omega) (Ev.pos (by omega) (Ev.pos (by omega) ?_))
    rw [w1 hlt (by omega), dropI hlt, hrd]
    exact ev_val (ih (q + 1) _ (by omega) (by simp; omega)) (by rw [List.append_assoc]; rfl)
  have l1 : ∀ (d q : Nat) (acc : List Int), q + d = M.length → acc.length ≤ 4096 + q → Ev (fun k => bureauref04_Splice.l1 k (i : Int) (j : Int) B M acc (q : Int) s l x m)
    (s.extract 0 (i : Int).toNat ++ x ++ s.extract (j : Int).toNat s.size, pack (acc ++ M.drop q ++ B.drop j), 0) := by
   intro d
   induction d with
   | zero =>
    intro q acc hq ha
    refine Ev.step (fun k => by simp only [bureauref04_Splice.l1]; rfl) ?_
    refine Ev.neg (by omega) ?_
    rw [List.drop_eq_nil_of_le (show M.length ≤ q by omega), List.append_nil]
    exact l2 (B.length - j) j acc (by omega) (by omega)
   | succ d ih =>
    intro q acc hq ha
    have hlt : q < M.length := by omega
    refine Ev.step (fun k => by simp only [bureauref04_Splice.l1]; rfl) ?_
    refine Ev.pos (by omega) (Ev.pos (by omega) (Ev.pos (by omega) ?_))
    rw [w1 hlt (by omega), dropI hlt, hrd]
    exact ev_val (ih (q + 1) _ (by omega) (by simp; omega)) (by rw [List.append_assoc acc]; rfl)
  have l0 : ∀ (d q : Nat), q + d = i → Ev (fun k => bureauref04_Splice.l0 k (i : Int) (j : Int) B M (B.take q) (q : Int) s l x m)
    (s.extract 0 (i : Int).toNat ++ x ++ s.extract (j : Int).toNat s.size, pack (B.take i ++ M ++ B.drop j), 0) := by
   intro d
   induction d with
   | zero =>
    intro q hq
    refine Ev.step (fun k => by simp only [bureauref04_Splice.l0]; rfl) ?_
    refine Ev.neg (by omega) ?_
    obtain rfl : q = i := by omega
    exact l1 M.length 0 (B.take q) (by omega) (by rw [List.length_take]; omega)
   | succ d ih =>
    intro q hq
    have hlt : q < B.length := by omega
    refine Ev.step (fun k => by simp only [bureauref04_Splice.l0]; rfl) ?_
    refine Ev.pos (by omega) (Ev.pos (by omega) (Ev.pos (by omega) (Ev.pos (by rw [List.length_take]; omega) ?_)))
    rw [w1 hlt (by omega), hrd]
    have ht : B.take q ++ [B.getD q 0] = B.take (q + 1) := by
     rw [List.take_add_one, List.getD_eq_getElem?_getD, List.getElem?_eq_getElem hlt]; rfl
    rw [ht]
    exact ih (q + 1) (by omega)
  exact l0 i 0 (by omega)
 ·rw [if_neg hg, show goodT x m = false by simpa using hg]
  exact bad
def catT (s : ByteArray) (l : List S51) (x : ByteArray) (m : List S51) : TX := spliceT s l (s.size : Int) (s.size : Int) x m
theorem cat4_ev (s : ByteArray) (l : List S51) (hl : l.length ≤ big) (x : ByteArray) (m : List S51) (hm : m.length ≤ big) : Ev (fun k => strip_Cat.f k s l x m) (catT s l x m) := by
 unfold strip_Cat.f catT
 exact Ev.bind (splice4_ev s l hl _ _ x m hm) (Ev.now _)
theorem toList_loop (a : ByteArray) : ∀ (n i : Nat) (r : List UInt8), i + n = a.size → ByteArray.toList.loop a i r = r.reverse ++ a.data.toList.drop i
 | 0, i, r, h => by
  unfold ByteArray.toList.loop
  rw [if_neg (by omega), List.drop_eq_nil_of_le (by rw [Array.length_toList]; show a.size ≤ i; omega), List.append_nil]
 | n + 1, i, r, h => by
  unfold ByteArray.toList.loop
  have hi : i < a.data.toList.length := by rw [Array.length_toList]; show i < a.size; omega
  rw [if_pos (by omega), toList_loop a n (i + 1) _ (by omega), List.reverse_cons, List.append_assoc, List.drop_eq_getElem_cons hi]
  congr 1
  show [a.get! i] ++ _ = _
  rw [List.singleton_append]
  congr 1
  show a.data[i]! = _
  rw [getElem!_pos a.data i (by rw [Array.length_toList] at hi; exact hi)]
  simp
theorem toList_data (a : ByteArray) : a.toList = a.data.toList := by
 unfold ByteArray.toList
 rw [toList_loop a a.size 0 [] (by omega)]
 rfl
theorem toList_inj {a b : ByteArray} (h : a.toList = b.toList) : a = b := by
 rw [toList_data, toList_data] at h
 exact ByteArray.ext (Array.toList_inj.1 h)
end Go.Proofs.Ytnbdldpjiofafaa.PB
end
