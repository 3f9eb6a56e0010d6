/- What the row hangs on, part 6. -/
import Derived.Lib.CountLaws
import Derived.Lib.SplitLaws
import Derived.Lib.IndexMore
import Derived.OpenShut
import Derived.ChangeArms
import Derived.Deep.Slices
import Derived.SizedLaws
import Derived.Deep.MidRow
import Derived.Laws.BitsAllLaws
import Derived.Laws.BitsAllLaws
import Derived.Lib.IndexMore
import Derived.Test.YtnbdldpjiofafaaQSubstItself5
section
namespace Go.Proofs.Ytnbdldpjiofafaa.PB
open Go.RowKit Go.Proofs.YtnbdldpjiofafaaW.PrintWords Go.Proofs.YtnbdldpjiofafaaW.PrintLast Go.Proofs.YtnbdldpjiofafaaW.PrintMore
attribute [local go_sem] max2_int min2_int max_two min_two max_three min_three max_four min_four   
set_option linter.unusedVariables false
set_option linter.unusedSimpArgs false
def bureaulaw15_alive.f (k : Nat)  : Option (Bool) := (some (([(⟨1, 6⟩ : S51)] : List (S51)) : List (S51))).bind fun y246 => ((subst_Do.f k (⟨#[97, 97, 98, 10, 97, 97]⟩ : ByteArray) y246 1 0 1 (⟨#[97]⟩ : ByteArray) (⟨#[120, 121]⟩ : ByteArray) true).bind fun bt250 => ((subst_Do.f k (⟨#[97, 97, 98, 10, 97, 97]⟩ : ByteArray) y246 1 1 1 (⟨#[98]⟩ : ByteArray) (⟨#[]⟩ : ByteArray) false).bind fun bt262 => (if bt250.2.2.2.2.2.2 = 0 then (if bt250.2.2.2.2.2.1 = 4 then (if bt250.2.2.2.1.toList = ([120, 121, 120, 121, 98, 10, 120, 121, 120, 121] : List UInt8) then (some (bt262.2.2.2.2.2.2 == 6)) else (some false)) else (some false)) else (some false))))
theorem bureaulaw15_alive.mono : ∀ k, LeO (bureaulaw15_alive.f k ) (bureaulaw15_alive.f (k + 1) ) := by
 intro  k
 unfold bureaulaw15_alive.f
 repeat' first
   | (with_reducible exact subst_Do.mono _ _ _ _ _ _ _ _ _)
   | (with_reducible exact LeO.refl _)
   | (with_reducible exact LeO.none _)
   | (with_reducible refine LeO.ite ?_ ?_)
   | (with_reducible refine LeO.bind ?_ (fun _ => ?_))
   | exact subst_Do.mono _ _ _ _ _ _ _ _ _
   | exact LeO.none _
   | refine LeO.ite ?_ ?_
   | refine LeO.bind ?_ (fun _ => ?_)
set_option maxHeartbeats 8000000 in
set_option maxRecDepth 100000 in
theorem bureaulaw15_alive.calls (k : Nat)  (r : Bool) (w : World) (hMX : MaxOk w) (h : bureaulaw15_alive.f k  = some r) :
  Calls Try.prog 8 #[] w fun e w' => e = .returned (.bool r) ∧ Below w.heap.size w w' := by
 have HMX := aM hMX
 clear hMX
 have hu51 := Try.underlying51
 have hu24 := Try.underlying24
 have hu28 := Try.underlying28
 have hu32 := Try.underlying32
 have HB := aM (Below.refl w.heap.size w)
 have H : ((some (([(⟨1, 6⟩ : S51)] : List (S51)) : List (S51))).bind fun y246 => ((subst_Do.f k (⟨#[97, 97, 98, 10, 97, 97]⟩ : ByteArray) y246 1 0 1 (⟨#[97]⟩ : ByteArray) (⟨#[120, 121]⟩ : ByteArray) true).bind fun bt250 => ((subst_Do.f k (⟨#[97, 97, 98, 10, 97, 97]⟩ : ByteArray) y246 1 1 1 (⟨#[98]⟩ : ByteArray) (⟨#[]⟩ : ByteArray) false).bind fun bt262 => (if bt250.2.2.2.2.2.2 = 0 then (if bt250.2.2.2.2.2.1 = 4 then (if bt250.2.2.2.1.toList = ([120, 121, 120, 121, 98, 10, 120, 121, 120, 121] : List UInt8) then (some (bt262.2.2.2.2.2.2 == 6)) else (some false)) else (some false)) else (some false))))) = some r := h
 clear h
 obtain ⟨y246, hy246⟩ : ∃ y_ : List (S51), y_ = (([(⟨1, 6⟩ : S51)] : List (S51))) := ⟨_, rfl⟩
 replace H : ((subst_Do.f k (⟨#[97, 97, 98, 10, 97, 97]⟩ : ByteArray) y246 1 0 1 (⟨#[97]⟩ : ByteArray) (⟨#[120, 121]⟩ : ByteArray) true).bind fun bt250 => ((subst_Do.f k (⟨#[97, 97, 98, 10, 97, 97]⟩ : ByteArray) y246 1 1 1 (⟨#[98]⟩ : ByteArray) (⟨#[]⟩ : ByteArray) false).bind fun bt262 => (if bt250.2.2.2.2.2.2 = 0 then (if bt250.2.2.2.2.2.1 = 4 then (if bt250.2.2.2.1.toList = ([120, 121, 120, 121, 98, 10, 120, 121, 120, 121] : List UInt8) then (some (bt262.2.2.2.2.2.2 == 6)) else (some false)) else (some false)) else (some false)))) = some r := by first | (rw [hy246]; with_reducible exact H) | (have H2_ := (Option.bind_some _ _).symm.trans H; rw [hy246]; with_reducible exact H2_) | (have H2_ := (Option.bind_some _ _).symm.trans H; with_reducible exact H2_) | with_reducible exact H | (rw [hy246]; exact H) | exact H
 have Ny246 := aM hy246
 clear hy246
 replace H := Option.bind_eq_some_iff.mp H
 obtain ⟨⟨t250, t251, t252, t255, t256, t259, t260⟩, A10, H⟩ := H
 replace H : ((subst_Do.f k (⟨#[97, 97, 98, 10, 97, 97]⟩ : ByteArray) y246 1 1 1 (⟨#[98]⟩ : ByteArray) (⟨#[]⟩ : ByteArray) false).bind fun bt262 => (if t260 = 0 then (if t259 = 4 then (if t255.toList = ([120, 121, 120, 121, 98, 10, 120, 121, 120, 121] : List UInt8) then (some (bt262.2.2.2.2.2.2 == 6)) else (some false)) else (some false)) else (some false))) = some r := H
 have A1 := aM A10
 clear A10
 replace H := Option.bind_eq_some_iff.mp H
 obtain ⟨⟨t262, t263, t264, t267, t268, t271, t272⟩, A20, H⟩ := H
 replace H : (if t260 = 0 then (if t259 = 4 then (if t255.toList = ([120, 121, 120, 121, 98, 10, 120, 121, 120, 121] : List UInt8) then (some (t272 == 6)) else (some false)) else (some false)) else (some false)) = some r := H
 have A2 := aM A20
 clear A20
 by_cases c3 : t260 = 0
 ·rw [if_pos c3] at H
  have c3b0 : (t260 == 0) = true := beq_iff_eq.mpr c3
  have c3b1 : (t260 != 0) = false := bne_eq_false_iff_eq.mpr c3
  clear c3
  by_cases c4 : t259 = 4
  ·rw [if_pos c4] at H
   have c4b0 : (t259 == 4) = true := beq_iff_eq.mpr c4
   have c4b1 : (t259 != 4) = false := bne_eq_false_iff_eq.mpr c4
   clear c4
   by_cases c5 : t255.toList = ([120, 121, 120, 121, 98, 10, 120, 121, 120, 121] : List UInt8)
   ·rw [if_pos c5] at H
    have c5b0 : (t255.toList == ([120, 121, 120, 121, 98, 10, 120, 121, 120, 121] : List UInt8)) = true := beq_iff_eq.mpr c5
    have c5b1 : (t255.toList != ([120, 121, 120, 121, 98, 10, 120, 121, 120, 121] : List UInt8)) = false := bne_eq_false_iff_eq.mpr c5
    clear c5
    obtain rfl := Option.some.inj H
    go_enter Try.func8, Try.ntmps8
    go_wp2_with (first | ((with_reducible refine gate_dst (N := 9) rfl ?_); refine Kd.R_lit k51 _ 51 ?hg (N := 9) ?hd (xs := ([(⟨1, 6⟩ : S51)] : List (S51))) (inner := [.int .u64 1, .int .i64 6]) (ok := fun _ => True) (okp := fun _ => True) ?hr ?hp (fun _ hk => hk) trivial (Below.refl _ _) (Nat.le_refl _) (by simp) ?_; (case hd | hg => rfl); (case hr => first | (go_simp; done) | (go_simp; rfl)); (case hp => exact (Reps.c2 (show Kd.M k51 _ _ _ (⟨1, 6⟩ : S51) [.int .u64 1, .int .i64 6] from (k51_mkM _ _ _ (⟨1, 6⟩ : S51) )) (Reps.none _ _))); intro v247 w6 ho7 hb hg_ hnew_; clear hg_ hnew_; (first | rw [← Ny246.out] at ho7 | (simp only [Int.reduceToNat] at ho7; rw [← Ny246.out] at ho7)); have n0_ := aM (rL ho7 (bZ (ey HB.out))); have n1_ := aM (bP (ey HB.out) hb); clear HB; have HO248 := n0_; have HB := n1_; clear n0_ n1_; clear hb ho7; obtain ⟨Ao8, co8, eo8⟩ := Kd.R_slice HO248.out; subst eo8) | ((with_reducible refine gate_dst (N := 1) rfl ?_); refine box_event ?hg (N := 1) ?hd (cs := #[.string (⟨#[]⟩ : ByteArray), .slice none 0 0]) (t := 24) ?hr ?_; (case hd | hg => rfl); (case hr => first | (go_simp; done) | (go_simp; rfl)); intro gb249 hg w9 hbox hb; have n0_ := aM (Kd.R_below (ry HO248.out) hb); have n1_ := aM (bP (ey HB.out) hb); have n2_ := aM (hbox); have n3_ := aM ((by rw [hg]; exact (bZ (ey HB.out)) : w.heap.size ≤ gb249)); have n4_ := n3_; clear HO248 HB; have HO248 := n0_; have HB := n1_; have BK249 := n2_; have GW249 := n3_; have GE249 := n4_; clear n0_ n1_ n2_ n3_ n4_; clear hb hbox hg; have hcz10_0 : w9.cell? ⟨gb249, 0, none⟩ = some (.string (⟨#[]⟩ : ByteArray)) := (bC BK249.out 0).trans rfl; have hcz10_1 : w9.cell? ⟨gb249, 1, none⟩ = some (.slice none 0 0) := (bC BK249.out 1).trans rfl; have hfz10_0 := bF BK249.out 0; have hfz10_1 := bF BK249.out 1) | ((with_reducible refine gate_callee (f := 10) rfl ?_); refine goesL_ (some 14) rfl rfl Try.func10 (by kernel_rfl) rfl #[.agg #[.string (⟨#[97, 97, 98, 10, 97, 97]⟩ : ByteArray), .slice Ao8 y246.length co8], .int .u64 1, .agg #[.int .i64 0, .int .i64 1, .string (⟨#[97]⟩ : ByteArray), .string (⟨#[120, 121]⟩ : ByteArray), .bool true]] rfl (by (try simp only [mT, mC, mN]); first | done | rfl | (simp only [lD, lT]; rfl)) ?_; (with_reducible refine (subst_Do.calls k (⟨#[97, 97, 98, 10, 97, 97]⟩ : ByteArray) _ _ y246 1 0 1 (⟨#[97]⟩ : ByteArray) (⟨#[120, 121]⟩ : ByteArray) true t250 t251 t252 t255 t256 t259 t260 _ ?mx6 ?side1 ?side2 A1.out).mono ?_); (case mx6 => exact MaxOk.below HMX.out (by repeat (first | (with_reducible first | exact HB.out | apply ea | apply en | apply ed | refine es ?_ GE249.out) | exact HB.out))); (case side1 => refine (rR (e := 51) (base := w.heap.size) (ok := fun k_ => True) (n := y246.length) (c := co8) ?_).2.2; exact (by (with_reducible repeat (first | apply ra | apply rn | apply rd_)); exact (rM (rF (p := ⟨gb249, 1, none⟩) (rF (p := ⟨gb249, 0, none⟩) (rT HO248.out BK249.out (by decide)) (fun _ hk => hk.2) (.string (⟨#[97, 97, 98, 10, 97, 97]⟩ : ByteArray))) (fun _ hk => hk.2) (.slice Ao8 y246.length co8)) (fun _ h_ => h_.1)))); (case side2 => exact (rR HO248.out).2.1); rintro e w11 ⟨v253, v257, rfl, ho0, ho1, hb⟩; refine ⟨_, rfl, ?_⟩; have n0_ := aM (rM (Kd.R_told (Kd.R_told (Kd.R_old (by (with_reducible repeat (first | apply ra | apply rn | apply rd_)); exact (rM (rF (p := ⟨gb249, 1, none⟩) (rF (p := ⟨gb249, 0, none⟩) (rT HO248.out BK249.out (by decide)) (fun _ hk => hk.2) (.string (⟨#[97, 97, 98, 10, 97, 97]⟩ : ByteArray))) (fun _ hk => hk.2) (.slice Ao8 y246.length co8)) (fun _ h_ => h_.1))) hb) (Kd.R_base ho0)) (Kd.R_base ho1)) (fun _ h_ => h_.1)); have n1_ := aM (rL (Kd.R_new' ho0 (Kd.R_lt (by (with_reducible repeat (first | apply ra | apply rn | apply rd_)); exact (rM (rF (p := ⟨gb249, 1, none⟩) (rF (p := ⟨gb249, 0, none⟩) (rT HO248.out BK249.out (by decide)) (fun _ hk => hk.2) (.string (⟨#[97, 97, 98, 10, 97, 97]⟩ : ByteArray))) (fun _ hk => hk.2) (.slice Ao8 y246.length co8)) (fun _ h_ => h_.1))))) (bZ (by repeat (first | (with_reducible first | exact HB.out | apply ea | apply en | apply ed | refine es ?_ GE249.out) | exact HB.out)))); have n2_ := aM (rL (Kd.R_new' ho1 (Kd.R_lt (by (with_reducible repeat (first | apply ra | apply rn | apply rd_)); exact (rM (rF (p := ⟨gb249, 1, none⟩) (rF (p := ⟨gb249, 0, none⟩) (rT HO248.out BK249.out (by decide)) (fun _ hk => hk.2) (.string (⟨#[97, 97, 98, 10, 97, 97]⟩ : ByteArray))) (fun _ hk => hk.2) (.slice Ao8 y246.length co8)) (fun _ h_ => h_.1))))) (bZ (by repeat (first | (with_reducible first | exact HB.out | apply ea | apply en | apply ed | refine es ?_ GE249.out) | exact HB.out)))); have n3_ := aM (bB (g := gb249) (o := .cells #[.string (⟨#[97, 97, 98, 10, 97, 97]⟩ : ByteArray), .slice Ao8 y246.length co8] 24 (0, 0)) (by (with_reducible repeat (first | apply qn | apply qd | apply qa)); refine bU (cs := #[.string (⟨#[97, 97, 98, 10, 97, 97]⟩ : ByteArray), .slice none 0 0]) ?_ 1 _ rfl; (with_reducible repeat (first | apply qn | apply qd | apply qa)); refine bU (cs := #[.string (⟨#[]⟩ : ByteArray), .slice none 0 0]) ?_ 0 _ rfl; exact qy BK249.out) hb); have n4_ := aM (bP (by repeat (first | (with_reducible first | exact HB.out | apply ea | apply en | apply ed | refine es ?_ GE249.out) | exact HB.out)) hb); clear HO248 BK249 HB; have HO248 := n0_; have HO254 := n1_; have HO258 := n2_; have BK249 := n3_; have HB := n4_; clear n0_ n1_ n2_ n3_ n4_; (try clear hb); (try clear hb2); (try clear hk); (try clear hi); (try clear ho0); (try clear ho1)) | ((with_reducible refine gate_dst (N := 2) rfl ?_); refine box_event ?hg (N := 2) ?hd (cs := #[.int .i64 0, .string (⟨#[]⟩ : ByteArray), .slice none 0 0, .string (⟨#[]⟩ : ByteArray), .slice none 0 0]) (t := 32) ?hr ?_; (case hd | hg => rfl); (case hr => first | (go_simp; done) | (go_simp; rfl)); intro gb261 hg w12 hbox hb; have n0_ := aM (Kd.R_below (ry HO248.out) hb); have n1_ := aM (Kd.R_below (ry HO254.out) hb); have n2_ := aM (Kd.R_below (ry HO258.out) hb); have n3_ := aM (bB (g := gb249) (qy BK249.out) hb); have n4_ := aM (bP (by repeat (first | (with_reducible first | exact HB.out | apply ea | apply en | apply ed | refine es ?_ GE249.out) | exact HB.out)) hb); have n5_ := aM (hbox); have n6_ := aM ((by rw [hg]; exact (bZ (by repeat (first | (with_reducible first | exact HB.out | apply ea | apply en | apply ed | refine es ?_ GE249.out) | exact HB.out))) : w.heap.size ≤ gb261)); have n7_ := n6_; have n8_ := aM ((by rw [hg]; exact Nat.ne_of_lt (blk_lt (g := gb249) (qy BK249.out)) : gb249 ≠ gb261)); have n9_ := aM ((by rw [hg]; exact Nat.ne_of_gt (blk_lt (g := gb249) (qy BK249.out)) : gb261 ≠ gb249)); clear HO248 HO254 HO258 BK249 HB; have HO248 := n0_; have HO254 := n1_; have HO258 := n2_; have BK249 := n3_; have HB := n4_; have BK261 := n5_; have GW261 := n6_; have GE261 := n7_; have NB249_261 := n8_; have NB261_249 := n9_; clear n0_ n1_ n2_ n3_ n4_ n5_ n6_ n7_ n8_ n9_; clear hb hbox hg; have hnb13 := NB261_249.out; have hnc13 := NB249_261.out; have hcz14_0 : w12.cell? ⟨gb261, 0, none⟩ = some (.int .i64 0) := (bC BK261.out 0).trans rfl; have hcz14_1 : w12.cell? ⟨gb261, 1, none⟩ = some (.string (⟨#[]⟩ : ByteArray)) := (bC BK261.out 1).trans rfl; have hcz14_2 : w12.cell? ⟨gb261, 2, none⟩ = some (.slice none 0 0) := (bC BK261.out 2).trans rfl; have hcz14_3 : w12.cell? ⟨gb261, 3, none⟩ = some (.string (⟨#[]⟩ : ByteArray)) := (bC BK261.out 3).trans rfl; have hcz14_4 : w12.cell? ⟨gb261, 4, none⟩ = some (.slice none 0 0) := (bC BK261.out 4).trans rfl; have hfz14_0 := bF BK261.out 0; have hfz14_1 := bF BK261.out 1; have hfz14_2 := bF BK261.out 2; have hfz14_3 := bF BK261.out 3; have hfz14_4 := bF BK261.out 4; obtain ⟨Ao15, co15, eo15⟩ := Kd.R_slice HO254.out; subst eo15; obtain ⟨Ao16, co16, eo16⟩ := Kd.R_slice HO258.out; subst eo16; have hcz17_0 : w12.cell? ⟨gb249, 0, none⟩ = some (.string (⟨#[97, 97, 98, 10, 97, 97]⟩ : ByteArray)) := (bC BK249.out 0).trans rfl; have hcz17_1 : w12.cell? ⟨gb249, 1, none⟩ = some (.slice Ao8 y246.length co8) := (bC BK249.out 1).trans rfl; have hfz17_0 := bF BK249.out 0; have hfz17_1 := bF BK249.out 1) | ((with_reducible refine gate_callee (f := 10) rfl ?_); refine goesL_ (some 21) rfl rfl Try.func10 (by kernel_rfl) rfl #[.agg #[.string (⟨#[97, 97, 98, 10, 97, 97]⟩ : ByteArray), .slice Ao8 y246.length co8], .int .u64 1, .agg #[.int .i64 1, .int .i64 1, .string (⟨#[98]⟩ : ByteArray), .string (⟨#[]⟩ : ByteArray), .bool false]] rfl (by (try simp only [mT, mC, mN]); first | done | rfl | (simp only [lD, lT]; rfl)) ?_; (with_reducible refine (subst_Do.calls k (⟨#[97, 97, 98, 10, 97, 97]⟩ : ByteArray) _ _ y246 1 1 1 (⟨#[98]⟩ : ByteArray) (⟨#[]⟩ : ByteArray) false t262 t263 t264 t267 t268 t271 t272 _ ?mx7 ?side1 ?side2 A2.out).mono ?_); (case mx7 => exact MaxOk.below HMX.out (by repeat (first | (with_reducible first | exact HB.out | apply ea | apply en | apply ed | refine es ?_ GE249.out | refine es ?_ GE261.out) | exact HB.out))); (case side1 => refine (rR (e := 51) (base := w.heap.size) (ok := fun k_ => ((True ∧ some k_ ≠ (.slice Ao15 t252.length co15 : Value).ownBlock) ∧ some k_ ≠ (.slice Ao16 t256.length co16 : Value).ownBlock)) (n := y246.length) (c := co8) ?_).2.2; exact (by (with_reducible repeat (first | apply ra | apply rn | apply rd_)); exact (rM (rF (p := ⟨gb261, 4, none⟩) (rF (p := ⟨gb261, 3, none⟩) (rF (p := ⟨gb261, 2, none⟩) (rF (p := ⟨gb261, 1, none⟩) (rF (p := ⟨gb261, 0, none⟩) (rT HO248.out BK261.out (by decide)) (fun _ hk => hk.2) (.int .i64 t250)) (fun _ hk => hk.2) (.string t251)) (fun _ hk => hk.2) (.slice Ao15 t252.length co15)) (fun _ hk => hk.2) (.string t255)) (fun _ hk => hk.2) (.slice Ao16 t256.length co16)) (fun _ h_ => h_.1)))); (case side2 => exact (rR HO248.out).2.1); rintro e w18 ⟨v265, v269, rfl, ho0, ho1, hb⟩; refine ⟨_, rfl, ?_⟩; have n0_ := aM (rM (Kd.R_told (Kd.R_told (Kd.R_old (by (with_reducible repeat (first | apply ra | apply rn | apply rd_)); exact (rM (rF (p := ⟨gb261, 4, none⟩) (rF (p := ⟨gb261, 3, none⟩) (rF (p := ⟨gb261, 2, none⟩) (rF (p := ⟨gb261, 1, none⟩) (rF (p := ⟨gb261, 0, none⟩) (rT HO248.out BK261.out (by decide)) (fun _ hk => hk.2) (.int .i64 t250)) (fun _ hk => hk.2) (.string t251)) (fun _ hk => hk.2) (.slice Ao15 t252.length co15)) (fun _ hk => hk.2) (.string t255)) (fun _ hk => hk.2) (.slice Ao16 t256.length co16)) (fun _ h_ => h_.1))) hb) (Kd.R_base ho0)) (Kd.R_base ho1)) (fun _ h_ => h_.1)); have n1_ := aM (rM (Kd.R_told (Kd.R_told (Kd.R_old (by (with_reducible repeat (first | apply ra | apply rn | apply rd_)); exact (rM (rF (p := ⟨gb261, 4, none⟩) (rF (p := ⟨gb261, 3, none⟩) (rF (p := ⟨gb261, 2, none⟩) (rF (p := ⟨gb261, 1, none⟩) (rF (p := ⟨gb261, 0, none⟩) (rT HO254.out BK261.out (by decide)) (fun _ hk => hk.2) (.int .i64 t250)) (fun _ hk => hk.2) (.string t251)) (fun _ hk => hk.2) (.slice Ao15 t252.length co15)) (fun _ hk => hk.2) (.string t255)) (fun _ hk => hk.2) (.slice Ao16 t256.length co16)) (fun _ h_ => h_.1))) hb) (Kd.R_base ho0)) (Kd.R_base ho1)) (fun _ h_ => h_.1)); have n2_ := aM (rM (Kd.R_told (Kd.R_told (Kd.R_old (by (with_reducible repeat (first | apply ra | apply rn | apply rd_)); exact (rM (rF (p := ⟨gb261, 4, none⟩) (rF (p := ⟨gb261, 3, none⟩) (rF (p := ⟨gb261, 2, none⟩) (rF (p := ⟨gb261, 1, none⟩) (rF (p := ⟨gb261, 0, none⟩) (rT HO258.out BK261.out (by decide)) (fun _ hk => hk.2) (.int .i64 t250)) (fun _ hk => hk.2) (.string t251)) (fun _ hk => hk.2) (.slice Ao15 t252.length co15)) (fun _ hk => hk.2) (.string t255)) (fun _ hk => hk.2) (.slice Ao16 t256.length co16)) (fun _ h_ => h_.1))) hb) (Kd.R_base ho0)) (Kd.R_base ho1)) (fun _ h_ => h_.1)); have n3_ := aM (rL (Kd.R_new' (Kd.R_new' (Kd.R_new' ho0 (Kd.R_lt (by (with_reducible repeat (first | apply ra | apply rn | apply rd_)); exact (rM (rF (p := ⟨gb261, 4, none⟩) (rF (p := ⟨gb261, 3, none⟩) (rF (p := ⟨gb261, 2, none⟩) (rF (p := ⟨gb261, 1, none⟩) (rF (p := ⟨gb261, 0, none⟩) (rT HO248.out BK261.out (by decide)) (fun _ hk => hk.2) (.int .i64 t250)) (fun _ hk => hk.2) (.string t251)) (fun _ hk => hk.2) (.slice Ao15 t252.length co15)) (fun _ hk => hk.2) (.string t255)) (fun _ hk => hk.2) (.slice Ao16 t256.length co16)) (fun _ h_ => h_.1))))) (Kd.R_lt (by (with_reducible repeat (first | apply ra | apply rn | apply rd_)); exact (rM (rF (p := ⟨gb261, 4, none⟩) (rF (p := ⟨gb261, 3, none⟩) (rF (p := ⟨gb261, 2, none⟩) (rF (p := ⟨gb261, 1, none⟩) (rF (p := ⟨gb261, 0, none⟩) (rT HO254.out BK261.out (by decide)) (fun _ hk => hk.2) (.int .i64 t250)) (fun _ hk => hk.2) (.string t251)) (fun _ hk => hk.2) (.slice Ao15 t252.length co15)) (fun _ hk => hk.2) (.string t255)) (fun _ hk => hk.2) (.slice Ao16 t256.length co16)) (fun _ h_ => h_.1))))) (Kd.R_lt (by (with_reducible repeat (first | apply ra | apply rn | apply rd_)); exact (rM (rF (p := ⟨gb261, 4, none⟩) (rF (p := ⟨gb261, 3, none⟩) (rF (p := ⟨gb261, 2, none⟩) (rF (p := ⟨gb261, 1, none⟩) (rF (p := ⟨gb261, 0, none⟩) (rT HO258.out BK261.out (by decide)) (fun _ hk => hk.2) (.int .i64 t250)) (fun _ hk => hk.2) (.string t251)) (fun _ hk => hk.2) (.slice Ao15 t252.length co15)) (fun _ hk => hk.2) (.string t255)) (fun _ hk => hk.2) (.slice Ao16 t256.length co16)) (fun _ h_ => h_.1))))) (bZ (by repeat (first | (with_reducible first | exact HB.out | apply ea | apply en | apply ed | refine es ?_ GE249.out | refine es ?_ GE261.out) | exact HB.out)))); have n4_ := aM (rL (Kd.R_new' (Kd.R_new' (Kd.R_new' ho1 (Kd.R_lt (by (with_reducible repeat (first | apply ra | apply rn | apply rd_)); exact (rM (rF (p := ⟨gb261, 4, none⟩) (rF (p := ⟨gb261, 3, none⟩) (rF (p := ⟨gb261, 2, none⟩) (rF (p := ⟨gb261, 1, none⟩) (rF (p := ⟨gb261, 0, none⟩) (rT HO248.out BK261.out (by decide)) (fun _ hk => hk.2) (.int .i64 t250)) (fun _ hk => hk.2) (.string t251)) (fun _ hk => hk.2) (.slice Ao15 t252.length co15)) (fun _ hk => hk.2) (.string t255)) (fun _ hk => hk.2) (.slice Ao16 t256.length co16)) (fun _ h_ => h_.1))))) (Kd.R_lt (by (with_reducible repeat (first | apply ra | apply rn | apply rd_)); exact (rM (rF (p := ⟨gb261, 4, none⟩) (rF (p := ⟨gb261, 3, none⟩) (rF (p := ⟨gb261, 2, none⟩) (rF (p := ⟨gb261, 1, none⟩) (rF (p := ⟨gb261, 0, none⟩) (rT HO254.out BK261.out (by decide)) (fun _ hk => hk.2) (.int .i64 t250)) (fun _ hk => hk.2) (.string t251)) (fun _ hk => hk.2) (.slice Ao15 t252.length co15)) (fun _ hk => hk.2) (.string t255)) (fun _ hk => hk.2) (.slice Ao16 t256.length co16)) (fun _ h_ => h_.1))))) (Kd.R_lt (by (with_reducible repeat (first | apply ra | apply rn | apply rd_)); exact (rM (rF (p := ⟨gb261, 4, none⟩) (rF (p := ⟨gb261, 3, none⟩) (rF (p := ⟨gb261, 2, none⟩) (rF (p := ⟨gb261, 1, none⟩) (rF (p := ⟨gb261, 0, none⟩) (rT HO258.out BK261.out (by decide)) (fun _ hk => hk.2) (.int .i64 t250)) (fun _ hk => hk.2) (.string t251)) (fun _ hk => hk.2) (.slice Ao15 t252.length co15)) (fun _ hk => hk.2) (.string t255)) (fun _ hk => hk.2) (.slice Ao16 t256.length co16)) (fun _ h_ => h_.1))))) (bZ (by repeat (first | (with_reducible first | exact HB.out | apply ea | apply en | apply ed | refine es ?_ GE249.out | refine es ?_ GE261.out) | exact HB.out)))); have n5_ := aM (bB (g := gb249) (o := .cells #[.string (⟨#[97, 97, 98, 10, 97, 97]⟩ : ByteArray), .slice Ao8 y246.length co8] 24 (0, 0)) (by (with_reducible repeat (first | apply qn | apply qd | apply qa)); refine bR ?_ NB249_261.out _; (with_reducible repeat (first | apply qn | apply qd | apply qa)); refine bR ?_ NB249_261.out _; (with_reducible repeat (first | apply qn | apply qd | apply qa)); refine bR ?_ NB249_261.out _; (with_reducible repeat (first | apply qn | apply qd | apply qa)); refine bR ?_ NB249_261.out _; (with_reducible repeat (first | apply qn | apply qd | apply qa)); refine bR ?_ NB249_261.out _; exact qy BK249.out) hb); have n6_ := aM (bB (g := gb261) (o := .cells #[.int .i64 t250, .string t251, .slice Ao15 t252.length co15, .string t255, .slice Ao16 t256.length co16] 32 (0, 0)) (by (with_reducible repeat (first | apply qn | apply qd | apply qa)); refine bU (cs := #[.int .i64 t250, .string t251, .slice Ao15 t252.length co15, .string t255, .slice none 0 0]) ?_ 4 _ rfl; (with_reducible repeat (first | apply qn | apply qd | apply qa)); refine bU (cs := #[.int .i64 t250, .string t251, .slice Ao15 t252.length co15, .string (⟨#[]⟩ : ByteArray), .slice none 0 0]) ?_ 3 _ rfl; (with_reducible repeat (first | apply qn | apply qd | apply qa)); refine bU (cs := #[.int .i64 t250, .string t251, .slice none 0 0, .string (⟨#[]⟩ : ByteArray), .slice none 0 0]) ?_ 2 _ rfl; (with_reducible repeat (first | apply qn | apply qd | apply qa)); refine bU (cs := #[.int .i64 t250, .string (⟨#[]⟩ : ByteArray), .slice none 0 0, .string (⟨#[]⟩ : ByteArray), .slice none 0 0]) ?_ 1 _ rfl; (with_reducible repeat (first | apply qn | apply qd | apply qa)); refine bU (cs := #[.int .i64 0, .string (⟨#[]⟩ : ByteArray), .slice none 0 0, .string (⟨#[]⟩ : ByteArray), .slice none 0 0]) ?_ 0 _ rfl; exact qy BK261.out) hb); have n7_ := aM (bP (by repeat (first | (with_reducible first | exact HB.out | apply ea | apply en | apply ed | refine es ?_ GE249.out | refine es ?_ GE261.out) | exact HB.out)) hb); clear HO248 HO254 HO258 BK249 BK261 HB; have HO248 := n0_; have HO254 := n1_; have HO258 := n2_; have HO266 := n3_; have HO270 := n4_; have BK249 := n5_; have BK261 := n6_; have HB := n7_; clear n0_ n1_ n2_ n3_ n4_ n5_ n6_ n7_; (try clear hb); (try clear hb2); (try clear hk); (try clear hi); (try clear ho0); (try clear ho1)) | ((with_reducible refine gate_dst (N := 5) rfl ?_); refine box_event ?hg (N := 5) ?hd (cs := #[.int .i64 0, .string (⟨#[]⟩ : ByteArray), .slice none 0 0, .string (⟨#[]⟩ : ByteArray), .slice none 0 0]) (t := 32) ?hr ?_; (case hd | hg => rfl); (case hr => first | (go_simp; done) | (go_simp; rfl)); intro gb273 hg w19 hbox hb; have n0_ := aM (Kd.R_below (ry HO248.out) hb); have n1_ := aM (Kd.R_below (ry HO254.out) hb); have n2_ := aM (Kd.R_below (ry HO258.out) hb); have n3_ := aM (Kd.R_below (ry HO266.out) hb); have n4_ := aM (Kd.R_below (ry HO270.out) hb); have n5_ := aM (bB (g := gb249) (qy BK249.out) hb); have n6_ := aM (bB (g := gb261) (qy BK261.out) hb); have n7_ := aM (bP (by repeat (first | (with_reducible first | exact HB.out | apply ea | apply en | apply ed | refine es ?_ GE249.out | refine es ?_ GE261.out) | exact HB.out)) hb); have n8_ := aM (hbox); have n9_ := aM ((by rw [hg]; exact (bZ (by repeat (first | (with_reducible first | exact HB.out | apply ea | apply en | apply ed | refine es ?_ GE249.out | refine es ?_ GE261.out) | exact HB.out))) : w.heap.size ≤ gb273)); have n10_ := n9_; have n11_ := aM ((by rw [hg]; exact Nat.ne_of_lt (blk_lt (g := gb249) (qy BK249.out)) : gb249 ≠ gb273)); have n12_ := aM ((by rw [hg]; exact Nat.ne_of_gt (blk_lt (g := gb249) (qy BK249.out)) : gb273 ≠ gb249)); have n13_ := aM ((by rw [hg]; exact Nat.ne_of_lt (blk_lt (g := gb261) (qy BK261.out)) : gb261 ≠ gb273)); have n14_ := aM ((by rw [hg]; exact Nat.ne_of_gt (blk_lt (g := gb261) (qy BK261.out)) : gb273 ≠ gb261)); clear HO248 HO254 HO258 HO266 HO270 BK249 BK261 HB; have HO248 := n0_; have HO254 := n1_; have HO258 := n2_; have HO266 := n3_; have HO270 := n4_; have BK249 := n5_; have BK261 := n6_; have HB := n7_; have BK273 := n8_; have GW273 := n9_; have GE273 := n10_; have NB249_273 := n11_; have NB273_249 := n12_; have NB261_273 := n13_; have NB273_261 := n14_; clear n0_ n1_ n2_ n3_ n4_ n5_ n6_ n7_ n8_ n9_ n10_ n11_ n12_ n13_ n14_; clear hb hbox hg; have hnb20 := NB273_249.out; have hnc20 := NB249_273.out; have hnb21 := NB273_261.out; have hnc21 := NB261_273.out; have hcz22_0 : w19.cell? ⟨gb273, 0, none⟩ = some (.int .i64 0) := (bC BK273.out 0).trans rfl; have hcz22_1 : w19.cell? ⟨gb273, 1, none⟩ = some (.string (⟨#[]⟩ : ByteArray)) := (bC BK273.out 1).trans rfl; have hcz22_2 : w19.cell? ⟨gb273, 2, none⟩ = some (.slice none 0 0) := (bC BK273.out 2).trans rfl; have hcz22_3 : w19.cell? ⟨gb273, 3, none⟩ = some (.string (⟨#[]⟩ : ByteArray)) := (bC BK273.out 3).trans rfl; have hcz22_4 : w19.cell? ⟨gb273, 4, none⟩ = some (.slice none 0 0) := (bC BK273.out 4).trans rfl; have hfz22_0 := bF BK273.out 0; have hfz22_1 := bF BK273.out 1; have hfz22_2 := bF BK273.out 2; have hfz22_3 := bF BK273.out 3; have hfz22_4 := bF BK273.out 4; obtain ⟨Ao23, co23, eo23⟩ := Kd.R_slice HO266.out; subst eo23; obtain ⟨Ao24, co24, eo24⟩ := Kd.R_slice HO270.out; subst eo24; have hcz25_0 : w19.cell? ⟨gb261, 0, none⟩ = some (.int .i64 t250) := (bC BK261.out 0).trans rfl; have hcz25_1 : w19.cell? ⟨gb261, 1, none⟩ = some (.string t251) := (bC BK261.out 1).trans rfl; have hcz25_2 : w19.cell? ⟨gb261, 2, none⟩ = some (.slice Ao15 t252.length co15) := (bC BK261.out 2).trans rfl; have hcz25_3 : w19.cell? ⟨gb261, 3, none⟩ = some (.string t255) := (bC BK261.out 3).trans rfl; have hcz25_4 : w19.cell? ⟨gb261, 4, none⟩ = some (.slice Ao16 t256.length co16) := (bC BK261.out 4).trans rfl; have hfz25_0 := bF BK261.out 0; have hfz25_1 := bF BK261.out 1; have hfz25_2 := bF BK261.out 2; have hfz25_3 := bF BK261.out 3; have hfz25_4 := bF BK261.out 4))
    go_ret
    exact ⟨by first | rfl | (simp [errW_none, errW_some] <;> rfl) | (simp [*, errW_none, errW_some] <;> rfl), by repeat (first | (with_reducible first | exact HB.out | apply ea | apply en | apply ed | refine es ?_ GE249.out | refine es ?_ GE261.out | refine es ?_ GE273.out) | exact HB.out)⟩
   ·rw [if_neg c5] at H
    have c5b0 : (t255.toList == ([120, 121, 120, 121, 98, 10, 120, 121, 120, 121] : List UInt8)) = false := beq_eq_false_iff_ne.mpr c5
    have c5b1 : (t255.toList != ([120, 121, 120, 121, 98, 10, 120, 121, 120, 121] : List UInt8)) = true := bne_iff_ne.mpr c5
    obtain rfl := Option.some.inj H
    go_enter Try.func8, Try.ntmps8
    go_wp2_with (first | ((with_reducible refine gate_dst (N := 9) rfl ?_); refine Kd.R_lit k51 _ 51 ?hg (N := 9) ?hd (xs := ([(⟨1, 6⟩ : S51)] : List (S51))) (inner := [.int .u64 1, .int .i64 6]) (ok := fun _ => True) (okp := fun _ => True) ?hr ?hp (fun _ hk => hk) trivial (Below.refl _ _) (Nat.le_refl _) (by simp) ?_; (case hd | hg => rfl); (case hr => first | (go_simp; done) | (go_simp; rfl)); (case hp => exact (Reps.c2 (show Kd.M k51 _ _ _ (⟨1, 6⟩ : S51) [.int .u64 1, .int .i64 6] from (k51_mkM _ _ _ (⟨1, 6⟩ : S51) )) (Reps.none _ _))); intro v247 w26 ho27 hb hg_ hnew_; clear hg_ hnew_; (first | rw [← Ny246.out] at ho27 | (simp only [Int.reduceToNat] at ho27; rw [← Ny246.out] at ho27)); have n0_ := aM (rL ho27 (bZ (ey HB.out))); have n1_ := aM (bP (ey HB.out) hb); clear HB; have HO248 := n0_; have HB := n1_; clear n0_ n1_; clear hb ho27; obtain ⟨Ao28, co28, eo28⟩ := Kd.R_slice HO248.out; subst eo28) | ((with_reducible refine gate_dst (N := 1) rfl ?_); refine box_event ?hg (N := 1) ?hd (cs := #[.string (⟨#[]⟩ : ByteArray), .slice none 0 0]) (t := 24) ?hr ?_; (case hd | hg => rfl); (case hr => first | (go_simp; done) | (go_simp; rfl)); intro gb249 hg w29 hbox hb; have n0_ := aM (Kd.R_below (ry HO248.out) hb); have n1_ := aM (bP (ey HB.out) hb); have n2_ := aM (hbox); have n3_ := aM ((by rw [hg]; exact (bZ (ey HB.out)) : w.heap.size ≤ gb249)); have n4_ := n3_; clear HO248 HB; have HO248 := n0_; have HB := n1_; have BK249 := n2_; have GW249 := n3_; have GE249 := n4_; clear n0_ n1_ n2_ n3_ n4_; clear hb hbox hg; have hcz30_0 : w29.cell? ⟨gb249, 0, none⟩ = some (.string (⟨#[]⟩ : ByteArray)) := (bC BK249.out 0).trans rfl; have hcz30_1 : w29.cell? ⟨gb249, 1, none⟩ = some (.slice none 0 0) := (bC BK249.out 1).trans rfl; have hfz30_0 := bF BK249.out 0; have hfz30_1 := bF BK249.out 1) | ((with_reducible refine gate_callee (f := 10) rfl ?_); refine goesL_ (some 14) rfl rfl Try.func10 (by kernel_rfl) rfl #[.agg #[.string (⟨#[97, 97, 98, 10, 97, 97]⟩ : ByteArray), .slice Ao28 y246.length co28], .int .u64 1, .agg #[.int .i64 0, .int .i64 1, .string (⟨#[97]⟩ : ByteArray), .string (⟨#[120, 121]⟩ : ByteArray), .bool true]] rfl (by (try simp only [mT, mC, mN]); first | done | rfl | (simp only [lD, lT]; rfl)) ?_; (with_reducible refine (subst_Do.calls k (⟨#[97, 97, 98, 10, 97, 97]⟩ : ByteArray) _ _ y246 1 0 1 (⟨#[97]⟩ : ByteArray) (⟨#[120, 121]⟩ : ByteArray) true t250 t251 t252 t255 t256 t259 t260 _ ?mx8 ?side1 ?side2 A1.out).mono ?_); (case mx8 => exact MaxOk.below HMX.out (by repeat (first | (with_reducible first | exact HB.out | apply ea | apply en | apply ed | refine es ?_ GE249.out) | exact HB.out))); (case side1 => refine (rR (e := 51) (base := w.heap.size) (ok := fun k_ => True) (n := y246.length) (c := co28) ?_).2.2; exact (by (with_reducible repeat (first | apply ra | apply rn | apply rd_)); exact (rM (rF (p := ⟨gb249, 1, none⟩) (rF (p := ⟨gb249, 0, none⟩) (rT HO248.out BK249.out (by decide)) (fun _ hk => hk.2) (.string (⟨#[97, 97, 98, 10, 97, 97]⟩ : ByteArray))) (fun _ hk => hk.2) (.slice Ao28 y246.length co28)) (fun _ h_ => h_.1)))); (case side2 => exact (rR HO248.out).2.1); rintro e w31 ⟨v253, v257, rfl, ho0, ho1, hb⟩; refine ⟨_, rfl, ?_⟩; have n0_ := aM (rM (Kd.R_told (Kd.R_told (Kd.R_old (by (with_reducible repeat (first | apply ra | apply rn | apply rd_)); exact (rM (rF (p := ⟨gb249, 1, none⟩) (rF (p := ⟨gb249, 0, none⟩) (rT HO248.out BK249.out (by decide)) (fun _ hk => hk.2) (.string (⟨#[97, 97, 98, 10, 97, 97]⟩ : ByteArray))) (fun _ hk => hk.2) (.slice Ao28 y246.length co28)) (fun _ h_ => h_.1))) hb) (Kd.R_base ho0)) (Kd.R_base ho1)) (fun _ h_ => h_.1)); have n1_ := aM (rL (Kd.R_new' ho0 (Kd.R_lt (by (with_reducible repeat (first | apply ra | apply rn | apply rd_)); exact (rM (rF (p := ⟨gb249, 1, none⟩) (rF (p := ⟨gb249, 0, none⟩) (rT HO248.out BK249.out (by decide)) (fun _ hk => hk.2) (.string (⟨#[97, 97, 98, 10, 97, 97]⟩ : ByteArray))) (fun _ hk => hk.2) (.slice Ao28 y246.length co28)) (fun _ h_ => h_.1))))) (bZ (by repeat (first | (with_reducible first | exact HB.out | apply ea | apply en | apply ed | refine es ?_ GE249.out) | exact HB.out)))); have n2_ := aM (rL (Kd.R_new' ho1 (Kd.R_lt (by (with_reducible repeat (first | apply ra | apply rn | apply rd_)); exact (rM (rF (p := ⟨gb249, 1, none⟩) (rF (p := ⟨gb249, 0, none⟩) (rT HO248.out BK249.out (by decide)) (fun _ hk => hk.2) (.string (⟨#[97, 97, 98, 10, 97, 97]⟩ : ByteArray))) (fun _ hk => hk.2) (.slice Ao28 y246.length co28)) (fun _ h_ => h_.1))))) (bZ (by repeat (first | (with_reducible first | exact HB.out | apply ea | apply en | apply ed | refine es ?_ GE249.out) | exact HB.out)))); have n3_ := aM (bB (g := gb249) (o := .cells #[.string (⟨#[97, 97, 98, 10, 97, 97]⟩ : ByteArray), .slice Ao28 y246.length co28] 24 (0, 0)) (by (with_reducible repeat (first | apply qn | apply qd | apply qa)); refine bU (cs := #[.string (⟨#[97, 97, 98, 10, 97, 97]⟩ : ByteArray), .slice none 0 0]) ?_ 1 _ rfl; (with_reducible repeat (first | apply qn | apply qd | apply qa)); refine bU (cs := #[.string (⟨#[]⟩ : ByteArray), .slice none 0 0]) ?_ 0 _ rfl; exact qy BK249.out) hb); have n4_ := aM (bP (by repeat (first | (with_reducible first | exact HB.out | apply ea | apply en | apply ed | refine es ?_ GE249.out) | exact HB.out)) hb); clear HO248 BK249 HB; have HO248 := n0_; have HO254 := n1_; have HO258 := n2_; have BK249 := n3_; have HB := n4_; clear n0_ n1_ n2_ n3_ n4_; (try clear hb); (try clear hb2); (try clear hk); (try clear hi); (try clear ho0); (try clear ho1)) | ((with_reducible refine gate_dst (N := 2) rfl ?_); refine box_event ?hg (N := 2) ?hd (cs := #[.int .i64 0, .string (⟨#[]⟩ : ByteArray), .slice none 0 0, .string (⟨#[]⟩ : ByteArray), .slice none 0 0]) (t := 32) ?hr ?_; (case hd | hg => rfl); (case hr => first | (go_simp; done) | (go_simp; rfl)); intro gb261 hg w32 hbox hb; have n0_ := aM (Kd.R_below (ry HO248.out) hb); have n1_ := aM (Kd.R_below (ry HO254.out) hb); have n2_ := aM (Kd.R_below (ry HO258.out) hb); have n3_ := aM (bB (g := gb249) (qy BK249.out) hb); have n4_ := aM (bP (by repeat (first | (with_reducible first | exact HB.out | apply ea | apply en | apply ed | refine es ?_ GE249.out) | exact HB.out)) hb); have n5_ := aM (hbox); have n6_ := aM ((by rw [hg]; exact (bZ (by repeat (first | (with_reducible first | exact HB.out | apply ea | apply en | apply ed | refine es ?_ GE249.out) | exact HB.out))) : w.heap.size ≤ gb261)); have n7_ := n6_; have n8_ := aM ((by rw [hg]; exact Nat.ne_of_lt (blk_lt (g := gb249) (qy BK249.out)) : gb249 ≠ gb261)); have n9_ := aM ((by rw [hg]; exact Nat.ne_of_gt (blk_lt (g := gb249) (qy BK249.out)) : gb261 ≠ gb249)); clear HO248 HO254 HO258 BK249 HB; have HO248 := n0_; have HO254 := n1_; have HO258 := n2_; have BK249 := n3_; have HB := n4_; have BK261 := n5_; have GW261 := n6_; have GE261 := n7_; have NB249_261 := n8_; have NB261_249 := n9_; clear n0_ n1_ n2_ n3_ n4_ n5_ n6_ n7_ n8_ n9_; clear hb hbox hg; have hnb33 := NB261_249.out; have hnc33 := NB249_261.out; have hcz34_0 : w32.cell? ⟨gb261, 0, none⟩ = some (.int .i64 0) := (bC BK261.out 0).trans rfl; have hcz34_1 : w32.cell? ⟨gb261, 1, none⟩ = some (.string (⟨#[]⟩ : ByteArray)) := (bC BK261.out 1).trans rfl; have hcz34_2 : w32.cell? ⟨gb261, 2, none⟩ = some (.slice none 0 0) := (bC BK261.out 2).trans rfl; have hcz34_3 : w32.cell? ⟨gb261, 3, none⟩ = some (.string (⟨#[]⟩ : ByteArray)) := (bC BK261.out 3).trans rfl; have hcz34_4 : w32.cell? ⟨gb261, 4, none⟩ = some (.slice none 0 0) := (bC BK261.out 4).trans rfl; have hfz34_0 := bF BK261.out 0; have hfz34_1 := bF BK261.out 1; have hfz34_2 := bF BK261.out 2; have hfz34_3 := bF BK261.out 3; have hfz34_4 := bF BK261.out 4; obtain ⟨Ao35, co35, eo35⟩ := Kd.R_slice HO254.out; subst eo35; obtain ⟨Ao36, co36, eo36⟩ := Kd.R_slice HO258.out; subst eo36; have hcz37_0 : w32.cell? ⟨gb249, 0, none⟩ = some (.string (⟨#[97, 97, 98, 10, 97, 97]⟩ : ByteArray)) := (bC BK249.out 0).trans rfl; have hcz37_1 : w32.cell? ⟨gb249, 1, none⟩ = some (.slice Ao28 y246.length co28) := (bC BK249.out 1).trans rfl; have hfz37_0 := bF BK249.out 0; have hfz37_1 := bF BK249.out 1) | ((with_reducible refine gate_callee (f := 10) rfl ?_); refine goesL_ (some 21) rfl rfl Try.func10 (by kernel_rfl) rfl #[.agg #[.string (⟨#[97, 97, 98, 10, 97, 97]⟩ : ByteArray), .slice Ao28 y246.length co28], .int .u64 1, .agg #[.int .i64 1, .int .i64 1, .string (⟨#[98]⟩ : ByteArray), .string (⟨#[]⟩ : ByteArray), .bool false]] rfl (by (try simp only [mT, mC, mN]); first | done | rfl | (simp only [lD, lT]; rfl)) ?_; (with_reducible refine (subst_Do.calls k (⟨#[97, 97, 98, 10, 97, 97]⟩ : ByteArray) _ _ y246 1 1 1 (⟨#[98]⟩ : ByteArray) (⟨#[]⟩ : ByteArray) false t262 t263 t264 t267 t268 t271 t272 _ ?mx9 ?side1 ?side2 A2.out).mono ?_); (case mx9 => exact MaxOk.below HMX.out (by repeat (first | (with_reducible first | exact HB.out | apply ea | apply en | apply ed | refine es ?_ GE249.out | refine es ?_ GE261.out) | exact HB.out))); (case side1 => refine (rR (e := 51) (base := w.heap.size) (ok := fun k_ => ((True ∧ some k_ ≠ (.slice Ao35 t252.length co35 : Value).ownBlock) ∧ some k_ ≠ (.slice Ao36 t256.length co36 : Value).ownBlock)) (n := y246.length) (c := co28) ?_).2.2; exact (by (with_reducible repeat (first | apply ra | apply rn | apply rd_)); exact (rM (rF (p := ⟨gb261, 4, none⟩) (rF (p := ⟨gb261, 3, none⟩) (rF (p := ⟨gb261, 2, none⟩) (rF (p := ⟨gb261, 1, none⟩) (rF (p := ⟨gb261, 0, none⟩) (rT HO248.out BK261.out (by decide)) (fun _ hk => hk.2) (.int .i64 t250)) (fun _ hk => hk.2) (.string t251)) (fun _ hk => hk.2) (.slice Ao35 t252.length co35)) (fun _ hk => hk.2) (.string t255)) (fun _ hk => hk.2) (.slice Ao36 t256.length co36)) (fun _ h_ => h_.1)))); (case side2 => exact (rR HO248.out).2.1); rintro e w38 ⟨v265, v269, rfl, ho0, ho1, hb⟩; refine ⟨_, rfl, ?_⟩; have n0_ := aM (rM (Kd.R_told (Kd.R_told (Kd.R_old (by (with_reducible repeat (first | apply ra | apply rn | apply rd_)); exact (rM (rF (p := ⟨gb261, 4, none⟩) (rF (p := ⟨gb261, 3, none⟩) (rF (p := ⟨gb261, 2, none⟩) (rF (p := ⟨gb261, 1, none⟩) (rF (p := ⟨gb261, 0, none⟩) (rT HO248.out BK261.out (by decide)) (fun _ hk => hk.2) (.int .i64 t250)) (fun _ hk => hk.2) (.string t251)) (fun _ hk => hk.2) (.slice Ao35 t252.length co35)) (fun _ hk => hk.2) (.string t255)) (fun _ hk => hk.2) (.slice Ao36 t256.length co36)) (fun _ h_ => h_.1))) hb) (Kd.R_base ho0)) (Kd.R_base ho1)) (fun _ h_ => h_.1)); have n1_ := aM (rM (Kd.R_told (Kd.R_told (Kd.R_old (by (with_reducible repeat (first | apply ra | apply rn | apply rd_)); exact (rM (rF (p := ⟨gb261, 4, none⟩) (rF (p := ⟨gb261, 3, none⟩) (rF (p := ⟨gb261, 2, none⟩) (rF (p := ⟨gb261, 1, none⟩) (rF (p := ⟨gb261, 0, none⟩) (rT HO254.out BK261.out (by decide)) (fun _ hk => hk.2) (.int .i64 t250)) (fun _ hk => hk.2) (.string t251)) (fun _ hk => hk.2) (.slice Ao35 t252.length co35)) (fun _ hk => hk.2) (.string t255)) (fun _ hk => hk.2) (.slice Ao36 t256.length co36)) (fun _ h_ => h_.1))) hb) (Kd.R_base ho0)) (Kd.R_base ho1)) (fun _ h_ => h_.1)); have n2_ := aM (rM (Kd.R_told (Kd.R_told (Kd.R_old (by (with_reducible repeat (first | apply ra | apply rn | apply rd_)); exact (rM (rF (p := ⟨gb261, 4, none⟩) (rF (p := ⟨gb261, 3, none⟩) (rF (p := ⟨gb261, 2, none⟩) (rF (p := ⟨gb261, 1, none⟩) (rF (p := ⟨gb261, 0, none⟩) (rT HO258.out BK261.out (by decide)) (fun _ hk => hk.2) (.int .i64 t250)) (fun _ hk => hk.2) (.string t251)) (fun _ hk => hk.2) (.slice Ao35 t252.length co35)) (fun _ hk => hk.2) (.string t255)) (fun _ hk => hk.2) (.slice Ao36 t256.length co36)) (fun _ h_ => h_.1))) hb) (Kd.R_base ho0)) (Kd.R_base ho1)) (fun _ h_ => h_.1)); have n3_ := aM (rL (Kd.R_new' (Kd.R_new' (Kd.R_new' ho0 (Kd.R_lt (by (with_reducible repeat (first | apply ra | apply rn | apply rd_)); exact (rM (rF (p := ⟨gb261, 4, none⟩) (rF (p := ⟨gb261, 3, none⟩) (rF (p := ⟨gb261, 2, none⟩) (rF (p := ⟨gb261, 1, none⟩) (rF (p := ⟨gb261, 0, none⟩) (rT HO248.out BK261.out (by decide)) (fun _ hk => hk.2) (.int .i64 t250)) (fun _ hk => hk.2) (.string t251)) (fun _ hk => hk.2) (.slice Ao35 t252.length co35)) (fun _ hk => hk.2) (.string t255)) (fun _ hk => hk.2) (.slice Ao36 t256.length co36)) (fun _ h_ => h_.1))))) (Kd.R_lt (by (with_reducible repeat (first | apply ra | apply rn | apply rd_)); exact (rM (rF (p := ⟨gb261, 4, none⟩) (rF (p := ⟨gb261, 3, none⟩) (rF (p := ⟨gb261, 2, none⟩) (rF (p := ⟨gb261, 1, none⟩) (rF (p := ⟨gb261, 0, none⟩) (rT HO254.out BK261.out (by decide)) (fun _ hk => hk.2) (.int .i64 t250)) (fun _ hk => hk.2) (.string t251)) (fun _ hk => hk.2) (.slice Ao35 t252.length co35)) (fun _ hk => hk.2) (.string t255)) (fun _ hk => hk.2) (.slice Ao36 t256.length co36)) (fun _ h_ => h_.1))))) (Kd.R_lt (by (with_reducible repeat (first | apply ra | apply rn | apply rd_)); exact (rM (rF (p := ⟨gb261, 4, none⟩) (rF (p := ⟨gb261, 3, none⟩) (rF (p := ⟨gb261, 2, none⟩) (rF (p := ⟨gb261, 1, none⟩) (rF (p := ⟨gb261, 0, none⟩) (rT HO258.out BK261.out (by decide)) (fun _ hk => hk.2) (.int .i64 t250)) (fun _ hk => hk.2) (.string t251)) (fun _ hk => hk.2) (.slice Ao35 t252.length co35)) (fun _ hk => hk.2) (.string t255)) (fun _ hk => hk.2) (.slice Ao36 t256.length co36)) (fun _ h_ => h_.1))))) (bZ (by repeat (first | (with_reducible first | exact HB.out | apply ea | apply en | apply ed | refine es ?_ GE249.out | refine es ?_ GE261.out) | exact HB.out)))); have n4_ := aM (rL (Kd.R_new' (Kd.R_new' (Kd.R_new' ho1 (Kd.R_lt (by (with_reducible repeat (first | apply ra | apply rn | apply rd_)); exact (rM (rF (p := ⟨gb261, 4, none⟩) (rF (p := ⟨gb261, 3, none⟩) (rF (p := ⟨gb261, 2, none⟩) (rF (p := ⟨gb261, 1, none⟩) (rF (p := ⟨gb261, 0, none⟩) (rT HO248.out BK261.out (by decide)) (fun _ hk => hk.2) (.int .i64 t250)) (fun _ hk => hk.2) (.string t251)) (fun _ hk => hk.2) (.slice Ao35 t252.length co35)) (fun _ hk => hk.2) (.string t255)) (fun _ hk => hk.2) (.slice Ao36 t256.length co36)) (fun _ h_ => h_.1))))) (Kd.R_lt (by (with_reducible repeat (first | apply ra | apply rn | apply rd_)); exact (rM (rF (p := ⟨gb261, 4, none⟩) (rF (p := ⟨gb261, 3, none⟩) (rF (p := ⟨gb261, 2, none⟩) (rF (p := ⟨gb261, 1, none⟩) (rF (p := ⟨gb261, 0, none⟩) (rT HO254.out BK261.out (by decide)) (fun _ hk => hk.2) (.int .i64 t250)) (fun _ hk => hk.2) (.string t251)) (fun _ hk => hk.2) (.slice Ao35 t252.length co35)) (fun _ hk => hk.2) (.string t255)) (fun _ hk => hk.2) (.slice Ao36 t256.length co36)) (fun _ h_ => h_.1))))) (Kd.R_lt (by (with_reducible repeat (first | apply ra | apply rn | apply rd_)); exact (rM (rF (p := ⟨gb261, 4, none⟩) (rF (p := ⟨gb261, 3, none⟩) (rF (p := ⟨gb261, 2, none⟩) (rF (p := ⟨gb261, 1, none⟩) (rF (p := ⟨gb261, 0, none⟩) (rT HO258.out BK261.out (by decide)) (fun _ hk => hk.2) (.int .i64 t250)) (fun _ hk => hk.2) (.string t251)) (fun _ hk => hk.2) (.slice Ao35 t252.length co35)) (fun _ hk => hk.2) (.string t255)) (fun _ hk => hk.2) (.slice Ao36 t256.length co36)) (fun _ h_ => h_.1))))) (bZ (by repeat (first | (with_reducible first | exact HB.out | apply ea | apply en | apply ed | refine es ?_ GE249.out | refine es ?_ GE261.out) | exact HB.out)))); have n5_ := aM (bB (g := gb249) (o := .cells #[.string (⟨#[97, 97, 98, 10, 97, 97]⟩ : ByteArray), .slice Ao28 y246.length co28] 24 (0, 0)) (by (with_reducible repeat (first | apply qn | apply qd | apply qa)); refine bR ?_ NB249_261.out _; (with_reducible repeat (first | apply qn | apply qd | apply qa)); refine bR ?_ NB249_261.out _; (with_reducible repeat (first | apply qn | apply qd | apply qa)); refine bR ?_ NB249_261.out _; (with_reducible repeat (first | apply qn | apply qd | apply qa)); refine bR ?_ NB249_261.out _; (with_reducible repeat (first | apply qn | apply qd | apply qa)); refine bR ?_ NB249_261.out _; exact qy BK249.out) hb); have n6_ := aM (bB (g := gb261) (o := .cells #[.int .i64 t250, .string t251, .slice Ao35 t252.length co35, .string t255, .slice Ao36 t256.length co36] 32 (0, 0)) (by (with_reducible repeat (first | apply qn | apply qd | apply qa)); refine bU (cs := #[.int .i64 t250, .string t251, .slice Ao35 t252.length co35, .string t255, .slice none 0 0]) ?_ 4 _ rfl; (with_reducible repeat (first | apply qn | apply qd | apply qa)); refine bU (cs := #[.int .i64 t250, .string t251, .slice Ao35 t252.length co35, .string (⟨#[]⟩ : ByteArray), .slice none 0 0]) ?_ 3 _ rfl; (with_reducible repeat (first | apply qn | apply qd | apply qa)); refine bU (cs := #[.int .i64 t250, .string t251, .slice none 0 0, .string (⟨#[]⟩ : ByteArray), .slice none 0 0]) ?_ 2 _ rfl; (with_reducible repeat (first | apply qn | apply qd | apply qa)); refine bU (cs := #[.int .i64 t250, .string (⟨#[]⟩ : ByteArray), .slice none 0 0, .string (⟨#[]⟩ : ByteArray), .slice none 0 0]) ?_ 1 _ rfl; (with_reducible repeat (first | apply qn | apply qd | apply qa)); refine bU (cs := #[.int .i64 0, .string (⟨#[]⟩ : ByteArray), .slice none 0 0, .string (⟨#[]⟩ : ByteArray), .slice none 0 0]) ?_ 0 _ rfl; exact qy BK261.out) hb); have n7_ := aM (bP (by repeat (first | (with_reducible first | exact HB.out | apply ea | apply en | apply ed | refine es ?_ GE249.out | refine es ?_ GE261.out) | exact HB.out)) hb); clear HO248 HO254 HO258 BK249 BK261 HB; have HO248 := n0_; have HO254 := n1_; have HO258 := n2_; have HO266 := n3_; have HO270 := n4_; have BK249 := n5_; have BK261 := n6_; have HB := n7_; clear n0_ n1_ n2_ n3_ n4_ n5_ n6_ n7_; (try clear hb); (try clear hb2); (try clear hk); (try clear hi); (try clear ho0); (try clear ho1)) | ((with_reducible refine gate_dst (N := 5) rfl ?_); refine box_event ?hg (N := 5) ?hd (cs := #[.int .i64 0, .string (⟨#[]⟩ : ByteArray), .slice none 0 0, .string (⟨#[]⟩ : ByteArray), .slice none 0 0]) (t := 32) ?hr ?_; (case hd | hg => rfl); (case hr => first | (go_simp; done) | (go_simp; rfl)); intro gb273 hg w39 hbox hb; have n0_ := aM (Kd.R_below (ry HO248.out) hb); have n1_ := aM (Kd.R_below (ry HO254.out) hb); have n2_ := aM (Kd.R_below (ry HO258.out) hb); have n3_ := aM (Kd.R_below (ry HO266.out) hb); have n4_ := aM (Kd.R_below (ry HO270.out) hb); have n5_ := aM (bB (g := gb249) (qy BK249.out) hb); have n6_ := aM (bB (g := gb261) (qy BK261.out) hb); have n7_ := aM (bP (by repeat (first | (with_reducible first | exact HB.out | apply ea | apply en | apply ed | refine es ?_ GE249.out | refine es ?_ GE261.out) | exact HB.out)) hb); have n8_ := aM (hbox); have n9_ := aM ((by rw [hg]; exact (bZ (by repeat (first | (with_reducible first | exact HB.out | apply ea | apply en | apply ed | refine es ?_ GE249.out | refine es ?_ GE261.out) | exact HB.out))) : w.heap.size ≤ gb273)); have n10_ := n9_; have n11_ := aM ((by rw [hg]; exact Nat.ne_of_lt (blk_lt (g := gb249) (qy BK249.out)) : gb249 ≠ gb273)); have n12_ := aM ((by rw [hg]; exact Nat.ne_of_gt (blk_lt (g := gb249) (qy BK249.out)) : gb273 ≠ gb249)); have n13_ := aM ((by rw [hg]; exact Nat.ne_of_lt (blk_lt (g := gb261) (qy BK261.out)) : gb261 ≠ gb273)); have n14_ := aM ((by rw [hg]; exact Nat.ne_of_gt (blk_lt (g := gb261) (qy BK261.out)) : gb273 ≠ gb261)); clear HO248 HO254 HO258 HO266 HO270 BK249 BK261 HB; have HO248 := n0_; have HO254 := n1_; have HO258 := n2_; have HO266 := n3_; have HO270 := n4_; have BK249 := n5_; have BK261 := n6_; have HB := n7_; have BK273 := n8_; have GW273 := n9_; have GE273 := n10_; have NB249_273 := n11_; have NB273_249 := n12_; have NB261_273 := n13_; have NB273_261 := n14_; clear n0_ n1_ n2_ n3_ n4_ n5_ n6_ n7_ n8_ n9_ n10_ n11_ n12_ n13_ n14_; clear hb hbox hg; have hnb40 := NB273_249.out; have hnc40 := NB249_273.out; have hnb41 := NB273_261.out; have hnc41 := NB261_273.out; have hcz42_0 : w39.cell? ⟨gb273, 0, none⟩ = some (.int .i64 0) := (bC BK273.out 0).trans rfl; have hcz42_1 : w39.cell? ⟨gb273, 1, none⟩ = some (.string (⟨#[]⟩ : ByteArray)) := (bC BK273.out 1).trans rfl; have hcz42_2 : w39.cell? ⟨gb273, 2, none⟩ = some (.slice none 0 0) := (bC BK273.out 2).trans rfl; have hcz42_3 : w39.cell? ⟨gb273, 3, none⟩ = some (.string (⟨#[]⟩ : ByteArray)) := (bC BK273.out 3).trans rfl; have hcz42_4 : w39.cell? ⟨gb273, 4, none⟩ = some (.slice none 0 0) := (bC BK273.out 4).trans rfl; have hfz42_0 := bF BK273.out 0; have hfz42_1 := bF BK273.out 1; have hfz42_2 := bF BK273.out 2; have hfz42_3 := bF BK273.out 3; have hfz42_4 := bF BK273.out 4; obtain ⟨Ao43, co43, eo43⟩ := Kd.R_slice HO266.out; subst eo43; obtain ⟨Ao44, co44, eo44⟩ := Kd.R_slice HO270.out; subst eo44; have hcz45_0 : w39.cell? ⟨gb261, 0, none⟩ = some (.int .i64 t250) := (bC BK261.out 0).trans rfl; have hcz45_1 : w39.cell? ⟨gb261, 1, none⟩ = some (.string t251) := (bC BK261.out 1).trans rfl; have hcz45_2 : w39.cell? ⟨gb261, 2, none⟩ = some (.slice Ao35 t252.length co35) := (bC BK261.out 2).trans rfl; have hcz45_3 : w39.cell? ⟨gb261, 3, none⟩ = some (.string t255) := (bC BK261.out 3).trans rfl; have hcz45_4 : w39.cell? ⟨gb261, 4, none⟩ = some (.slice Ao36 t256.length co36) := (bC BK261.out 4).trans rfl; have hfz45_0 := bF BK261.out 0; have hfz45_1 := bF BK261.out 1; have hfz45_2 := bF BK261.out 2; have hfz45_3 := bF BK261.out 3; have hfz45_4 := bF BK261.out 4))
    go_ret
    exact ⟨by first | rfl | (simp [errW_none, errW_some] <;> rfl) | (simp [*, errW_none, errW_some] <;> rfl), by repeat (first | (with_reducible first | exact HB.out | apply ea | apply en | apply ed | refine es ?_ GE249.out | refine es ?_ GE261.out | refine es ?_ GE273.out) | exact HB.out)⟩
  ·rw [if_neg c4] at H
   have c4b0 : (t259 == 4) = false := beq_eq_false_iff_ne.mpr c4
   have c4b1 : (t259 != 4) = true := bne_iff_ne.mpr c4
   obtain rfl := Option.some.inj H
   go_enter Try.func8, Try.ntmps8
   go_wp2_with (first | ((with_reducible refine gate_dst (N := 9) rfl ?_); refine Kd.R_lit k51 _ 51 ?hg (N := 9) ?hd (xs := ([(⟨1, 6⟩ : S51)] : List (S51))) (inner := [.int .u64 1, .int .i64 6]) (ok := fun _ => True) (okp := fun _ => True) ?hr ?hp (fun _ hk => hk) trivial (Below.refl _ _) (Nat.le_refl _) (by simp) ?_; (case hd | hg => rfl); (case hr => first | (go_simp; done) | (go_simp; rfl)); (case hp => exact (Reps.c2 (show Kd.M k51 _ _ _ (⟨1, 6⟩ : S51) [.int .u64 1, .int .i64 6] from (k51_mkM _ _ _ (⟨1, 6⟩ : S51) )) (Reps.none _ _))); intro v247 w46 ho47 hb hg_ hnew_; clear hg_ hnew_; (first | rw [← Ny246.out] at ho47 | (simp only [Int.reduceToNat] at ho47; rw [← Ny246.out] at ho47)); have n0_ := aM (rL ho47 (bZ (ey HB.out))); have n1_ := aM (bP (ey HB.out) hb); clear HB; have HO248 := n0_; have HB := n1_; clear n0_ n1_; clear hb ho47; obtain ⟨Ao48, co48, eo48⟩ := Kd.R_slice HO248.out; subst eo48) | ((with_reducible refine gate_dst (N := 1) rfl ?_); refine box_event ?hg (N := 1) ?hd (cs := #[.string (⟨#[]⟩ : ByteArray), .slice none 0 0]) (t := 24) ?hr ?_; (case hd | hg => rfl); (case hr => first | (go_simp; done) | (go_simp; rfl)); intro gb249 hg w49 hbox hb; have n0_ := aM (Kd.R_below (ry HO248.out) hb); have n1_ := aM (bP (ey HB.out) hb); have n2_ := aM (hbox); have n3_ := aM ((by rw [hg]; exact (bZ (ey HB.out)) : w.heap.size ≤ gb249)); have n4_ := n3_; clear HO248 HB; have HO248 := n0_; have HB := n1_; have BK249 := n2_; have GW249 := n3_; have GE249 := n4_; clear n0_ n1_ n2_ n3_ n4_; clear hb hbox hg; have hcz50_0 : w49.cell? ⟨gb249, 0, none⟩ = some (.string (⟨#[]⟩ : ByteArray)) := (bC BK249.out 0).trans rfl; have hcz50_1 : w49.cell? ⟨gb249, 1, none⟩ = some (.slice none 0 0) := (bC BK249.out 1).trans rfl; have hfz50_0 := bF BK249.out 0; have hfz50_1 := bF BK249.out 1) | ((with_reducible refine gate_callee (f := 10) rfl ?_); refine goesL_ (some 14) rfl rfl Try.func10 (by kernel_rfl) rfl #[.agg #[.string (⟨#[97, 97, 98, 10, 97, 97]⟩ : ByteArray), .slice Ao48 y246.length co48], .int .u64 1, .agg #[.int .i64 0, .int .i64 1, .string (⟨#[97]⟩ : ByteArray), .string (⟨#[120, 121]⟩ : ByteArray), .bool true]] rfl (by (try simp only [mT, mC, mN]); first | done | rfl | (simp only [lD, lT]; rfl)) ?_; (with_reducible refine (subst_Do.calls k (⟨#[97, 97, 98, 10, 97, 97]⟩ : ByteArray) _ _ y246 1 0 1 (⟨#[97]⟩ : ByteArray) (⟨#[120, 121]⟩ : ByteArray) true t250 t251 t252 t255 t256 t259 t260 _ ?mx10 ?side1 ?side2 A1.out).mono ?_); (case mx10 => exact MaxOk.below HMX.out (by repeat (first | (with_reducible first | exact HB.out | apply ea | apply en | apply ed | refine es ?_ GE249.out) | exact HB.out))); (case side1 => refine (rR (e := 51) (base := w.heap.size) (ok := fun k_ => True) (n := y246.length) (c := co48) ?_).2.2; exact (by (with_reducible repeat (first | apply ra | apply rn | apply rd_)); exact (rM (rF (p := ⟨gb249, 1, none⟩) (rF (p := ⟨gb249, 0, none⟩) (rT HO248.out BK249.out (by decide)) (fun _ hk => hk.2) (.string (⟨#[97, 97, 98, 10, 97, 97]⟩ : ByteArray))) (fun _ hk => hk.2) (.slice Ao48 y246.length co48)) (fun _ h_ => h_.1)))); (case side2 => exact (rR HO248.out).2.1); rintro e w51 ⟨v253, v257, rfl, ho0, ho1, hb⟩; refine ⟨_, rfl, ?_⟩; have n0_ := aM (rM (Kd.R_told (Kd.R_told (Kd.R_old (by (with_reducible repeat (first | apply ra | apply rn | apply rd_)); exact (rM (rF (p := ⟨gb249, 1, none⟩) (rF (p := ⟨gb249, 0, none⟩) (rT HO248.out BK249.out (by decide)) (fun _ hk => hk.2) (.string (⟨#[97, 97, 98, 10, 97, 97]⟩ : ByteArray))) (fun _ hk => hk.2) (.slice Ao48 y246.length co48)) (fun _ h_ => h_.1))) hb) (Kd.R_base ho0)) (Kd.R_base ho1)) (fun _ h_ => h_.1)); have n1_ := aM (rL (Kd.R_new' ho0 (Kd.R_lt (by (with_reducible repeat (first | apply ra | apply rn | apply rd_)); exact (rM (rF (p := ⟨gb249, 1, none⟩) (rF (p := ⟨gb249, 0, none⟩) (rT HO248.out BK249.out (by decide)) (fun _ hk => hk.2) (.string (⟨#[97, 97, 98, 10, 97, 97]⟩ : ByteArray))) (fun _ hk => hk.2) (.slice Ao48 y246.length co48)) (fun _ h_ => h_.1))))) (bZ (by repeat (first | (with_reducible first | exact HB.out | apply ea | apply en | apply ed | refine es ?_ GE249.out) | exact HB.out)))); have n2_ := aM (rL (Kd.R_new' ho1 (Kd.R_lt (by (with_reducible repeat (first | apply ra | apply rn | apply rd_)); exact (rM (rF (p := ⟨gb249, 1, none⟩) (rF (p := ⟨gb249, 0, none⟩) (rT HO248.out BK249.out (by decide)) (fun _ hk => hk.2) (.string (⟨#[97, 97, 98, 10, 97, 97]⟩ : ByteArray))) (fun _ hk => hk.2) (.slice Ao48 y246.length co48)) (fun _ h_ => h_.1))))) (bZ (by repeat (first | (with_reducible first | exact HB.out | apply ea | apply en | apply ed | refine es ?_ GE249.out) | exact HB.out)))); have n3_ := aM (bB (g := gb249) (o := .cells #[.string (⟨#[97, 97, 98, 10, 97, 97]⟩ : ByteArray), .slice Ao48 y246.length co48] 24 (0, 0)) (by (with_reducible repeat (first | apply qn | apply qd | apply qa)); refine bU (cs := #[.string (⟨#[97, 97, 98, 10, 97, 97]⟩ : ByteArray), .slice none 0 0]) ?_ 1 _ rfl; (with_reducible repeat (first | apply qn | apply qd | apply qa)); refine bU (cs := #[.string (⟨#[]⟩ : ByteArray), .slice none 0 0]) ?_ 0 _ rfl; exact qy BK249.out) hb); have n4_ := aM (bP (by repeat (first | (with_reducible first | exact HB.out | apply ea | apply en | apply ed | refine es ?_ GE249.out) | exact HB.out)) hb); clear HO248 BK249 HB; have HO248 := n0_; have HO254 := n1_; have HO258 := n2_; have BK249 := n3_; have HB := n4_; clear n0_ n1_ n2_ n3_ n4_; (try clear hb); (try clear hb2); (try clear hk); (try clear hi); (try clear ho0); (try clear ho1)) | ((with_reducible refine gate_dst (N := 2) rfl ?_); refine box_event ?hg (N := 2) ?hd (cs := #[.int .i64 0, .string (⟨#[]⟩ : ByteArray), .slice none 0 0, .string (⟨#[]⟩ : ByteArray), .slice none 0 0]) (t := 32) ?hr ?_; (case hd | hg => rfl); (case hr => first | (go_simp; done) | (go_simp; rfl)); intro gb261 hg w52 hbox hb; have n0_ := aM (Kd.R_below (ry HO248.out) hb); have n1_ := aM (Kd.R_below (ry HO254.out) hb); have n2_ := aM (Kd.R_below (ry HO258.out) hb); have n3_ := aM (bB (g := gb249) (qy BK249.out) hb); have n4_ := aM (bP (by repeat (first | (with_reducible first | exact HB.out | apply ea | apply en | apply ed | refine es ?_ GE249.out) | exact HB.out)) hb); have n5_ := aM (hbox); have n6_ := aM ((by rw [hg]; exact (bZ (by repeat (first | (with_reducible first | exact HB.out | apply ea | apply en | apply ed | refine es ?_ GE249.out) | exact HB.out))) : w.heap.size ≤ gb261)); have n7_ := n6_; have n8_ := aM ((by rw [hg]; exact Nat.ne_of_lt (blk_lt (g := gb249) (qy BK249.out)) : gb249 ≠ gb261)); have n9_ := aM ((by rw [hg]; exact Nat.ne_of_gt (blk_lt (g := gb249) (qy BK249.out)) : gb261 ≠ gb249)); clear HO248 HO254 HO258 BK249 HB; have HO248 := n0_; have HO254 := n1_; have HO258 := n2_; have BK249 := n3_; have HB := n4_; have BK261 := n5_; have GW261 := n6_; have GE261 := n7_; have NB249_261 := n8_; have NB261_249 := n9_; clear n0_ n1_ n2_ n3_ n4_ n5_ n6_ n7_ n8_ n9_; clear hb hbox hg; have hnb53 := NB261_249.out; have hnc53 := NB249_261.out; have hcz54_0 : w52.cell? ⟨gb261, 0, none⟩ = some (.int .i64 0) := (bC BK261.out 0).trans rfl; have hcz54_1 : w52.cell? ⟨gb261, 1, none⟩ = some (.string (⟨#[]⟩ : ByteArray)) := (bC BK261.out 1).trans rfl; have hcz54_2 : w52.cell? ⟨gb261, 2, none⟩ = some (.slice none 0 0) := (bC BK261.out 2).trans rfl; have hcz54_3 : w52.cell? ⟨gb261, 3, none⟩ = some (.string (⟨#[]⟩ : ByteArray)) := (bC BK261.out 3).trans rfl; have hcz54_4 : w52.cell? ⟨gb261, 4, none⟩ = some (.slice none 0 0) := (bC BK261.out 4).trans rfl; have hfz54_0 := bF BK261.out 0; have hfz54_1 := bF BK261.out 1; have hfz54_2 := bF BK261.out 2; have hfz54_3 := bF BK261.out 3; have hfz54_4 := bF BK261.out 4; obtain ⟨Ao55, co55, eo55⟩ := Kd.R_slice HO254.out; subst eo55; obtain ⟨Ao56, co56, eo56⟩ := Kd.R_slice HO258.out; subst eo56; have hcz57_0 : w52.cell? ⟨gb249, 0, none⟩ = some (.string (⟨#[97, 97, 98, 10, 97, 97]⟩ : ByteArray)) := (bC BK249.out 0).trans rfl; have hcz57_1 : w52.cell? ⟨gb249, 1, none⟩ = some (.slice Ao48 y246.length co48) := (bC BK249.out 1).trans rfl; have hfz57_0 := bF BK249.out 0; have hfz57_1 := bF BK249.out 1) | ((with_reducible refine gate_callee (f := 10) rfl ?_); refine goesL_ (some 21) rfl rfl Try.func10 (by kernel_rfl) rfl #[.agg #[.string (⟨#[97, 97, 98, 10, 97, 97]⟩ : ByteArray), .slice Ao48 y246.length co48], .int .u64 1, .agg #[.int .i64 1, .int .i64 1, .string (⟨#[98]⟩ : ByteArray), .string (⟨#[]⟩ : ByteArray), .bool false]] rfl (by (try simp only [mT, mC, mN]); first | done | rfl | (simp only [lD, lT]; rfl)) ?_; (with_reducible refine (subst_Do.calls k (⟨#[97, 97, 98, 10, 97, 97]⟩ : ByteArray) _ _ y246 1 1 1 (⟨#[98]⟩ : ByteArray) (⟨#[]⟩ : ByteArray) false t262 t263 t264 t267 t268 t271 t272 _ ?mx11 ?side1 ?side2 A2.out).mono ?_); (case mx11 => exact MaxOk.below HMX.out (by repeat (first | (with_reducible first | exact HB.out | apply ea | apply en | apply ed | refine es ?_ GE249.out | refine es ?_ GE261.out) | exact HB.out))); (case side1 => refine (rR (e := 51) (base := w.heap.size) (ok := fun k_ => ((True ∧ some k_ ≠ (.slice Ao55 t252.length co55 : Value).ownBlock) ∧ some k_ ≠ (.slice Ao56 t256.length co56 : Value).ownBlock)) (n := y246.length) (c := co48) ?_).2.2; exact (by (with_reducible repeat (first | apply ra | apply rn | apply rd_)); exact (rM (rF (p := ⟨gb261, 4, none⟩) (rF (p := ⟨gb261, 3, none⟩) (rF (p := ⟨gb261, 2, none⟩) (rF (p := ⟨gb261, 1, none⟩) (rF (p := ⟨gb261, 0, none⟩) (rT HO248.out BK261.out (by decide)) (fun _ hk => hk.2) (.int .i64 t250)) (fun _ hk => hk.2) (.string t251)) (fun _ hk => hk.2) (.slice Ao55 t252.length co55)) (fun _ hk => hk.2) (.string t255)) (fun _ hk => hk.2) (.slice Ao56 t256.length co56)) (fun _ h_ => h_.1)))); (case side2 => exact (rR HO248.out).2.1); rintro e w58 ⟨v265, v269, rfl, ho0, ho1, hb⟩; refine ⟨_, rfl, ?_⟩; have n0_ := aM (rM (Kd.R_told (Kd.R_told (Kd.R_old (by (with_reducible repeat (first | apply ra | apply rn | apply rd_)); exact (rM (rF (p := ⟨gb261, 4, none⟩) (rF (p := ⟨gb261, 3, none⟩) (rF (p := ⟨gb261, 2, none⟩) (rF (p := ⟨gb261, 1, none⟩) (rF (p := ⟨gb261, 0, none⟩) (rT HO248.out BK261.out (by decide)) (fun _ hk => hk.2) (.int .i64 t250)) (fun _ hk => hk.2) (.string t251)) (fun _ hk => hk.2) (.slice Ao55 t252.length co55)) (fun _ hk => hk.2) (.string t255)) (fun _ hk => hk.2) (.slice Ao56 t256.length co56)) (fun _ h_ => h_.1))) hb) (Kd.R_base ho0)) (Kd.R_base ho1)) (fun _ h_ => h_.1)); have n1_ := aM (rM (Kd.R_told (Kd.R_told (Kd.R_old (by (with_reducible repeat (first | apply ra | apply rn | apply rd_)); exact (rM (rF (p := ⟨gb261, 4, none⟩) (rF (p := ⟨gb261, 3, none⟩) (rF (p := ⟨gb261, 2, none⟩) (rF (p := ⟨gb261, 1, none⟩) (rF (p := ⟨gb261, 0, none⟩) (rT HO254.out BK261.out (by decide)) (fun _ hk => hk.2) (.int .i64 t250)) (fun _ hk => hk.2) (.string t251)) (fun _ hk => hk.2) (.slice Ao55 t252.length co55)) (fun _ hk => hk.2) (.string t255)) (fun _ hk => hk.2) (.slice Ao56 t256.length co56)) (fun _ h_ => h_.1))) hb) (Kd.R_base ho0)) (Kd.R_base ho1)) (fun _ h_ => h_.1)); have n2_ := aM (rM (Kd.R_told (Kd.R_told (Kd.R_old (by (with_reducible repeat (first | apply ra | apply rn | apply rd_)); exact (rM (rF (p := ⟨gb261, 4, none⟩) (rF (p := ⟨gb261, 3, none⟩) (rF (p := ⟨gb261, 2, none⟩) (rF (p := ⟨gb261, 1, none⟩) (rF (p := ⟨gb261, 0, none⟩) (rT HO258.out BK261.out (by decide)) (fun _ hk => hk.2) (.int .i64 t250)) (fun _ hk => hk.2) (.string t251)) (fun _ hk => hk.2) (.slice Ao55 t252.length co55)) (fun _ hk => hk.2) (.string t255)) (fun _ hk => hk.2) (.slice Ao56 t256.length co56)) (fun _ h_ => h_.1))) hb) (Kd.R_base ho0)) (Kd.R_base ho1)) (fun _ h_ => h_.1)); have n3_ := aM (rL (Kd.R_new' (Kd.R_new' (Kd.R_new' ho0 (Kd.R_lt (by (with_reducible repeat (first | apply ra | apply rn | apply rd_)); exact (rM (rF (p := ⟨gb261, 4, none⟩) (rF (p := ⟨gb261, 3, none⟩) (rF (p := ⟨gb261, 2, none⟩) (rF (p := ⟨gb261, 1, none⟩) (rF (p := ⟨gb261, 0, none⟩) (rT HO248.out BK261.out (by decide)) (fun _ hk => hk.2) (.int .i64 t250)) (fun _ hk => hk.2) (.string t251)) (fun _ hk => hk.2) (.slice Ao55 t252.length co55)) (fun _ hk => hk.2) (.string t255)) (fun _ hk => hk.2) (.slice Ao56 t256.length co56)) (fun _ h_ => h_.1))))) (Kd.R_lt (by (with_reducible repeat (first | apply ra | apply rn | apply rd_)); exact (rM (rF (p := ⟨gb261, 4, none⟩) (rF (p := ⟨gb261, 3, none⟩) (rF (p := ⟨gb261, 2, none⟩) (rF (p := ⟨gb261, 1, none⟩) (rF (p := ⟨gb261, 0, none⟩) (rT HO254.out BK261.out (by decide)) (fun _ hk => hk.2) (.int .i64 t250)) (fun _ hk => hk.2) (.string t251)) (fun _ hk => hk.2) (.slice Ao55 t252.length co55)) (fun _ hk => hk.2) (.string t255)) (fun _ hk => hk.2) (.slice Ao56 t256.length co56)) (fun _ h_ => h_.1))))) (Kd.R_lt (by (with_reducible repeat (first | apply ra | apply rn | apply rd_)); exact (rM (rF (p := ⟨gb261, 4, none⟩) (rF (p := ⟨gb261, 3, none⟩) (rF (p := ⟨gb261, 2, none⟩) (rF (p := ⟨gb261, 1, none⟩) (rF (p := ⟨gb261, 0, none⟩) (rT HO258.out BK261.out (by decide)) (fun _ hk => hk.2) (.int .i64 t250)) (fun _ hk => hk.2) (.string t251)) (fun _ hk => hk.2) (.slice Ao55 t252.length co55)) (fun _ hk => hk.2) (.string t255)) (fun _ hk => hk.2) (.slice Ao56 t256.length co56)) (fun _ h_ => h_.1))))) (bZ (by repeat (first | (with_reducible first | exact HB.out | apply ea | apply en | apply ed | refine es ?_ GE249.out | refine es ?_ GE261.out) | exact HB.out)))); have n4_ := aM (rL (Kd.R_new' (Kd.R_new' (Kd.R_new' ho1 (Kd.R_lt (by (with_reducible repeat (first | apply ra | apply rn | apply rd_)); exact (rM (rF (p := ⟨gb261, 4, none⟩) (rF (p := ⟨gb261, 3, none⟩) (rF (p := ⟨gb261, 2, none⟩) (rF (p := ⟨gb261, 1, none⟩) (rF (p := ⟨gb261, 0, none⟩) (rT HO248.out BK261.out (by decide)) (fun _ hk => hk.2) (.int .i64 t250)) (fun _ hk => hk.2) (.string t251)) (fun _ hk => hk.2) (.slice Ao55 t252.length co55)) (fun _ hk => hk.2) (.string t255)) (fun _ hk => hk.2) (.slice Ao56 t256.length co56)) (fun _ h_ => h_.1))))) (Kd.R_lt (by (with_reducible repeat (first | apply ra | apply rn | apply rd_)); exact (rM (rF (p := ⟨gb261, 4, none⟩) (rF (p := ⟨gb261, 3, none⟩) (rF (p := ⟨gb261, 2, none⟩) (rF (p := ⟨gb261, 1, none⟩) (rF (p := ⟨gb261, 0, none⟩) (rT HO254.out BK261.out (by decide)) (fun _ hk => hk.2) (.int .i64 t250)) (fun _ hk => hk.2) (.string t251)) (fun _ hk => hk.2) (.slice Ao55 t252.length co55)) (fun _ hk => hk.2) (.string t255)) (fun _ hk => hk.2) (.slice Ao56 t256.length co56)) (fun _ h_ => h_.1))))) (Kd.R_lt (by (with_reducible repeat (first | apply ra | apply rn | apply rd_)); exact (rM (rF (p := ⟨gb261, 4, none⟩) (rF (p := ⟨gb261, 3, none⟩) (rF (p := ⟨gb261, 2, none⟩) (rF (p := ⟨gb261, 1, none⟩) (rF (p := ⟨gb261, 0, none⟩) (rT HO258.out BK261.out (by decide)) (fun _ hk => hk.2) (.int .i64 t250)) (fun _ hk => hk.2) (.string t251)) (fun _ hk => hk.2) (.slice Ao55 t252.length co55)) (fun _ hk => hk.2) (.string t255)) (fun _ hk => hk.2) (.slice Ao56 t256.length co56)) (fun _ h_ => h_.1))))) (bZ (by repeat (first | (with_reducible first | exact HB.out | apply ea | apply en | apply ed | refine es ?_ GE249.out | refine es ?_ GE261.out) | exact HB.out)))); have n5_ := aM (bB (g := gb249) (o := .cells #[.string (⟨#[97, 97, 98, 10, 97, 97]⟩ : ByteArray), .slice Ao48 y246.length co48] 24 (0, 0)) (by (with_reducible repeat (first | apply qn | apply qd | apply qa)); refine bR ?_ NB249_261.out _; (with_reducible repeat (first | apply qn | apply qd | apply qa)); refine bR ?_ NB249_261.out _; (with_reducible repeat (first | apply qn | apply qd | apply qa)); refine bR ?_ NB249_261.out _; (with_reducible repeat (first | apply qn | apply qd | apply qa)); refine bR ?_ NB249_261.out _; (with_reducible repeat (first | apply qn | apply qd | apply qa)); refine bR ?_ NB249_261.out _; exact qy BK249.out) hb); have n6_ := aM (bB (g := gb261) (o := .cells #[.int .i64 t250, .string t251, .slice Ao55 t252.length co55, .string t255, .slice Ao56 t256.length co56] 32 (0, 0)) (by (with_reducible repeat (first | apply qn | apply qd | apply qa)); refine bU (cs := #[.int .i64 t250, .string t251, .slice Ao55 t252.length co55, .string t255, .slice none 0 0]) ?_ 4 _ rfl; (with_reducible repeat (first | apply qn | apply qd | apply qa)); refine bU (cs := #[.int .i64 t250, .string t251, .slice Ao55 t252.length co55, .string (⟨#[]⟩ : ByteArray), .slice none 0 0]) ?_ 3 _ rfl; (with_reducible repeat (first | apply qn | apply qd | apply qa)); refine bU (cs := #[.int .i64 t250, .string t251, .slice none 0 0, .string (⟨#[]⟩ : ByteArray), .slice none 0 0]) ?_ 2 _ rfl; (with_reducible repeat (first | apply qn | apply qd | apply qa)); refine bU (cs := #[.int .i64 t250, .string (⟨#[]⟩ : ByteArray), .slice none 0 0, .string (⟨#[]⟩ : ByteArray), .slice none 0 0]) ?_ 1 _ rfl; (with_reducible repeat (first | apply qn | apply qd | apply qa)); refine bU (cs := #[.int .i64 0, .string (⟨#[]⟩ : ByteArray), .slice none 0 0, .string (⟨#[]⟩ : ByteArray), .slice none 0 0]) ?_ 0 _ rfl; exact qy BK261.out) hb); have n7_ := aM (bP (by repeat (first | (with_reducible first | exact HB.out | apply ea | apply en | apply ed | refine es ?_ GE249.out | refine es ?_ GE261.out) | exact HB.out)) hb); clear HO248 HO254 HO258 BK249 BK261 HB; have HO248 := n0_; have HO254 := n1_; have HO258 := n2_; have HO266 := n3_; have HO270 := n4_; have BK249 := n5_; have BK261 := n6_; have HB := n7_; clear n0_ n1_ n2_ n3_ n4_ n5_ n6_ n7_; (try clear hb); (try clear hb2); (try clear hk); (try clear hi); (try clear ho0); (try clear ho1)) | ((with_reducible refine gate_dst (N := 5) rfl ?_); refine box_event ?hg (N := 5) ?hd (cs := #[.int .i64 0, .string (⟨#[]⟩ : ByteArray), .slice none 0 0, .string (⟨#[]⟩ : ByteArray), .slice none 0 0]) (t := 32) ?hr ?_; (case hd | hg => rfl); (case hr => first | (go_simp; done) | (go_simp; rfl)); intro gb273 hg w59 hbox hb; have n0_ := aM (Kd.R_below (ry HO248.out) hb); have n1_ := aM (Kd.R_below (ry HO254.out) hb); have n2_ := aM (Kd.R_below (ry HO258.out) hb); have n3_ := aM (Kd.R_below (ry HO266.out) hb); have n4_ := aM (Kd.R_below (ry HO270.out) hb); have n5_ := aM (bB (g := gb249) (qy BK249.out) hb); have n6_ := aM (bB (g := gb261) (qy BK261.out) hb); have n7_ := aM (bP (by repeat (first | (with_reducible first | exact HB.out | apply ea | apply en | apply ed | refine es ?_ GE249.out | refine es ?_ GE261.out) | exact HB.out)) hb); have n8_ := aM (hbox); have n9_ := aM ((by rw [hg]; exact (bZ (by repeat (first | (with_reducible first | exact HB.out | apply ea | apply en | apply ed | refine es ?_ GE249.out | refine es ?_ GE261.out) | exact HB.out))) : w.heap.size ≤ gb273)); have n10_ := n9_; have n11_ := aM ((by rw [hg]; exact Nat.ne_of_lt (blk_lt (g := gb249) (qy BK249.out)) : gb249 ≠ gb273)); have n12_ := aM ((by rw [hg]; exact Nat.ne_of_gt (blk_lt (g := gb249) (qy BK249.out)) : gb273 ≠ gb249)); have n13_ := aM ((by rw [hg]; exact Nat.ne_of_lt (blk_lt (g := gb261) (qy BK261.out)) : gb261 ≠ gb273)); have n14_ := aM ((by rw [hg]; exact Nat.ne_of_gt (blk_lt (g := gb261) (qy BK261.out)) : gb273 ≠ gb261)); clear HO248 HO254 HO258 HO266 HO270 BK249 BK261 HB; have HO248 := n0_; have HO254 := n1_; have HO258 := n2_; have HO266 := n3_; have HO270 := n4_; have BK249 := n5_; have BK261 := n6_; have HB := n7_; have BK273 := n8_; have GW273 := n9_; have GE273 := n10_; have NB249_273 := n11_; have NB273_249 := n12_; have NB261_273 := n13_; have NB273_261 := n14_; clear n0_ n1_ n2_ n3_ n4_ n5_ n6_ n7_ n8_ n9_ n10_ n11_ n12_ n13_ n14_; clear hb hbox hg; have hnb60 := NB273_249.out; have hnc60 := NB249_273.out; have hnb61 := NB273_261.out; have hnc61 := NB261_273.out; have hcz62_0 : w59.cell? ⟨gb273, 0, none⟩ = some (.int .i64 0) := (bC BK273.out 0).trans rfl; have hcz62_1 : w59.cell? ⟨gb273, 1, none⟩ = some (.string (⟨#[]⟩ : ByteArray)) := (bC BK273.out 1).trans rfl; have hcz62_2 : w59.cell? ⟨gb273, 2, none⟩ = some (.slice none 0 0) := (bC BK273.out 2).trans rfl; have hcz62_3 : w59.cell? ⟨gb273, 3, none⟩ = some (.string (⟨#[]⟩ : ByteArray)) := (bC BK273.out 3).trans rfl; have hcz62_4 : w59.cell? ⟨gb273, 4, none⟩ = some (.slice none 0 0) := (bC BK273.out 4).trans rfl; have hfz62_0 := bF BK273.out 0; have hfz62_1 := bF BK273.out 1; have hfz62_2 := bF BK273.out 2; have hfz62_3 := bF BK273.out 3; have hfz62_4 := bF BK273.out 4; obtain ⟨Ao63, co63, eo63⟩ := Kd.R_slice HO266.out; subst eo63; obtain ⟨Ao64, co64, eo64⟩ := Kd.R_slice HO270.out; subst eo64))
   go_ret
   exact ⟨by first | rfl | (simp [errW_none, errW_some] <;> rfl) | (simp [*, errW_none, errW_some] <;> rfl), by repeat (first | (with_reducible first | exact HB.out | apply ea | apply en | apply ed | refine es ?_ GE249.out | refine es ?_ GE261.out | refine es ?_ GE273.out) | exact HB.out)⟩
 ·rw [if_neg c3] at H
  have c3b0 : (t260 == 0) = false := beq_eq_false_iff_ne.mpr c3
  have c3b1 : (t260 != 0) = true := bne_iff_ne.mpr c3
  obtain rfl := Option.some.inj H
  go_enter Try.func8, Try.ntmps8
  go_wp2_with (first | ((with_reducible refine gate_dst (N := 9) rfl ?_); refine Kd.R_lit k51 _ 51 ?hg (N := 9) ?hd (xs := ([(⟨1, 6⟩ : S51)] : List (S51))) (inner := [.int .u64 1, .int .i64 6]) (ok := fun _ => True) (okp := fun _ => True) ?hr ?hp (fun _ hk => hk) trivial (Below.refl _ _) (Nat.le_refl _) (by simp) ?_; (case hd | hg => rfl); (case hr => first | (go_simp; done) | (go_simp; rfl)); (case hp => exact (Reps.c2 (show Kd.M k51 _ _ _ (⟨1, 6⟩ : S51) [.int .u64 1, .int .i64 6] from (k51_mkM _ _ _ (⟨1, 6⟩ : S51) )) (Reps.none _ _))); intro v247 w65 ho66 hb hg_ hnew_; clear hg_ hnew_; (first | rw [← Ny246.out] at ho66 | (simp only [Int.reduceToNat] at ho66; rw [← Ny246.out] at ho66)); have n0_ := aM (rL ho66 (bZ (ey HB.out))); have n1_ := aM (bP (ey HB.out) hb); clear HB; have HO248 := n0_; have HB := n1_; clear n0_ n1_; clear hb ho66; obtain ⟨Ao67, co67, eo67⟩ := Kd.R_slice HO248.out; subst eo67) | ((with_reducible refine gate_dst (N := 1) rfl ?_); refine box_event ?hg (N := 1) ?hd (cs := #[.string (⟨#[]⟩ : ByteArray), .slice none 0 0]) (t := 24) ?hr ?_; (case hd | hg => rfl); (case hr => first | (go_simp; done) | (go_simp; rfl)); intro gb249 hg w68 hbox hb; have n0_ := aM (Kd.R_below (ry HO248.out) hb); have n1_ := aM (bP (ey HB.out) hb); have n2_ := aM (hbox); have n3_ := aM ((by rw [hg]; exact (bZ (ey HB.out)) : w.heap.size ≤ gb249)); have n4_ := n3_; clear HO248 HB; have HO248 := n0_; have HB := n1_; have BK249 := n2_; have GW249 := n3_; have GE249 := n4_; clear n0_ n1_ n2_ n3_ n4_; clear hb hbox hg; have hcz69_0 : w68.cell? ⟨gb249, 0, none⟩ = some (.string (⟨#[]⟩ : ByteArray)) := (bC BK249.out 0).trans rfl; have hcz69_1 : w68.cell? ⟨gb249, 1, none⟩ = some (.slice none 0 0) := (bC BK249.out 1).trans rfl; have hfz69_0 := bF BK249.out 0; have hfz69_1 := bF BK249.out 1) | ((with_reducible refine gate_callee (f := 10) rfl ?_); refine goesL_ (some 14) rfl rfl Try.func10 (by kernel_rfl) rfl #[.agg #[.string (⟨#[97, 97, 98, 10, 97, 97]⟩ : ByteArray), .slice Ao67 y246.length co67], .int .u64 1, .agg #[.int .i64 0, .int .i64 1, .string (⟨#[97]⟩ : ByteArray), .string (⟨#[120, 121]⟩ : ByteArray), .bool true]] rfl (by (try simp only [mT, mC, mN]); first | done | rfl | (simp only [lD, lT]; rfl)) ?_; (with_reducible refine (subst_Do.calls k (⟨#[97, 97, 98, 10, 97, 97]⟩ : ByteArray) _ _ y246 1 0 1 (⟨#[97]⟩ : ByteArray) (⟨#[120, 121]⟩ : ByteArray) true t250 t251 t252 t255 t256 t259 t260 _ ?mx12 ?side1 ?side2 A1.out).mono ?_); (case mx12 => exact MaxOk.below HMX.out (by repeat (first | (with_reducible first | exact HB.out | apply ea | apply en | apply ed | refine es ?_ GE249.out) | exact HB.out))); (case side1 => refine (rR (e := 51) (base := w.heap.size) (ok := fun k_ => True) (n := y246.length) (c := co67) ?_).2.2; exact (by (with_reducible repeat (first | apply ra | apply rn | apply rd_)); exact (rM (rF (p := ⟨gb249, 1, none⟩) (rF (p := ⟨gb249, 0, none⟩) (rT HO248.out BK249.out (by decide)) (fun _ hk => hk.2) (.string (⟨#[97, 97, 98, 10, 97, 97]⟩ : ByteArray))) (fun _ hk => hk.2) (.slice Ao67 y246.length co67)) (fun _ h_ => h_.1)))); (case side2 => exact (rR HO248.out).2.1); rintro e w70 ⟨v253, v257, rfl, ho0, ho1, hb⟩; refine ⟨_, rfl, ?_⟩; have n0_ := aM (rM (Kd.R_told (Kd.R_told (Kd.R_old (by (with_reducible repeat (first | apply ra | apply rn | apply rd_)); exact (rM (rF (p := ⟨gb249, 1, none⟩) (rF (p := ⟨gb249, 0, none⟩) (rT HO248.out BK249.out (by decide)) (fun _ hk => hk.2) (.string (⟨#[97, 97, 98, 10, 97, 97]⟩ : ByteArray))) (fun _ hk => hk.2) (.slice Ao67 y246.length co67)) (fun _ h_ => h_.1))) hb) (Kd.R_base ho0)) (Kd.R_base ho1)) (fun _ h_ => h_.1)); have n1_ := aM (rL (Kd.R_new' ho0 (Kd.R_lt (by (with_reducible repeat (first | apply ra | apply rn | apply rd_)); exact (rM (rF (p := ⟨gb249, 1, none⟩) (rF (p := ⟨gb249, 0, none⟩) (rT HO248.out BK249.out (by decide)) (fun _ hk => hk.2) (.string (⟨#[97, 97, 98, 10, 97, 97]⟩ : ByteArray))) (fun _ hk => hk.2) (.slice Ao67 y246.length co67)) (fun _ h_ => h_.1))))) (bZ (by repeat (first | (with_reducible first | exact HB.out | apply ea | apply en | apply ed | refine es ?_ GE249.out) | exact HB.out)))); have n2_ := aM (rL (Kd.R_new' ho1 (Kd.R_lt (by (with_reducible repeat (first | apply ra | apply rn | apply rd_)); exact (rM (rF (p := ⟨gb249, 1, none⟩) (rF (p := ⟨gb249, 0, none⟩) (rT HO248.out BK249.out (by decide)) (fun _ hk => hk.2) (.string (⟨#[97, 97, 98, 10, 97, 97]⟩ : ByteArray))) (fun _ hk => hk.2) (.slice Ao67 y246.length co67)) (fun _ h_ => h_.1))))) (bZ (by repeat (first | (with_reducible first | exact HB.out | apply ea | apply en | apply ed | refine es ?_ GE249.out) | exact HB.out)))); have n3_ := aM (bB (g := gb249) (o := .cells #[.string (⟨#[97, 97, 98, 10, 97, 97]⟩ : ByteArray), .slice Ao67 y246.length co67] 24 (0, 0)) (by (with_reducible repeat (first | apply qn | apply qd | apply qa)); refine bU (cs := #[.string (⟨#[97, 97, 98, 10, 97, 97]⟩ : ByteArray), .slice none 0 0]) ?_ 1 _ rfl; (with_reducible repeat (first | apply qn | apply qd | apply qa)); refine bU (cs := #[.string (⟨#[]⟩ : ByteArray), .slice none 0 0]) ?_ 0 _ rfl; exact qy BK249.out) hb); have n4_ := aM (bP (by repeat (first | (with_reducible first | exact HB.out | apply ea | apply en | apply ed | refine es ?_ GE249.out) | exact HB.out)) hb); clear HO248 BK249 HB; have HO248 := n0_; have HO254 := n1_; have HO258 := n2_; have BK249 := n3_; have HB := n4_; clear n0_ n1_ n2_ n3_ n4_; (try clear hb); (try clear hb2); (try clear hk); (try clear hi); (try clear ho0); (try clear ho1)) | ((with_reducible refine gate_dst (N := 2) rfl ?_); refine box_event ?hg (N := 2) ?hd (cs := #[.int .i64 0, .string (⟨#[]⟩ : ByteArray), .slice none 0 0, .string (⟨#[]⟩ : ByteArray), .slice none 0 0]) (t := 32) ?hr ?_; (case hd | hg => rfl); (case hr => first | (go_simp; done) | (go_simp; rfl)); intro gb261 hg w71 hbox hb; have n0_ := aM (Kd.R_below (ry HO248.out) hb); have n1_ := aM (Kd.R_below (ry HO254.out) hb); have n2_ := aM (Kd.R_below (ry HO258.out) hb); have n3_ := aM (bB (g := gb249) (qy BK249.out) hb); have n4_ := aM (bP (by repeat (first | (with_reducible first | exact HB.out | apply ea | apply en | apply ed | refine es ?_ GE249.out) | exact HB.out)) hb); have n5_ := aM (hbox); have n6_ := aM ((by rw [hg]; exact (bZ (by repeat (first | (with_reducible first | exact HB.out | apply ea | apply en | apply ed | refine es ?_ GE249.out) | exact HB.out))) : w.heap.size ≤ gb261)); have n7_ := n6_; have n8_ := aM ((by rw [hg]; exact Nat.ne_of_lt (blk_lt (g := gb249) (qy BK249.out)) : gb249 ≠ gb261)); have n9_ := aM ((by rw [hg]; exact Nat.ne_of_gt (blk_lt (g := gb249) (qy BK249.out)) : gb261 ≠ gb249)); clear HO248 HO254 HO258 BK249 HB; have HO248 := n0_; have HO254 := n1_; have HO258 := n2_; have BK249 := n3_; have HB := n4_; have BK261 := n5_; have GW261 := n6_; have GE261 := n7_; have NB249_261 := n8_; have NB261_249 := n9_; clear n0_ n1_ n2_ n3_ n4_ n5_ n6_ n7_ n8_ n9_; clear hb hbox hg; have hnb72 := NB261_249.out; have hnc72 := NB249_261.out; have hcz73_0 : w71.cell? ⟨gb261, 0, none⟩ = some (.int .i64 0) := (bC BK261.out 0).trans rfl; have hcz73_1 : w71.cell? ⟨gb261, 1, none⟩ = some (.string (⟨#[]⟩ : ByteArray)) := (bC BK261.out 1).trans rfl; have hcz73_2 : w71.cell? ⟨gb261, 2, none⟩ = some (.slice none 0 0) := (bC BK261.out 2).trans rfl; have hcz73_3 : w71.cell? ⟨gb261, 3, none⟩ = some (.string (⟨#[]⟩ : ByteArray)) := (bC BK261.out 3).trans rfl; have hcz73_4 : w71.cell? ⟨gb261, 4, none⟩ = some (.slice none 0 0) := (bC BK261.out 4).trans rfl; have hfz73_0 := bF BK261.out 0; have hfz73_1 := bF BK261.out 1; have hfz73_2 := bF BK261.out 2; have hfz73_3 := bF BK261.out 3; have hfz73_4 := bF BK261.out 4; obtain ⟨Ao74, co74, eo74⟩ := Kd.R_slice HO254.out; subst eo74; obtain ⟨Ao75, co75, eo75⟩ := Kd.R_slice HO258.out; subst eo75; have hcz76_0 : w71.cell? ⟨gb249, 0, none⟩ = some (.string (⟨#[97, 97, 98, 10, 97, 97]⟩ : ByteArray)) := (bC BK249.out 0).trans rfl; have hcz76_1 : w71.cell? ⟨gb249, 1, none⟩ = some (.slice Ao67 y246.length co67) := (bC BK249.out 1).trans rfl; have hfz76_0 := bF BK249.out 0; have hfz76_1 := bF BK249.out 1) | ((with_reducible refine gate_callee (f := 10) rfl ?_); refine goesL_ (some 21) rfl rfl Try.func10 (by kernel_rfl) rfl #[.agg #[.string (⟨#[97, 97, 98, 10, 97, 97]⟩ : ByteArray), .slice Ao67 y246.length co67], .int .u64 1, .agg #[.int .i64 1, .int .i64 1, .string (⟨#[98]⟩ : ByteArray), .string (⟨#[]⟩ : ByteArray), .bool false]] rfl (by (try simp only [mT, mC, mN]); first | done | rfl | (simp only [lD, lT]; rfl)) ?_; (with_reducible refine (subst_Do.calls k (⟨#[97, 97, 98, 10, 97, 97]⟩ : ByteArray) _ _ y246 1 1 1 (⟨#[98]⟩ : ByteArray) (⟨#[]⟩ : ByteArray) false t262 t263 t264 t267 t268 t271 t272 _ ?mx13 ?side1 ?side2 A2.out).mono ?_); (case mx13 => exact MaxOk.below HMX.out (by repeat (first | (with_reducible first | exact HB.out | apply ea | apply en | apply ed | refine es ?_ GE249.out | refine es ?_ GE261.out) | exact HB.out))); (case side1 => refine (rR (e := 51) (base := w.heap.size) (ok := fun k_ => ((True ∧ some k_ ≠ (.slice Ao74 t252.length co74 : Value).ownBlock) ∧ some k_ ≠ (.slice Ao75 t256.length co75 : Value).ownBlock)) (n := y246.length) (c := co67) ?_).2.2; exact (by (with_reducible repeat (first | apply ra | apply rn | apply rd_)); exact (rM (rF (p := ⟨gb261, 4, none⟩) (rF (p := ⟨gb261, 3, none⟩) (rF (p := ⟨gb261, 2, none⟩) (rF (p := ⟨gb261, 1, none⟩) (rF (p := ⟨gb261, 0, none⟩) (rT HO248.out BK261.out (by decide)) (fun _ hk => hk.2) (.int .i64 t250)) (fun _ hk => hk.2) (.string t251)) (fun _ hk => hk.2) (.slice Ao74 t252.length co74)) (fun _ hk => hk.2) (.string t255)) (fun _ hk => hk.2) (.slice Ao75 t256.length co75)) (fun _ h_ => h_.1)))); (case side2 => exact (rR HO248.out).2.1); rintro e w77 ⟨v265, v269, rfl, ho0, ho1, hb⟩; refine ⟨_, rfl, ?_⟩; have n0_ := aM (rM (Kd.R_told (Kd.R_told (Kd.R_old (by (with_reducible repeat (first | apply ra | apply rn | apply rd_)); exact (rM (rF (p := ⟨gb261, 4, none⟩) (rF (p := ⟨gb261, 3, none⟩) (rF (p := ⟨gb261, 2, none⟩) (rF (p := ⟨gb261, 1, none⟩) (rF (p := ⟨gb261, 0, none⟩) (rT HO248.out BK261.out (by decide)) (fun _ hk => hk.2) (.int .i64 t250)) (fun _ hk => hk.2) (.string t251)) (fun _ hk => hk.2) (.slice Ao74 t252.length co74)) (fun _ hk => hk.2) (.string t255)) (fun _ hk => hk.2) (.slice Ao75 t256.length co75)) (fun _ h_ => h_.1))) hb) (Kd.R_base ho0)) (Kd.R_base ho1)) (fun _ h_ => h_.1)); have n1_ := aM (rM (Kd.R_told (Kd.R_told (Kd.R_old (by (with_reducible repeat (first | apply ra | apply rn | apply rd_)); exact (rM (rF (p := ⟨gb261, 4, none⟩) (rF (p := ⟨gb261, 3, none⟩) (rF (p := ⟨gb261, 2, none⟩) (rF (p := ⟨gb261, 1, none⟩) (rF (p := ⟨gb261, 0, none⟩) (rT HO254.out BK261.out (by decide)) (fun _ hk => hk.2) (.int .i64 t250)) (fun _ hk => hk.2) (.string t251)) (fun _ hk => hk.2) (.slice Ao74 t252.length co74)) (fun _ hk => hk.2) (.string t255)) (fun _ hk => hk.2) (.slice Ao75 t256.length co75)) (fun _ h_ => h_.1))) hb) (Kd.R_base ho0)) (Kd.R_base ho1)) (fun _ h_ => h_.1)); have n2_ := aM (rM (Kd.R_told (Kd.R_told (Kd.R_old (by (with_reducible repeat (first | apply ra | apply rn | apply rd_)); exact (rM (rF (p := ⟨gb261, 4, none⟩) (rF (p := ⟨gb261, 3, none⟩) (rF (p := ⟨gb261, 2, none⟩) (rF (p := ⟨gb261, 1, none⟩) (rF (p := ⟨gb261, 0, none⟩) (rT HO258.out BK261.out (by decide)) (fun _ hk => hk.2) (.int .i64 t250)) (fun _ hk => hk.2) (.string t251)) (fun _ hk => hk.2) (.slice Ao74 t252.length co74)) (fun _ hk => hk.2) (.string t255)) (fun _ hk => hk.2) (.slice Ao75 t256.length co75)) (fun _ h_ => h_.1))) hb) (Kd.R_base ho0)) (Kd.R_base ho1)) (fun _ h_ => h_.1)); have n3_ := aM (rL (Kd.R_new' (Kd.R_new' (Kd.R_new' ho0 (Kd.R_lt (by (with_reducible repeat (first | apply ra | apply rn | apply rd_)); exact (rM (rF (p := ⟨gb261, 4, none⟩) (rF (p := ⟨gb261, 3, none⟩) (rF (p := ⟨gb261, 2, none⟩) (rF (p := ⟨gb261, 1, none⟩) (rF (p := ⟨gb261, 0, none⟩) (rT HO248.out BK261.out (by decide)) (fun _ hk => hk.2) (.int .i64 t250)) (fun _ hk => hk.2) (.string t251)) (fun _ hk => hk.2) (.slice Ao74 t252.length co74)) (fun _ hk => hk.2) (.string t255)) (fun _ hk => hk.2) (.slice Ao75 t256.length co75)) (fun _ h_ => h_.1))))) (Kd.R_lt (by (with_reducible repeat (first | apply ra | apply rn | apply rd_)); exact (rM (rF (p := ⟨gb261, 4, none⟩) (rF (p := ⟨gb261, 3, none⟩) (rF (p := ⟨gb261, 2, none⟩) (rF (p := ⟨gb261, 1, none⟩) (rF (p := ⟨gb261, 0, none⟩) (rT HO254.out BK261.out (by decide)) (fun _ hk => hk.2) (.int .i64 t250)) (fun _ hk => hk.2) (.string t251)) (fun _ hk => hk.2) (.slice Ao74 t252.length co74)) (fun _ hk => hk.2) (.string t255)) (fun _ hk => hk.2) (.slice Ao75 t256.length co75)) (fun _ h_ => h_.1))))) (Kd.R_lt (by (with_reducible repeat (first | apply ra | apply rn | apply rd_)); exact (rM (rF (p := ⟨gb261, 4, none⟩) (rF (p := ⟨gb261, 3, none⟩) (rF (p := ⟨gb261, 2, none⟩) (rF (p := ⟨gb261, 1, none⟩) (rF (p := ⟨gb261, 0, none⟩) (rT HO258.out BK261.out (by decide)) (fun _ hk => hk.2) (.int .i64 t250)) (fun _ hk => hk.2) (.string t251)) (fun _ hk => hk.2) (.slice Ao74 t252.length co74)) (fun _ hk => hk.2) (.string t255)) (fun _ hk => hk.2) (.slice Ao75 t256.length co75)) (fun _ h_ => h_.1))))) (bZ (by repeat (first | (with_reducible first | exact HB.out | apply ea | apply en | apply ed | refine es ?_ GE249.out | refine es ?_ GE261.out) | exact HB.out)))); have n4_ := aM (rL (Kd.R_new' (Kd.R_new' (Kd.R_new' ho1 (Kd.R_lt (by (with_reducible repeat (first | apply ra | apply rn | apply rd_)); exact (rM (rF (p := ⟨gb261, 4, none⟩) (rF (p := ⟨gb261, 3, none⟩) (rF (p := ⟨gb261, 2, none⟩) (rF (p := ⟨gb261, 1, none⟩) (rF (p := ⟨gb261, 0, none⟩) (rT HO248.out BK261.out (by decide)) (fun _ hk => hk.2) (.int .i64 t250)) (fun _ hk => hk.2) (.string t251)) (fun _ hk => hk.2) (.slice Ao74 t252.length co74)) (fun _ hk => hk.2) (.string t255)) (fun _ hk => hk.2) (.slice Ao75 t256.length co75)) (fun _ h_ => h_.1))))) (Kd.R_lt (by (with_reducible repeat (first | apply ra | apply rn | apply rd_)); exact (rM (rF (p := ⟨gb261, 4, none⟩) (rF (p := ⟨gb261, 3, none⟩) (rF (p := ⟨gb261, 2, none⟩) (rF (p := ⟨gb261, 1, none⟩) (rF (p := ⟨gb261, 0, none⟩) (rT HO254.out BK261.out (by decide)) (fun _ hk => hk.2) (.int .i64 t250)) (fun _ hk => hk.2) (.string t251)) (fun _ hk => hk.2) (.slice Ao74 t252.length co74)) (fun _ hk => hk.2) (.string t255)) (fun _ hk => hk.2) (.slice Ao75 t256.length co75)) (fun _ h_ => h_.1))))) (Kd.R_lt (by (with_reducible repeat (first | apply ra | apply rn | apply rd_)); exact (rM (rF (p := ⟨gb261, 4, none⟩) (rF (p := ⟨gb261, 3, none⟩) (rF (p := ⟨gb261, 2, none⟩) (rF (p := ⟨gb261, 1, none⟩) (rF (p := ⟨gb261, 0, none⟩) (rT HO258.out BK261.out (by decide)) (fun _ hk => hk.2) (.int .i64 t250)) (fun _ hk => hk.2) (.string t251)) (fun _ hk => hk.2) (.slice Ao74 t252.length co74)) (fun _ hk => hk.2) (.string t255)) (fun _ hk => hk.2) (.slice Ao75 t256.length co75)) (fun _ h_ => h_.1))))) (bZ (by repeat (first | (with_reducible first | exact HB.out | apply ea | apply en | apply ed | refine es ?_ GE249.out | refine es ?_ GE261.out) | exact HB.out)))); have n5_ := aM (bB (g := gb249) (o := .cells #[.string (⟨#[97, 97, 98, 10, 97, 97]⟩ : ByteArray), .slice Ao67 y246.length co67] 24 (0, 0)) (by (with_reducible repeat (first | apply qn | apply qd | apply qa)); refine bR ?_ NB249_261.out _; (with_reducible repeat (first | apply qn | apply qd | apply qa)); refine bR ?_ NB249_261.out _; (with_reducible repeat (first | apply qn | apply qd | apply qa)); refine bR ?_ NB249_261.out _; (with_reducible repeat (first | apply qn | apply qd | apply qa)); refine bR ?_ NB249_261.out _; (with_reducible repeat (first | apply qn | apply qd | apply qa)); refine bR ?_ NB249_261.out _; exact qy BK249.out) hb); have n6_ := aM (bB (g := gb261) (o := .cells #[.int .i64 t250, .string t251, .slice Ao74 t252.length co74, .string t255, .slice Ao75 t256.length co75] 32 (0, 0)) (by (with_reducible repeat (first | apply qn | apply qd | apply qa)); refine bU (cs := #[.int .i64 t250, .string t251, .slice Ao74 t252.length co74, .string t255, .slice none 0 0]) ?_ 4 _ rfl; (with_reducible repeat (first | apply qn | apply qd | apply qa)); refine bU (cs := #[.int .i64 t250, .string t251, .slice Ao74 t252.length co74, .string (⟨#[]⟩ : ByteArray), .slice none 0 0]) ?_ 3 _ rfl; (with_reducible repeat (first | apply qn | apply qd | apply qa)); refine bU (cs := #[.int .i64 t250, .string t251, .slice none 0 0, .string (⟨#[]⟩ : ByteArray), .slice none 0 0]) ?_ 2 _ rfl; (with_reducible repeat (first | apply qn | apply qd | apply qa)); refine bU (cs := #[.int .i64 t250, .string (⟨#[]⟩ : ByteArray), .slice none 0 0, .string (⟨#[]⟩ : ByteArray), .slice none 0 0]) ?_ 1 _ rfl; (with_reducible repeat (first | apply qn | apply qd | apply qa)); refine bU (cs := #[.int .i64 0, .string (⟨#[]⟩ : ByteArray), .slice none 0 0, .string (⟨#[]⟩ : ByteArray), .slice none 0 0]) ?_ 0 _ rfl; exact qy BK261.out) hb); have n7_ := aM (bP (by repeat (first | (with_reducible first | exact HB.out | apply ea | apply en | apply ed | refine es ?_ GE249.out | refine es ?_ GE261.out) | exact HB.out)) hb); clear HO248 HO254 HO258 BK249 BK261 HB; have HO248 := n0_; have HO254 := n1_; have HO258 := n2_; have HO266 := n3_; have HO270 := n4_; have BK249 := n5_; have BK261 := n6_; have HB := n7_; clear n0_ n1_ n2_ n3_ n4_ n5_ n6_ n7_; (try clear hb); (try clear hb2); (try clear hk); (try clear hi); (try clear ho0); (try clear ho1)) | ((with_reducible refine gate_dst (N := 5) rfl ?_); refine box_event ?hg (N := 5) ?hd (cs := #[.int .i64 0, .string (⟨#[]⟩ : ByteArray), .slice none 0 0, .string (⟨#[]⟩ : ByteArray), .slice none 0 0]) (t := 32) ?hr ?_; (case hd | hg => rfl); (case hr => first | (go_simp; done) | (go_simp; rfl)); intro gb273 hg w78 hbox hb; have n0_ := aM (Kd.R_below (ry HO248.out) hb); have n1_ := aM (Kd.R_below (ry HO254.out) hb); have n2_ := aM (Kd.R_below (ry HO258.out) hb); have n3_ := aM (Kd.R_below (ry HO266.out) hb); have n4_ := aM (Kd.R_below (ry HO270.out) hb); have n5_ := aM (bB (g := gb249) (qy BK249.out) hb); have n6_ := aM (bB (g := gb261) (qy BK261.out) hb); have n7_ := aM (bP (by repeat (first | (with_reducible first | exact HB.out | apply ea | apply en | apply ed | refine es ?_ GE249.out | refine es ?_ GE261.out) | exact HB.out)) hb); have n8_ := aM (hbox); have n9_ := aM ((by rw [hg]; exact (bZ (by repeat (first | (with_reducible first | exact HB.out | apply ea | apply en | apply ed | refine es ?_ GE249.out | refine es ?_ GE261.out) | exact HB.out))) : w.heap.size ≤ gb273)); have n10_ := n9_; have n11_ := aM ((by rw [hg]; exact Nat.ne_of_lt (blk_lt (g := gb249) (qy BK249.out)) : gb249 ≠ gb273)); have n12_ := aM ((by rw [hg]; exact Nat.ne_of_gt (blk_lt (g := gb249) (qy BK249.out)) : gb273 ≠ gb249)); have n13_ := aM ((by rw [hg]; exact Nat.ne_of_lt (blk_lt (g := gb261) (qy BK261.out)) : gb261 ≠ gb273)); have n14_ := aM ((by rw [hg]; exact Nat.ne_of_gt (blk_lt (g := gb261) (qy BK261.out)) : gb273 ≠ gb261)); clear HO248 HO254 HO258 HO266 HO270 BK249 BK261 HB; have HO248 := n0_; have HO254 := n1_; have HO258 := n2_; have HO266 := n3_; have HO270 := n4_; have BK249 := n5_; have BK261 := n6_; have HB := n7_; have BK273 := n8_; have GW273 := n9_; have GE273 := n10_; have NB249_273 := n11_; have NB273_249 := n12_; have NB261_273 := n13_; have NB273_261 := n14_; clear n0_ n1_ n2_ n3_ n4_ n5_ n6_ n7_ n8_ n9_ n10_ n11_ n12_ n13_ n14_; clear hb hbox hg; have hnb79 := NB273_249.out; have hnc79 := NB249_273.out; have hnb80 := NB273_261.out; have hnc80 := NB261_273.out; have hcz81_0 : w78.cell? ⟨gb273, 0, none⟩ = some (.int .i64 0) := (bC BK273.out 0).trans rfl; have hcz81_1 : w78.cell? ⟨gb273, 1, none⟩ = some (.string (⟨#[]⟩ : ByteArray)) := (bC BK273.out 1).trans rfl; have hcz81_2 : w78.cell? ⟨gb273, 2, none⟩ = some (.slice none 0 0) := (bC BK273.out 2).trans rfl; have hcz81_3 : w78.cell? ⟨gb273, 3, none⟩ = some (.string (⟨#[]⟩ : ByteArray)) := (bC BK273.out 3).trans rfl; have hcz81_4 : w78.cell? ⟨gb273, 4, none⟩ = some (.slice none 0 0) := (bC BK273.out 4).trans rfl; have hfz81_0 := bF BK273.out 0; have hfz81_1 := bF BK273.out 1; have hfz81_2 := bF BK273.out 2; have hfz81_3 := bF BK273.out 3; have hfz81_4 := bF BK273.out 4; obtain ⟨Ao82, co82, eo82⟩ := Kd.R_slice HO266.out; subst eo82; obtain ⟨Ao83, co83, eo83⟩ := Kd.R_slice HO270.out; subst eo83))
  go_ret
  exact ⟨by first | rfl | (simp [errW_none, errW_some] <;> rfl) | (simp [*, errW_none, errW_some] <;> rfl), by repeat (first | (with_reducible first | exact HB.out | apply ea | apply en | apply ed | refine es ?_ GE249.out | refine es ?_ GE261.out | refine es ?_ GE273.out) | exact HB.out)⟩
end Go.Proofs.Ytnbdldpjiofafaa.PB
end

section
namespace Go.Proofs.Ytnbdldpjiofafaa.PB
open Go.RowKit Go.Proofs.YtnbdldpjiofafaaW.PrintWords Go.Proofs.YtnbdldpjiofafaaW.PrintLast Go.Proofs.YtnbdldpjiofafaaW.PrintMore
attribute [local go_sem] max2_int min2_int max_two min_two max_three min_three max_four min_four   
set_option linter.unusedVariables false
set_option linter.unusedSimpArgs false
def bureaulaw15_SubstItself.f (k : Nat) (a0_0 : ByteArray) (l0_1 : List (S51)) (a1 : Int) (a2_0 : Int) (a2_1 : Int) (a2_2 : ByteArray) (a2_3 : ByteArray) (a2_4 : Bool) : Option (Bool) := (bureaulaw15_alive.f k).bind fun t608 => (if t608 = true then ((bureaulaw15_fits.f a0_0 l0_1 a2_0 a2_1 a2_2 a2_3 a2_4).bind fun t609 => (if t609 = true then ((subst_Do.f k a0_0 l0_1 a1 a2_0 a2_1 a2_2 a2_2 a2_4).bind fun bt610 => (if bt610.2.2.2.2.2.2 = 0 then ((bureauref07_Apply.f k a0_0 l0_1 bt610.1 bt610.2.1 bt610.2.2.1 bt610.2.2.2.1 bt610.2.2.2.2.1).bind fun bt622 => (if bt622.2.2 = 0 then (some (bt622.1.toList == a0_0.toList)) else (some false))) else (some true))) else (some true))) else (some false))
set_option maxHeartbeats 8000000 in
set_option maxRecDepth 100000 in
theorem bureaulaw15_SubstItself.calls (k : Nat) (a0_0 : ByteArray) (A0_1 : Option Addr) (c0_1 : Nat) (l0_1 : List (S51)) (a1 : Int) (a2_0 : Int) (a2_1 : Int) (a2_2 : ByteArray) (a2_3 : ByteArray) (a2_4 : Bool) (r : Bool) (w : World) (hMX : MaxOk w) (hr0_1 : Kd.C k51 w A0_1 l0_1.length l0_1) (hc0_1 : l0_1.length ≤ c0_1) (h : bureaulaw15_SubstItself.f k a0_0 l0_1 a1 a2_0 a2_1 a2_2 a2_3 a2_4 = some r) :
  Calls Try.prog 6 #[.agg #[.string a0_0, .slice A0_1 l0_1.length c0_1], .int .u64 a1, .agg #[.int .i64 a2_0, .int .i64 a2_1, .string a2_2, .string a2_3, .bool a2_4]] w fun e w' => e = .returned (.bool r) ∧ Below w.heap.size w w' := by
 have HMX := aM hMX
 clear hMX
 have hu24 := Try.underlying24
 have hu28 := Try.underlying28
 have hu32 := Try.underlying32
 have HR0_1 := aM hr0_1
 have HC0_1 := aM hc0_1
 clear hr0_1 hc0_1
 have HB := aM (Below.refl w.heap.size w)
 have H : ((bureaulaw15_alive.f k).bind fun t608 => (if t608 = true then ((bureaulaw15_fits.f a0_0 l0_1 a2_0 a2_1 a2_2 a2_3 a2_4).bind fun t609 => (if t609 = true then ((subst_Do.f k a0_0 l0_1 a1 a2_0 a2_1 a2_2 a2_2 a2_4).bind fun bt610 => (if bt610.2.2.2.2.2.2 = 0 then ((bureauref07_Apply.f k a0_0 l0_1 bt610.1 bt610.2.1 bt610.2.2.1 bt610.2.2.2.1 bt610.2.2.2.2.1).bind fun bt622 => (if bt622.2.2 = 0 then (some (bt622.1.toList == a0_0.toList)) else (some false))) else (some true))) else (some true))) else (some false))) = some r := h
 clear h
 replace H := Option.bind_eq_some_iff.mp H
 obtain ⟨t608, A40, H⟩ := H
 replace H : (if t608 = true then ((bureaulaw15_fits.f a0_0 l0_1 a2_0 a2_1 a2_2 a2_3 a2_4).bind fun t609 => (if t609 = true then ((subst_Do.f k a0_0 l0_1 a1 a2_0 a2_1 a2_2 a2_2 a2_4).bind fun bt610 => (if bt610.2.2.2.2.2.2 = 0 then ((bureauref07_Apply.f k a0_0 l0_1 bt610.1 bt610.2.1 bt610.2.2.1 bt610.2.2.2.1 bt610.2.2.2.2.1).bind fun bt622 => (if bt622.2.2 = 0 then (some (bt622.1.toList == a0_0.toList)) else (some false))) else (some true))) else (some true))) else (some false)) = some r := H
 have A4 := aM A40
 clear A40
 by_cases c5 : t608 = true
 ·subst c5
  have H1 : ((bureaulaw15_fits.f a0_0 l0_1 a2_0 a2_1 a2_2 a2_3 a2_4).bind fun t609 => (if t609 = true then ((subst_Do.f k a0_0 l0_1 a1 a2_0 a2_1 a2_2 a2_2 a2_4).bind fun bt610 => (if bt610.2.2.2.2.2.2 = 0 then ((bureauref07_Apply.f k a0_0 l0_1 bt610.1 bt610.2.1 bt610.2.2.1 bt610.2.2.2.1 bt610.2.2.2.2.1).bind fun bt622 => (if bt622.2.2 = 0 then (some (bt622.1.toList == a0_0.toList)) else (some false))) else (some true))) else (some true))) = some r := by rw [if_pos rfl] at H; exact H
  clear H
  have H := H1
  clear H1
  replace H := Option.bind_eq_some_iff.mp H
  obtain ⟨t609, A60, H⟩ := H
  replace H : (if t609 = true then ((subst_Do.f k a0_0 l0_1 a1 a2_0 a2_1 a2_2 a2_2 a2_4).bind fun bt610 => (if bt610.2.2.2.2.2.2 = 0 then ((bureauref07_Apply.f k a0_0 l0_1 bt610.1 bt610.2.1 bt610.2.2.1 bt610.2.2.2.1 bt610.2.2.2.2.1).bind fun bt622 => (if bt622.2.2 = 0 then (some (bt622.1.toList == a0_0.toList)) else (some false))) else (some true))) else (some true)) = some r := H
  have A6 := aM A60
  clear A60
  by_cases c7 : t609 = true
  ·subst c7
   have H1 : ((subst_Do.f k a0_0 l0_1 a1 a2_0 a2_1 a2_2 a2_2 a2_4).bind fun bt610 => (if bt610.2.2.2.2.2.2 = 0 then ((bureauref07_Apply.f k a0_0 l0_1 bt610.1 bt610.2.1 bt610.2.2.1 bt610.2.2.2.1 bt610.2.2.2.2.1).bind fun bt622 => (if bt622.2.2 = 0 then (some (bt622.1.toList == a0_0.toList)) else (some false))) else (some true))) = some r := by rw [if_pos rfl] at H; exact H
   clear H
   have H := H1
   clear H1
   replace H := Option.bind_eq_some_iff.mp H
   obtain ⟨⟨t610, t611, t612, t615, t616, t619, t620⟩, A80, H⟩ := H
   replace H : (if t620 = 0 then ((bureauref07_Apply.f k a0_0 l0_1 t610 t611 t612 t615 t616).bind fun bt622 => (if bt622.2.2 = 0 then (some (bt622.1.toList == a0_0.toList)) else (some false))) else (some true)) = some r := H
   have A8 := aM A80
   clear A80
   by_cases c9 : t620 = 0
   ·rw [if_pos c9] at H
    have c9b0 : (t620 == 0) = true := beq_iff_eq.mpr c9
    have c9b1 : (t620 != 0) = false := bne_eq_false_iff_eq.mpr c9
    clear c9
    replace H := Option.bind_eq_some_iff.mp H
    obtain ⟨⟨t622, t623, t626⟩, A100, H⟩ := H
    replace H : (if t626 = 0 then (some (t622.toList == a0_0.toList)) else (some false)) = some r := H
    have A10 := aM A100
    clear A100
    by_cases c11 : t626 = 0
    ·rw [if_pos c11] at H
     have c11b0 : (t626 == 0) = true := beq_iff_eq.mpr c11
     have c11b1 : (t626 != 0) = false := bne_eq_false_iff_eq.mpr c11
     clear c11
     obtain rfl := Option.some.inj H
     go_enter Try.func6, Try.ntmps6
     go_wp2_with (first | ((with_reducible refine gate_dst (N := 3) rfl ?_); refine box_event ?hg (N := 3) ?hd (cs := #[.string a0_0, .slice A0_1 l0_1.length c0_1]) (t := 24) ?hr ?_; (case hd | hg => rfl); (case hr => first | (go_simp; done) | (go_simp; rfl)); intro gb606 hg w12 hbox hb; have n0_ := aM (bP (ey HB.out) hb); have n1_ := aM (hbox); have n2_ := aM ((by rw [hg]; exact (bZ (ey HB.out)) : w.heap.size ≤ gb606)); have n3_ := n2_; clear HB; have HB := n0_; have BK606 := n1_; have GW606 := n2_; have GE606 := n3_; clear n0_ n1_ n2_ n3_; clear hb hbox hg) | ((with_reducible refine gate_dst (N := 5) rfl ?_); refine box_event ?hg (N := 5) ?hd (cs := #[.int .i64 a2_0, .int .i64 a2_1, .string a2_2, .string a2_3, .bool a2_4]) (t := 28) ?hr ?_; (case hd | hg => rfl); (case hr => first | (go_simp; done) | (go_simp; rfl)); intro gb607 hg w13 hbox hb; have n0_ := aM (bB (g := gb606) (qy BK606.out) hb); have n1_ := aM (bP (by repeat (first | (with_reducible first | exact HB.out | apply ea | apply en | apply ed | refine es ?_ GE606.out) | exact HB.out)) hb); have n2_ := aM (hbox); have n3_ := aM ((by rw [hg]; exact (bZ (by repeat (first | (with_reducible first | exact HB.out | apply ea | apply en | apply ed | refine es ?_ GE606.out) | exact HB.out))) : w.heap.size ≤ gb607)); have n4_ := n3_; have n5_ := aM ((by rw [hg]; exact Nat.ne_of_lt (blk_lt (g := gb606) (qy BK606.out)) : gb606 ≠ gb607)); have n6_ := aM ((by rw [hg]; exact Nat.ne_of_gt (blk_lt (g := gb606) (qy BK606.out)) : gb607 ≠ gb606)); clear BK606 HB; have BK606 := n0_; have HB := n1_; have BK607 := n2_; have GW607 := n3_; have GE607 := n4_; have NB606_607 := n5_; have NB607_606 := n6_; clear n0_ n1_ n2_ n3_ n4_ n5_ n6_; clear hb hbox hg) | ((with_reducible refine gate_callee (f := 8) rfl ?_); refine goesL_ (some 12) rfl rfl Try.func8 (by kernel_rfl) rfl #[] rfl (by (try simp only [mT, mC, mN]); first | done | rfl | (simp only [lD, lT]; rfl)) ?_; (with_reducible refine (bureaulaw15_alive.calls k  true _ ?mx41 A4.out).mono ?_); (case mx41 => exact MaxOk.below HMX.out (by repeat (first | (with_reducible first | exact HB.out | apply ea | apply en | apply ed | refine es ?_ GE606.out | refine es ?_ GE607.out) | exact HB.out))); rintro e w14 ⟨rfl, hb⟩; refine ⟨_, rfl, ?_⟩; have n0_ := aM (bB (g := gb606) (qy BK606.out) hb); have n1_ := aM (bB (g := gb607) (qy BK607.out) hb); have n2_ := aM (bP (by repeat (first | (with_reducible first | exact HB.out | apply ea | apply en | apply ed | refine es ?_ GE606.out | refine es ?_ GE607.out) | exact HB.out)) hb); clear BK606 BK607 HB; have BK606 := n0_; have BK607 := n1_; have HB := n2_; clear n0_ n1_ n2_; (try clear hb); (try clear hb2); (try clear hk); (try clear hi); have hnb15 := NB606_607.out; have hnc15 := NB607_606.out; have hcz16_0 : w14.cell? ⟨gb606, 0, none⟩ = some (.string a0_0) := (bC BK606.out 0).trans rfl; have hcz16_1 : w14.cell? ⟨gb606, 1, none⟩ = some (.slice A0_1 l0_1.length c0_1) := (bC BK606.out 1).trans rfl; have hfz16_0 := bF BK606.out 0; have hfz16_1 := bF BK606.out 1; have hcz17_0 : w14.cell? ⟨gb607, 0, none⟩ = some (.int .i64 a2_0) := (bC BK607.out 0).trans rfl; have hcz17_1 : w14.cell? ⟨gb607, 1, none⟩ = some (.int .i64 a2_1) := (bC BK607.out 1).trans rfl; have hcz17_2 : w14.cell? ⟨gb607, 2, none⟩ = some (.string a2_2) := (bC BK607.out 2).trans rfl; have hcz17_3 : w14.cell? ⟨gb607, 3, none⟩ = some (.string a2_3) := (bC BK607.out 3).trans rfl; have hcz17_4 : w14.cell? ⟨gb607, 4, none⟩ = some (.bool a2_4) := (bC BK607.out 4).trans rfl; have hfz17_0 := bF BK607.out 0; have hfz17_1 := bF BK607.out 1; have hfz17_2 := bF BK607.out 2; have hfz17_3 := bF BK607.out 3; have hfz17_4 := bF BK607.out 4) | ((with_reducible refine gate_callee (f := 9) rfl ?_); refine goesL_ (some 16) rfl rfl Try.func9 (by kernel_rfl) rfl #[.agg #[.string a0_0, .slice A0_1 l0_1.length c0_1], .agg #[.int .i64 a2_0, .int .i64 a2_1, .string a2_2, .string a2_3, .bool a2_4]] rfl (by (try simp only [mT, mC, mN]); first | done | rfl | (simp only [lD, lT]; rfl)) ?_; (with_reducible refine (bureaulaw15_fits.calls a0_0 _ _ l0_1 a2_0 a2_1 a2_2 a2_3 a2_4 true _ ?side1 ?side2 A6.out).mono ?_); (case side1 => repeat (first | exact (cB_ HR0_1.out HB.out) | (with_reducible refine Kd.C_alloc ?_ _) | (with_reducible refine Kd.C_drewN ?_ _) | (with_reducible refine Kd.C_drew ?_))); (case side2 => exact HC0_1.out); rintro e w18 ⟨rfl, hb⟩; refine ⟨_, rfl, ?_⟩; have n0_ := aM (bB (g := gb606) (qy BK606.out) hb); have n1_ := aM (bB (g := gb607) (qy BK607.out) hb); have n2_ := aM (bP (by repeat (first | (with_reducible first | exact HB.out | apply ea | apply en | apply ed | refine es ?_ GE606.out | refine es ?_ GE607.out) | exact HB.out)) hb); clear BK606 BK607 HB; have BK606 := n0_; have BK607 := n1_; have HB := n2_; clear n0_ n1_ n2_; (try clear hb); (try clear hb2); (try clear hk); (try clear hi); have hcz19_0 : w18.cell? ⟨gb607, 0, none⟩ = some (.int .i64 a2_0) := (bC BK607.out 0).trans rfl; have hcz19_1 : w18.cell? ⟨gb607, 1, none⟩ = some (.int .i64 a2_1) := (bC BK607.out 1).trans rfl; have hcz19_2 : w18.cell? ⟨gb607, 2, none⟩ = some (.string a2_2) := (bC BK607.out 2).trans rfl; have hcz19_3 : w18.cell? ⟨gb607, 3, none⟩ = some (.string a2_3) := (bC BK607.out 3).trans rfl; have hcz19_4 : w18.cell? ⟨gb607, 4, none⟩ = some (.bool a2_4) := (bC BK607.out 4).trans rfl; have hfz19_0 := bF BK607.out 0; have hfz19_1 := bF BK607.out 1; have hfz19_2 := bF BK607.out 2; have hfz19_3 := bF BK607.out 3; have hfz19_4 := bF BK607.out 4; have hcz20_0 : w18.cell? ⟨gb606, 0, none⟩ = some (.string a0_0) := (bC BK606.out 0).trans rfl; have hcz20_1 : w18.cell? ⟨gb606, 1, none⟩ = some (.slice A0_1 l0_1.length c0_1) := (bC BK606.out 1).trans rfl; have hfz20_0 := bF BK606.out 0; have hfz20_1 := bF BK606.out 1) | ((with_reducible refine gate_callee (f := 10) rfl ?_); refine goesL_ (some 25) rfl rfl Try.func10 (by kernel_rfl) rfl #[.agg #[.string a0_0, .slice A0_1 l0_1.length c0_1], .int .u64 a1, .agg #[.int .i64 a2_0, .int .i64 a2_1, .string a2_2, .string a2_2, .bool a2_4]] rfl (by (try simp only [mT, mC, mN]); first | done | rfl | (simp only [lD, lT]; rfl)) ?_; (with_reducible refine (subst_Do.calls k a0_0 _ _ l0_1 a1 a2_0 a2_1 a2_2 a2_2 a2_4 t610 t611 t612 t615 t616 t619 t620 _ ?mx42 ?side1 ?side2 A8.out).mono ?_); (case mx42 => exact MaxOk.below HMX.out (by repeat (first | (with_reducible first | exact HB.out | apply ea | apply en | apply ed | refine es ?_ GE606.out | refine es ?_ GE607.out) | exact HB.out))); (case side1 => exact cB_ HR0_1.out (by repeat (first | (with_reducible first | exact HB.out | apply ea | apply en | apply ed | refine es ?_ GE606.out | refine es ?_ GE607.out) | exact HB.out))); (case side2 => exact HC0_1.out); rintro e w21 ⟨v613, v617, rfl, ho0, ho1, hb⟩; refine ⟨_, rfl, ?_⟩; have n0_ := aM (rL ho0 (bZ (by repeat (first | (with_reducible first | exact HB.out | apply ea | apply en | apply ed | refine es ?_ GE606.out | refine es ?_ GE607.out) | exact HB.out)))); have n1_ := aM (rL ho1 (bZ (by repeat (first | (with_reducible first | exact HB.out | apply ea | apply en | apply ed | refine es ?_ GE606.out | refine es ?_ GE607.out) | exact HB.out)))); have n2_ := aM (bB (g := gb606) (o := .cells #[.string a0_0, .slice A0_1 l0_1.length c0_1] 24 (0, 0)) (by (with_reducible repeat (first | apply qn | apply qd | apply qa)); refine bR ?_ NB606_607.out _; exact qy BK606.out) hb); have n3_ := aM (bB (g := gb607) (o := .cells #[.int .i64 a2_0, .int .i64 a2_1, .string a2_2, .string a2_2, .bool a2_4] 28 (0, 0)) (by (with_reducible repeat (first | apply qn | apply qd | apply qa)); refine bU (cs := #[.int .i64 a2_0, .int .i64 a2_1, .string a2_2, .string a2_3, .bool a2_4]) ?_ 3 _ rfl; exact qy BK607.out) hb); have n4_ := aM (bP (by repeat (first | (with_reducible first | exact HB.out | apply ea | apply en | apply ed | refine es ?_ GE606.out | refine es ?_ GE607.out) | exact HB.out)) hb); clear BK606 BK607 HB; have HO614 := n0_; have HO618 := n1_; have BK606 := n2_; have BK607 := n3_; have HB := n4_; clear n0_ n1_ n2_ n3_ n4_; (try clear hb); (try clear hb2); (try clear hk); (try clear hi); (try clear ho0); (try clear ho1)) | ((with_reducible refine gate_dst (N := 7) rfl ?_); refine box_event ?hg (N := 7) ?hd (cs := #[.int .i64 0, .string (⟨#[]⟩ : ByteArray), .slice none 0 0, .string (⟨#[]⟩ : ByteArray), .slice none 0 0]) (t := 32) ?hr ?_; (case hd | hg => rfl); (case hr => first | (go_simp; done) | (go_simp; rfl)); intro gb621 hg w22 hbox hb; have n0_ := aM (Kd.R_below (ry HO614.out) hb); have n1_ := aM (Kd.R_below (ry HO618.out) hb); have n2_ := aM (bB (g := gb606) (qy BK606.out) hb); have n3_ := aM (bB (g := gb607) (qy BK607.out) hb); have n4_ := aM (bP (by repeat (first | (with_reducible first | exact HB.out | apply ea | apply en | apply ed | refine es ?_ GE606.out | refine es ?_ GE607.out) | exact HB.out)) hb); have n5_ := aM (hbox); have n6_ := aM ((by rw [hg]; exact (bZ (by repeat (first | (with_reducible first | exact HB.out | apply ea | apply en | apply ed | refine es ?_ GE606.out | refine es ?_ GE607.out) | exact HB.out))) : w.heap.size ≤ gb621)); have n7_ := n6_; have n8_ := aM ((by rw [hg]; exact Nat.ne_of_lt (blk_lt (g := gb606) (qy BK606.out)) : gb606 ≠ gb621)); have n9_ := aM ((by rw [hg]; exact Nat.ne_of_gt (blk_lt (g := gb606) (qy BK606.out)) : gb621 ≠ gb606)); have n10_ := aM ((by rw [hg]; exact Nat.ne_of_lt (blk_lt (g := gb607) (qy BK607.out)) : gb607 ≠ gb621)); have n11_ := aM ((by rw [hg]; exact Nat.ne_of_gt (blk_lt (g := gb607) (qy BK607.out)) : gb621 ≠ gb607)); clear HO614 HO618 BK606 BK607 HB; have HO614 := n0_; have HO618 := n1_; have BK606 := n2_; have BK607 := n3_; have HB := n4_; have BK621 := n5_; have GW621 := n6_; have GE621 := n7_; have NB606_621 := n8_; have NB621_606 := n9_; have NB607_621 := n10_; have NB621_607 := n11_; clear n0_ n1_ n2_ n3_ n4_ n5_ n6_ n7_ n8_ n9_ n10_ n11_; clear hb hbox hg; have hnb23 := NB621_606.out; have hnc23 := NB606_621.out; have hnb24 := NB621_607.out; have hnc24 := NB607_621.out; have hcz25_0 : w22.cell? ⟨gb621, 0, none⟩ = some (.int .i64 0) := (bC BK621.out 0).trans rfl; have hcz25_1 : w22.cell? ⟨gb621, 1, none⟩ = some (.string (⟨#[]⟩ : ByteArray)) := (bC BK621.out 1).trans rfl; have hcz25_2 : w22.cell? ⟨gb621, 2, none⟩ = some (.slice none 0 0) := (bC BK621.out 2).trans rfl; have hcz25_3 : w22.cell? ⟨gb621, 3, none⟩ = some (.string (⟨#[]⟩ : ByteArray)) := (bC BK621.out 3).trans rfl; have hcz25_4 : w22.cell? ⟨gb621, 4, none⟩ = some (.slice none 0 0) := (bC BK621.out 4).trans rfl; have hfz25_0 := bF BK621.out 0; have hfz25_1 := bF BK621.out 1; have hfz25_2 := bF BK621.out 2; have hfz25_3 := bF BK621.out 3; have hfz25_4 := bF BK621.out 4; obtain ⟨Ao26, co26, eo26⟩ := Kd.R_slice HO614.out; subst eo26; obtain ⟨Ao27, co27, eo27⟩ := Kd.R_slice HO618.out; subst eo27; have hcz28_0 : w22.cell? ⟨gb606, 0, none⟩ = some (.string a0_0) := (bC BK606.out 0).trans rfl; have hcz28_1 : w22.cell? ⟨gb606, 1, none⟩ = some (.slice A0_1 l0_1.length c0_1) := (bC BK606.out 1).trans rfl; have hfz28_0 := bF BK606.out 0; have hfz28_1 := bF BK606.out 1) | ((with_reducible refine gate_callee (f := 14) rfl ?_); refine goesL_ (some 34) rfl rfl Try.func14 (by kernel_rfl) rfl #[.agg #[.string a0_0, .slice A0_1 l0_1.length c0_1], .agg #[.int .i64 t610, .string t611, .slice Ao26 t612.length co26, .string t615, .slice Ao27 t616.length co27]] rfl (by (try simp only [mT, mC, mN]); first | done | rfl | (simp only [lD, lT]; rfl)) ?_; (with_reducible refine (bureauref07_Apply.calls k a0_0 _ _ l0_1 t610 t611 _ _ t612 t615 _ _ t616 t622 t623 t626 _ ?side1 ?side2 ?side3 ?side4 ?side5 ?side6 A10.out).mono ?_); (case side1 => exact cB_ HR0_1.out (by repeat (first | (with_reducible first | exact HB.out | apply ea | apply en | apply ed | refine es ?_ GE606.out | refine es ?_ GE607.out | refine es ?_ GE621.out) | exact HB.out))); (case side2 => exact HC0_1.out); (case side3 => refine (rR (e := 51) (base := w.heap.size) (ok := fun k_ => some k_ ≠ (.slice Ao27 t616.length co27 : Value).ownBlock) (n := t612.length) (c := co26) ?_).2.2; exact (by (with_reducible repeat (first | apply ra | apply rn | apply rd_)); exact (rM (rF (p := ⟨gb621, 4, none⟩) (rF (p := ⟨gb621, 3, none⟩) (rF (p := ⟨gb621, 2, none⟩) (rF (p := ⟨gb621, 1, none⟩) (rF (p := ⟨gb621, 0, none⟩) (rT HO614.out BK621.out (by decide)) (fun _ hk => hk.2) (.int .i64 t610)) (fun _ hk => hk.2) (.string t611)) (fun _ hk => hk.2) (.slice Ao26 t612.length co26)) (fun _ hk => hk.2) (.string t615)) (fun _ hk => hk.2) (.slice Ao27 t616.length co27)) (fun _ h_ => h_.1)))); (case side4 => exact (rR HO614.out).2.1); (case side5 => refine (rR (e := 51) (base := w.heap.size) (ok := fun k_ => some k_ ≠ (.slice Ao26 t612.length co26 : Value).ownBlock) (n := t616.length) (c := co27) ?_).2.2; exact (by (with_reducible repeat (first | apply ra | apply rn | apply rd_)); exact (rM (rF (p := ⟨gb621, 4, none⟩) (rF (p := ⟨gb621, 3, none⟩) (rF (p := ⟨gb621, 2, none⟩) (rF (p := ⟨gb621, 1, none⟩) (rF (p := ⟨gb621, 0, none⟩) (rT HO618.out BK621.out (by decide)) (fun _ hk => hk.2) (.int .i64 t610)) (fun _ hk => hk.2) (.string t611)) (fun _ hk => hk.2) (.slice Ao26 t612.length co26)) (fun _ hk => hk.2) (.string t615)) (fun _ hk => hk.2) (.slice Ao27 t616.length co27)) (fun _ h_ => h_.1)))); (case side6 => exact (rR HO618.out).2.1); rintro e w29 ⟨v624, rfl, ho0, hb⟩; refine ⟨_, rfl, ?_⟩; have n0_ := aM (rE (by (with_reducible repeat (first | apply ra | apply rn | apply rd_)); exact (rM (rF (p := ⟨gb621, 4, none⟩) (rF (p := ⟨gb621, 3, none⟩) (rF (p := ⟨gb621, 2, none⟩) (rF (p := ⟨gb621, 1, none⟩) (rF (p := ⟨gb621, 0, none⟩) (rT HO614.out BK621.out (by decide)) (fun _ hk => hk.2) (.int .i64 t610)) (fun _ hk => hk.2) (.string t611)) (fun _ hk => hk.2) (.slice Ao26 t612.length co26)) (fun _ hk => hk.2) (.string t615)) (fun _ hk => hk.2) (.slice Ao27 t616.length co27)) (fun _ h_ => h_.1))) (Kd.R_base ho0) hb); have n1_ := aM (rE (by (with_reducible repeat (first | apply ra | apply rn | apply rd_)); exact (rM (rF (p := ⟨gb621, 4, none⟩) (rF (p := ⟨gb621, 3, none⟩) (rF (p := ⟨gb621, 2, none⟩) (rF (p := ⟨gb621, 1, none⟩) (rF (p := ⟨gb621, 0, none⟩) (rT HO618.out BK621.out (by decide)) (fun _ hk => hk.2) (.int .i64 t610)) (fun _ hk => hk.2) (.string t611)) (fun _ hk => hk.2) (.slice Ao26 t612.length co26)) (fun _ hk => hk.2) (.string t615)) (fun _ hk => hk.2) (.slice Ao27 t616.length co27)) (fun _ h_ => h_.1))) (Kd.R_base ho0) hb); have n2_ := aM (rL (Kd.R_new' (Kd.R_new' ho0 (Kd.R_lt (by (with_reducible repeat (first | apply ra | apply rn | apply rd_)); exact (rM (rF (p := ⟨gb621, 4, none⟩) (rF (p := ⟨gb621, 3, none⟩) (rF (p := ⟨gb621, 2, none⟩) (rF (p := ⟨gb621, 1, none⟩) (rF (p := ⟨gb621, 0, none⟩) (rT HO614.out BK621.out (by decide)) (fun _ hk => hk.2) (.int .i64 t610)) (fun _ hk => hk.2) (.string t611)) (fun _ hk => hk.2) (.slice Ao26 t612.length co26)) (fun _ hk => hk.2) (.string t615)) (fun _ hk => hk.2) (.slice Ao27 t616.length co27)) (fun _ h_ => h_.1))))) (Kd.R_lt (by (with_reducible repeat (first | apply ra | apply rn | apply rd_)); exact (rM (rF (p := ⟨gb621, 4, none⟩) (rF (p := ⟨gb621, 3, none⟩) (rF (p := ⟨gb621, 2, none⟩) (rF (p := ⟨gb621, 1, none⟩) (rF (p := ⟨gb621, 0, none⟩) (rT HO618.out BK621.out (by decide)) (fun _ hk => hk.2) (.int .i64 t610)) (fun _ hk => hk.2) (.string t611)) (fun _ hk => hk.2) (.slice Ao26 t612.length co26)) (fun _ hk => hk.2) (.string t615)) (fun _ hk => hk.2) (.slice Ao27 t616.length co27)) (fun _ h_ => h_.1))))) (bZ (by repeat (first | (with_reducible first | exact HB.out | apply ea | apply en | apply ed | refine es ?_ GE606.out | refine es ?_ GE607.out | refine es ?_ GE621.out) | exact HB.out)))); have n3_ := aM (bB (g := gb606) (o := .cells #[.string a0_0, .slice A0_1 l0_1.length c0_1] 24 (0, 0)) (by (with_reducible repeat (first | apply qn | apply qd | apply qa)); refine bR ?_ NB606_621.out _; (with_reducible repeat (first | apply qn | apply qd | apply qa)); refine bR ?_ NB606_621.out _; (with_reducible repeat (first | apply qn | apply qd | apply qa)); refine bR ?_ NB606_621.out _; (with_reducible repeat (first | apply qn | apply qd | apply qa)); refine bR ?_ NB606_621.out _; (with_reducible repeat (first | apply qn | apply qd | apply qa)); refine bR ?_ NB606_621.out _; exact qy BK606.out) hb); have n4_ := aM (bB (g := gb607) (o := .cells #[.int .i64 a2_0, .int .i64 a2_1, .string a2_2, .string a2_2, .bool a2_4] 28 (0, 0)) (by (with_reducible repeat (first | apply qn | apply qd | apply qa)); refine bR ?_ NB607_621.out _; (with_reducible repeat (first | apply qn | apply qd | apply qa)); refine bR ?_ NB607_621.out _; (with_reducible repeat (first | apply qn | apply qd | apply qa)); refine bR ?_ NB607_621.out _; (with_reducible repeat (first | apply qn | apply qd | apply qa)); refine bR ?_ NB607_621.out _; (with_reducible repeat (first | apply qn | apply qd | apply qa)); refine bR ?_ NB607_621.out _; exact qy BK607.out) hb); have n5_ := aM (bB (g := gb621) (o := .cells #[.int .i64 t610, .string t611, .slice Ao26 t612.length co26, .string t615, .slice Ao27 t616.length co27] 32 (0, 0)) (by (with_reducible repeat (first | apply qn | apply qd | apply qa)); refine bU (cs := #[.int .i64 t610, .string t611, .slice Ao26 t612.length co26, .string t615, .slice none 0 0]) ?_ 4 _ rfl; (with_reducible repeat (first | apply qn | apply qd | apply qa)); refine bU (cs := #[.int .i64 t610, .string t611, .slice Ao26 t612.length co26, .string (⟨#[]⟩ : ByteArray), .slice none 0 0]) ?_ 3 _ rfl; (with_reducible repeat (first | apply qn | apply qd | apply qa)); refine bU (cs := #[.int .i64 t610, .string t611, .slice none 0 0, .string (⟨#[]⟩ : ByteArray), .slice none 0 0]) ?_ 2 _ rfl; (with_reducible repeat (first | apply qn | apply qd | apply qa)); refine bU (cs := #[.int .i64 t610, .string (⟨#[]⟩ : ByteArray), .slice none 0 0, .string (⟨#[]⟩ : ByteArray), .slice none 0 0]) ?_ 1 _ rfl; (with_reducible repeat (first | apply qn | apply qd | apply qa)); refine bU (cs := #[.int .i64 0, .string (⟨#[]⟩ : ByteArray), .slice none 0 0, .string (⟨#[]⟩ : ByteArray), .slice none 0 0]) ?_ 0 _ rfl; exact qy BK621.out) hb); have n6_ := aM (bP (by repeat (first | (with_reducible first | exact HB.out | apply ea | apply en | apply ed | refine es ?_ GE606.out | refine es ?_ GE607.out | refine es ?_ GE621.out) | exact HB.out)) hb); clear HO614 HO618 BK606 BK607 BK621 HB; have HO614 := n0_; have HO618 := n1_; have HO625 := n2_; have BK606 := n3_; have BK607 := n4_; have BK621 := n5_; have HB := n6_; clear n0_ n1_ n2_ n3_ n4_ n5_ n6_; (try clear hb); (try clear hb2); (try clear hk); (try clear hi); (try clear ho0)) | ((with_reducible refine gate_dst (N := 10) rfl ?_); refine box_event ?hg (N := 10) ?hd (cs := #[.string (⟨#[]⟩ : ByteArray), .slice none 0 0]) (t := 24) ?hr ?_; (case hd | hg => rfl); (case hr => first | (go_simp; done) | (go_simp; rfl)); intro gb627 hg w30 hbox hb; have n0_ := aM (Kd.R_below (ry HO614.out) hb); have n1_ := aM (Kd.R_below (ry HO618.out) hb); have n2_ := aM (Kd.R_below (ry HO625.out) hb); have n3_ := aM (bB (g := gb606) (qy BK606.out) hb); have n4_ := aM (bB (g := gb607) (qy BK607.out) hb); have n5_ := aM (bB (g := gb621) (qy BK621.out) hb); have n6_ := aM (bP (by repeat (first | (with_reducible first | exact HB.out | apply ea | apply en | apply ed | refine es ?_ GE606.out | refine es ?_ GE607.out | refine es ?_ GE621.out) | exact HB.out)) hb); have n7_ := aM (hbox); have n8_ := aM ((by rw [hg]; exact (bZ (by repeat (first | (with_reducible first | exact HB.out | apply ea | apply en | apply ed | refine es ?_ GE606.out | refine es ?_ GE607.out | refine es ?_ GE621.out) | exact HB.out))) : w.heap.size ≤ gb627)); have n9_ := n8_; have n10_ := aM ((by rw [hg]; exact Nat.ne_of_lt (blk_lt (g := gb606) (qy BK606.out)) : gb606 ≠ gb627)); have n11_ := aM ((by rw [hg]; exact Nat.ne_of_gt (blk_lt (g := gb606) (qy BK606.out)) : gb627 ≠ gb606)); have n12_ := aM ((by rw [hg]; exact Nat.ne_of_lt (blk_lt (g := gb607) (qy BK607.out)) : gb607 ≠ gb627)); have n13_ := aM ((by rw [hg]; exact Nat.ne_of_gt (blk_lt (g := gb607) (qy BK607.out)) : gb627 ≠ gb607)); have n14_ := aM ((by rw [hg]; exact Nat.ne_of_lt (blk_lt (g := gb621) (qy BK621.out)) : gb621 ≠ gb627)); have n15_ := aM ((by rw [hg]; exact Nat.ne_of_gt (blk_lt (g := gb621) (qy BK621.out)) : gb627 ≠ gb621)); clear HO614 HO618 HO625 BK606 BK607 BK621 HB; have HO614 := n0_; have HO618 := n1_; have HO625 := n2_; have BK606 := n3_; have BK607 := n4_; have BK621 := n5_; have HB := n6_; have BK627 := n7_; have GW627 := n8_; have GE627 := n9_; have NB606_627 := n10_; have NB627_606 := n11_; have NB607_627 := n12_; have NB627_607 := n13_; have NB621_627 := n14_; have NB627_621 := n15_; clear n0_ n1_ n2_ n3_ n4_ n5_ n6_ n7_ n8_ n9_ n10_ n11_ n12_ n13_ n14_ n15_; clear hb hbox hg; have hnb31 := NB627_606.out; have hnc31 := NB606_627.out; have hnb32 := NB627_607.out; have hnc32 := NB607_627.out; have hnb33 := NB627_621.out; have hnc33 := NB621_627.out; have hcz34_0 : w30.cell? ⟨gb627, 0, none⟩ = some (.string (⟨#[]⟩ : ByteArray)) := (bC BK627.out 0).trans rfl; have hcz34_1 : w30.cell? ⟨gb627, 1, none⟩ = some (.slice none 0 0) := (bC BK627.out 1).trans rfl; have hfz34_0 := bF BK627.out 0; have hfz34_1 := bF BK627.out 1; obtain ⟨Ao35, co35, eo35⟩ := Kd.R_slice HO625.out; subst eo35; have hcz36_0 : w30.cell? ⟨gb606, 0, none⟩ = some (.string a0_0) := (bC BK606.out 0).trans rfl; have hcz36_1 : w30.cell? ⟨gb606, 1, none⟩ = some (.slice A0_1 l0_1.length c0_1) := (bC BK606.out 1).trans rfl; have hfz36_0 := bF BK606.out 0; have hfz36_1 := bF BK606.out 1))
     go_ret
     exact ⟨by first | rfl | (simp [errW_none, errW_some] <;> rfl) | (simp [*, errW_none, errW_some] <;> rfl), by repeat (first | (with_reducible first | exact HB.out | apply ea | apply en | apply ed | refine es ?_ GE606.out | refine es ?_ GE607.out | refine es ?_ GE621.out | refine es ?_ GE627.out) | exact HB.out)⟩
    ·rw [if_neg c11] at H
     have c11b0 : (t626 == 0) = false := beq_eq_false_iff_ne.mpr c11
     have c11b1 : (t626 != 0) = true := bne_iff_ne.mpr c11
     obtain rfl := Option.some.inj H
     go_enter Try.func6, Try.ntmps6
     go_wp2_with (first | ((with_reducible refine gate_dst (N := 3) rfl ?_); refine box_event ?hg (N := 3) ?hd (cs := #[.string a0_0, .slice A0_1 l0_1.length c0_1]) (t := 24) ?hr ?_; (case hd | hg => rfl); (case hr => first | (go_simp; done) | (go_simp; rfl)); intro gb606 hg w37 hbox hb; have n0_ := aM (bP (ey HB.out) hb); have n1_ := aM (hbox); have n2_ := aM ((by rw [hg]; exact (bZ (ey HB.out)) : w.heap.size ≤ gb606)); have n3_ := n2_; clear HB; have HB := n0_; have BK606 := n1_; have GW606 := n2_; have GE606 := n3_; clear n0_ n1_ n2_ n3_; clear hb hbox hg) | ((with_reducible refine gate_dst (N := 5) rfl ?_); refine box_event ?hg (N := 5) ?hd (cs := #[.int .i64 a2_0, .int .i64 a2_1, .string a2_2, .string a2_3, .bool a2_4]) (t := 28) ?hr ?_; (case hd | hg => rfl); (case hr => first | (go_simp; done) | (go_simp; rfl)); intro gb607 hg w38 hbox hb; have n0_ := aM (bB (g := gb606) (qy BK606.out) hb); have n1_ := aM (bP (by repeat (first | (with_reducible first | exact HB.out | apply ea | apply en | apply ed | refine es ?_ GE606.out) | exact HB.out)) hb); have n2_ := aM (hbox); have n3_ := aM ((by rw [hg]; exact (bZ (by repeat (first | (with_reducible first | exact HB.out | apply ea | apply en | apply ed | refine es ?_ GE606.out) | exact HB.out))) : w.heap.size ≤ gb607)); have n4_ := n3_; have n5_ := aM ((by rw [hg]; exact Nat.ne_of_lt (blk_lt (g := gb606) (qy BK606.out)) : gb606 ≠ gb607)); have n6_ := aM ((by rw [hg]; exact Nat.ne_of_gt (blk_lt (g := gb606) (qy BK606.out)) : gb607 ≠ gb606)); clear BK606 HB; have BK606 := n0_; have HB := n1_; have BK607 := n2_; have GW607 := n3_; have GE607 := n4_; have NB606_607 := n5_; have NB607_606 := n6_; clear n0_ n1_ n2_ n3_ n4_ n5_ n6_; clear hb hbox hg) | ((with_reducible refine gate_callee (f := 8) rfl ?_); refine goesL_ (some 12) rfl rfl Try.func8 (by kernel_rfl) rfl #[] rfl (by (try simp only [mT, mC, mN]); first | done | rfl | (simp only [lD, lT]; rfl)) ?_; (with_reducible refine (bureaulaw15_alive.calls k  true _ ?mx43 A4.out).mono ?_); (case mx43 => exact MaxOk.below HMX.out (by repeat (first | (with_reducible first | exact HB.out | apply ea | apply en | apply ed | refine es ?_ GE606.out | refine es ?_ GE607.out) | exact HB.out))); rintro e w39 ⟨rfl, hb⟩; refine ⟨_, rfl, ?_⟩; have n0_ := aM (bB (g := gb606) (qy BK606.out) hb); have n1_ := aM (bB (g := gb607) (qy BK607.out) hb); have n2_ := aM (bP (by repeat (first | (with_reducible first | exact HB.out | apply ea | apply en | apply ed | refine es ?_ GE606.out | refine es ?_ GE607.out) | exact HB.out)) hb); clear BK606 BK607 HB; have BK606 := n0_; have BK607 := n1_; have HB := n2_; clear n0_ n1_ n2_; (try clear hb); (try clear hb2); (try clear hk); (try clear hi); have hnb40 := NB606_607.out; have hnc40 := NB607_606.out; have hcz41_0 : w39.cell? ⟨gb606, 0, none⟩ = some (.string a0_0) := (bC BK606.out 0).trans rfl; have hcz41_1 : w39.cell? ⟨gb606, 1, none⟩ = some (.slice A0_1 l0_1.length c0_1) := (bC BK606.out 1).trans rfl; have hfz41_0 := bF BK606.out 0; have hfz41_1 := bF BK606.out 1; have hcz42_0 : w39.cell? ⟨gb607, 0, none⟩ = some (.int .i64 a2_0) := (bC BK607.out 0).trans rfl; have hcz42_1 : w39.cell? ⟨gb607, 1, none⟩ = some (.int .i64 a2_1) := (bC BK607.out 1).trans rfl; have hcz42_2 : w39.cell? ⟨gb607, 2, none⟩ = some (.string a2_2) := (bC BK607.out 2).trans rfl; have hcz42_3 : w39.cell? ⟨gb607, 3, none⟩ = some (.string a2_3) := (bC BK607.out 3).trans rfl; have hcz42_4 : w39.cell? ⟨gb607, 4, none⟩ = some (.bool a2_4) := (bC BK607.out 4).trans rfl; have hfz42_0 := bF BK607.out 0; have hfz42_1 := bF BK607.out 1; have hfz42_2 := bF BK607.out 2; have hfz42_3 := bF BK607.out 3; have hfz42_4 := bF BK607.out 4) | ((with_reducible refine gate_callee (f := 9) rfl ?_); refine goesL_ (some 16) rfl rfl Try.func9 (by kernel_rfl) rfl #[.agg #[.string a0_0, .slice A0_1 l0_1.length c0_1], .agg #[.int .i64 a2_0, .int .i64 a2_1, .string a2_2, .string a2_3, .bool a2_4]] rfl (by (try simp only [mT, mC, mN]); first | done | rfl | (simp only [lD, lT]; rfl)) ?_; (with_reducible refine (bureaulaw15_fits.calls a0_0 _ _ l0_1 a2_0 a2_1 a2_2 a2_3 a2_4 true _ ?side1 ?side2 A6.out).mono ?_); (case side1 => repeat (first | exact (cB_ HR0_1.out HB.out) | (with_reducible refine Kd.C_alloc ?_ _) | (with_reducible refine Kd.C_drewN ?_ _) | (with_reducible refine Kd.C_drew ?_))); (case side2 => exact HC0_1.out); rintro e w43 ⟨rfl, hb⟩; refine ⟨_, rfl, ?_⟩; have n0_ := aM (bB (g := gb606) (qy BK606.out) hb); have n1_ := aM (bB (g := gb607) (qy BK607.out) hb); have n2_ := aM (bP (by repeat (first | (with_reducible first | exact HB.out | apply ea | apply en | apply ed | refine es ?_ GE606.out | refine es ?_ GE607.out) | exact HB.out)) hb); clear BK606 BK607 HB; have BK606 := n0_; have BK607 := n1_; have HB := n2_; clear n0_ n1_ n2_; (try clear hb); (try clear hb2); (try clear hk); (try clear hi); have hcz44_0 : w43.cell? ⟨gb607, 0, none⟩ = some (.int .i64 a2_0) := (bC BK607.out 0).trans rfl; have hcz44_1 : w43.cell? ⟨gb607, 1, none⟩ = some (.int .i64 a2_1) := (bC BK607.out 1).trans rfl; have hcz44_2 : w43.cell? ⟨gb607, 2, none⟩ = some (.string a2_2) := (bC BK607.out 2).trans rfl; have hcz44_3 : w43.cell? ⟨gb607, 3, none⟩ = some (.string a2_3) := (bC BK607.out 3).trans rfl; have hcz44_4 : w43.cell? ⟨gb607, 4, none⟩ = some (.bool a2_4) := (bC BK607.out 4).trans rfl; have hfz44_0 := bF BK607.out 0; have hfz44_1 := bF BK607.out 1; have hfz44_2 := bF BK607.out 2; have hfz44_3 := bF BK607.out 3; have hfz44_4 := bF BK607.out 4; have hcz45_0 : w43.cell? ⟨gb606, 0, none⟩ = some (.string a0_0) := (bC BK606.out 0).trans rfl; have hcz45_1 : w43.cell? ⟨gb606, 1, none⟩ = some (.slice A0_1 l0_1.length c0_1) := (bC BK606.out 1).trans rfl; have hfz45_0 := bF BK606.out 0; have hfz45_1 := bF BK606.out 1) | ((with_reducible refine gate_callee (f := 10) rfl ?_); refine goesL_ (some 25) rfl rfl Try.func10 (by kernel_rfl) rfl #[.agg #[.string a0_0, .slice A0_1 l0_1.length c0_1], .int .u64 a1, .agg #[.int .i64 a2_0, .int .i64 a2_1, .string a2_2, .string a2_2, .bool a2_4]] rfl (by (try simp only [mT, mC, mN]); first | done | rfl | (simp only [lD, lT]; rfl)) ?_; (with_reducible refine (subst_Do.calls k a0_0 _ _ l0_1 a1 a2_0 a2_1 a2_2 a2_2 a2_4 t610 t611 t612 t615 t616 t619 t620 _ ?mx44 ?side1 ?side2 A8.out).mono ?_); (case mx44 => exact MaxOk.below HMX.out (by repeat (first | (with_reducible first | exact HB.out | apply ea | apply en | apply ed | refine es ?_ GE606.out | refine es ?_ GE607.out) | exact HB.out))); (case side1 => exact cB_ HR0_1.out (by repeat (first | (with_reducible first | exact HB.out | apply ea | apply en | apply ed | refine es ?_ GE606.out | refine es ?_ GE607.out) | exact HB.out))); (case side2 => exact HC0_1.out); rintro e w46 ⟨v613, v617, rfl, ho0, ho1, hb⟩; refine ⟨_, rfl, ?_⟩; have n0_ := aM (rL ho0 (bZ (by repeat (first | (with_reducible first | exact HB.out | apply ea | apply en | apply ed | refine es ?_ GE606.out | refine es ?_ GE607.out) | exact HB.out)))); have n1_ := aM (rL ho1 (bZ (by repeat (first | (with_reducible first | exact HB.out | apply ea | apply en | apply ed | refine es ?_ GE606.out | refine es ?_ GE607.out) | exact HB.out)))); have n2_ := aM (bB (g := gb606) (o := .cells #[.string a0_0, .slice A0_1 l0_1.length c0_1] 24 (0, 0)) (by (with_reducible repeat (first | apply qn | apply qd | apply qa)); refine bR ?_ NB606_607.out _; exact qy BK606.out) hb); have n3_ := aM (bB (g := gb607) (o := .cells #[.int .i64 a2_0, .int .i64 a2_1, .string a2_2, .string a2_2, .bool a2_4] 28 (0, 0)) (by (with_reducible repeat (first | apply qn | apply qd | apply qa)); refine bU (cs := #[.int .i64 a2_0, .int .i64 a2_1, .string a2_2, .string a2_3, .bool a2_4]) ?_ 3 _ rfl; exact qy BK607.out) hb); have n4_ := aM (bP (by repeat (first | (with_reducible first | exact HB.out | apply ea | apply en | apply ed | refine es ?_ GE606.out | refine es ?_ GE607.out) | exact HB.out)) hb); clear BK606 BK607 HB; have HO614 := n0_; have HO618 := n1_; have BK606 := n2_; have BK607 := n3_; have HB := n4_; clear n0_ n1_ n2_ n3_ n4_; (try clear hb); (try clear hb2); (try clear hk); (try clear hi); (try clear ho0); (try clear ho1)) | ((with_reducible refine gate_dst (N := 7) rfl ?_); refine box_event ?hg (N := 7) ?hd (cs := #[.int .i64 0, .string (⟨#[]⟩ : ByteArray), .slice none 0 0, .string (⟨#[]⟩ : ByteArray), .slice none 0 0]) (t := 32) ?hr ?_; (case hd | hg => rfl); (case hr => first | (go_simp; done) | (go_simp; rfl)); intro gb621 hg w47 hbox hb; have n0_ := aM (Kd.R_below (ry HO614.out) hb); have n1_ := aM (Kd.R_below (ry HO618.out) hb); have n2_ := aM (bB (g := gb606) (qy BK606.out) hb); have n3_ := aM (bB (g := gb607) (qy BK607.out) hb); have n4_ := aM (bP (by repeat (first | (with_reducible first | exact HB.out | apply ea | apply en | apply ed | refine es ?_ GE606.out | refine es ?_ GE607.out) | exact HB.out)) hb); have n5_ := aM (hbox); have n6_ := aM ((by rw [hg]; exact (bZ (by repeat (first | (with_reducible first | exact HB.out | apply ea | apply en | apply ed | refine es ?_ GE606.out | refine es ?_ GE607.out) | exact HB.out))) : w.heap.size ≤ gb621)); have n7_ := n6_; have n8_ := aM ((by rw [hg]; exact Nat.ne_of_lt (blk_lt (g := gb606) (qy BK606.out)) : gb606 ≠ gb621)); have n9_ := aM ((by rw [hg]; exact Nat.ne_of_gt (blk_lt (g := gb606) (qy BK606.out)) : gb621 ≠ gb606)); have n10_ := aM ((by rw [hg]; exact Nat.ne_of_lt (blk_lt (g := gb607) (qy BK607.out)) : gb607 ≠ gb621)); have n11_ := aM ((by rw [hg]; exact Nat.ne_of_gt (blk_lt (g := gb607) (qy BK607.out)) : gb621 ≠ gb607)); clear HO614 HO618 BK606 BK607 HB; have HO614 := n0_; have HO618 := n1_; have BK606 := n2_; have BK607 := n3_; have HB := n4_; have BK621 := n5_; have GW621 := n6_; have GE621 := n7_; have NB606_621 := n8_; have NB621_606 := n9_; have NB607_621 := n10_; have NB621_607 := n11_; clear n0_ n1_ n2_ n3_ n4_ n5_ n6_ n7_ n8_ n9_ n10_ n11_; clear hb hbox hg; have hnb48 := NB621_606.out; have hnc48 := NB606_621.out; have hnb49 := NB621_607.out; have hnc49 := NB607_621.out; have hcz50_0 : w47.cell? ⟨gb621, 0, none⟩ = some (.int .i64 0) := (bC BK621.out 0).trans rfl; have hcz50_1 : w47.cell? ⟨gb621, 1, none⟩ = some (.string (⟨#[]⟩ : ByteArray)) := (bC BK621.out 1).trans rfl; have hcz50_2 : w47.cell? ⟨gb621, 2, none⟩ = some (.slice none 0 0) := (bC BK621.out 2).trans rfl; have hcz50_3 : w47.cell? ⟨gb621, 3, none⟩ = some (.string (⟨#[]⟩ : ByteArray)) := (bC BK621.out 3).trans rfl; have hcz50_4 : w47.cell? ⟨gb621, 4, none⟩ = some (.slice none 0 0) := (bC BK621.out 4).trans rfl; have hfz50_0 := bF BK621.out 0; have hfz50_1 := bF BK621.out 1; have hfz50_2 := bF BK621.out 2; have hfz50_3 := bF BK621.out 3; have hfz50_4 := bF BK621.out 4; obtain ⟨Ao51, co51, eo51⟩ := Kd.R_slice HO614.out; subst eo51; obtain ⟨Ao52, co52, eo52⟩ := Kd.R_slice HO618.out; subst eo52; have hcz53_0 : w47.cell? ⟨gb606, 0, none⟩ = some (.string a0_0) := (bC BK606.out 0).trans rfl; have hcz53_1 : w47.cell? ⟨gb606, 1, none⟩ = some (.slice A0_1 l0_1.length c0_1) := (bC BK606.out 1).trans rfl; have hfz53_0 := bF BK606.out 0; have hfz53_1 := bF BK606.out 1) | ((with_reducible refine gate_callee (f := 14) rfl ?_); refine goesL_ (some 34) rfl rfl Try.func14 (by kernel_rfl) rfl #[.agg #[.string a0_0, .slice A0_1 l0_1.length c0_1], .agg #[.int .i64 t610, .string t611, .slice Ao51 t612.length co51, .string t615, .slice Ao52 t616.length co52]] rfl (by (try simp only [mT, mC, mN]); first | done | rfl | (simp only [lD, lT]; rfl)) ?_; (with_reducible refine (bureauref07_Apply.calls k a0_0 _ _ l0_1 t610 t611 _ _ t612 t615 _ _ t616 t622 t623 t626 _ ?side1 ?side2 ?side3 ?side4 ?side5 ?side6 A10.out).mono ?_); (case side1 => exact cB_ HR0_1.out (by repeat (first | (with_reducible first | exact HB.out | apply ea | apply en | apply ed | refine es ?_ GE606.out | refine es ?_ GE607.out | refine es ?_ GE621.out) | exact HB.out))); (case side2 => exact HC0_1.out); (case side3 => refine (rR (e := 51) (base := w.heap.size) (ok := fun k_ => some k_ ≠ (.slice Ao52 t616.length co52 : Value).ownBlock) (n := t612.length) (c := co51) ?_).2.2; exact (by (with_reducible repeat (first | apply ra | apply rn | apply rd_)); exact (rM (rF (p := ⟨gb621, 4, none⟩) (rF (p := ⟨gb621, 3, none⟩) (rF (p := ⟨gb621, 2, none⟩) (rF (p := ⟨gb621, 1, none⟩) (rF (p := ⟨gb621, 0, none⟩) (rT HO614.out BK621.out (by decide)) (fun _ hk => hk.2) (.int .i64 t610)) (fun _ hk => hk.2) (.string t611)) (fun _ hk => hk.2) (.slice Ao51 t612.length co51)) (fun _ hk => hk.2) (.string t615)) (fun _ hk => hk.2) (.slice Ao52 t616.length co52)) (fun _ h_ => h_.1)))); (case side4 => exact (rR HO614.out).2.1); (case side5 => refine (rR (e := 51) (base := w.heap.size) (ok := fun k_ => some k_ ≠ (.slice Ao51 t612.length co51 : Value).ownBlock) (n := t616.length) (c := co52) ?_).2.2; exact (by (with_reducible repeat (first | apply ra | apply rn | apply rd_)); exact (rM (rF (p := ⟨gb621, 4, none⟩) (rF (p := ⟨gb621, 3, none⟩) (rF (p := ⟨gb621, 2, none⟩) (rF (p := ⟨gb621, 1, none⟩) (rF (p := ⟨gb621, 0, none⟩) (rT HO618.out BK621.out (by decide)) (fun _ hk => hk.2) (.int .i64 t610)) (fun _ hk => hk.2) (.string t611)) (fun _ hk => hk.2) (.slice Ao51 t612.length co51)) (fun _ hk => hk.2) (.string t615)) (fun _ hk => hk.2) (.slice Ao52 t616.length co52)) (fun _ h_ => h_.1)))); (case side6 => exact (rR HO618.out).2.1); rintro e w54 ⟨v624, rfl, ho0, hb⟩; refine ⟨_, rfl, ?_⟩; have n0_ := aM (rE (by (with_reducible repeat (first | apply ra | apply rn | apply rd_)); exact (rM (rF (p := ⟨gb621, 4, none⟩) (rF (p := ⟨gb621, 3, none⟩) (rF (p := ⟨gb621, 2, none⟩) (rF (p := ⟨gb621, 1, none⟩) (rF (p := ⟨gb621, 0, none⟩) (rT HO614.out BK621.out (by decide)) (fun _ hk => hk.2) (.int .i64 t610)) (fun _ hk => hk.2) (.string t611)) (fun _ hk => hk.2) (.slice Ao51 t612.length co51)) (fun _ hk => hk.2) (.string t615)) (fun _ hk => hk.2) (.slice Ao52 t616.length co52)) (fun _ h_ => h_.1))) (Kd.R_base ho0) hb); have n1_ := aM (rE (by (with_reducible repeat (first | apply ra | apply rn | apply rd_)); exact (rM (rF (p := ⟨gb621, 4, none⟩) (rF (p := ⟨gb621, 3, none⟩) (rF (p := ⟨gb621, 2, none⟩) (rF (p := ⟨gb621, 1, none⟩) (rF (p := ⟨gb621, 0, none⟩) (rT HO618.out BK621.out (by decide)) (fun _ hk => hk.2) (.int .i64 t610)) (fun _ hk => hk.2) (.string t611)) (fun _ hk => hk.2) (.slice Ao51 t612.length co51)) (fun _ hk => hk.2) (.string t615)) (fun _ hk => hk.2) (.slice Ao52 t616.length co52)) (fun _ h_ => h_.1))) (Kd.R_base ho0) hb); have n2_ := aM (rL (Kd.R_new' (Kd.R_new' ho0 (Kd.R_lt (by (with_reducible repeat (first | apply ra | apply rn | apply rd_)); exact (rM (rF (p := ⟨gb621, 4, none⟩) (rF (p := ⟨gb621, 3, none⟩) (rF (p := ⟨gb621, 2, none⟩) (rF (p := ⟨gb621, 1, none⟩) (rF (p := ⟨gb621, 0, none⟩) (rT HO614.out BK621.out (by decide)) (fun _ hk => hk.2) (.int .i64 t610)) (fun _ hk => hk.2) (.string t611)) (fun _ hk => hk.2) (.slice Ao51 t612.length co51)) (fun _ hk => hk.2) (.string t615)) (fun _ hk => hk.2) (.slice Ao52 t616.length co52)) (fun _ h_ => h_.1))))) (Kd.R_lt (by (with_reducible repeat (first | apply ra | apply rn | apply rd_)); exact (rM (rF (p := ⟨gb621, 4, none⟩) (rF (p := ⟨gb621, 3, none⟩) (rF (p := ⟨gb621, 2, none⟩) (rF (p := ⟨gb621, 1, none⟩) (rF (p := ⟨gb621, 0, none⟩) (rT HO618.out BK621.out (by decide)) (fun _ hk => hk.2) (.int .i64 t610)) (fun _ hk => hk.2) (.string t611)) (fun _ hk => hk.2) (.slice Ao51 t612.length co51)) (fun _ hk => hk.2) (.string t615)) (fun _ hk => hk.2) (.slice Ao52 t616.length co52)) (fun _ h_ => h_.1))))) (bZ (by repeat (first | (with_reducible first | exact HB.out | apply ea | apply en | apply ed | refine es ?_ GE606.out | refine es ?_ GE607.out | refine es ?_ GE621.out) | exact HB.out)))); have n3_ := aM (bB (g := gb606) (o := .cells #[.string a0_0, .slice A0_1 l0_1.length c0_1] 24 (0, 0)) (by (with_reducible repeat (first | apply qn | apply qd | apply qa)); refine bR ?_ NB606_621.out _; (with_reducible repeat (first | apply qn | apply qd | apply qa)); refine bR ?_ NB606_621.out _; (with_reducible repeat (first | apply qn | apply qd | apply qa)); refine bR ?_ NB606_621.out _; (with_reducible repeat (first | apply qn | apply qd | apply qa)); refine bR ?_ NB606_621.out _; (with_reducible repeat (first | apply qn | apply qd | apply qa)); refine bR ?_ NB606_621.out _; exact qy BK606.out) hb); have n4_ := aM (bB (g := gb607) (o := .cells #[.int .i64 a2_0, .int .i64 a2_1, .string a2_2, .string a2_2, .bool a2_4] 28 (0, 0)) (by (with_reducible repeat (first | apply qn | apply qd | apply qa)); refine bR ?_ NB607_621.out _; (with_reducible repeat (first | apply qn | apply qd | apply qa)); refine bR ?_ NB607_621.out _; (with_reducible repeat (first | apply qn | apply qd | apply qa)); refine bR ?_ NB607_621.out _; (with_reducible repeat (first | apply qn | apply qd | apply qa)); refine bR ?_ NB607_621.out _; (with_reducible repeat (first | apply qn | apply qd | apply qa)); refine bR ?_ NB607_621.out _; exact qy BK607.out) hb); have n5_ := aM (bB (g := gb621) (o := .cells #[.int .i64 t610, .string t611, .slice Ao51 t612.length co51, .string t615, .slice Ao52 t616.length co52] 32 (0, 0)) (by (with_reducible repeat (first | apply qn | apply qd | apply qa)); refine bU (cs := #[.int .i64 t610, .string t611, .slice Ao51 t612.length co51, .string t615, .slice none 0 0]) ?_ 4 _ rfl; (with_reducible repeat (first | apply qn | apply qd | apply qa)); refine bU (cs := #[.int .i64 t610, .string t611, .slice Ao51 t612.length co51, .string (⟨#[]⟩ : ByteArray), .slice none 0 0]) ?_ 3 _ rfl; (with_reducible repeat (first | apply qn | apply qd | apply qa)); refine bU (cs := #[.int .i64 t610, .string t611, .slice none 0 0, .string (⟨#[]⟩ : ByteArray), .slice none 0 0]) ?_ 2 _ rfl; (with_reducible repeat (first | apply qn | apply qd | apply qa)); refine bU (cs := #[.int .i64 t610, .string (⟨#[]⟩ : ByteArray), .slice none 0 0, .string (⟨#[]⟩ : ByteArray), .slice none 0 0]) ?_ 1 _ rfl; (with_reducible repeat (first | apply qn | apply qd | apply qa)); refine bU (cs := #[.int .i64 0, .string (⟨#[]⟩ : ByteArray), .slice none 0 0, .string (⟨#[]⟩ : ByteArray), .slice none 0 0]) ?_ 0 _ rfl; exact qy BK621.out) hb); have n6_ := aM (bP (by repeat (first | (with_reducible first | exact HB.out | apply ea | apply en | apply ed | refine es ?_ GE606.out | refine es ?_ GE607.out | refine es ?_ GE621.out) | exact HB.out)) hb); clear HO614 HO618 BK606 BK607 BK621 HB; have HO614 := n0_; have HO618 := n1_; have HO625 := n2_; have BK606 := n3_; have BK607 := n4_; have BK621 := n5_; have HB := n6_; clear n0_ n1_ n2_ n3_ n4_ n5_ n6_; (try clear hb); (try clear hb2); (try clear hk); (try clear hi); (try clear ho0)) | ((with_reducible refine gate_dst (N := 10) rfl ?_); refine box_event ?hg (N := 10) ?hd (cs := #[.string (⟨#[]⟩ : ByteArray), .slice none 0 0]) (t := 24) ?hr ?_; (case hd | hg => rfl); (case hr => first | (go_simp; done) | (go_simp; rfl)); intro gb627 hg w55 hbox hb; have n0_ := aM (Kd.R_below (ry HO614.out) hb); have n1_ := aM (Kd.R_below (ry HO618.out) hb); have n2_ := aM (Kd.R_below (ry HO625.out) hb); have n3_ := aM (bB (g := gb606) (qy BK606.out) hb); have n4_ := aM (bB (g := gb607) (qy BK607.out) hb); have n5_ := aM (bB (g := gb621) (qy BK621.out) hb); have n6_ := aM (bP (by repeat (first | (with_reducible first | exact HB.out | apply ea | apply en | apply ed | refine es ?_ GE606.out | refine es ?_ GE607.out | refine es ?_ GE621.out) | exact HB.out)) hb); have n7_ := aM (hbox); have n8_ := aM ((by rw [hg]; exact (bZ (by repeat (first | (with_reducible first | exact HB.out | apply ea | apply en | apply ed | refine es ?_ GE606.out | refine es ?_ GE607.out | refine es ?_ GE621.out) | exact HB.out))) : w.heap.size ≤ gb627)); have n9_ := n8_; have n10_ := aM ((by rw [hg]; exact Nat.ne_of_lt (blk_lt (g := gb606) (qy BK606.out)) : gb606 ≠ gb627)); have n11_ := aM ((by rw [hg]; exact Nat.ne_of_gt (blk_lt (g := gb606) (qy BK606.out)) : gb627 ≠ gb606)); have n12_ := aM ((by rw [hg]; exact Nat.ne_of_lt (blk_lt (g := gb607) (qy BK607.out)) : gb607 ≠ gb627)); have n13_ := aM ((by rw [hg]; exact Nat.ne_of_gt (blk_lt (g := gb607) (qy BK607.out)) : gb627 ≠ gb607)); have n14_ := aM ((by rw [hg]; exact Nat.ne_of_lt (blk_lt (g := gb621) (qy BK621.out)) : gb621 ≠ gb627)); have n15_ := aM ((by rw [hg]; exact Nat.ne_of_gt (blk_lt (g := gb621) (qy BK621.out)) : gb627 ≠ gb621)); clear HO614 HO618 HO625 BK606 BK607 BK621 HB; have HO614 := n0_; have HO618 := n1_; have HO625 := n2_; have BK606 := n3_; have BK607 := n4_; have BK621 := n5_; have HB := n6_; have BK627 := n7_; have GW627 := n8_; have GE627 := n9_; have NB606_627 := n10_; have NB627_606 := n11_; have NB607_627 := n12_; have NB627_607 := n13_; have NB621_627 := n14_; have NB627_621 := n15_; clear n0_ n1_ n2_ n3_ n4_ n5_ n6_ n7_ n8_ n9_ n10_ n11_ n12_ n13_ n14_ n15_; clear hb hbox hg; have hnb56 := NB627_606.out; have hnc56 := NB606_627.out; have hnb57 := NB627_607.out; have hnc57 := NB607_627.out; have hnb58 := NB627_621.out; have hnc58 := NB621_627.out; have hcz59_0 : w55.cell? ⟨gb627, 0, none⟩ = some (.string (⟨#[]⟩ : ByteArray)) := (bC BK627.out 0).trans rfl; have hcz59_1 : w55.cell? ⟨gb627, 1, none⟩ = some (.slice none 0 0) := (bC BK627.out 1).trans rfl; have hfz59_0 := bF BK627.out 0; have hfz59_1 := bF BK627.out 1; obtain ⟨Ao60, co60, eo60⟩ := Kd.R_slice HO625.out; subst eo60))
     go_ret
     exact ⟨by first | rfl | (simp [errW_none, errW_some] <;> rfl) | (simp [*, errW_none, errW_some] <;> rfl), by repeat (first | (with_reducible first | exact HB.out | apply ea | apply en | apply ed | refine es ?_ GE606.out | refine es ?_ GE607.out | refine es ?_ GE621.out | refine es ?_ GE627.out) | exact HB.out)⟩
   ·rw [if_neg c9] at H
    have c9b0 : (t620 == 0) = false := beq_eq_false_iff_ne.mpr c9
    have c9b1 : (t620 != 0) = true := bne_iff_ne.mpr c9
    obtain rfl := Option.some.inj H
    go_enter Try.func6, Try.ntmps6
    go_wp2_with (first | ((with_reducible refine gate_dst (N := 3) rfl ?_); refine box_event ?hg (N := 3) ?hd (cs := #[.string a0_0, .slice A0_1 l0_1.length c0_1]) (t := 24) ?hr ?_; (case hd | hg => rfl); (case hr => first | (go_simp; done) | (go_simp; rfl)); intro gb606 hg w61 hbox hb; have n0_ := aM (bP (ey HB.out) hb); have n1_ := aM (hbox); have n2_ := aM ((by rw [hg]; exact (bZ (ey HB.out)) : w.heap.size ≤ gb606)); have n3_ := n2_; clear HB; have HB := n0_; have BK606 := n1_; have GW606 := n2_; have GE606 := n3_; clear n0_ n1_ n2_ n3_; clear hb hbox hg) | ((with_reducible refine gate_dst (N := 5) rfl ?_); refine box_event ?hg (N := 5) ?hd (cs := #[.int .i64 a2_0, .int .i64 a2_1, .string a2_2, .string a2_3, .bool a2_4]) (t := 28) ?hr ?_; (case hd | hg => rfl); (case hr => first | (go_simp; done) | (go_simp; rfl)); intro gb607 hg w62 hbox hb; have n0_ := aM (bB (g := gb606) (qy BK606.out) hb); have n1_ := aM (bP (by repeat (first | (with_reducible first | exact HB.out | apply ea | apply en | apply ed | refine es ?_ GE606.out) | exact HB.out)) hb); have n2_ := aM (hbox); have n3_ := aM ((by rw [hg]; exact (bZ (by repeat (first | (with_reducible first | exact HB.out | apply ea | apply en | apply ed | refine es ?_ GE606.out) | exact HB.out))) : w.heap.size ≤ gb607)); have n4_ := n3_; have n5_ := aM ((by rw [hg]; exact Nat.ne_of_lt (blk_lt (g := gb606) (qy BK606.out)) : gb606 ≠ gb607)); have n6_ := aM ((by rw [hg]; exact Nat.ne_of_gt (blk_lt (g := gb606) (qy BK606.out)) : gb607 ≠ gb606)); clear BK606 HB; have BK606 := n0_; have HB := n1_; have BK607 := n2_; have GW607 := n3_; have GE607 := n4_; have NB606_607 := n5_; have NB607_606 := n6_; clear n0_ n1_ n2_ n3_ n4_ n5_ n6_; clear hb hbox hg) | ((with_reducible refine gate_callee (f := 8) rfl ?_); refine goesL_ (some 12) rfl rfl Try.func8 (by kernel_rfl) rfl #[] rfl (by (try simp only [mT, mC, mN]); first | done | rfl | (simp only [lD, lT]; rfl)) ?_; (with_reducible refine (bureaulaw15_alive.calls k  true _ ?mx45 A4.out).mono ?_); (case mx45 => exact MaxOk.below HMX.out (by repeat (first | (with_reducible first | exact HB.out | apply ea | apply en | apply ed | refine es ?_ GE606.out | refine es ?_ GE607.out) | exact HB.out))); rintro e w63 ⟨rfl, hb⟩; refine ⟨_, rfl, ?_⟩; have n0_ := aM (bB (g := gb606) (qy BK606.out) hb); have n1_ := aM (bB (g := gb607) (qy BK607.out) hb); have n2_ := aM (bP (by repeat (first | (with_reducible first | exact HB.out | apply ea | apply en | apply ed | refine es ?_ GE606.out | refine es ?_ GE607.out) | exact HB.out)) hb); clear BK606 BK607 HB; have BK606 := n0_; have BK607 := n1_; have HB := n2_; clear n0_ n1_ n2_; (try clear hb); (try clear hb2); (try clear hk); (try clear hi); have hnb64 := NB606_607.out; have hnc64 := NB607_606.out; have hcz65_0 : w63.cell? ⟨gb606, 0, none⟩ = some (.string a0_0) := (bC BK606.out 0).trans rfl; have hcz65_1 : w63.cell? ⟨gb606, 1, none⟩ = some (.slice A0_1 l0_1.length c0_1) := (bC BK606.out 1).trans rfl; have hfz65_0 := bF BK606.out 0; have hfz65_1 := bF BK606.out 1; have hcz66_0 : w63.cell? ⟨gb607, 0, none⟩ = some (.int .i64 a2_0) := (bC BK607.out 0).trans rfl; have hcz66_1 : w63.cell? ⟨gb607, 1, none⟩ = some (.int .i64 a2_1) := (bC BK607.out 1).trans rfl; have hcz66_2 : w63.cell? ⟨gb607, 2, none⟩ = some (.string a2_2) := (bC BK607.out 2).trans rfl; have hcz66_3 : w63.cell? ⟨gb607, 3, none⟩ = some (.string a2_3) := (bC BK607.out 3).trans rfl; have hcz66_4 : w63.cell? ⟨gb607, 4, none⟩ = some (.bool a2_4) := (bC BK607.out 4).trans rfl; have hfz66_0 := bF BK607.out 0; have hfz66_1 := bF BK607.out 1; have hfz66_2 := bF BK607.out 2; have hfz66_3 := bF BK607.out 3; have hfz66_4 := bF BK607.out 4) | ((with_reducible refine gate_callee (f := 9) rfl ?_); refine goesL_ (some 16) rfl rfl Try.func9 (by kernel_rfl) rfl #[.agg #[.string a0_0, .slice A0_1 l0_1.length c0_1], .agg #[.int .i64 a2_0, .int .i64 a2_1, .string a2_2, .string a2_3, .bool a2_4]] rfl (by (try simp only [mT, mC, mN]); first | done | rfl | (simp only [lD, lT]; rfl)) ?_; (with_reducible refine (bureaulaw15_fits.calls a0_0 _ _ l0_1 a2_0 a2_1 a2_2 a2_3 a2_4 true _ ?side1 ?side2 A6.out).mono ?_); (case side1 => repeat (first | exact (cB_ HR0_1.out HB.out) | (with_reducible refine Kd.C_alloc ?_ _) | (with_reducible refine Kd.C_drewN ?_ _) | (with_reducible refine Kd.C_drew ?_))); (case side2 => exact HC0_1.out); rintro e w67 ⟨rfl, hb⟩; refine ⟨_, rfl, ?_⟩; have n0_ := aM (bB (g := gb606) (qy BK606.out) hb); have n1_ := aM (bB (g := gb607) (qy BK607.out) hb); have n2_ := aM (bP (by repeat (first | (with_reducible first | exact HB.out | apply ea | apply en | apply ed | refine es ?_ GE606.out | refine es ?_ GE607.out) | exact HB.out)) hb); clear BK606 BK607 HB; have BK606 := n0_; have BK607 := n1_; have HB := n2_; clear n0_ n1_ n2_; (try clear hb); (try clear hb2); (try clear hk); (try clear hi); have hcz68_0 : w67.cell? ⟨gb607, 0, none⟩ = some (.int .i64 a2_0) := (bC BK607.out 0).trans rfl; have hcz68_1 : w67.cell? ⟨gb607, 1, none⟩ = some (.int .i64 a2_1) := (bC BK607.out 1).trans rfl; have hcz68_2 : w67.cell? ⟨gb607, 2, none⟩ = some (.string a2_2) := (bC BK607.out 2).trans rfl; have hcz68_3 : w67.cell? ⟨gb607, 3, none⟩ = some (.string a2_3) := (bC BK607.out 3).trans rfl; have hcz68_4 : w67.cell? ⟨gb607, 4, none⟩ = some (.bool a2_4) := (bC BK607.out 4).trans rfl; have hfz68_0 := bF BK607.out 0; have hfz68_1 := bF BK607.out 1; have hfz68_2 := bF BK607.out 2; have hfz68_3 := bF BK607.out 3; have hfz68_4 := bF BK607.out 4; have hcz69_0 : w67.cell? ⟨gb606, 0, none⟩ = some (.string a0_0) := (bC BK606.out 0).trans rfl; have hcz69_1 : w67.cell? ⟨gb606, 1, none⟩ = some (.slice A0_1 l0_1.length c0_1) := (bC BK606.out 1).trans rfl; have hfz69_0 := bF BK606.out 0; have hfz69_1 := bF BK606.out 1) | ((with_reducible refine gate_callee (f := 10) rfl ?_); refine goesL_ (some 25) rfl rfl Try.func10 (by kernel_rfl) rfl #[.agg #[.string a0_0, .slice A0_1 l0_1.length c0_1], .int .u64 a1, .agg #[.int .i64 a2_0, .int .i64 a2_1, .string a2_2, .string a2_2, .bool a2_4]] rfl (by (try simp only [mT, mC, mN]); first | done | rfl | (simp only [lD, lT]; rfl)) ?_; (with_reducible refine (subst_Do.calls k a0_0 _ _ l0_1 a1 a2_0 a2_1 a2_2 a2_2 a2_4 t610 t611 t612 t615 t616 t619 t620 _ ?mx46 ?side1 ?side2 A8.out).mono ?_); (case mx46 => exact MaxOk.below HMX.out (by repeat (first | (with_reducible first | exact HB.out | apply ea | apply en | apply ed | refine es ?_ GE606.out | refine es ?_ GE607.out) | exact HB.out))); (case side1 => exact cB_ HR0_1.out (by repeat (first | (with_reducible first | exact HB.out | apply ea | apply en | apply ed | refine es ?_ GE606.out | refine es ?_ GE607.out) | exact HB.out))); (case side2 => exact HC0_1.out); rintro e w70 ⟨v613, v617, rfl, ho0, ho1, hb⟩; refine ⟨_, rfl, ?_⟩; have n0_ := aM (rL ho0 (bZ (by repeat (first | (with_reducible first | exact HB.out | apply ea | apply en | apply ed | refine es ?_ GE606.out | refine es ?_ GE607.out) | exact HB.out)))); have n1_ := aM (rL ho1 (bZ (by repeat (first | (with_reducible first | exact HB.out | apply ea | apply en | apply ed | refine es ?_ GE606.out | refine es ?_ GE607.out) | exact HB.out)))); have n2_ := aM (bB (g := gb606) (o := .cells #[.string a0_0, .slice A0_1 l0_1.length c0_1] 24 (0, 0)) (by (with_reducible repeat (first | apply qn | apply qd | apply qa)); refine bR ?_ NB606_607.out _; exact qy BK606.out) hb); have n3_ := aM (bB (g := gb607) (o := .cells #[.int .i64 a2_0, .int .i64 a2_1, .string a2_2, .string a2_2, .bool a2_4] 28 (0, 0)) (by (with_reducible repeat (first | apply qn | apply qd | apply qa)); refine bU (cs := #[.int .i64 a2_0, .int .i64 a2_1, .string a2_2, .string a2_3, .bool a2_4]) ?_ 3 _ rfl; exact qy BK607.out) hb); have n4_ := aM (bP (by repeat (first | (with_reducible first | exact HB.out | apply ea | apply en | apply ed | refine es ?_ GE606.out | refine es ?_ GE607.out) | exact HB.out)) hb); clear BK606 BK607 HB; have HO614 := n0_; have HO618 := n1_; have BK606 := n2_; have BK607 := n3_; have HB := n4_; clear n0_ n1_ n2_ n3_ n4_; (try clear hb); (try clear hb2); (try clear hk); (try clear hi); (try clear ho0); (try clear ho1)) | ((with_reducible refine gate_dst (N := 7) rfl ?_); refine box_event ?hg (N := 7) ?hd (cs := #[.int .i64 0, .string (⟨#[]⟩ : ByteArray), .slice none 0 0, .string (⟨#[]⟩ : ByteArray), .slice none 0 0]) (t := 32) ?hr ?_; (case hd | hg => rfl); (case hr => first | (go_simp; done) | (go_simp; rfl)); intro gb621 hg w71 hbox hb; have n0_ := aM (Kd.R_below (ry HO614.out) hb); have n1_ := aM (Kd.R_below (ry HO618.out) hb); have n2_ := aM (bB (g := gb606) (qy BK606.out) hb); have n3_ := aM (bB (g := gb607) (qy BK607.out) hb); have n4_ := aM (bP (by repeat (first | (with_reducible first | exact HB.out | apply ea | apply en | apply ed | refine es ?_ GE606.out | refine es ?_ GE607.out) | exact HB.out)) hb); have n5_ := aM (hbox); have n6_ := aM ((by rw [hg]; exact (bZ (by repeat (first | (with_reducible first | exact HB.out | apply ea | apply en | apply ed | refine es ?_ GE606.out | refine es ?_ GE607.out) | exact HB.out))) : w.heap.size ≤ gb621)); have n7_ := n6_; have n8_ := aM ((by rw [hg]; exact Nat.ne_of_lt (blk_lt (g := gb606) (qy BK606.out)) : gb606 ≠ gb621)); have n9_ := aM ((by rw [hg]; exact Nat.ne_of_gt (blk_lt (g := gb606) (qy BK606.out)) : gb621 ≠ gb606)); have n10_ := aM ((by rw [hg]; exact Nat.ne_of_lt (blk_lt (g := gb607) (qy BK607.out)) : gb607 ≠ gb621)); have n11_ := aM ((by rw [hg]; exact Nat.ne_of_gt (blk_lt (g := gb607) (qy BK607.out)) : gb621 ≠ gb607)); clear HO614 HO618 BK606 BK607 HB; have HO614 := n0_; have HO618 := n1_; have BK606 := n2_; have BK607 := n3_; have HB := n4_; have BK621 := n5_; have GW621 := n6_; have GE621 := n7_; have NB606_621 := n8_; have NB621_606 := n9_; have NB607_621 := n10_; have NB621_607 := n11_; clear n0_ n1_ n2_ n3_ n4_ n5_ n6_ n7_ n8_ n9_ n10_ n11_; clear hb hbox hg; have hnb72 := NB621_606.out; have hnc72 := NB606_621.out; have hnb73 := NB621_607.out; have hnc73 := NB607_621.out; have hcz74_0 : w71.cell? ⟨gb621, 0, none⟩ = some (.int .i64 0) := (bC BK621.out 0).trans rfl; have hcz74_1 : w71.cell? ⟨gb621, 1, none⟩ = some (.string (⟨#[]⟩ : ByteArray)) := (bC BK621.out 1).trans rfl; have hcz74_2 : w71.cell? ⟨gb621, 2, none⟩ = some (.slice none 0 0) := (bC BK621.out 2).trans rfl; have hcz74_3 : w71.cell? ⟨gb621, 3, none⟩ = some (.string (⟨#[]⟩ : ByteArray)) := (bC BK621.out 3).trans rfl; have hcz74_4 : w71.cell? ⟨gb621, 4, none⟩ = some (.slice none 0 0) := (bC BK621.out 4).trans rfl; have hfz74_0 := bF BK621.out 0; have hfz74_1 := bF BK621.out 1; have hfz74_2 := bF BK621.out 2; have hfz74_3 := bF BK621.out 3; have hfz74_4 := bF BK621.out 4; obtain ⟨Ao75, co75, eo75⟩ := Kd.R_slice HO614.out; subst eo75; obtain ⟨Ao76, co76, eo76⟩ := Kd.R_slice HO618.out; subst eo76))
    go_ret
    exact ⟨by first | rfl | (simp [errW_none, errW_some] <;> rfl) | (simp [*, errW_none, errW_some] <;> rfl), by repeat (first | (with_reducible first | exact HB.out | apply ea | apply en | apply ed | refine es ?_ GE606.out | refine es ?_ GE607.out | refine es ?_ GE621.out) | exact HB.out)⟩
  ·replace c7 := Bool.eq_false_iff.mpr c7
   subst c7
   have H1 : (some true) = some r := by rw [if_neg (show ¬ (false = true) by decide)] at H; exact H
   clear H
   have H := H1
   clear H1
   obtain rfl := Option.some.inj H
   go_enter Try.func6, Try.ntmps6
   go_wp2_with (first | ((with_reducible refine gate_dst (N := 3) rfl ?_); refine box_event ?hg (N := 3) ?hd (cs := #[.string a0_0, .slice A0_1 l0_1.length c0_1]) (t := 24) ?hr ?_; (case hd | hg => rfl); (case hr => first | (go_simp; done) | (go_simp; rfl)); intro gb606 hg w77 hbox hb; have n0_ := aM (bP (ey HB.out) hb); have n1_ := aM (hbox); have n2_ := aM ((by rw [hg]; exact (bZ (ey HB.out)) : w.heap.size ≤ gb606)); have n3_ := n2_; clear HB; have HB := n0_; have BK606 := n1_; have GW606 := n2_; have GE606 := n3_; clear n0_ n1_ n2_ n3_; clear hb hbox hg) | ((with_reducible refine gate_dst (N := 5) rfl ?_); refine box_event ?hg (N := 5) ?hd (cs := #[.int .i64 a2_0, .int .i64 a2_1, .string a2_2, .string a2_3, .bool a2_4]) (t := 28) ?hr ?_; (case hd | hg => rfl); (case hr => first | (go_simp; done) | (go_simp; rfl)); intro gb607 hg w78 hbox hb; have n0_ := aM (bB (g := gb606) (qy BK606.out) hb); have n1_ := aM (bP (by repeat (first | (with_reducible first | exact HB.out | apply ea | apply en | apply ed | refine es ?_ GE606.out) | exact HB.out)) hb); have n2_ := aM (hbox); have n3_ := aM ((by rw [hg]; exact (bZ (by repeat (first | (with_reducible first | exact HB.out | apply ea | apply en | apply ed | refine es ?_ GE606.out) | exact HB.out))) : w.heap.size ≤ gb607)); have n4_ := n3_; have n5_ := aM ((by rw [hg]; exact Nat.ne_of_lt (blk_lt (g := gb606) (qy BK606.out)) : gb606 ≠ gb607)); have n6_ := aM ((by rw [hg]; exact Nat.ne_of_gt (blk_lt (g := gb606) (qy BK606.out)) : gb607 ≠ gb606)); clear BK606 HB; have BK606 := n0_; have HB := n1_; have BK607 := n2_; have GW607 := n3_; have GE607 := n4_; have NB606_607 := n5_; have NB607_606 := n6_; clear n0_ n1_ n2_ n3_ n4_ n5_ n6_; clear hb hbox hg) | ((with_reducible refine gate_callee (f := 8) rfl ?_); refine goesL_ (some 12) rfl rfl Try.func8 (by kernel_rfl) rfl #[] rfl (by (try simp only [mT, mC, mN]); first | done | rfl | (simp only [lD, lT]; rfl)) ?_; (with_reducible refine (bureaulaw15_alive.calls k  true _ ?mx47 A4.out).mono ?_); (case mx47 => exact MaxOk.below HMX.out (by repeat (first | (with_reducible first | exact HB.out | apply ea | apply en | apply ed | refine es ?_ GE606.out | refine es ?_ GE607.out) | exact HB.out))); rintro e w79 ⟨rfl, hb⟩; refine ⟨_, rfl, ?_⟩; have n0_ := aM (bB (g := gb606) (qy BK606.out) hb); have n1_ := aM (bB (g := gb607) (qy BK607.out) hb); have n2_ := aM (bP (by repeat (first | (with_reducible first | exact HB.out | apply ea | apply en | apply ed | refine es ?_ GE606.out | refine es ?_ GE607.out) | exact HB.out)) hb); clear BK606 BK607 HB; have BK606 := n0_; have BK607 := n1_; have HB := n2_; clear n0_ n1_ n2_; (try clear hb); (try clear hb2); (try clear hk); (try clear hi); have hnb80 := NB606_607.out; have hnc80 := NB607_606.out; have hcz81_0 : w79.cell? ⟨gb606, 0, none⟩ = some (.string a0_0) := (bC BK606.out 0).trans rfl; have hcz81_1 : w79.cell? ⟨gb606, 1, none⟩ = some (.slice A0_1 l0_1.length c0_1) := (bC BK606.out 1).trans rfl; have hfz81_0 := bF BK606.out 0; have hfz81_1 := bF BK606.out 1; have hcz82_0 : w79.cell? ⟨gb607, 0, none⟩ = some (.int .i64 a2_0) := (bC BK607.out 0).trans rfl; have hcz82_1 : w79.cell? ⟨gb607, 1, none⟩ = some (.int .i64 a2_1) := (bC BK607.out 1).trans rfl; have hcz82_2 : w79.cell? ⟨gb607, 2, none⟩ = some (.string a2_2) := (bC BK607.out 2).trans rfl; have hcz82_3 : w79.cell? ⟨gb607, 3, none⟩ = some (.string a2_3) := (bC BK607.out 3).trans rfl; have hcz82_4 : w79.cell? ⟨gb607, 4, none⟩ = some (.bool a2_4) := (bC BK607.out 4).trans rfl; have hfz82_0 := bF BK607.out 0; have hfz82_1 := bF BK607.out 1; have hfz82_2 := bF BK607.out 2; have hfz82_3 := bF BK607.out 3; have hfz82_4 := bF BK607.out 4) | ((with_reducible refine gate_callee (f := 9) rfl ?_); refine goesL_ (some 16) rfl rfl Try.func9 (by kernel_rfl) rfl #[.agg #[.string a0_0, .slice A0_1 l0_1.length c0_1], .agg #[.int .i64 a2_0, .int .i64 a2_1, .string a2_2, .string a2_3, .bool a2_4]] rfl (by (try simp only [mT, mC, mN]); first | done | rfl | (simp only [lD, lT]; rfl)) ?_; (with_reducible refine (bureaulaw15_fits.calls a0_0 _ _ l0_1 a2_0 a2_1 a2_2 a2_3 a2_4 false _ ?side1 ?side2 A6.out).mono ?_); (case side1 => repeat (first | exact (cB_ HR0_1.out HB.out) | (with_reducible refine Kd.C_alloc ?_ _) | (with_reducible refine Kd.C_drewN ?_ _) | (with_reducible refine Kd.C_drew ?_))); (case side2 => exact HC0_1.out); rintro e w83 ⟨rfl, hb⟩; refine ⟨_, rfl, ?_⟩; have n0_ := aM (bB (g := gb606) (qy BK606.out) hb); have n1_ := aM (bB (g := gb607) (qy BK607.out) hb); have n2_ := aM (bP (by repeat (first | (with_reducible first | exact HB.out | apply ea | apply en | apply ed | refine es ?_ GE606.out | refine es ?_ GE607.out) | exact HB.out)) hb); clear BK606 BK607 HB; have BK606 := n0_; have BK607 := n1_; have HB := n2_; clear n0_ n1_ n2_; (try clear hb); (try clear hb2); (try clear hk); (try clear hi)))
   go_ret
   exact ⟨by first | rfl | (simp [errW_none, errW_some] <;> rfl) | (simp [*, errW_none, errW_some] <;> rfl), by repeat (first | (with_reducible first | exact HB.out | apply ea | apply en | apply ed | refine es ?_ GE606.out | refine es ?_ GE607.out) | exact HB.out)⟩
 ·replace c5 := Bool.eq_false_iff.mpr c5
  subst c5
  have H1 : (some false) = some r := by rw [if_neg (show ¬ (false = true) by decide)] at H; exact H
  clear H
  have H := H1
  clear H1
  obtain rfl := Option.some.inj H
  go_enter Try.func6, Try.ntmps6
  go_wp2_with (first | ((with_reducible refine gate_dst (N := 3) rfl ?_); refine box_event ?hg (N := 3) ?hd (cs := #[.string a0_0, .slice A0_1 l0_1.length c0_1]) (t := 24) ?hr ?_; (case hd | hg => rfl); (case hr => first | (go_simp; done) | (go_simp; rfl)); intro gb606 hg w84 hbox hb; have n0_ := aM (bP (ey HB.out) hb); have n1_ := aM (hbox); have n2_ := aM ((by rw [hg]; exact (bZ (ey HB.out)) : w.heap.size ≤ gb606)); have n3_ := n2_; clear HB; have HB := n0_; have BK606 := n1_; have GW606 := n2_; have GE606 := n3_; clear n0_ n1_ n2_ n3_; clear hb hbox hg) | ((with_reducible refine gate_dst (N := 5) rfl ?_); refine box_event ?hg (N := 5) ?hd (cs := #[.int .i64 a2_0, .int .i64 a2_1, .string a2_2, .string a2_3, .bool a2_4]) (t := 28) ?hr ?_; (case hd | hg => rfl); (case hr => first | (go_simp; done) | (go_simp; rfl)); intro gb607 hg w85 hbox hb; have n0_ := aM (bB (g := gb606) (qy BK606.out) hb); have n1_ := aM (bP (by repeat (first | (with_reducible first | exact HB.out | apply ea | apply en | apply ed | refine es ?_ GE606.out) | exact HB.out)) hb); have n2_ := aM (hbox); have n3_ := aM ((by rw [hg]; exact (bZ (by repeat (first | (with_reducible first | exact HB.out | apply ea | apply en | apply ed | refine es ?_ GE606.out) | exact HB.out))) : w.heap.size ≤ gb607)); have n4_ := n3_; have n5_ := aM ((by rw [hg]; exact Nat.ne_of_lt (blk_lt (g := gb606) (qy BK606.out)) : gb606 ≠ gb607)); have n6_ := aM ((by rw [hg]; exact Nat.ne_of_gt (blk_lt (g := gb606) (qy BK606.out)) : gb607 ≠ gb606)); clear BK606 HB; have BK606 := n0_; have HB := n1_; have BK607 := n2_; have GW607 := n3_; have GE607 := n4_; have NB606_607 := n5_; have NB607_606 := n6_; clear n0_ n1_ n2_ n3_ n4_ n5_ n6_; clear hb hbox hg) | ((with_reducible refine gate_callee (f := 8) rfl ?_); refine goesL_ (some 12) rfl rfl Try.func8 (by kernel_rfl) rfl #[] rfl (by (try simp only [mT, mC, mN]); first | done | rfl | (simp only [lD, lT]; rfl)) ?_; (with_reducible refine (bureaulaw15_alive.calls k  false _ ?mx48 A4.out).mono ?_); (case mx48 => exact MaxOk.below HMX.out (by repeat (first | (with_reducible first | exact HB.out | apply ea | apply en | apply ed | refine es ?_ GE606.out | refine es ?_ GE607.out) | exact HB.out))); rintro e w86 ⟨rfl, hb⟩; refine ⟨_, rfl, ?_⟩; have n0_ := aM (bB (g := gb606) (qy BK606.out) hb); have n1_ := aM (bB (g := gb607) (qy BK607.out) hb); have n2_ := aM (bP (by repeat (first | (with_reducible first | exact HB.out | apply ea | apply en | apply ed | refine es ?_ GE606.out | refine es ?_ GE607.out) | exact HB.out)) hb); clear BK606 BK607 HB; have BK606 := n0_; have BK607 := n1_; have HB := n2_; clear n0_ n1_ n2_; (try clear hb); (try clear hb2); (try clear hk); (try clear hi)))
  go_ret
  exact ⟨by first | rfl | (simp [errW_none, errW_some] <;> rfl) | (simp [*, errW_none, errW_some] <;> rfl), by repeat (first | (with_reducible first | exact HB.out | apply ea | apply en | apply ed | refine es ?_ GE606.out | refine es ?_ GE607.out) | exact HB.out)⟩
end Go.Proofs.Ytnbdldpjiofafaa.PB
end

section
namespace Go.Proofs.Ytnbdldpjiofafaa.PB
open Go.Proofs.YtnbdldpjiofafaaW.PrintWords
theorem Ev.pos {α : Type} {c : Prop} [Decidable c] {A B : Nat → Option α} {r : α} (h : c) (k : Ev A r) : Ev (fun n => if c then A n else B n) r := by
  obtain ⟨K, hK⟩ := k
  exact ⟨K, fun n hn => by show (if c then A n else B n) = _; rw [if_pos h]; exact hK n hn⟩
theorem Ev.neg {α : Type} {c : Prop} [Decidable c] {A B : Nat → Option α} {r : α} (h : ¬ c) (k : Ev B r) : Ev (fun n => if c then A n else B n) r := by
  obtain ⟨K, hK⟩ := k
  exact ⟨K, fun n hn => by show (if c then A n else B n) = _; rw [if_neg h]; exact hK n hn⟩
theorem Ev.ite {α : Type} {c : Prop} [Decidable c] {A B : Nat → Option α} {r s : α} (h1 : c → Ev A r) (h2 : ¬ c → Ev B s) : Ev (fun n => if c then A n else B n) (if c then r else s) := by
  by_cases h : c
  · rw [if_pos h]; exact Ev.pos h (h1 h)
  · rw [if_neg h]; exact Ev.neg h (h2 h)
theorem Ev.ite' {α : Type} {c : Prop} [Decidable c] {A B : Nat → Option α} {r : α} (h1 : c → Ev A r) (h2 : ¬ c → Ev B r) : Ev (fun n => if c then A n else B n) r := by
  by_cases h : c
  · exact Ev.pos h (h1 h)
  · exact Ev.neg h (h2 h)
theorem ev_val {α : Type} {g : Nat → Option α} {a b : α} (h : Ev g a) (e : a = b) : Ev g b := e ▸ h
end Go.Proofs.Ytnbdldpjiofafaa.PB
end

section
namespace Go.Proofs.Ytnbdldpjiofafaa.PB
open Go.RowKit Go.Proofs.YtnbdldpjiofafaaW.PrintWords
set_option linter.unusedVariables false
theorem w1n {i n : Nat} (h : i < n) (hn : n ≤ 1000000000000000) : wrap64 ((i : Int) + 1) = ((i + 1 : Nat) : Int) := by unfold wrap64; omega
def lineEnds : List UInt8 → Nat → List Nat
  | [], i => [i]
  | x :: r, i => if x = 10 then i :: lineEnds r (i + 1) else lineEnds r (i + 1)
def ends (v : ByteArray) : List Nat := lineEnds v.data.toList 0
def lineFrom (v : ByteArray) (n : Nat) : Nat := if n = 0 then 0 else (ends v).getD (n - 1) 0 + 1
def lineTo (v : ByteArray) (n : Nat) : Nat := (ends v).getD n 0
theorem lineEnds_ne (l : List UInt8) (i : Nat) : 1 ≤ (lineEnds l i).length := by
  induction l generalizing i with
  | nil => simp [lineEnds]
  | cons x r ih => unfold lineEnds; split; simp; exact ih _
theorem lineEnds_len : ∀ (l : List UInt8) (i : Nat), (lineEnds l i).length = l.count 10 + 1
  | [], i => rfl
  | x :: r, i => by
    unfold lineEnds
    split
    · rename_i h; rw [List.length_cons, lineEnds_len r, h, List.count_cons_self]
    · rename_i h; rw [lineEnds_len r, List.count_cons_of_ne h]
theorem le_none : ∀ (l : List UInt8) (a : Nat), (∀ c ∈ l, c ≠ 10) → lineEnds l a = [a + l.length]
  | [], a, _ => rfl
  | x :: r, a, h => by
    rw [lineEnds, if_neg (h x List.mem_cons_self), le_none r (a + 1) (fun c hc => h c (List.mem_cons_of_mem _ hc)), List.length_cons]
    congr 1; omega
theorem le_some : ∀ (o : Nat) (l : List UInt8) (a : Nat), l[o]? = some 10 → (∀ k, k < o → l[k]? ≠ some 10) → lineEnds l a = (a + o) :: lineEnds (l.drop (o + 1)) (a + o + 1)
  | 0, [], a, h, _ => by simp at h
  | 0, x :: r, a, h, _ => by
    have : x = 10 := by simpa using h
    rw [lineEnds, if_pos this]; rfl
  | o + 1, [], a, h, _ => by simp at h
  | o + 1, x :: r, a, h, hn => by
    have hx : x ≠ 10 := by have := hn 0 (by omega); simpa using this
    rw [lineEnds, if_neg hx, le_some o r (a + 1) (by simpa using h) (fun k hk => by have := hn (k + 1) (by omega); simpa using this)]
    rw [show a + 1 + o = a + (o + 1) by omega]; rfl
theorem ib_cases (l : List UInt8) : (Lib.indexByte l 10 = -1 ∧ ∀ c ∈ l, c ≠ 10) ∨ ∃ o : Nat, Lib.indexByte l 10 = (o : Int) ∧ o < l.length ∧ l[o]? = some 10 ∧ ∀ k, k < o → l[k]? ≠ some 10 := by
  have := Lib.indexByte_ge l 10
  rcases Int.lt_or_le (Lib.indexByte l 10) 0 with h | h
  · have h1 : Lib.indexByte l 10 = -1 := by omega
    refine .inl ⟨h1, fun c hc e => ?_⟩
    obtain ⟨k, hk⟩ := List.getElem?_of_mem hc
    exact Lib.indexByte_none h1 k (by rw [hk, e])
  · have h1 : Lib.indexByte l 10 = ((Lib.indexByte l 10).toNat : Int) := by omega
    obtain ⟨a, b⟩ := Lib.indexByte_some h1
    exact .inr ⟨_, h1, (List.getElem?_eq_some_iff.1 a).1, a, b⟩
theorem ends_drop (v : ByteArray) : ∀ (i : Nat), i < (ends v).length → lineFrom v i ≤ v.size ∧ (ends v).drop i = lineEnds (v.data.toList.drop (lineFrom v i)) (lineFrom v i)
  | 0, _ => ⟨Nat.zero_le _, rfl⟩
  | i + 1, h => by
    obtain ⟨h1, h2⟩ := ends_drop v i (by omega)
    have hsz : v.data.toList.length = v.size := (Lib.size_eq v).symm
    have hlen : ((ends v).drop i).length = (ends v).length - i := List.length_drop
    rcases ib_cases (v.data.toList.drop (lineFrom v i)) with ⟨_, hno⟩ | ⟨o, _, ho, ha, hb⟩
    · rw [le_none _ _ hno] at h2
      rw [h2] at hlen
      simp at hlen
      omega
    · rw [le_some o _ _ ha hb] at h2
      rw [List.length_drop] at ho
      have hg : (ends v).getD i 0 = lineFrom v i + o := by
        have := congrArg (fun q : List Nat => q.getD 0 0) h2
        simpa [List.getD_eq_getElem?_getD] using this
      have hf : lineFrom v (i + 1) = lineFrom v i + o + 1 := by
        unfold lineFrom at hg ⊢
        rw [if_neg (by omega), Nat.add_sub_cancel, hg]
      refine ⟨by omega, ?_⟩
      rw [hf]
      have := congrArg (List.drop 1) h2
      rw [List.drop_drop, List.drop_one, List.tail_cons, List.drop_drop] at this
      rw [this]
      congr 2
theorem line_last (v : ByteArray) (n : Nat) (h : n < (ends v).length) : (Lib.indexByte (v.data.toList.drop (lineFrom v n)) 10 = -1 ∧ lineTo v n = v.size ∧ n + 1 = (ends v).length) ∨
    ∃ o : Nat, Lib.indexByte (v.data.toList.drop (lineFrom v n)) 10 = (o : Int) ∧ lineTo v n = lineFrom v n + o ∧ lineFrom v n + o < v.size ∧ lineFrom v (n + 1) = lineFrom v n + o + 1 ∧ n + 1 < (ends v).length := by
  obtain ⟨h1, h2⟩ := ends_drop v n h
  have hsz : v.data.toList.length = v.size := (Lib.size_eq v).symm
  have hlen : ((ends v).drop n).length = (ends v).length - n := List.length_drop
  have hg : (ends v).getD n 0 = ((ends v).drop n).getD 0 0 := by simp [List.getD_eq_getElem?_getD]
  rcases ib_cases (v.data.toList.drop (lineFrom v n)) with ⟨hi, hno⟩ | ⟨o, hi, ho, ha, hb⟩
  · rw [le_none _ _ hno] at h2
    rw [h2] at hlen hg
    refine .inl ⟨hi, ?_, by simp at hlen; omega⟩
    unfold lineTo
    rw [hg, List.length_drop]
    simp
    omega
  · rw [le_some o _ _ ha hb] at h2
    rw [h2] at hlen hg
    rw [List.length_drop] at ho
    have hne := lineEnds_ne ((v.data.toList.drop (lineFrom v n)).drop (o + 1)) (lineFrom v n + o + 1)
    have hto : lineTo v n = lineFrom v n + o := by unfold lineTo; rw [hg]; rfl
    refine .inr ⟨o, hi, hto, by omega, ?_, by simp only [List.length_cons] at hlen; omega⟩
    unfold lineTo at hto
    have : lineFrom v (n + 1) = (ends v).getD n 0 + 1 := by unfold lineFrom; rw [if_neg (by omega), Nat.add_sub_cancel]
    omega
theorem line_range (v : ByteArray) (n : Nat) (h : n < (ends v).length) : lineFrom v n ≤ lineTo v n ∧ lineTo v n ≤ v.size := by
  have := (ends_drop v n h).1
  rcases line_last v n h with ⟨_, h2, _⟩ | ⟨o, _, h2, h3, _, _⟩ <;> omega
theorem line_next (v : ByteArray) (n : Nat) (h : n + 1 < (ends v).length) : lineFrom v (n + 1) = lineTo v n + 1 := by
  unfold lineFrom lineTo; rw [if_neg (by omega), Nat.add_sub_cancel]
theorem ends_len_le (v : ByteArray) : (ends v).length ≤ v.size + 1 := by
  unfold ends
  rw [lineEnds_len, Lib.size_eq v]
  have := List.count_le_length (a := (10 : UInt8)) (l := v.data.toList)
  omega
theorem count_ev (v : ByteArray) (hv : v.size ≤ 100000) : line_Count.f v = some ((ends v).length : Int) := by
  unfold line_Count.f strings_Count.f
  rw [if_pos (show (⟨#[10]⟩ : ByteArray).size = 1 from rfl), Option.bind_some]
  have h : Lib.countByte v.data.toList ((⟨#[10]⟩ : ByteArray).data.toList.getD 0 0) = ((v.data.toList.count 10 : Nat) : Int) := rfl
  have hl := ends_len_le v
  have he : (ends v).length = v.data.toList.count 10 + 1 := lineEnds_len _ _
  rw [h]
  congr 1
  unfold wrap64
  omega
theorem extract_rest (v : ByteArray) (a : Nat) : (v.extract a v.size).data.toList = v.data.toList.drop a := by
  rw [Lib.extract_data]
  rw [List.take_of_length_le]
  rw [List.length_drop, ← Lib.size_eq]
  exact Nat.le_refl _
theorem bounds_ev (v : ByteArray) (hv : v.size ≤ 100000) (n : Nat) (h : n < (ends v).length) : Ev (fun k => line_Bounds.f k v (n : Int)) ((lineFrom v n : Int), (lineTo v n : Int), 0) := by
  have hl := ends_len_le v
  unfold line_Bounds.f
  refine Ev.neg (by omega) ?_
  rw [count_ev v hv]
  refine Ev.bind (Ev.now _) ?_
  rw [decide_eq_false (by omega)]
  refine Ev.step (fun k => by simp only [line_Bounds.j0]; rfl) ?_
  refine Ev.neg (by simp) ?_
  have loop : ∀ (d i : Nat), i + d = n → Ev (fun k => line_Bounds.l0 k v (lineFrom v i : Int) (n : Int) (i : Int)) ((lineFrom v n : Int), (lineTo v n : Int), 0) := by
    intro d
    induction d with
    | zero =>
      intro i hi
      obtain rfl : i = n := by omega
      have hf := (ends_drop v i h).1
      refine Ev.step (fun k => by simp only [line_Bounds.l0]; rfl) ?_
      refine Ev.neg (by omega) (Ev.pos (by omega) (Ev.pos (by omega) ?_))
      unfold strings_IndexByte.f
      rw [Int.toNat_natCast, extract_rest, show (10 : Int).toNat.toUInt8 = 10 from rfl]
      refine Ev.bind (Ev.now _) ?_
      rcases line_last v i h with ⟨h1, h2, _⟩ | ⟨o, h1, h2, h3, _, _⟩
      · rw [h1]
        refine Ev.pos (by decide) (ev_val (Ev.now _) ?_)
        rw [h2]
      · rw [h1]
        refine Ev.neg (by omega) (ev_val (Ev.now _) ?_)
        rw [h2, show wrap64 ((lineFrom v i : Int) + (o : Int)) = ((lineFrom v i + o : Nat) : Int) by unfold wrap64; omega]
    | succ d ih =>
      intro i hi
      have hin : i < (ends v).length := by omega
      have hf := (ends_drop v i hin).1
      refine Ev.step (fun k => by simp only [line_Bounds.l0]; rfl) ?_
      refine Ev.pos (by omega) (Ev.pos (by omega) (Ev.pos (by omega) ?_))
      unfold strings_IndexByte.f
      rw [Int.toNat_natCast, extract_rest, show (10 : Int).toNat.toUInt8 = 10 from rfl]
      refine Ev.bind (Ev.now _) ?_
      rcases line_last v i hin with ⟨h1, h2, h3⟩ | ⟨o, h1, h2, h3, h4, _⟩
      · omega
      · have e1 : wrap64 ((o : Int) + 1) = ((o + 1 : Nat) : Int) := by unfold wrap64; omega
        have e2 : wrap64 ((lineFrom v i : Int) + ((o + 1 : Nat) : Int)) = ((lineFrom v i + o + 1 : Nat) : Int) := by generalize lineFrom v i = z at *; unfold wrap64; omega
        have hi1 := ih (i + 1) (by omega)
        rw [h4] at hi1
        rw [h1, e1, e2, w1n (show i < n by omega) (by omega)]
        exact hi1
  have := loop n 0 (by omega)
  rw [show lineFrom v 0 = 0 from rfl] at this
  exact this
end Go.Proofs.Ytnbdldpjiofafaa.PB
end

section
namespace Go.Proofs.Ytnbdldpjiofafaa.PB
set_option linter.unusedVariables false
def buildS {α : Type} (w r : List α) (m : Nat) : Nat → List Nat → Nat → List α
  | a, [], e => (w.take e).drop a
  | a, p :: ps, e => (w.take p).drop a ++ (r ++ buildS w r m (p + m) ps e)
def spaced (m : Nat) : Nat → List Nat → Nat → Prop
  | a, [], e => a ≤ e
  | a, p :: ps, e => a ≤ p ∧ spaced m (p + m) ps e
theorem spaced_le {m : Nat} : ∀ {ps : List Nat} {a e : Nat}, spaced m a ps e → a ≤ e
  | [], _, _, h => h
  | p :: ps, a, e, h => by have := spaced_le h.2; have := h.1; omega
theorem spaced_mono {m : Nat} : ∀ {ps : List Nat} {a b e : Nat}, b ≤ a → spaced m a ps e → spaced m b ps e
  | [], _, _, _, h, k => Nat.le_trans h k
  | p :: ps, _, _, _, h, k => ⟨Nat.le_trans h k.1, k.2⟩
theorem spaced_app {m : Nat} : ∀ {ps qs : List Nat} {a b e : Nat}, spaced m a ps b → spaced m b qs e → spaced m a (ps ++ qs) e
  | [], qs, a, b, e, h, k => spaced_mono h k
  | p :: ps, qs, a, b, e, h, k => ⟨h.1, spaced_app h.2 k⟩
theorem spaced_len {m : Nat} (hm : 1 ≤ m) : ∀ {ps : List Nat} {a e : Nat}, spaced m a ps e → a + ps.length * m ≤ e
  | [], _, _, h => by simpa [spaced] using h
  | p :: ps, a, e, h => by
    have := spaced_len hm h.2
    have := h.1
    rw [List.length_cons, Nat.succ_mul]
    omega
theorem build_len {α : Type} (w r : List α) (m : Nat) : ∀ (ps : List Nat) (a e : Nat), e ≤ w.length → spaced m a ps e → (buildS w r m a ps e).length + ps.length * m = (e - a) + ps.length * r.length
  | [], a, e, he, h => by simp [buildS]; omega
  | p :: ps, a, e, he, h => by
    have ih := build_len w r m ps (p + m) e he h.2
    have hle := spaced_le h.2
    have := h.1
    simp only [buildS, List.length_append, List.length_drop, List.length_take, List.length_cons, Nat.succ_mul]
    omega
theorem take_drop_self {α : Type} (w : List α) (a b : Nat) (h : a ≤ b) : (w.take b).drop a ++ w.drop b = w.drop a := by
  conv => rhs; rw [← List.take_append_drop b w]
  by_cases hb : b ≤ w.length
  · rw [List.drop_append_of_le_length (by rw [List.length_take]; omega)]
  · rw [List.drop_eq_nil_of_le (show w.length ≤ b by omega), List.append_nil, List.append_nil]
theorem mid_split {α : Type} (w : List α) (a b c : Nat) (h1 : a ≤ b) (h2 : b ≤ c) : (w.take c).drop a = (w.take b).drop a ++ (w.take c).drop b := by
  have := take_drop_self (w.take c) a b h1
  rw [List.take_take, Nat.min_eq_left h2] at this
  exact this.symm
theorem build_self {α : Type} (w r : List α) (m : Nat) : ∀ (ps : List Nat) (a e : Nat), spaced m a ps e → (∀ p ∈ ps, (w.take (p + m)).drop p = r) → buildS w r m a ps e = (w.take e).drop a
  | [], a, e, h, _ => rfl
  | p :: ps, a, e, h, hr => by
    have ih := build_self w r m ps (p + m) e h.2 (fun q hq => hr q (List.mem_cons_of_mem _ hq))
    have hle := spaced_le h.2
    have := h.1
    rw [buildS, ih, ← hr p List.mem_cons_self, ← mid_split w p (p + m) e (by omega) hle, ← mid_split w a p e (by omega) (by omega)]
def scanP (every : Bool) (hit : Nat → Bool) (m e : Nat) : Nat → Nat → List Nat
  | 0, _ => []
  | d + 1, a => if a < e then (if hit a = true then a :: (if every = true then scanP every hit m e d (a + m) else []) else scanP every hit m e d (a + 1)) else []
theorem scanP_end (every : Bool) (hit : Nat → Bool) (m e : Nat) : ∀ (d a : Nat), e ≤ a → scanP every hit m e d a = []
  | 0, a, _ => rfl
  | d + 1, a, h => by rw [scanP, if_neg (by omega)]
theorem scanP_fuel (every : Bool) (hit : Nat → Bool) (m e : Nat) (hm : 1 ≤ m) : ∀ (d d' a : Nat), e - a ≤ d → e - a ≤ d' → scanP every hit m e d a = scanP every hit m e d' a
  | 0, d', a, h, _ => by rw [scanP_end _ _ _ _ d' a (by omega)]; rfl
  | d + 1, 0, a, _, h => by rw [scanP_end _ _ _ _ (d + 1) a (by omega)]; rfl
  | d + 1, d' + 1, a, h, h' => by
    rw [scanP, scanP]
    by_cases ha : a < e
    · rw [if_pos ha, if_pos ha, scanP_fuel every hit m e hm d d' (a + m) (by omega) (by omega), scanP_fuel every hit m e hm d d' (a + 1) (by omega) (by omega)]
    · rw [if_neg ha, if_neg ha]
def places (every : Bool) (hit : Nat → Bool) (m e a : Nat) : List Nat := scanP every hit m e (e - a) a
theorem places_end {every : Bool} {hit : Nat → Bool} {m e a : Nat} (h : e ≤ a) : places every hit m e a = [] := scanP_end _ _ _ _ _ _ h
theorem places_hit {every : Bool} {hit : Nat → Bool} {m e a : Nat} (hm : 1 ≤ m) (h : a < e) (hh : hit a = true) : places every hit m e a = a :: (if every = true then places every hit m e (a + m) else []) := by
  unfold places
  obtain ⟨d, hd⟩ : ∃ d, e - a = d + 1 := ⟨e - a - 1, by omega⟩
  rw [hd, scanP, if_pos h, if_pos hh, scanP_fuel every hit m e hm d (e - (a + m)) (a + m) (by omega) (by omega)]
theorem places_miss {every : Bool} {hit : Nat → Bool} {m e a : Nat} (hm : 1 ≤ m) (h : a < e) (hh : ¬ hit a = true) : places every hit m e a = places every hit m e (a + 1) := by
  unfold places
  obtain ⟨d, hd⟩ : ∃ d, e - a = d + 1 := ⟨e - a - 1, by omega⟩
  rw [hd, scanP, if_pos h, if_neg hh, scanP_fuel every hit m e hm d (e - (a + 1)) (a + 1) (by omega) (by omega)]
theorem places_skip {every : Bool} {hit : Nat → Bool} {m e : Nat} (hm : 1 ≤ m) : ∀ (i a : Nat), a + i ≤ e → (∀ k, k < i → ¬ hit (a + k) = true) → places every hit m e a = places every hit m e (a + i)
  | 0, a, _, _ => rfl
  | i + 1, a, h, hn => by
    rw [places_miss hm (by omega) (by simpa using hn 0 (by omega)), places_skip hm i (a + 1) (by omega) (fun k hk => by have := hn (k + 1) (by omega); rwa [show a + 1 + k = a + (k + 1) by omega]), show a + 1 + i = a + (i + 1) by omega]
theorem places_none {every : Bool} {hit : Nat → Bool} {m e a : Nat} (hm : 1 ≤ m) (hn : ∀ k, a ≤ k → k < e → ¬ hit k = true) : places every hit m e a = [] := by
  by_cases h : a ≤ e
  · rw [places_skip hm (e - a) a (by omega) (fun k hk => hn _ (by omega) (by omega))]
    exact places_end (by omega)
  · exact places_end (by omega)
theorem places_spaced {every : Bool} {hit : Nat → Bool} {m e : Nat} (hm : 1 ≤ m) (hroom : ∀ k, hit k = true → k + m ≤ e) : ∀ (d a : Nat), e - a ≤ d → a ≤ e → spaced m a (places every hit m e a) e ∧ ∀ p ∈ places every hit m e a, hit p = true := by
  intro d
  induction d with
  | zero => intro a h hle; rw [places_end (by omega)]; exact ⟨hle, fun p hp => absurd hp (by simp)⟩
  | succ d ih =>
    intro a h hle
    by_cases ha : a < e
    · by_cases hh : hit a = true
      · rw [places_hit hm ha hh]
        have hr := hroom a hh
        by_cases he : every = true
        · rw [if_pos he]
          obtain ⟨h1, h2⟩ := ih (a + m) (by omega) hr
          exact ⟨⟨Nat.le_refl _, h1⟩, fun p hp => by rcases List.mem_cons.1 hp with rfl | hp; exact hh; exact h2 p hp⟩
        · rw [if_neg he]
          exact ⟨⟨Nat.le_refl _, hr⟩, fun p hp => by rw [List.mem_singleton.1 hp]; exact hh⟩
      · rw [places_miss hm ha hh]
        obtain ⟨h1, h2⟩ := ih (a + 1) (by omega) (by omega)
        exact ⟨spaced_mono (by omega) h1, h2⟩
    · rw [places_end (by omega)]
      exact ⟨hle, fun p hp => absurd hp (by simp)⟩
end Go.Proofs.Ytnbdldpjiofafaa.PB
end

section
namespace Go.Proofs.Ytnbdldpjiofafaa.PB
open Go.RowKit Go.Proofs.YtnbdldpjiofafaaW.PrintWords
set_option linter.unusedVariables false
instance : DecidableEq S51 := fun a b => decidable_of_iff (a.f0 = b.f0 ∧ a.f1 = b.f1) (by cases a; cases b; simp)
theorem rdT (l : List S51) (i : Nat) : rd_T51 l (i : Int) = l.getD i z51 := by unfold rd_T51; rw [Int.toNat_natCast]
theorem dropT {l : List S51} {i : Nat} (h : i < l.length) : l.drop i = l.getD i z51 :: l.drop (i + 1) := by
  rw [List.drop_eq_getElem_cons h, List.getD_eq_getElem?_getD, List.getElem?_eq_getElem h]; rfl
theorem dropI {l : List Int} {i : Nat} (h : i < l.length) : l.drop i = l.getD i 0 :: l.drop (i + 1) := by
  rw [List.drop_eq_getElem_cons h, List.getD_eq_getElem?_getD, List.getElem?_eq_getElem h]; rfl
theorem w1 {i n : Nat} (h : i < n) (hn : n ≤ 1000000000000000) : wrap64 ((i : Int) + 1) = ((i + 1 : Nat) : Int) := by unfold wrap64; omega
abbrev big : Nat := 1000000000000
theorem total_ev (l : List S51) (hl : l.length ≤ big) : Ev (fun k => runs_Total.f k l) (tot l) := by
  unfold big at hl
  have loop : ∀ (d i : Nat) (n : Int), i + d = l.length → 0 ≤ n → n ≤ 4096 → Ev (fun k => runs_Total.l0 k n l (l.length : Int) (i : Int)) (totF (l.drop i) n) := by
    intro d
    induction d with
    | zero =>
      intro i n hi h0 h1
      refine Ev.step (fun k => by simp only [runs_Total.l0]; rfl) ?_
      refine Ev.neg (by omega) ?_
      rw [List.drop_eq_nil_of_le (by omega)]
      exact Ev.now _
    | succ d ih =>
      intro i n hi h0 h1
      have hlt : i < l.length := by omega
      refine Ev.step (fun k => by simp only [runs_Total.l0]; rfl) ?_
      refine Ev.pos (by omega) (Ev.pos (by omega) (Ev.pos (by omega) ?_))
      rw [dropT hlt, rdT]
      simp only [totF]
      rw [show wrap64 (4096 - n) = 4096 - n by unfold wrap64; omega]
      refine Ev.ite (fun _ => Ev.now _) (fun hc => ?_)
      have hm : wrap64 (n + mx (l.getD i z51).f1 0) = n + (if (l.getD i z51).f1 < 0 then 0 else (l.getD i z51).f1) := by
        unfold mx wrap64
        split <;> omega
      rw [hm, w1 hlt (by omega)]
      exact ih (i + 1) _ (by omega) (by split <;> omega) (by split <;> omega)
  exact loop l.length 0 0 (by omega) (by omega) (by omega)
theorem rtotal_ev (l : List S51) (hl : l.length ≤ big) : Ev (fun k => bureauref03_Total.f k l) (tot l) := by
  unfold big at hl
  have loop : ∀ (d i : Nat) (n : Int), i + d = l.length → 0 ≤ n → n ≤ 4096 → Ev (fun k => bureauref03_Total.l0 k l n (i : Int)) (totF (l.drop i) n) := by
    intro d
    induction d with
    | zero =>
      intro i n hi h0 h1
      refine Ev.step (fun k => by simp only [bureauref03_Total.l0]; rfl) ?_
      refine Ev.neg (by omega) ?_
      rw [List.drop_eq_nil_of_le (by omega)]
      exact Ev.now _
    | succ d ih =>
      intro i n hi h0 h1
      have hlt : i < l.length := by omega
      refine Ev.step (fun k => by simp only [bureauref03_Total.l0]; rfl) ?_
      refine Ev.pos (by omega) (Ev.pos (by omega) ?_)
      rw [dropT hlt, rdT]
      simp only [totF]
      rw [show wrap64 (4096 - n) = 4096 - n by unfold wrap64; omega]
      refine Ev.ite (fun _ => Ev.now _) (fun hc => ?_)
      rw [w1 hlt (by omega)]
      by_cases hp : (l.getD i z51).f1 > 0
      · refine Ev.pos hp ?_
        rw [show wrap64 (n + (l.getD i z51).f1) = n + (if (l.getD i z51).f1 < 0 then 0 else (l.getD i z51).f1) by rw [if_neg (by omega)]; unfold wrap64; omega]
        exact ih (i + 1) _ (by omega) (by split <;> omega) (by split <;> omega)
      · refine Ev.neg hp ?_
        have : n = n + (if (l.getD i z51).f1 < 0 then 0 else (l.getD i z51).f1) := by split <;> omega
        rw [← this]
        exact ih (i + 1) _ (by omega) (by omega) (by omega)
  exact loop l.length 0 0 (by omega) (by omega) (by omega)
theorem same_ev (a b : List S51) (hl : a.length ≤ big) : Ev (fun k => bureauref03_Same.f k a b) (decide (a = b)) := by
  unfold big at hl
  unfold bureauref03_Same.f
  by_cases hab : a.length = b.length
  · refine Ev.pos (by omega) ?_
    have loop : ∀ (d i : Nat), i + d = a.length → Ev (fun k => bureauref03_Same.l0 k a b (i : Int)) (decide (a.drop i = b.drop i)) := by
      intro d
      induction d with
      | zero =>
        intro i hi
        refine Ev.step (fun k => by simp only [bureauref03_Same.l0]; rfl) ?_
        refine Ev.neg (by omega) ?_
        rw [List.drop_eq_nil_of_le (by omega), List.drop_eq_nil_of_le (by omega)]
        exact Ev.now _
      | succ d ih =>
        intro i hi
        have hlt : i < a.length := by omega
        refine Ev.step (fun k => by simp only [bureauref03_Same.l0]; rfl) ?_
        refine Ev.pos (by omega) (Ev.pos (by omega) (Ev.pos (by omega) ?_))
        rw [dropT hlt, dropT (show i < b.length by omega), rdT, rdT, w1 hlt (by omega)]
        by_cases he : a.getD i z51 = b.getD i z51
        · rw [he]
          refine Ev.neg (by simp) ?_
          exact ev_val (ih (i + 1) (by omega)) (by simp)
        · refine Ev.pos ?_ ?_
          · have : ¬ ((a.getD i z51).f0 = (b.getD i z51).f0 ∧ (a.getD i z51).f1 = (b.getD i z51).f1) := fun h => he (by
              cases hx : a.getD i z51; cases hy : b.getD i z51; rw [hx, hy] at h; simp at h; rw [h.1, h.2])
            simp only [Bool.or_eq_true, Bool.not_eq_true', beq_eq_false_iff_ne]
            by_cases h1 : (a.getD i z51).f0 = (b.getD i z51).f0
            · exact .inr (fun h2 => this ⟨h1, h2⟩)
            · exact .inl h1
          · exact ev_val (Ev.now _) (by simp; intro h; exact absurd h he)
    exact loop a.length 0 (by omega)
  · refine Ev.neg (by omega) ?_
    exact ev_val (Ev.now _) (by simp; intro h; exact hab (by rw [h]))
theorem pack_ev (b : List Int) (hb : b.length ≤ 1000000000000) : Ev (fun k => bureauref03_Pack.f k b) (pack b) := by
  have loop : ∀ (d i : Nat) (acc : List S51), i + d = b.length → acc.length ≤ i → (∀ r ∈ acc, r.f1 ≤ i) → (∀ r ∈ acc, 0 ≤ r.f1) → Ev (fun k => bureauref03_Pack.l0 k b acc (i : Int)) (packTo acc (b.drop i)) := by
    intro d
    induction d with
    | zero =>
      intro i acc hi _ _ _
      refine Ev.step (fun k => by simp only [bureauref03_Pack.l0]; rfl) ?_
      refine Ev.neg (by omega) ?_
      rw [List.drop_eq_nil_of_le (by omega)]
      exact Ev.now _
    | succ d ih =>
      intro i acc hi ha hc h0
      have hlt : i < b.length := by omega
      have hstep : step1 acc (b.getD i 0) = step1 acc (b.getD i 0) := rfl
      refine Ev.step (fun k => by simp only [bureauref03_Pack.l0]; rfl) ?_
      refine Ev.pos (by omega) ?_
      have hrd : rd b (i : Int) = b.getD i 0 := by unfold rd; rw [Int.toNat_natCast]
      rw [hrd, dropI hlt, w1 hlt (by omega)]
      have happ : ∀ x : Int, Ev (fun k => if acc.length < 8796093022208 then bureauref03_Pack.l0 k b (acc ++ [(⟨x, 1⟩ : S51)]) ((i + 1 : Nat) : Int) else none) (packTo (acc ++ [⟨x, 1⟩]) (b.drop (i + 1))) := fun x => by
        refine Ev.pos (by omega) (ih (i + 1) _ (by omega) (by simp; omega) ?_ ?_)
        · intro r hr
          rcases List.mem_append.1 hr with hr | hr
          · have := hc r hr; omega
          · obtain rfl := List.mem_singleton.1 hr; show (1 : Int) ≤ ((i + 1 : Nat) : Int); omega
        · intro r hr
          rcases List.mem_append.1 hr with hr | hr
          · exact h0 r hr
          · obtain rfl := List.mem_singleton.1 hr; show (0 : Int) ≤ 1; omega
      show Ev _ (packTo (step1 acc (b.getD i 0)) (b.drop (i + 1)))
      rcases snoc_cases acc with rfl | ⟨pre, q, rfl⟩
      · refine Ev.neg (by simp) (Ev.pos (by omega) ?_)
        rw [step1_nil]
        exact happ _
      · have hlen : (pre ++ [q]).length = pre.length + 1 := by simp
        have hidx : wrap64 (((pre ++ [q]).length : Int) - 1) = ((pre.length : Nat) : Int) := by rw [hlen]; unfold wrap64; omega
        have hget : rd_T51 (pre ++ [q]) ((pre.length : Nat) : Int) = q := by rw [rdT]; simp [List.getD_eq_getElem?_getD]
        refine Ev.pos (by omega) ?_
        rw [hidx, hget]
        refine Ev.pos (by omega) (Ev.pos (by omega) (Ev.pos (by omega) ?_))
        by_cases he : q.f0 = b.getD i 0
        · refine Ev.pos he ?_
          rw [← he, step1_same]
          have hq := hc q (by simp)
          have hq0 := h0 q (by simp)
          rw [Int.toNat_natCast, show (pre ++ [q]).set pre.length (⟨q.f0, wrap64 (q.f1 + 1)⟩ : S51) = pre ++ [⟨q.f0, q.f1 + 1⟩] by
            rw [show wrap64 (q.f1 + 1) = q.f1 + 1 by unfold wrap64; omega]; simp]
          refine ih (i + 1) _ (by omega) (by simp at ha ⊢; omega) ?_ ?_
          · intro r hr
            rcases List.mem_append.1 hr with hr | hr
            · have := hc r (List.mem_append_left _ hr); omega
            · obtain rfl := List.mem_singleton.1 hr; show q.f1 + 1 ≤ ((i + 1 : Nat) : Int); omega
          · intro r hr
            rcases List.mem_append.1 hr with hr | hr
            · exact h0 r (List.mem_append_left _ hr)
            · obtain rfl := List.mem_singleton.1 hr; show 0 ≤ q.f1 + 1; omega
        · refine Ev.neg he ?_
          rw [step1_other _ _ _ he]
          exact happ _
  exact loop b.length 0 [] (by omega) (by simp) (by intro r hr; cases hr) (by intro r hr; cases hr)
theorem bytes_ev (l : List S51) (hl : l.length ≤ big) (hb : (bytes l).length ≤ 1000000000000) : Ev (fun k => bureauref03_Bytes.f k l) (bytes l) := by
  unfold big at hl
  have loop : ∀ (d i : Nat) (acc : List Int), i + d = l.length → acc.length + (bytes (l.drop i)).length ≤ 1000000000000 → Ev (fun k => bureauref03_Bytes.l0 k l acc (i : Int)) (acc ++ bytes (l.drop i)) := by
    intro d
    induction d with
    | zero =>
      intro i acc hi _
      refine Ev.step (fun k => by simp only [bureauref03_Bytes.l0]; rfl) ?_
      refine Ev.neg (by omega) ?_
      rw [List.drop_eq_nil_of_le (by omega)]
      exact ev_val (Ev.now _) (by simp [bytes])
    | succ d ih =>
      intro i acc hi hlen
      have hlt : i < l.length := by omega
      rw [dropT hlt, bytes_cons] at hlen ⊢
      rw [List.length_append, List.length_replicate] at hlen
      refine Ev.step (fun k => by simp only [bureauref03_Bytes.l0]; rfl) ?_
      refine Ev.pos (by omega) ?_
      have inner : ∀ (e j : Nat) (acc' : List Int), j + e = (l.getD i z51).f1.toNat → acc' = acc ++ List.replicate j (l.getD i z51).f0 → Ev (fun k => bureauref03_Bytes.l1 k l acc' (i : Int) (j : Int)) (acc ++ (List.replicate (l.getD i z51).f1.toNat (l.getD i z51).f0 ++ bytes (l.drop (i + 1)))) := by
        intro e
        induction e with
        | zero =>
          intro j acc' hj ha
          refine Ev.step (fun k => by simp only [bureauref03_Bytes.l1]; rfl) ?_
          refine Ev.pos (by omega) (Ev.pos (by omega) ?_)
          rw [rdT, w1 hlt (by omega)]
          refine Ev.neg (by omega) ?_
          have := ih (i + 1) acc' (by omega) (by rw [ha, List.length_append, List.length_replicate]; omega)
          refine ev_val this ?_
          rw [ha, List.append_assoc]
          rw [Nat.add_zero] at hj
          rw [hj]
        | succ e ihe =>
          intro j acc' hj ha
          refine Ev.step (fun k => by simp only [bureauref03_Bytes.l1]; rfl) ?_
          refine Ev.pos (by omega) (Ev.pos (by omega) ?_)
          rw [rdT]
          refine Ev.pos (by omega) (Ev.pos (by have hz := congrArg List.length ha; rw [List.length_append, List.length_replicate] at hz; omega) ?_)
          rw [show wrap64 ((j : Int) + 1) = ((j + 1 : Nat) : Int) by unfold wrap64; omega]
          exact ihe (j + 1) _ (by omega) (by rw [ha, List.replicate_succ', List.append_assoc])
      exact inner (l.getD i z51).f1.toNat 0 acc (by omega) (by simp)
  exact ev_val (loop l.length 0 [] (by omega) (by simpa using hb)) (by simp)
theorem good_ev (l : List S51) (hl : l.length ≤ big) : Ev (fun k => runs_Good.f k l) (good l) := by
  have ht := total_ev l hl
  unfold big at hl
  have loop : ∀ (d i : Nat), i + d = l.length → ∀ b : Bool, (b = true ↔ ((0 < i → i < l.length → (l.getD (i - 1) z51).f0 ≠ (l.getD i z51).f0) ∧ nrm (l.drop i) ∧ tot l ≤ 4096)) → Ev (fun k => runs_Good.l0 k l l (l.length : Int) (i : Int)) b := by
    intro d
    induction d with
    | zero =>
      intro i hi b hb
      refine Ev.step (fun k => by simp only [runs_Good.l0]; rfl) ?_
      refine Ev.neg (by omega) ?_
      rw [List.drop_eq_nil_of_le (by omega)] at hb
      refine Ev.bind ht (ev_val (Ev.now _) ?_)
      rw [Bool.eq_iff_iff, hb, decide_eq_true_iff]
      exact ⟨fun h => ⟨fun _ h2 => absurd h2 (by omega), trivial, h⟩, fun h => h.2.2⟩
    | succ d ih =>
      intro i hi b hb
      have hlt : i < l.length := by omega
      have hn : nrm (l.drop i) ↔ 1 ≤ (l.getD i z51).f1 ∧ (i + 1 < l.length → (l.getD i z51).f0 ≠ (l.getD (i + 1) z51).f0) ∧ nrm (l.drop (i + 1)) := by
        rw [dropT hlt]
        by_cases h2 : i + 1 < l.length
        · rw [dropT h2]
          exact ⟨fun h => ⟨h.1, fun _ => h.2.1, h.2.2⟩, fun h => ⟨h.1, h.2.1 h2, h.2.2⟩⟩
        · rw [List.drop_eq_nil_of_le (show l.length ≤ i + 1 by omega)]
          exact ⟨fun h => ⟨h, fun h3 => absurd h3 h2, trivial⟩, fun h => h.1⟩
      refine Ev.step (fun k => by simp only [runs_Good.l0]; rfl) ?_
      refine Ev.pos (by omega) (Ev.pos (by omega) (Ev.pos (by omega) ?_))
      rw [rdT, w1 hlt (by omega)]
      by_cases h1 : (l.getD i z51).f1 < 1
      · refine Ev.pos h1 (ev_val (Ev.now _) ?_)
        rw [Bool.eq_iff_iff, hb, hn]
        exact ⟨fun h => (by cases h), fun h => (by have := h.2.1.1; omega)⟩
      · refine Ev.neg h1 ?_
        have hrest : ∀ b' : Bool, (b' = true ↔ (nrm (l.drop i) ∧ tot l ≤ 4096)) → Ev (fun k => runs_Good.l0 k l l (l.length : Int) ((i + 1 : Nat) : Int)) b' := fun b' hb' => ih (i + 1) (by omega) b' (by
          rw [hb', hn, show i + 1 - 1 = i by omega]
          exact ⟨fun h => ⟨fun _ => h.1.2.1, h.1.2.2, h.2⟩, fun h => ⟨⟨by omega, h.1 (by omega), h.2.1⟩, h.2.2⟩⟩)
        by_cases h0 : 0 < i
        · refine Ev.pos (by omega) ?_
          rw [show wrap64 ((i : Int) - 1) = ((i - 1 : Nat) : Int) by unfold wrap64; omega]
          refine Ev.pos (by omega) (Ev.pos (by omega) ?_)
          rw [rdT]
          by_cases he : (l.getD (i - 1) z51).f0 = (l.getD i z51).f0
          · refine Ev.pos he (ev_val (Ev.now _) ?_)
            rw [Bool.eq_iff_iff, hb]
            exact ⟨fun h => (by cases h), fun h => absurd he (h.1 h0 hlt)⟩
          · refine Ev.neg he (hrest b ?_)
            rw [hb]
            exact ⟨fun h => h.2, fun h => ⟨fun _ _ => he, h⟩⟩
        · refine Ev.neg (by omega) (hrest b ?_)
          rw [hb]
          exact ⟨fun h => h.2, fun h => ⟨fun h3 => absurd h3 h0, h⟩⟩
  refine loop l.length 0 (by omega) (good l) ?_
  simp [good]
theorem rgood_ev (l : List S51) (hl : l.length ≤ big) : Ev (fun k => bureauref03_Good.f k l) (good l) := by
  unfold bureauref03_Good.f
  refine Ev.bind (rtotal_ev l hl) ?_
  by_cases ht : tot l > 4096
  · exact Ev.pos ht (ev_val (Ev.now _) (by simp [good]; intro _; omega))
  · refine Ev.neg ht ?_
    have hb : (bytes l).length ≤ 4096 := by have := tot_bytes (l := l) (by omega); omega
    refine Ev.bind (bytes_ev l hl (by omega)) (Ev.bind (pack_ev _ (by omega)) (Ev.bind (same_ev _ _ hl) ?_))
    refine ev_val (Ev.now _) ?_
    rw [good, show decide (tot l ≤ 4096) = true by simp; omega, Bool.and_true]
    exact decide_eq_decide.2 nrm_iff.symm
end Go.Proofs.Ytnbdldpjiofafaa.PB
end

section
namespace Go.Proofs.Ytnbdldpjiofafaa.Opn
open Go.ChangeShapes Go.WideShapes Go.Deep Go.Proofs.YtnbdldpjiofafaaW.PrintWords
set_option linter.unusedVariables false
def Opn {α : Type} (P : Program) (w : World) (t : TypeId) (d : Kd α) (wf : α → Prop) : Prop :=
  ∀ (H : Type) (enc : TypeId × Value → H) (base : Nat) (spare : Nat → Bool) (held : Bool) (fuel : Nat) (cs : List Value) (x : DataW H × List MemPlace),
    DataW.trod enc P w base spare held fuel t cs = some x → (∀ n ∈ x.1.weights P t, n ≤ reachBytes) → ∃ a : α, d.K w a cs ∧ wf a
section
variable {P : Program} {w : World}
theorem int {t : TypeId} {k : IntKind} (hu : P.underlying t = some (.int k)) : Opn P w t (Kd.int k) (fun n => (Lit.int k n).wf = true) := by
  intro H enc base spare held fuel cs x h _
  obtain ⟨n, rfl, _, hw⟩ := DataW.trod_int hu h
  exact ⟨n, rfl, hw⟩
theorem bool {t : TypeId} (hu : P.underlying t = some .bool) : Opn P w t Kd.bool (fun _ => True) := by
  intro H enc base spare held fuel cs x h _
  obtain ⟨b, rfl, _⟩ := DataW.trod_bool hu h
  exact ⟨b, rfl, trivial⟩
theorem string {t : TypeId} (hu : P.underlying t = some .string) : Opn P w t Kd.string (fun s => s.size ≤ 140737488351232) := by
  intro H enc base spare held fuel cs x h hz
  obtain ⟨s, rfl, rfl, _⟩ := DataW.trod_string hu h
  refine ⟨s, rfl, ?_⟩
  have := hz s.data.toList.length (by simp [DataW.weights])
  rw [data_length] at this
  exact this
theorem weightsAll_mem {H : Type} {e : TypeId} : ∀ {ds : List (DataW H)} {d : DataW H}, d ∈ ds → ∀ n ∈ d.weights P e, n ∈ DataW.weightsAll P e ds
  | d0 :: ds, d, hd, n, hn => by
    simp only [DataW.weightsAll, List.mem_append]
    rcases List.mem_cons.1 hd with rfl | hd
    · exact .inl hn
    · exact .inr (weightsAll_mem hd n hn)
theorem slice {α : Type} {t e : TypeId} {d : Kd α} {wf : α → Prop} (hu : P.underlying t = some (.slice e)) (hc : P.cellsOf e = d.sz) {B : Nat} (hB : P.bytesOf e = B) (ho : Opn P w e d wf) :
    Opn P w t (Kd.slice e d) (fun xs => xs.length * B ≤ 140737488351232 ∧ ∀ x ∈ xs, wf x) := by
  intro H enc base spare held fuel cs x h hz
  rcases open_slice hu h with ⟨rfl, rfl⟩ | ⟨a, len, cap, m, n, D, Pl, rfl, hb, hl, hm, hmm, rfl, hel⟩
  · exact ⟨[], ⟨none, 0, rfl, Nat.le_refl _, Kd.C_nil _ _⟩, by simp, by intro x hx; cases hx⟩
  · simp only [DataW.weights, hu, List.mem_cons, List.mem_append] at hz
    have hlm : len ≤ m := by rw [hmm]; split <;> omega
    have hall : ∀ i, i < len → ∃ a' : α, (∃ cs', w.cells? base (a.add (i * P.cellsOf e)) (P.cellsOf e) = some cs' ∧ d.K w a' cs') ∧ wf a' := fun i hi => by
      obtain ⟨cs', h1, h2⟩ := hel i (by omega)
      obtain ⟨a', h3, h4⟩ := ho H enc base spare held n cs' _ h2 (fun q hq => hz q (.inr (.inl (weightsAll_mem (List.mem_map.2 ⟨i, List.mem_range.2 hi, rfl⟩) q hq))))
      exact ⟨a', ⟨cs', h1, h3⟩, h4⟩
    obtain ⟨xs, hxs, hx⟩ : ∃ xs : List α, xs.length = len ∧ ∀ i, ∀ h : i < xs.length, (∃ cs', w.cells? base (a.add (i * P.cellsOf e)) (P.cellsOf e) = some cs' ∧ d.K w xs[i] cs') ∧ wf xs[i] := by
      clear hz hel hlm hmm hm hl h
      induction len with
      | zero => exact ⟨[], rfl, fun i h => absurd h (by simp)⟩
      | succ q ih =>
        obtain ⟨xs, h1, h2⟩ := ih (fun i hi => hall i (by omega))
        obtain ⟨a', h3⟩ := hall q (by omega)
        refine ⟨xs ++ [a'], by simp [h1], fun i h => ?_⟩
        by_cases hi : i < xs.length
        · rw [List.getElem_append_left hi]; exact h2 i hi
        · have : i = q := by simp at h; omega
          subst this
          rw [List.getElem_append_right (by omega)]
          simpa using h3
    refine ⟨xs, ⟨some a, cap, by rw [hxs], by omega, rfl, by have : cap ≤ 9223372036854775807 := hm; omega, fun hp => ⟨a, rfl, fun i p hp => ?_⟩⟩, ?_, ?_⟩
    · have hi : i < xs.length := (List.getElem?_eq_some_iff.1 hp).1
      have hpe : p = xs[i] := by rw [List.getElem?_eq_getElem hi] at hp; exact (Option.some.inj hp).symm
      obtain ⟨⟨cs', h1, h2⟩, _⟩ := hx i hi
      rw [hc] at h1
      obtain ⟨_, hcl, hat⟩ := World.cells?_some h1
      refine ⟨cs', by rw [hcl], by rw [hpe]; exact h2, fun j u hu => ?_⟩
      have hj : j < d.sz := by have := (List.getElem?_eq_some_iff.1 hu).1; omega
      have := hat j hj
      rw [← Go.Deep.add_add, this, hu]
    · have := hz _ (.inl rfl)
      rw [hB] at this
      simp only [List.length_map, List.length_range] at this
      rw [hxs]
      exact Nat.le_trans (Nat.mul_le_mul_right _ (by omega)) this
    · intro x hxm
      obtain ⟨i, hi, rfl⟩ := List.mem_iff_getElem.1 hxm
      exact (hx i hi).2
end
end Go.Proofs.Ytnbdldpjiofafaa.Opn
end

section
namespace Go.Proofs.Ytnbdldpjiofafaa.PB
open Go.ChangeShapes Go.WideShapes Go.Proofs.Ytnbdldpjiofafaa Go.Proofs.YtnbdldpjiofafaaW.PrintWords
set_option linter.unusedVariables false
def wf51 (x : S51) : Prop := ((Lit.int .u64 x.f0).wf = true) ∧ ((Lit.int .i64 x.f1).wf = true)
theorem opn51 {w : World} : Opn.Opn Try.prog w 51 k51 wf51 := by
  intro H enc base spare held fuel cs x h hz
  obtain ⟨xs, n, _, rfl, hlen, hyl, hf⟩ := DataW.trod_struct Try.underlying51 h
  have hcl : cs.length = 2 := hlen.trans (by kernel_rfl)
  obtain ⟨y0, y1, rfl⟩ : ∃ y0 y1, xs = [y0, y1] := by
    clear h hz hf hlen hcl; have hyl' : xs.length = 2 := hyl; clear hyl
    match xs, hyl' with | [y0, y1], _ => exact ⟨y0, y1, rfl⟩
  obtain ⟨c0, c1, rfl⟩ : ∃ c0 c1, cs = [c0, c1] := by
    clear h hz hf hlen hyl
    match cs, hcl with | [c0, c1], _ => exact ⟨c0, c1, rfl⟩
  simp only [DataW.weights, Try.underlying51] at hz
  have h0 : DataW.trod enc Try.prog w base spare held n 26 [c0] = some y0 := by have z := hf 0 _ rfl; rwa [show Try.prog.cellsOf _ = 1 from by kernel_rfl] at z
  obtain ⟨a0, k0_, w0⟩ := (Opn.int Try.underlying26) H enc base spare held n _ _ h0 (fun q hq => hz q (by simp [DataW.weightsEach, hq]))
  have h1 : DataW.trod enc Try.prog w base spare held n 3 [c1] = some y1 := by have z := hf 1 _ rfl; rwa [show Try.prog.cellsOf _ = 1 from by kernel_rfl] at z
  obtain ⟨a1, k1_, w1⟩ := (Opn.int Try.underlying3) H enc base spare held n _ _ h1 (fun q hq => hz q (by simp [DataW.weightsEach, hq]))
  exact ⟨⟨a0, a1⟩, ⟨_, _, rfl, k0_, k1_⟩, w0, w1⟩
def wf24 (x : S24) : Prop := (x.f0.size ≤ 140737488351232) ∧ (x.f1.length * 16 ≤ 140737488351232 ∧ ∀ x_ ∈ x.f1, wf51 x_)
theorem opn24 {w : World} : Opn.Opn Try.prog w 24 k24 wf24 := by
  intro H enc base spare held fuel cs x h hz
  obtain ⟨xs, n, _, rfl, hlen, hyl, hf⟩ := DataW.trod_struct Try.underlying24 h
  have hcl : cs.length = 2 := hlen.trans (by kernel_rfl)
  obtain ⟨y0, y1, rfl⟩ : ∃ y0 y1, xs = [y0, y1] := by
    clear h hz hf hlen hcl; have hyl' : xs.length = 2 := hyl; clear hyl
    match xs, hyl' with | [y0, y1], _ => exact ⟨y0, y1, rfl⟩
  obtain ⟨c0, c1, rfl⟩ : ∃ c0 c1, cs = [c0, c1] := by
    clear h hz hf hlen hyl
    match cs, hcl with | [c0, c1], _ => exact ⟨c0, c1, rfl⟩
  simp only [DataW.weights, Try.underlying24] at hz
  have h0 : DataW.trod enc Try.prog w base spare held n 9 [c0] = some y0 := by have z := hf 0 _ rfl; rwa [show Try.prog.cellsOf _ = 1 from by kernel_rfl] at z
  obtain ⟨a0, k0_, w0⟩ := (Opn.string Try.underlying9) H enc base spare held n _ _ h0 (fun q hq => hz q (by simp [DataW.weightsEach, hq]))
  have h1 : DataW.trod enc Try.prog w base spare held n 22 [c1] = some y1 := by have z := hf 1 _ rfl; rwa [show Try.prog.cellsOf _ = 1 from by kernel_rfl] at z
  obtain ⟨a1, k1_, w1⟩ := (Opn.slice Try.underlying22 (by kernel_rfl) (by kernel_rfl : Try.prog.bytesOf 51 = 16) opn51) H enc base spare held n _ _ h1 (fun q hq => hz q (by simp [DataW.weightsEach, hq]))
  exact ⟨⟨a0, a1⟩, ⟨_, _, rfl, k0_, k1_⟩, w0, w1⟩
structure S28 where
  f0 : Int
  f1 : Int
  f2 : ByteArray
  f3 : ByteArray
  f4 : Bool
def z28 : S28 := ⟨(0 : Int), (0 : Int), (⟨#[]⟩ : ByteArray), (⟨#[]⟩ : ByteArray), false⟩
def k28 : Kd S28 := Kd.iso (Kd.pair (Kd.int .i64) (Kd.pair (Kd.int .i64) (Kd.pair Kd.string (Kd.pair Kd.string Kd.bool)))) (fun x : S28 => (x.f0, x.f1, x.f2, x.f3, x.f4))
theorem k28_open {w : World} {x : S28} {cs : List Value} (h : k28.K w x cs) : cs = [.int .i64 x.f0, .int .i64 x.f1, .string x.f2, .string x.f3, .bool x.f4] := by
  obtain ⟨_, _, rfl, rfl, ⟨_, _, rfl, rfl, ⟨_, _, rfl, rfl, ⟨_, _, rfl, rfl, rfl⟩⟩⟩⟩ := h
  exact rfl
def wf28 (x : S28) : Prop := ((Lit.int .i64 x.f0).wf = true) ∧ ((Lit.int .i64 x.f1).wf = true) ∧ (x.f2.size ≤ 140737488351232) ∧ (x.f3.size ≤ 140737488351232) ∧ (True)
theorem opn28 {w : World} : Opn.Opn Try.prog w 28 k28 wf28 := by
  intro H enc base spare held fuel cs x h hz
  obtain ⟨xs, n, _, rfl, hlen, hyl, hf⟩ := DataW.trod_struct Try.underlying28 h
  have hcl : cs.length = 5 := hlen.trans (by kernel_rfl)
  obtain ⟨y0, y1, y2, y3, y4, rfl⟩ : ∃ y0 y1 y2 y3 y4, xs = [y0, y1, y2, y3, y4] := by
    clear h hz hf hlen hcl; have hyl' : xs.length = 5 := hyl; clear hyl
    match xs, hyl' with | [y0, y1, y2, y3, y4], _ => exact ⟨y0, y1, y2, y3, y4, rfl⟩
  obtain ⟨c0, c1, c2, c3, c4, rfl⟩ : ∃ c0 c1 c2 c3 c4, cs = [c0, c1, c2, c3, c4] := by
    clear h hz hf hlen hyl
    match cs, hcl with | [c0, c1, c2, c3, c4], _ => exact ⟨c0, c1, c2, c3, c4, rfl⟩
  simp only [DataW.weights, Try.underlying28] at hz
  have h0 : DataW.trod enc Try.prog w base spare held n 3 [c0] = some y0 := by have z := hf 0 _ rfl; rwa [show Try.prog.cellsOf _ = 1 from by kernel_rfl] at z
  obtain ⟨a0, k0_, w0⟩ := (Opn.int Try.underlying3) H enc base spare held n _ _ h0 (fun q hq => hz q (by simp [DataW.weightsEach, hq]))
  have h1 : DataW.trod enc Try.prog w base spare held n 3 [c1] = some y1 := by have z := hf 1 _ rfl; rwa [show Try.prog.cellsOf _ = 1 from by kernel_rfl] at z
  obtain ⟨a1, k1_, w1⟩ := (Opn.int Try.underlying3) H enc base spare held n _ _ h1 (fun q hq => hz q (by simp [DataW.weightsEach, hq]))
  have h2 : DataW.trod enc Try.prog w base spare held n 9 [c2] = some y2 := by have z := hf 2 _ rfl; rwa [show Try.prog.cellsOf _ = 1 from by kernel_rfl] at z
  obtain ⟨a2, k2_, w2⟩ := (Opn.string Try.underlying9) H enc base spare held n _ _ h2 (fun q hq => hz q (by simp [DataW.weightsEach, hq]))
  have h3 : DataW.trod enc Try.prog w base spare held n 9 [c3] = some y3 := by have z := hf 3 _ rfl; rwa [show Try.prog.cellsOf _ = 1 from by kernel_rfl] at z
  obtain ⟨a3, k3_, w3⟩ := (Opn.string Try.underlying9) H enc base spare held n _ _ h3 (fun q hq => hz q (by simp [DataW.weightsEach, hq]))
  have h4 : DataW.trod enc Try.prog w base spare held n 4 [c4] = some y4 := by have z := hf 4 _ rfl; rwa [show Try.prog.cellsOf _ = 1 from by kernel_rfl] at z
  obtain ⟨a4, k4_, w4⟩ := (Opn.bool Try.underlying4) H enc base spare held n _ _ h4 (fun q hq => hz q (by simp [DataW.weightsEach, hq]))
  exact ⟨⟨a0, a1, a2, a3, a4⟩, ⟨_, _, rfl, k0_, ⟨_, _, rfl, k1_, ⟨_, _, rfl, k2_, ⟨_, _, rfl, k3_, k4_⟩⟩⟩⟩, w0, w1, w2, w3, w4⟩
structure S46 where
  f0 : S28
  f1 : ByteArray
def z46 : S46 := ⟨z28, (⟨#[]⟩ : ByteArray)⟩
end Go.Proofs.Ytnbdldpjiofafaa.PB
end

section
namespace Go.Proofs.Ytnbdldpjiofafaa.PB
open Go.RowKit Go.Proofs.YtnbdldpjiofafaaW.PrintWords
set_option linter.unusedVariables false
theorem capped_nil : capped 0 [] := fun r hr => by cases hr
theorem gather0 (a b : Nat) (l : List S51) (h0 : ∀ r ∈ l, 0 ≤ r.f1) (hl : (bytes l).length ≤ 500000) (ha : a ≤ 500000) (hb : b ≤ 500000) :
    someTo addRun (a : Int) (b : Int) l 0 [] = pack (((bytes l).take b).drop a) := by
  have := someTo_pack a b l 0 [] 0 h0 capped_nil (by omega) (by omega) (by omega) (by omega) (by omega)
  simpa [pack] using this
theorem gather_all (l : List S51) (h0 : ∀ r ∈ l, 0 ≤ r.f1) (hl : (bytes l).length ≤ 4096) : someTo addRun 0 4096 l 0 [] = pack (bytes l) := by
  have := gather0 0 4096 l h0 (by omega) (by omega) (by omega)
  rw [List.take_of_length_le (by omega), List.drop_zero] at this
  exact this
def normalS (l : List S51) : List S51 × Int :=
  if (∃ j : Nat, j < l.length ∧ (rd_T51 l (j : Int)).f1 < 0) then ([], 2) else if tot l > 4096 then ([], 3) else (pack (bytes l), 0)
theorem notneg {l : List S51} (h : ¬ ∃ j : Nat, j < l.length ∧ (rd_T51 l (j : Int)).f1 < 0) : ∀ r ∈ l, 0 ≤ r.f1 := fun r hr => by
  obtain ⟨j, hj, rfl⟩ := List.mem_iff_getElem.1 hr
  have hh : ¬ (rd_T51 l (j : Int)).f1 < 0 := fun hn => h ⟨j, hj, hn⟩
  rw [rdT, List.getD_eq_getElem?_getD, List.getElem?_eq_getElem hj] at hh
  simp at hh
  exact hh
theorem normal_ev (l : List S51) (hl : l.length ≤ big) : Ev (fun k => runs_Normal.f k l) (normalS l) := by
  unfold runs_Normal.f normalS
  refine Ev.ite (fun _ => Ev.now _) (fun hn => ?_)
  refine Ev.bind (total_ev l hl) ?_
  refine Ev.ite (fun _ => Ev.now _) (fun ht => ?_)
  unfold big at hl
  refine Ev.pos (by omega) (ev_val (Ev.now _) ?_)
  have hb := tot_bytes (l := l) (by omega)
  rw [gather_all l (notneg hn) (by omega)]
theorem good_nrm {l : List S51} (h : good l = true) : nrm l ∧ tot l ≤ 4096 := by
  unfold good at h
  simpa using h
theorem nrm_nonneg {l : List S51} (h : nrm l) : ∀ r ∈ l, 0 ≤ r.f1 := fun r hr => by have := nrm_pos h r hr; omega
theorem step1_len (acc : List S51) (x : Int) : (step1 acc x).length ≤ acc.length + 1 := by
  unfold step1
  split
  · simp
  · simp
theorem packTo_len (b : List Int) : ∀ acc : List S51, (packTo acc b).length ≤ acc.length + b.length := by
  induction b with
  | nil => intro acc; simp [packTo]
  | cons x b ih => intro acc; have h1 := ih (step1 acc x); have h2 := step1_len acc x; show (packTo (step1 acc x) b).length ≤ _; rw [List.length_cons]; omega
theorem pack_len (b : List Int) : (pack b).length ≤ b.length := by have := packTo_len b []; simpa [pack] using this
end Go.Proofs.Ytnbdldpjiofafaa.PB
end

section
namespace Go.Proofs.Ytnbdldpjiofafaa.PB
open Go.RowKit Go.Proofs.YtnbdldpjiofafaaW.PrintWords Go.Proofs.YtnbdldpjiofafaaW.PrintLast Go.Proofs.YtnbdldpjiofafaaW.PrintMore
attribute [local go_sem] max2_int min2_int max_two min_two max_three min_three max_four min_four
set_option linter.unusedVariables false
set_option linter.unusedSimpArgs false
def belowN (a b : Nat) : Bool := (List.range 64).all (fun i => !a.testBit i || b.testBit i)
theorem belowN_yes {a b : Nat} (h : ∀ i, i < 64 → a.testBit i = true → b.testBit i = true) : belowN a b = true := by
  unfold belowN
  rw [List.all_eq_true]
  intro i hi
  have := h i (List.mem_range.1 hi)
  cases ha : a.testBit i <;> simp_all
theorem belowN_bits (a b : Nat) (ha : a < 2 ^ 64) (hb : b < 2 ^ 64) : (Go.bits .andNot .u64 (a : Int) (b : Int) == 0) = belowN a b := by
  rw [u64_andNot_nat a b ha hb]
  have hs : ∀ i, (a &&& (18446744073709551615 - b)).testBit i = (a.testBit i && (decide (i < 64) && !b.testBit i)) := fun i => by
    rw [Nat.testBit_and, show 18446744073709551615 - b = 2 ^ 64 - (b + 1) by omega, Nat.testBit_two_pow_sub_succ hb]
  cases h : belowN a b with
  | true =>
    have h0 : a &&& (18446744073709551615 - b) = 0 := by
      apply Nat.eq_of_testBit_eq
      intro i
      rw [hs, Nat.zero_testBit]
      by_cases hi : i < 64
      · unfold belowN at h
        have := List.all_eq_true.1 h i (List.mem_range.2 hi)
        cases ha : a.testBit i <;> cases hb : b.testBit i <;> simp_all
      · simp [hi]
    rw [h0]; rfl
  | false =>
    unfold belowN at h
    obtain ⟨i, hi, hc⟩ := List.all_eq_false.1 h
    have hz : (a &&& (18446744073709551615 - b)).testBit i = true := by
      rw [hs]
      have := List.mem_range.1 hi
      cases ha : a.testBit i <;> cases hb : b.testBit i <;> simp_all
    rw [beq_eq_false_iff_ne]
    intro he
    have : a &&& (18446744073709551615 - b) = 0 := by omega
    rw [this, Nat.zero_testBit] at hz
    cases hz
def orAll (l : List Nat) : Nat := l.foldl (· ||| ·) 0
def orAllI (l : List Int) : Int := l.foldl (fun a x => Go.bits .or .u64 a x) 0
theorem orAllI_nat (l : List Nat) (hl : ∀ x ∈ l, x < 2 ^ 64) : orAllI (l.map (fun x : Nat => (x : Int))) = ((orAll l : Nat) : Int) := by
  unfold orAllI orAll
  have : ∀ (l : List Nat) (a : Nat), a < 2 ^ 64 → (∀ x ∈ l, x < 2 ^ 64) → (l.map (fun x : Nat => (x : Int))).foldl (fun a x => Go.bits .or .u64 a x) (a : Int) = ((l.foldl (· ||| ·) a : Nat) : Int) := by
    intro l
    induction l with
    | nil => intro a _ _; rfl
    | cons x l ih =>
      intro a ha hl
      have hx := hl x List.mem_cons_self
      rw [List.map_cons, List.foldl_cons, List.foldl_cons, u64_or_nat a x ha hx]
      exact ih _ (Nat.or_lt_two_pow ha hx) (fun y hy => hl y (List.mem_cons_of_mem _ hy))
  exact this l 0 (by decide) hl
end Go.Proofs.Ytnbdldpjiofafaa.PB
end

section
namespace Go.Proofs.Ytnbdldpjiofafaa.PB
open Go.RowKit Go.Proofs.YtnbdldpjiofafaaW.PrintWords
set_option linter.unusedVariables false
def withinB (l : List S51) (a b : Int) : Bool := good l && (decide (0 ≤ a) && (decide (a ≤ b) && decide (b ≤ tot l)))
theorem withinB_iff {l : List S51} {a b : Int} : withinB l a b = true ↔ good l = true ∧ 0 ≤ a ∧ a ≤ b ∧ b ≤ tot l := by simp [withinB]
theorem within_ev (l : List S51) (hl : l.length ≤ big) (a b : Int) : Ev (fun k => runs_within.f k l a b) (withinB l a b) := by
  unfold runs_within.f
  refine Ev.bind (good_ev l hl) ?_
  by_cases hg : good l = true
  · refine Ev.pos hg ?_
    by_cases h0 : a ≥ 0
    · refine Ev.pos h0 ?_
      by_cases h1 : a ≤ b
      · refine Ev.pos h1 (Ev.bind (total_ev l hl) (ev_val (Ev.now _) ?_))
        simp [withinB, hg, h1, show 0 ≤ a from h0]
      · exact Ev.neg h1 (ev_val (Ev.now _) (by simp [withinB, h1]))
    · exact Ev.neg h0 (ev_val (Ev.now _) (by simp [withinB]; intro _ h; omega))
  · exact Ev.neg hg (ev_val (Ev.now _) (by simp [withinB, hg]))
theorem within_facts {l : List S51} {a b : Int} (h : withinB l a b = true) : ∃ i j : Nat, a = i ∧ b = j ∧ i ≤ j ∧ j ≤ (bytes l).length ∧ (bytes l).length ≤ 4096 ∧ nrm l ∧ tot l = (bytes l).length := by
  obtain ⟨hg, h0, h1, h2⟩ := withinB_iff.1 h
  obtain ⟨hn, ht⟩ := good_nrm hg
  have hb := tot_bytes ht
  obtain ⟨i, rfl⟩ := Int.eq_ofNat_of_zero_le h0
  obtain ⟨j, rfl⟩ := Int.eq_ofNat_of_zero_le (show 0 ≤ b by omega)
  exact ⟨i, j, rfl, rfl, by omega, by omega, by omega, hn, hb⟩
def sliceS (l : List S51) (a b : Int) : List S51 × Int := if withinB l a b = true then (pack (((bytes l).take b.toNat).drop a.toNat), 0) else ([], 2)
theorem slice_ev (l : List S51) (hl : l.length ≤ big) (a b : Int) : Ev (fun k => runs_Slice.f k l a b) (sliceS l a b) := by
  unfold runs_Slice.f sliceS
  refine Ev.bind (within_ev l hl a b) ?_
  refine Ev.ite (fun hw => ?_) (fun _ => Ev.now _)
  obtain ⟨i, j, rfl, rfl, hij, hj, h4, hn, _⟩ := within_facts hw
  unfold big at hl
  refine Ev.pos (by omega) (ev_val (Ev.now _) ?_)
  rw [gather0 i j l (nrm_nonneg hn) (by omega) (by omega) (by omega)]
  rfl
def pos1 (l : List S51) : List Int := (l.filter (fun r => decide (r.f1 > 0))).map (·.f0)
theorem pos1_cons (r : S51) (l : List S51) : pos1 (r :: l) = if r.f1 > 0 then r.f0 :: pos1 l else pos1 l := by
  unfold pos1
  rw [List.filter_cons]
  by_cases h : r.f1 > 0 <;> simp [h]
theorem all_ev (l : List S51) (hl : l.length ≤ big) : Ev (fun k => runs_All.f k l) (orAllI (pos1 l)) := by
  unfold big at hl
  have loop : ∀ (d i : Nat) (n : Int), i + d = l.length → Ev (fun k => runs_All.l0 k n l (l.length : Int) (i : Int)) ((pos1 (l.drop i)).foldl (fun a x => Go.bits .or .u64 a x) n) := by
    intro d
    induction d with
    | zero =>
      intro i n hi
      refine Ev.step (fun k => by simp only [runs_All.l0]; rfl) ?_
      refine Ev.neg (by omega) ?_
      rw [List.drop_eq_nil_of_le (by omega)]
      exact Ev.now _
    | succ d ih =>
      intro i n hi
      have hlt : i < l.length := by omega
      refine Ev.step (fun k => by simp only [runs_All.l0]; rfl) ?_
      refine Ev.pos (by omega) (Ev.pos (by omega) (Ev.pos (by omega) ?_))
      rw [rdT, w1 hlt (by omega), dropT hlt, pos1_cons]
      by_cases hp : (l.getD i z51).f1 > 0
      · refine Ev.pos hp ?_
        rw [if_pos hp]
        unfold label_Join.f
        refine Ev.bind (Ev.now _) ?_
        exact ih (i + 1) _ (by omega)
      · refine Ev.neg hp ?_
        rw [if_neg hp]
        exact ih (i + 1) _ (by omega)
  exact loop l.length 0 0 (by omega)
theorem wf_u64 {n : Int} (h : (Lit.int .u64 n).wf = true) : 0 ≤ n ∧ n < 18446744073709551616 := by
  have hmin : IntKind.u64.min = 0 := rfl
  have hmax : IntKind.u64.max = 18446744073709551615 := rfl
  simp only [Lit.wf, Bool.and_eq_true, decide_eq_true_eq, hmin, hmax] at h
  omega
theorem wf_labels {l : List S51} (h : ∀ x ∈ l, wf51 x) : ∀ r ∈ l, 0 ≤ r.f0 ∧ r.f0 < 18446744073709551616 := fun r hr => wf_u64 (h r hr).1
def spliceS (l : List S51) (a b : Int) (m : List S51) : List S51 × Int :=
  if withinB l a b = true then (if good m = true then (if tot l - (b - a) + tot m > 4096 then ([], 3) else (pack ((bytes l).take a.toNat ++ bytes m ++ (bytes l).drop b.toNat), 0)) else ([], 2)) else ([], 2)
theorem good_facts {m : List S51} (h : good m = true) : nrm m ∧ (bytes m).length ≤ 4096 ∧ tot m = (bytes m).length := by
  obtain ⟨hn, ht⟩ := good_nrm h
  have hb := tot_bytes ht
  exact ⟨hn, by omega, hb⟩
theorem spliceRuns_pack (l m : List S51) (i j : Nat) (hi : i ≤ 4096) (hj : j ≤ 4096) (hl : (bytes l).length ≤ 4096) (hm : (bytes m).length ≤ 4096) (hn : nrm l) (hnm : nrm m) :
    spliceRuns l i j m = pack ((bytes l).take i ++ bytes m ++ (bytes l).drop j) := by
  unfold spliceRuns
  have e1 := someTo_pack 0 i l 0 [] 0 (nrm_nonneg hn) capped_nil (by omega) (by omega) (by omega) (by omega) (by omega)
  rw [show ((0 : Nat) : Int) = 0 from rfl, Nat.sub_zero, Nat.sub_zero, List.drop_zero] at e1
  rw [e1]
  have c1 := packTo_capped ((bytes l).take i) (capped_nil) (show (0 : Int) ≤ 0 by omega)
  have hlen1 : ((bytes l).take i).length ≤ 4096 := by rw [List.length_take]; omega
  have e2 := someTo_pack 0 4096 m 0 _ _ (nrm_nonneg hnm) c1 (by omega) (by omega) (by omega) (by omega) (by omega)
  rw [show ((0 : Nat) : Int) = 0 from rfl, show ((4096 : Nat) : Int) = 4096 from rfl, Nat.sub_zero, Nat.sub_zero, List.drop_zero, List.take_of_length_le hm] at e2
  rw [e2]
  have c2 := packTo_capped (bytes m) c1 (by omega)
  have e3 := someTo_pack j 4096 l 0 _ _ (nrm_nonneg hn) c2 (by omega) (by omega) (by omega) (by omega) (by omega)
  rw [show ((0 : Nat) : Int) = 0 from rfl, show ((4096 : Nat) : Int) = 4096 from rfl, Nat.sub_zero, Nat.sub_zero, List.take_of_length_le hl] at e3
  rw [e3]
  unfold pack
  rw [packTo_append, packTo_append]
theorem splice_ev (l : List S51) (hl : l.length ≤ big) (a b : Int) (m : List S51) (hm : m.length ≤ big) : Ev (fun k => runs_Splice.f k l a b m) (spliceS l a b m) := by
  unfold runs_Splice.f spliceS
  refine Ev.bind (within_ev l hl a b) ?_
  refine Ev.ite (fun hw => ?_) (fun _ => Ev.now _)
  refine Ev.bind (good_ev m hm) ?_
  refine Ev.ite (fun hg => ?_) (fun _ => Ev.now _)
  refine Ev.bind (total_ev l hl) (Ev.bind (total_ev m hm) ?_)
  obtain ⟨i, j, rfl, rfl, hij, hj, h4, hn, ht⟩ := within_facts hw
  obtain ⟨hnm, h4m, htm⟩ := good_facts hg
  rw [show wrap64 (wrap64 (tot l - wrap64 ((j : Int) - (i : Int))) + tot m) = tot l - ((j : Int) - (i : Int)) + tot m by unfold wrap64; omega]
  refine Ev.ite (fun _ => Ev.now _) (fun _ => ?_)
  unfold big at hl hm
  refine Ev.pos (by omega) (ev_val (Ev.now _) ?_)
  rw [spliceRuns_pack l m i j (by omega) (by omega) h4 h4m hn hnm]
  rfl
theorem good_pack {b : List Int} (h : b.length ≤ 4096) : good (pack b) = true ∧ tot (pack b) = b.length := by
  have hn := pack_nrm b
  have ht : tot (pack b) = b.length := by
    rw [tot_of_bytes (nrm_nonneg hn) (by rw [pack_bytes]; exact h), pack_bytes]
  exact ⟨by unfold good; rw [Bool.and_eq_true, decide_eq_true_iff, decide_eq_true_iff]; exact ⟨hn, by omega⟩, ht⟩
end Go.Proofs.Ytnbdldpjiofafaa.PB
end

section
namespace Go.Proofs.Ytnbdldpjiofafaa.PB
open Go.RowKit Go.Proofs.YtnbdldpjiofafaaW.PrintWords
set_option linter.unusedVariables false
theorem bytes_mem {l : List S51} {x : Int} (h : x ∈ bytes l) : ∃ r ∈ l, r.f0 = x := by
  obtain ⟨r, hr, hx⟩ := List.mem_flatMap.1 h
  exact ⟨r, hr, (List.eq_of_mem_replicate hx).symm⟩
end Go.Proofs.Ytnbdldpjiofafaa.PB
end

section
namespace Go.Proofs.Ytnbdldpjiofafaa.PB
open Go.RowKit Go.Proofs.YtnbdldpjiofafaaW.PrintWords
set_option linter.unusedVariables false
def goodT (s : ByteArray) (l : List S51) : Bool := good l && decide (tot l = (s.size : Int))
theorem goodT_iff {s : ByteArray} {l : List S51} : goodT s l = true ↔ good l = true ∧ tot l = (s.size : Int) := by simp [goodT]
theorem goodT_facts {s : ByteArray} {l : List S51} (h : goodT s l = true) : good l = true ∧ nrm l ∧ (bytes l).length = s.size ∧ s.size ≤ 4096 ∧ tot l = (s.size : Int) := by
  obtain ⟨h1, h2⟩ := goodT_iff.1 h
  obtain ⟨h3, h4, h5⟩ := good_facts h1
  exact ⟨h1, h3, by omega, by omega, h2⟩
theorem goodT_ev (s : ByteArray) (l : List S51) (hl : l.length ≤ big) : Ev (fun k => strip_Good.f k s l) (goodT s l) := by
  unfold strip_Good.f
  refine Ev.bind (good_ev l hl) ?_
  by_cases hg : good l = true
  · rw [hg]
    exact Ev.pos rfl (Ev.bind (total_ev l hl) (ev_val (Ev.now _) (by rw [Bool.eq_iff_iff]; simp [goodT, hg])))
  · exact Ev.neg hg (ev_val (Ev.now _) (by simp [goodT, hg]))
theorem rgoodT_ev (s : ByteArray) (l : List S51) (hl : l.length ≤ big) : Ev (fun k => bureauref04_Good.f k s l) (goodT s l) := by
  unfold bureauref04_Good.f
  refine Ev.bind (rgood_ev l hl) ?_
  by_cases hg : good l = true
  · rw [hg]
    exact Ev.pos rfl (Ev.bind (rtotal_ev l hl) (ev_val (Ev.now _) (by rw [Bool.eq_iff_iff]; simp [goodT, hg])))
  · exact Ev.neg hg (ev_val (Ev.now _) (by simp [goodT, hg]))
def withinT (s : ByteArray) (l : List S51) (a b : Int) : Bool := goodT s l && (decide (0 ≤ a) && (decide (a ≤ b) && decide (b ≤ (s.size : Int))))
theorem withinT_iff {s : ByteArray} {l : List S51} {a b : Int} : withinT s l a b = true ↔ goodT s l = true ∧ 0 ≤ a ∧ a ≤ b ∧ b ≤ (s.size : Int) := by simp [withinT]
theorem withinT_ev (s : ByteArray) (l : List S51) (hl : l.length ≤ big) (a b : Int) : Ev (fun k => strip_within.f k s l a b) (withinT s l a b) := by
  unfold strip_within.f
  refine Ev.bind (goodT_ev s l hl) ?_
  by_cases hg : goodT s l = true
  · refine Ev.pos hg ?_
    by_cases h0 : 0 ≤ a
    · refine Ev.pos h0 ?_
      by_cases h1 : a ≤ b
      · exact Ev.pos h1 (ev_val (Ev.now _) (by simp [withinT, hg, h0, h1]))
      · exact Ev.neg h1 (ev_val (Ev.now _) (by simp [withinT, h1]))
    · exact Ev.neg h0 (ev_val (Ev.now _) (by simp [withinT, h0]))
  · exact Ev.neg hg (ev_val (Ev.now _) (by simp [withinT, hg]))
theorem rwithinT_ev (s : ByteArray) (l : List S51) (hl : l.length ≤ big) (a b : Int) : Ev (fun k => bureauref04_Within.f k s l a b) (withinT s l a b) := by
  unfold bureauref04_Within.f
  refine Ev.bind (rgoodT_ev s l hl) ?_
  by_cases hg : goodT s l = true
  · refine Ev.pos hg ?_
    by_cases h0 : 0 ≤ a
    · refine Ev.pos h0 ?_
      by_cases h1 : a ≤ b
      · exact Ev.pos h1 (ev_val (Ev.now _) (by simp [withinT, hg, h0, h1]))
      · exact Ev.neg h1 (ev_val (Ev.now _) (by simp [withinT, h1]))
    · exact Ev.neg h0 (ev_val (Ev.now _) (by simp [withinT, h0]))
  · exact Ev.neg hg (ev_val (Ev.now _) (by simp [withinT, hg]))
theorem withinT_facts {s : ByteArray} {l : List S51} {a b : Int} (h : withinT s l a b = true) : ∃ i j : Nat, a = i ∧ b = j ∧ i ≤ j ∧ j ≤ s.size ∧ goodT s l = true ∧ withinB l a b = true := by
  obtain ⟨h1, h2, h3, h4⟩ := withinT_iff.1 h
  obtain ⟨g1, g2, g3, g4, g5⟩ := goodT_facts h1
  obtain ⟨i, rfl⟩ := Int.eq_ofNat_of_zero_le h2
  obtain ⟨j, rfl⟩ := Int.eq_ofNat_of_zero_le (show 0 ≤ b by omega)
  exact ⟨i, j, rfl, rfl, by omega, by omega, h1, withinB_iff.2 ⟨g1, by omega, by omega, by omega⟩⟩
abbrev TX := ByteArray × List S51 × Int
def makeS (s : ByteArray) (y : Int) : TX := if (s.size : Int) > 4096 then (⟨#[]⟩, [], 3) else (s, pack (List.replicate s.size y), 0)
theorem normal_one (y : Int) (n : Nat) : normalS [⟨y, (n : Int)⟩] = if (n : Int) > 4096 then ([], 3) else (pack (List.replicate n y), 0) := by
  unfold normalS
  rw [if_neg (fun ⟨j, hj, hh⟩ => by
    have : j = 0 := by simpa using hj
    subst this
    have : ((n : Nat) : Int) < 0 := hh
    omega)]
  have ht : tot [(⟨y, (n : Int)⟩ : S51)] = if (n : Int) > 4096 then 4097 else (n : Int) := by
    simp only [tot, totF]
    by_cases h : (n : Int) > 4096
    · rw [if_pos h, if_pos (by omega)]
    · rw [if_neg h, if_neg (by omega), if_neg (by omega)]; omega
  rw [ht]
  by_cases h : (n : Int) > 4096
  · rw [if_pos h, if_pos h, if_pos (by omega)]
  · rw [if_neg h, if_neg h, if_neg h]
    simp [bytes]
theorem make_ev (s : ByteArray) (y : Int) : Ev (fun k => strip_Make.f k s y) (makeS s y) := by
  unfold strip_Make.f makeS
  refine Ev.bind (normal_ev _ (by simp [big])) ?_
  rw [normal_one]
  by_cases h : (s.size : Int) > 4096
  · rw [if_pos h, if_pos h]
    exact Ev.neg (by decide) (Ev.now _)
  · rw [if_neg h, if_neg h]
    exact Ev.pos rfl (Ev.now _)
theorem or_rep (a x : Nat) : ∀ n, (List.replicate (n + 1) x).foldl (· ||| ·) a = a ||| x
  | 0 => rfl
  | n + 1 => by
    rw [List.replicate_succ, List.foldl_cons, or_rep (a ||| x) x n, Nat.or_assoc, Nat.or_self]
theorem or_bytes : ∀ (l : List S51) (a : Nat), ((bytes l).map Int.toNat).foldl (· ||| ·) a = ((pos1 l).map Int.toNat).foldl (· ||| ·) a
  | [], _ => rfl
  | r :: l, a => by
    rw [bytes_cons, pos1_cons, List.map_append, List.map_replicate, List.foldl_append]
    by_cases h : r.f1 > 0
    · obtain ⟨n, hn⟩ : ∃ n, r.f1.toNat = n + 1 := ⟨r.f1.toNat - 1, by omega⟩
      rw [if_pos h, hn, or_rep, List.map_cons, List.foldl_cons, or_bytes l]
    · rw [if_neg h, show r.f1.toNat = 0 by omega]
      exact or_bytes l a
theorem toNat_map {L : List Int} (h : ∀ x ∈ L, 0 ≤ x ∧ x < 18446744073709551616) : L = (L.map Int.toNat).map (fun x : Nat => (x : Int)) := by
  induction L with
  | nil => rfl
  | cons x L ih =>
    rw [List.map_cons, List.map_cons, ← ih (fun z hz => h z (List.mem_cons_of_mem _ hz))]
    have := h x List.mem_cons_self
    congr 1
    omega
theorem orAllI_bytes {l : List S51} (hw : ∀ r ∈ l, 0 ≤ r.f0 ∧ r.f0 < 18446744073709551616) : orAllI (bytes l) = orAllI (pos1 l) := by
  have h1 : ∀ x ∈ bytes l, 0 ≤ x ∧ x < 18446744073709551616 := fun x hx => by obtain ⟨r, hr, rfl⟩ := bytes_mem hx; exact hw r hr
  have h2 : ∀ x ∈ pos1 l, 0 ≤ x ∧ x < 18446744073709551616 := fun x hx => by
    obtain ⟨r, hr, rfl⟩ := List.mem_map.1 hx
    exact hw r (List.mem_filter.1 hr).1
  rw [toNat_map h1, toNat_map h2, orAllI_nat _ (fun x hx => by obtain ⟨y, hy, rfl⟩ := List.mem_map.1 hx; have := h1 y hy; omega), orAllI_nat _ (fun x hx => by obtain ⟨y, hy, rfl⟩ := List.mem_map.1 hx; have := h2 y hy; omega)]
  congr 1
  exact or_bytes l 0
def sameT (s : ByteArray) (l : List S51) (t : ByteArray) (m : List S51) : Bool := if s.toList = t.toList then decide (l = m) else false
theorem sameT_self (s : ByteArray) (l : List S51) : sameT s l s l = true := by simp [sameT]
theorem rsame4_ev (s : ByteArray) (l : List S51) (t : ByteArray) (m : List S51) (hl : l.length ≤ big) : Ev (fun k => bureauref04_Same.f k s l t m) (sameT s l t m) := by
  unfold bureauref04_Same.f sameT
  exact Ev.ite (fun _ => Ev.bind (same_ev l m hl) (Ev.now _)) (fun _ => Ev.now _)
def cutS (s : ByteArray) (l : List S51) (a b : Int) : TX := if withinT s l a b = true then (s.extract a.toNat b.toNat, pack (((bytes l).take b.toNat).drop a.toNat), 0) else (⟨#[]⟩, [], 2)
theorem cut_ev (s : ByteArray) (l : List S51) (hl : l.length ≤ big) (a b : Int) : Ev (fun k => strip_Cut.f k s l a b) (cutS s l a b) := by
  unfold strip_Cut.f cutS
  refine Ev.bind (withinT_ev s l hl a b) ?_
  refine Ev.ite (fun hw => ?_) (fun _ => Ev.now _)
  obtain ⟨h1, h2, h3, h4⟩ := withinT_iff.1 hw
  obtain ⟨i, j, rfl, rfl, hij, hj, hg, hwb⟩ := withinT_facts hw
  refine Ev.bind (slice_ev l hl _ _) (Ev.pos h2 (Ev.pos h3 (Ev.pos h4 (ev_val (Ev.now _) ?_))))
  unfold sliceS
  rw [if_pos hwb]
theorem rcut_ev (s : ByteArray) (l : List S51) (hl : l.length ≤ big) (a b : Int) : Ev (fun k => bureauref04_Cut.f k s l a b) (cutS s l a b) := by
  unfold bureauref04_Cut.f cutS
  refine Ev.bind (rwithinT_ev s l hl a b) ?_
  refine Ev.ite (fun hw => ?_) (fun _ => Ev.now _)
  obtain ⟨h1, h2, h3, h4⟩ := withinT_iff.1 hw
  obtain ⟨g1, g2, g3, g4, g5⟩ := goodT_facts h1
  refine Ev.bind (bytes_ev l hl (by omega)) (Ev.pos h2 (Ev.pos h3 (Ev.pos h4 (Ev.pos (by omega) (Ev.bind (pack_ev _ ?_) (Ev.now _))))))
  rw [List.length_drop, List.length_take]
  omega
def spliceT (s : ByteArray) (l : List S51) (a b : Int) (x : ByteArray) (m : List S51) : TX :=
  if withinT s l a b = true then (if goodT x m = true then (if (s.size : Int) - (b - a) + (x.size : Int) > 4096 then (⟨#[]⟩, [], 3) else
    (s.extract 0 a.toNat ++ x ++ s.extract b.toNat s.size, pack ((bytes l).take a.toNat ++ bytes m ++ (bytes l).drop b.toNat), 0)) else (⟨#[]⟩, [], 2)) else (⟨#[]⟩, [], 2)
theorem ext_size (s : ByteArray) (i j : Nat) : (s.extract i j).size ≤ s.size := by rw [ByteArray.size_extract]; omega
theorem splice4_ev (s : ByteArray) (l : List S51) (hl : l.length ≤ big) (a b : Int) (x : ByteArray) (m : List S51) (hm : m.length ≤ big) : Ev (fun k => strip_Splice.f k s l a b x m) (spliceT s l a b x m) := by
  unfold strip_Splice.f spliceT
  refine Ev.bind (withinT_ev s l hl a b) ?_
  have bad : Ev (fun k => strip_Splice.j0 k a b true s l x m) (⟨#[]⟩, [], 2) := by
    refine Ev.step (fun k => by simp only [strip_Splice.j0]; rfl) ?_
    exact Ev.pos (by simp) (Ev.now _)
  refine Ev.ite (fun hw => ?_) (fun _ => bad)
  refine Ev.bind (goodT_ev x m hm) ?_
  by_cases hg : goodT x m = true
  · rw [if_pos hg, hg]
    refine Ev.step (fun k => by simp only [strip_Splice.j0]; rfl) ?_
    refine Ev.neg (by simp) (Ev.bind (splice_ev l hl a b m hm) ?_)
    obtain ⟨h1, h2, h3, h4⟩ := withinT_iff.1 hw
    obtain ⟨i, j, rfl, rfl, hij, hj, hgl, hwb⟩ := withinT_facts hw
    obtain ⟨g1, g2, g3, g4, g5⟩ := goodT_facts hgl
    obtain ⟨q1, q2, q3, q4, q5⟩ := goodT_facts hg
    have he : spliceS l (i : Int) (j : Int) m = if (s.size : Int) - ((j : Int) - (i : Int)) + (x.size : Int) > 4096 then ([], 3) else (pack ((bytes l).take (i : Int).toNat ++ bytes m ++ (bytes l).drop (j : Int).toNat), 0) := by
      unfold spliceS
      rw [if_pos hwb, if_pos q1, g5, q5]
    rw [he]
    by_cases hb : (s.size : Int) - ((j : Int) - (i : Int)) + (x.size : Int) > 4096
    · rw [if_pos hb, if_pos hb]
      exact Ev.neg (by decide) (Ev.now _)
    · rw [if_neg hb, if_neg hb]
      have e1 := ext_size s 0 (i : Int).toNat
      have e2 := ext_size s (j : Int).toNat s.size
      refine Ev.pos rfl (Ev.pos h2 (Ev.pos (by omega) (Ev.pos (by omega) (Ev.pos (by omega) (Ev.pos h4 (Ev.pos ?_ (Ev.now _)))))))
      rw [ByteArray.size_append]
      omega
  · rw [if_neg hg, show goodT x m = false by simpa using hg]
    exact bad
theorem rsplice4_ev (s : ByteArray) (l : List S51) (hl : l.length ≤ big) (a b : Int) (x : ByteArray) (m : List S51) (hm : m.length ≤ big) : Ev (fun k => bureauref04_Splice.f k s l a b x m) (spliceT s l a b x m) := by
  unfold bureauref04_Splice.f spliceT
  refine Ev.bind (rwithinT_ev s l hl a b) ?_
  have bad : Ev (fun k => bureauref04_Splice.j0 k a b true s l x m) (⟨#[]⟩, [], 2) := by
    refine Ev.step (fun k => by simp only [bureauref04_Splice.j0]; rfl) ?_
    exact Ev.pos (by simp) (Ev.now _)
  refine Ev.ite (fun hw => ?_) (fun _ => bad)
  refine Ev.bind (rgoodT_ev x m hm) ?_
  by_cases hg : goodT x m = true
  · rw [if_pos hg, hg]
    refine Ev.step (fun k => by simp only [bureauref04_Splice.j0]; rfl) ?_
    refine Ev.neg (by simp) ?_
    obtain ⟨h1, h2, h3, h4⟩ := withinT_iff.1 hw
    obtain ⟨i, j, rfl, rfl, hij, hj, hgl, hwb⟩ := withinT_facts hw
    obtain ⟨g1, g2, g3, g4, g5⟩ := goodT_facts hgl
    obtain ⟨q1, q2, q3, q4, q5⟩ := goodT_facts hg
    rw [show wrap64 (wrap64 ((s.size : Int) - wrap64 ((j : Int) - (i : Int))) + (x.size : Int)) = (s.size : Int) - ((j : Int) - (i : Int)) + (x.size : Int) by unfold wrap64; omega]
    refine Ev.ite (fun _ => Ev.now _) (fun hb => ?_)
    refine Ev.bind (bytes_ev l hl (by omega)) (Ev.bind (bytes_ev m hm (by omega)) ?_)
    generalize hB : bytes l = B at *
    generalize hM : bytes m = M at *
    have hrd : ∀ (L : List Int) (q : Nat), rd L (q : Int) = L.getD q 0 := fun L q => by unfold rd; rw [Int.toNat_natCast]
    have l2 : ∀ (d q : Nat) (acc : List Int), q + d = B.length → acc.length ≤ 8192 + q → Ev (fun k => bureauref04_Splice.l2 k (i : Int) (j : Int) B acc (q : Int) s l x m)
        (s.extract 0 (i : Int).toNat ++ x ++ s.extract (j : Int).toNat s.size, pack (acc ++ B.drop q), 0) := by
      intro d
      induction d with
      | zero =>
        intro q acc hq ha
        refine Ev.step (fun k => by simp only [bureauref04_Splice.l2]; rfl) ?_
        have e1 := ext_size s 0 (i : Int).toNat
        have e2 := ext_size s (j : Int).toNat s.size
        refine Ev.neg (by omega) (Ev.pos h2 (Ev.pos (by omega) (Ev.pos (by omega) (Ev.pos (by omega) (Ev.pos h4 (Ev.pos ?_ ?_))))))
        · rw [ByteArray.size_append]; omega
        · rw [List.drop_eq_nil_of_le (by omega), List.append_nil]
          exact Ev.bind (pack_ev _ (by omega)) (Ev.now _)
      | succ d ih =>
        intro q acc hq ha
        have hlt : q < B.length := by omega
        refine Ev.step (fun k => by simp only [bureauref04_Splice.l2]; rfl) ?_
        refine Ev.pos (by omega) (Ev.pos (by omega) (Ev.pos (by omega) ?_))
        rw [w1 hlt (by omega), dropI hlt, hrd]
        exact ev_val (ih (q + 1) _ (by omega) (by simp; omega)) (by rw [List.append_assoc]; rfl)
    have l1 : ∀ (d q : Nat) (acc : List Int), q + d = M.length → acc.length ≤ 4096 + q → Ev (fun k => bureauref04_Splice.l1 k (i : Int) (j : Int) B M acc (q : Int) s l x m)
        (s.extract 0 (i : Int).toNat ++ x ++ s.extract (j : Int).toNat s.size, pack (acc ++ M.drop q ++ B.drop j), 0) := by
      intro d
      induction d with
      | zero =>
        intro q acc hq ha
        refine Ev.step (fun k => by simp only [bureauref04_Splice.l1]; rfl) ?_
        refine Ev.neg (by omega) ?_
        rw [List.drop_eq_nil_of_le (show M.length ≤ q by omega), List.append_nil]
        exact l2 (B.length - j) j acc (by omega) (by omega)
      | succ d ih =>
        intro q acc hq ha
        have hlt : q < M.length := by omega
        refine Ev.step (fun k => by simp only [bureauref04_Splice.l1]; rfl) ?_
        refine Ev.pos (by omega) (Ev.pos (by omega) (Ev.pos (by omega) ?_))
        rw [w1 hlt (by omega), dropI hlt, hrd]
        exact ev_val (ih (q + 1) _ (by omega) (by simp; omega)) (by rw [List.append_assoc acc]; rfl)
    have l0 : ∀ (d q : Nat), q + d = i → Ev (fun k => bureauref04_Splice.l0 k (i : Int) (j : Int) B M (B.take q) (q : Int) s l x m)
        (s.extract 0 (i : Int).toNat ++ x ++ s.extract (j : Int).toNat s.size, pack (B.take i ++ M ++ B.drop j), 0) := by
      intro d
      induction d with
      | zero =>
        intro q hq
        refine Ev.step (fun k => by simp only [bureauref04_Splice.l0]; rfl) ?_
        refine Ev.neg (by omega) ?_
        obtain rfl : q = i := by omega
        exact l1 M.length 0 (B.take q) (by omega) (by rw [List.length_take]; omega)
      | succ d ih =>
        intro q hq
        have hlt : q < B.length := by omega
        refine Ev.step (fun k => by simp only [bureauref04_Splice.l0]; rfl) ?_
        refine Ev.pos (by omega) (Ev.pos (by omega) (Ev.pos (by omega) (Ev.pos (by rw [List.length_take]; omega) ?_)))
        rw [w1 hlt (by omega), hrd]
        have ht : B.take q ++ [B.getD q 0] = B.take (q + 1) := by
          rw [List.take_add_one, List.getD_eq_getElem?_getD, List.getElem?_eq_getElem hlt]; rfl
        rw [ht]
        exact ih (q + 1) (by omega)
    exact l0 i 0 (by omega)
  · rw [if_neg hg, show goodT x m = false by simpa using hg]
    exact bad
def catT (s : ByteArray) (l : List S51) (x : ByteArray) (m : List S51) : TX := spliceT s l (s.size : Int) (s.size : Int) x m
theorem cat4_ev (s : ByteArray) (l : List S51) (hl : l.length ≤ big) (x : ByteArray) (m : List S51) (hm : m.length ≤ big) : Ev (fun k => strip_Cat.f k s l x m) (catT s l x m) := by
  unfold strip_Cat.f catT
  exact Ev.bind (splice4_ev s l hl _ _ x m hm) (Ev.now _)
theorem toList_loop (a : ByteArray) : ∀ (n i : Nat) (r : List UInt8), i + n = a.size → ByteArray.toList.loop a i r = r.reverse ++ a.data.toList.drop i
  | 0, i, r, h => by
    unfold ByteArray.toList.loop
    rw [if_neg (by omega), List.drop_eq_nil_of_le (by rw [Array.length_toList]; show a.size ≤ i; omega), List.append_nil]
  | n + 1, i, r, h => by
    unfold ByteArray.toList.loop
    have hi : i < a.data.toList.length := by rw [Array.length_toList]; show i < a.size; omega
    rw [if_pos (by omega), toList_loop a n (i + 1) _ (by omega), List.reverse_cons, List.append_assoc, List.drop_eq_getElem_cons hi]
    congr 1
    show [a.get! i] ++ _ = _
    rw [List.singleton_append]
    congr 1
    show a.data[i]! = _
    rw [getElem!_pos a.data i (by rw [Array.length_toList] at hi; exact hi)]
    simp
theorem toList_data (a : ByteArray) : a.toList = a.data.toList := by
  unfold ByteArray.toList
  rw [toList_loop a a.size 0 [] (by omega)]
  rfl
theorem toList_inj {a b : ByteArray} (h : a.toList = b.toList) : a = b := by
  rw [toList_data, toList_data] at h
  exact ByteArray.ext (Array.toList_inj.1 h)
end Go.Proofs.Ytnbdldpjiofafaa.PB
end

section
namespace Go.Proofs.Ytnbdldpjiofafaa.PB
open Go.RowKit Go.Proofs.YtnbdldpjiofafaaW.PrintWords
set_option linter.unusedVariables false
def seen (x y : Int) : Bool := Go.bits .andNot .u64 x y == 0
def hide (y x c : Int) : Int := if seen x y = true then c else 35
def hideAll (y : Int) (L B : List Int) : List Int := List.zipWith (hide y) L B
theorem hideAll_len (y : Int) (L B : List Int) : (hideAll y L B).length = min L.length B.length := List.length_zipWith
theorem paintN_app : ∀ (n : Nat) (P B : List Int), n ≤ B.length → paintN P.length n (P ++ B) = P ++ (List.replicate n 35 ++ B.drop n)
  | 0, P, B, _ => by simp [paintN]
  | n + 1, P, [], h => by simp at h
  | n + 1, P, b :: B, h => by
    have := paintN_app n (P ++ [35]) B (by simpa using h)
    rw [List.length_append, List.length_singleton] at this
    simp only [paintN]
    rw [show (P ++ b :: B).set P.length 35 = P ++ [35] ++ B by simp, this]
    simp [List.replicate_succ]
theorem hide_rep (y x : Int) : ∀ (n : Nat) (B : List Int), n ≤ B.length → List.zipWith (hide y) (List.replicate n x) (B.take n) = if seen x y = true then B.take n else List.replicate n 35
  | 0, B, _ => by simp
  | n + 1, [], h => by simp at h
  | n + 1, b :: B, h => by
    rw [List.replicate_succ, List.take_succ_cons, List.zipWith_cons_cons, hide_rep y x n B (by simpa using h)]
    unfold hide
    by_cases hs : seen x y = true
    · rw [if_pos hs, if_pos hs, if_pos hs]
    · rw [if_neg hs, if_neg hs, if_neg hs, List.replicate_succ]
theorem viewTo_app (y : Int) : ∀ (l : List S51) (P B : List Int), B.length = (bytes l).length → viewTo y l P.length (P ++ B) = P ++ hideAll y (bytes l) B
  | [], P, B, h => by
    have : B = [] := List.eq_nil_of_length_eq_zero (by simpa [bytes] using h)
    subst this
    simp [viewTo, hideAll, bytes]
  | r :: l, P, B, h => by
    rw [bytes_cons, List.length_append, List.length_replicate] at h
    have hn : r.f1.toNat ≤ B.length := by omega
    have hz : hideAll y (bytes (r :: l)) B = List.zipWith (hide y) (List.replicate r.f1.toNat r.f0) (B.take r.f1.toNat) ++ hideAll y (bytes l) (B.drop r.f1.toNat) := by
      unfold hideAll
      rw [bytes_cons]
      conv => lhs; rw [← List.take_append_drop r.f1.toNat B]
      rw [List.zipWith_append]
      rw [List.length_replicate, List.length_take]
      omega
    rw [hz, hide_rep _ _ _ _ hn]
    simp only [viewTo]
    by_cases hs : seen r.f0 y = true
    · rw [if_pos (show (Go.bits .andNot .u64 r.f0 y == 0) = true from hs), if_pos hs]
      have := viewTo_app y l (P ++ B.take r.f1.toNat) (B.drop r.f1.toNat) (by rw [List.length_drop]; omega)
      rw [List.length_append, List.length_take, show min r.f1.toNat B.length = r.f1.toNat by omega, List.append_assoc, List.take_append_drop, List.append_assoc] at this
      exact this
    · rw [if_neg (show ¬ (Go.bits .andNot .u64 r.f0 y == 0) = true from hs), if_neg hs, paintN_app _ _ _ hn]
      have := viewTo_app y l (P ++ List.replicate r.f1.toNat 35) (B.drop r.f1.toNat) (by rw [List.length_drop]; omega)
      rw [List.length_append, List.length_replicate, List.append_assoc, List.append_assoc] at this
      exact this
def viewS (s : ByteArray) (l : List S51) (y : Int) : ByteArray × Int := if goodT s l = true then (strOfNums (hideAll y (bytes l) (bytesOf s)), 0) else (⟨#[]⟩, 2)
theorem view_ev (s : ByteArray) (l : List S51) (hl : l.length ≤ big) (y : Int) : Ev (fun k => strip_View.f k s l y) (viewS s l y) := by
  unfold strip_View.f viewS
  refine Ev.bind (goodT_ev s l hl) ?_
  refine Ev.ite (fun hg => ?_) (fun _ => Ev.now _)
  obtain ⟨g1, g2, g3, g4, g5⟩ := goodT_facts hg
  refine Ev.pos ⟨nrm_nonneg g2, by omega, by omega⟩ (ev_val (Ev.now _) ?_)
  have := viewTo_app y l [] (bytesOf s) (by rw [bytesOf_len, g3])
  simp only [List.length_nil, List.nil_append] at this
  rw [this]
end Go.Proofs.Ytnbdldpjiofafaa.PB
end

section
namespace Go.Proofs.Ytnbdldpjiofafaa.PB
open Go.RowKit Go.Proofs.YtnbdldpjiofafaaW.PrintWords
set_option linter.unusedVariables false
theorem wfT {x : S24} (h : wf24 x) : ∀ r ∈ x.f1, 0 ≤ r.f0 ∧ r.f0 < 18446744073709551616 := wf_labels h.2.2
theorem ext_all (s : ByteArray) : s.extract 0 s.size = s := by
  apply ByteArray.ext
  rw [ByteArray.data_extract]
  exact Array.extract_size
theorem ext_none (s : ByteArray) : s.extract s.size s.size = ByteArray.empty := by
  apply ByteArray.ext
  rw [ByteArray.data_extract]
  simp
theorem goodT_pack {s : ByteArray} {B : List Int} (h : B.length = s.size) (h4 : s.size ≤ 4096) : goodT s (pack B) = true := by
  obtain ⟨g1, t1⟩ := good_pack (show B.length ≤ 4096 by omega)
  exact goodT_iff.2 ⟨g1, by omega⟩
theorem catT_pack (s x : ByteArray) (B C : List Int) (hB : B.length = s.size) (hC : C.length = x.size) (h : s.size + x.size ≤ 4096) : catT s (pack B) x (pack C) = (s ++ x, pack (B ++ C), 0) := by
  have g1 := goodT_pack hB (by omega)
  have g2 := goodT_pack hC (by omega)
  unfold catT spliceT
  rw [if_pos (withinT_iff.2 ⟨g1, by omega, by omega, by omega⟩), if_pos g2, if_neg (by omega), Int.toNat_natCast, pack_bytes, pack_bytes, ext_all, ext_none, ← hB, List.take_length, List.drop_length, List.append_nil, ByteArray.append_empty]
end Go.Proofs.Ytnbdldpjiofafaa.PB
end

section
namespace Go.Proofs.Ytnbdldpjiofafaa.PB
open Go.RowKit Go.Proofs.YtnbdldpjiofafaaW.PrintWords
set_option linter.unusedVariables false
def goodE (a : Int) (o : ByteArray) (ol : List S51) (n : ByteArray) (nl : List S51) : Bool := goodT o ol && (goodT n nl && (decide (0 ≤ a) && decide (a ≤ 4096)))
theorem goodE_iff {a : Int} {o n : ByteArray} {ol nl : List S51} : goodE a o ol n nl = true ↔ goodT o ol = true ∧ goodT n nl = true ∧ 0 ≤ a ∧ a ≤ 4096 := by simp [goodE]
theorem rgoodE_ev (a : Int) (o : ByteArray) (ol : List S51) (n : ByteArray) (nl : List S51) (hl : ol.length ≤ big) (hm : nl.length ≤ big) : Ev (fun k => bureauref07_Good.f k a o ol n nl) (goodE a o ol n nl) := by
  unfold bureauref07_Good.f
  refine Ev.bind (rgoodT_ev o ol hl) ?_
  by_cases h1 : goodT o ol = true
  · refine Ev.pos h1 (Ev.bind (rgoodT_ev n nl hm) ?_)
    by_cases h2 : goodT n nl = true
    · refine Ev.pos h2 ?_
      by_cases h3 : 0 ≤ a
      · exact Ev.pos h3 (ev_val (Ev.now _) (by simp [goodE, h1, h2, h3]))
      · exact Ev.neg h3 (ev_val (Ev.now _) (by simp [goodE, h3]))
    · exact Ev.neg h2 (ev_val (Ev.now _) (by simp [goodE, h2]))
  · exact Ev.neg h1 (ev_val (Ev.now _) (by simp [goodE, h1]))
theorem own_eq (s : ByteArray) (l : List S51) (hl : l.length ≤ big) : edit_own.f s l = some (s, l) := by
  unfold edit_own.f
  unfold big at hl
  rw [if_pos (by omega)]
theorem ext_list (s : ByteArray) (i j : Nat) : (s.extract i j).data.toList = (s.data.toList.take j).drop i := by
  rw [ByteArray.data_extract, Array.toList_extract, List.extract_eq_take_drop, List.drop_take]
theorem size_list (s : ByteArray) : s.data.toList.length = s.size := by rw [Array.length_toList]; rfl
theorem app_list (s t : ByteArray) : (s ++ t).data.toList = s.data.toList ++ t.data.toList := by rw [ByteArray.data_append, Array.toList_append]
theorem data_inj {a b : ByteArray} (h : a.data.toList = b.data.toList) : a = b := ByteArray.ext (Array.toList_inj.1 h)
theorem ext_split (s : ByteArray) (i j : Nat) (hij : i ≤ j) (hj : j ≤ s.size) : s = s.extract 0 i ++ s.extract i j ++ s.extract j s.size := by
  apply data_inj
  rw [app_list, app_list, ext_list, ext_list, ext_list, List.drop_zero, ← size_list s, List.take_length]
  conv => lhs; rw [← List.take_append_drop j s.data.toList]
  congr 1
  conv => lhs; rw [← List.take_append_drop i (s.data.toList.take j)]
  rw [List.take_take, Nat.min_eq_left hij]
end Go.Proofs.Ytnbdldpjiofafaa.PB
end

section
namespace Go.Proofs.Ytnbdldpjiofafaa.PB
open Go.RowKit Go.Proofs.YtnbdldpjiofafaaW.PrintWords
set_option linter.unusedVariables false
def fitE (o : ByteArray) (ol : List S51) (n : ByteArray) (nl : List S51) : Prop := (o.size ≤ 5000 ∧ ol.length ≤ 5000) ∧ (n.size ≤ 5000 ∧ nl.length ≤ 5000)
instance (o : ByteArray) (ol : List S51) (n : ByteArray) (nl : List S51) : Decidable (fitE o ol n nl) := inferInstanceAs (Decidable (_ ∧ _))
end Go.Proofs.Ytnbdldpjiofafaa.PB
end

section
namespace Go.Proofs.Ytnbdldpjiofafaa.PB
open Go.RowKit Go.Proofs.YtnbdldpjiofafaaW.PrintWords
set_option linter.unusedVariables false
abbrev EX := Int × ByteArray × List S51 × ByteArray × List S51 × Int
def ofS (s : ByteArray) (l : List S51) (a b : Int) (x : ByteArray) (m : List S51) : EX :=
  if (spliceT s l a b x m).2.2 = 0 then (a, (cutS s l a b).1, (cutS s l a b).2.1, x, m, 0) else (0, ⟨#[]⟩, [], ⟨#[]⟩, [], (spliceT s l a b x m).2.2)
theorem splice_cut {s : ByteArray} {l : List S51} {a b : Int} {x : ByteArray} {m : List S51} (h : (spliceT s l a b x m).2.2 = 0) : withinT s l a b = true ∧ goodT x m = true ∧ ¬ (s.size : Int) - (b - a) + (x.size : Int) > 4096 ∧ (cutS s l a b).2.2 = 0 := by
  unfold spliceT at h
  by_cases hw : withinT s l a b = true
  · rw [if_pos hw] at h
    by_cases hg : goodT x m = true
    · rw [if_pos hg] at h
      by_cases hb : (s.size : Int) - (b - a) + (x.size : Int) > 4096
      · rw [if_pos hb] at h; cases h
      · exact ⟨hw, hg, hb, by unfold cutS; rw [if_pos hw]⟩
    · rw [if_neg hg] at h; cases h
  · rw [if_neg hw] at h; cases h
theorem of_ev (s : ByteArray) (l : List S51) (hl : l.length ≤ big) (a b : Int) (x : ByteArray) (m : List S51) (hm : m.length ≤ big) : Ev (fun k => edit_Of.f k s l a b x m) (ofS s l a b x m) := by
  unfold edit_Of.f ofS
  refine Ev.bind (splice4_ev s l hl a b x m hm) (Ev.ite (fun h => ?_) (fun _ => Ev.now _))
  refine Ev.bind (cut_ev s l hl a b) ?_
  rw [own_eq x m hm]
  refine Ev.bind (Ev.now _) (ev_val (Ev.now _) ?_)
  rw [(splice_cut h).2.2.2]
end Go.Proofs.Ytnbdldpjiofafaa.PB
end

section
namespace Go.Proofs.Ytnbdldpjiofafaa.PB
open Go.RowKit Go.Proofs.YtnbdldpjiofafaaW.PrintWords
set_option linter.unusedVariables false
structure Alike (y : Int) (s : ByteArray) (l : List S51) (s' : ByteArray) (l' : List S51) : Prop where
  runs : l = l'
  size : s.size = s'.size
  view : goodT s l = true → hideAll y (bytes l) (bytesOf s) = hideAll y (bytes l) (bytesOf s')
theorem Alike.good {y : Int} {s s' : ByteArray} {l l' : List S51} (h : Alike y s l s' l') : goodT s l = goodT s' l' := by
  obtain ⟨rfl, h2, _⟩ := h
  unfold goodT
  rw [h2]
section
variable {y : Int} {s s' x x' : ByteArray} {l l' m m' : List S51}
end
end Go.Proofs.Ytnbdldpjiofafaa.PB
end

section
namespace Go.Proofs.Ytnbdldpjiofafaa.PB
open Go.RowKit Go.Proofs.YtnbdldpjiofafaaW.PrintWords
set_option linter.unusedVariables false
set_option maxHeartbeats 1000000
def rangeL (L : List Int) : Prop := ∀ x ∈ L, 0 ≤ x ∧ x < 18446744073709551616
theorem seen_or2 {x z y : Int} (hx : 0 ≤ x ∧ x < 18446744073709551616) (hz : 0 ≤ z ∧ z < 18446744073709551616) (hy : 0 ≤ y ∧ y < 18446744073709551616) : seen (Go.bits .or .u64 x z) y = (seen x y && seen z y) := by
  obtain ⟨x, rfl⟩ := Int.eq_ofNat_of_zero_le hx.1
  obtain ⟨z, rfl⟩ := Int.eq_ofNat_of_zero_le hz.1
  obtain ⟨y, rfl⟩ := Int.eq_ofNat_of_zero_le hy.1
  have hx' : x < 2 ^ 64 := by omega
  have hy' : y < 2 ^ 64 := by omega
  have hz' : z < 2 ^ 64 := by omega
  unfold seen
  rw [u64_or_nat x z (by omega) (by omega), belowN_bits (x ||| z) y (Nat.or_lt_two_pow hx' hz') hy', belowN_bits x y hx' hy', belowN_bits z y hz' hy', Bool.eq_iff_iff, Bool.and_eq_true]
  unfold belowN
  rw [List.all_eq_true, List.all_eq_true, List.all_eq_true]
  constructor
  · intro h
    refine ⟨fun i hi => ?_, fun i hi => ?_⟩ <;> (have := h i hi; rw [Nat.testBit_or] at this; cases hx : x.testBit i <;> cases hz : z.testBit i <;> simp_all)
  · rintro ⟨h1, h2⟩ i hi
    have a := h1 i hi
    have b := h2 i hi
    rw [Nat.testBit_or]
    cases hx : x.testBit i <;> cases hz : z.testBit i <;> simp_all
theorem or_range {x z : Int} (hx : 0 ≤ x ∧ x < 18446744073709551616) (hz : 0 ≤ z ∧ z < 18446744073709551616) : 0 ≤ Go.bits .or .u64 x z ∧ Go.bits .or .u64 x z < 18446744073709551616 := by
  obtain ⟨x, rfl⟩ := Int.eq_ofNat_of_zero_le hx.1
  obtain ⟨z, rfl⟩ := Int.eq_ofNat_of_zero_le hz.1
  have h := Nat.or_lt_two_pow (n := 64) (show x < 2 ^ 64 by omega) (show z < 2 ^ 64 by omega)
  rw [u64_or_nat x z (by omega) (by omega)]
  omega
theorem seen_zero {y : Int} (hy : 0 ≤ y ∧ y < 18446744073709551616) : seen 0 y = true := by
  obtain ⟨y, rfl⟩ := Int.eq_ofNat_of_zero_le hy.1
  unfold seen
  have := belowN_bits 0 y (by decide) (by omega)
  rw [show ((0 : Nat) : Int) = 0 from rfl] at this
  rw [this]
  exact belowN_yes (fun i _ h => by simp at h)
theorem seen_all {y : Int} (hy : 0 ≤ y ∧ y < 18446744073709551616) (B : List Int) (hB : rangeL B) : seen (orAllI B) y = B.all (fun x => seen x y) := by
  have : ∀ (B : List Int) (a : Int), 0 ≤ a ∧ a < 18446744073709551616 → rangeL B → seen (B.foldl (fun a x => Go.bits .or .u64 a x) a) y = (seen a y && B.all (fun x => seen x y)) := by
    intro B
    induction B with
    | nil => intro a ha _; simp
    | cons x B ih =>
      intro a ha hB
      have hx := hB x List.mem_cons_self
      rw [List.foldl_cons, ih _ (or_range ha hx) (fun z hz => hB z (List.mem_cons_of_mem _ hz)), seen_or2 ha hx hy, List.all_cons, Bool.and_assoc]
  unfold orAllI
  rw [this B 0 (by decide) hB, seen_zero hy, Bool.true_and]
theorem wadd (a b : Nat) (h : a + b ≤ 1000000000000000) : wrap64 ((a : Int) + (b : Int)) = ((a + b : Nat) : Int) := by unfold wrap64; omega
theorem wadd1 (a : Nat) (h : a ≤ 1000000000000000) : wrap64 ((a : Int) + 1) = ((a + 1 : Nat) : Int) := by unfold wrap64; omega
def hitS (cs pat : List UInt8) (L : List Int) (y : Int) (e p : Nat) : Bool := decide (p + pat.length ≤ e) && (((cs.drop p).take pat.length == pat) && ((L.drop p).take pat.length).all (fun x => seen x y))
theorem hitS_iff {cs pat : List UInt8} {L : List Int} {y : Int} {e p : Nat} : hitS cs pat L y e p = true ↔ p + pat.length ≤ e ∧ (cs.drop p).take pat.length = pat ∧ ((L.drop p).take pat.length).all (fun x => seen x y) = true := by
  unfold hitS; simp only [Bool.and_eq_true, decide_eq_true_eq, beq_iff_eq]
structure Fine (s : ByteArray) (l : List S51) (y : Int) : Prop where
  good : goodT s l = true
  len : l.length ≤ big
  lab : ∀ r ∈ l, 0 ≤ r.f0 ∧ r.f0 < 18446744073709551616
  lev : 0 ≤ y ∧ y < 18446744073709551616
theorem Fine.size {s : ByteArray} {l : List S51} {y : Int} (h : Fine s l y) : s.size ≤ 4096 ∧ (bytes l).length = s.size := by
  obtain ⟨g1, g2, g3, g4, g5⟩ := goodT_facts h.good
  exact ⟨g4, g3⟩
theorem Fine.range {s : ByteArray} {l : List S51} {y : Int} (h : Fine s l y) : rangeL (bytes l) := fun x hx => by
  obtain ⟨r, hr, e⟩ := bytes_mem hx
  rw [← e]; exact h.lab r hr
theorem seen_ev {s : ByteArray} {l : List S51} {y : Int} (h : Fine s l y) (p q : Nat) (hpq : p ≤ q) (hq : q ≤ s.size) : Ev (fun k => subst_seen.f k s l y (p : Int) (q : Int)) ((((bytes l).take q).drop p).all (fun x => seen x y)) := by
  obtain ⟨g1, g2, g3, g4, g5⟩ := goodT_facts h.good
  have hw : withinB l (p : Int) (q : Int) = true := withinB_iff.2 ⟨g1, by omega, by omega, by omega⟩
  have hr : rangeL (((bytes l).take q).drop p) := fun x hx => h.range x (List.mem_of_mem_take (List.mem_of_mem_drop hx))
  have hlen : (((bytes l).take q).drop p).length ≤ 4096 := by rw [List.length_drop, List.length_take]; omega
  unfold subst_seen.f
  refine Ev.bind (slice_ev l h.len (p : Int) (q : Int)) ?_
  unfold sliceS
  rw [if_pos hw, Int.toNat_natCast, Int.toNat_natCast]
  generalize ((bytes l).take q).drop p = B at *
  have hpl : (pack B).length ≤ big := by have := pack_len B; unfold big; omega
  refine Ev.bind (all_ev (pack B) hpl) ?_
  have e : orAllI (pos1 (pack B)) = orAllI B := by
    rw [← orAllI_bytes, pack_bytes]
    intro r hrm
    have hm : r.f0 ∈ bytes (pack B) := by
      unfold bytes
      rw [List.mem_flatMap]
      have hn := pack_nrm B
      refine ⟨r, hrm, ?_⟩
      have hpos : 1 ≤ r.f1 := nrm_pos hn r hrm
      rw [List.mem_replicate]
      exact ⟨by omega, rfl⟩
    rw [pack_bytes] at hm
    exact hr _ hm
  rw [e]
  unfold label_Below.f
  refine Ev.bind (Ev.now _) (ev_val (Ev.now _) ?_)
  exact seen_all h.lev B hr
theorem occ_iff (l sub : List UInt8) (i : Nat) : Lib.occAt l sub i = true ↔ (l.drop i).take sub.length = sub := by
  unfold Lib.occAt
  rw [List.isPrefixOf_iff_prefix, List.prefix_iff_eq_take]
  exact ⟨fun h => h.symm, fun h => h.symm⟩
theorem drop_take_drop {α : Type} (l : List α) (a e p m : Nat) (h1 : a ≤ p) (h2 : p + m ≤ e) : ((((l.take e).drop a).drop (p - a)).take m) = (l.drop p).take m := by
  rw [List.drop_drop, show a + (p - a) = p by omega, List.drop_take, List.take_take, Nat.min_eq_left (by omega)]
theorem index_step (cs pat : List UInt8) (L : List Int) (y : Int) (every : Bool) (e a : Nat) (hp : 1 ≤ pat.length) (hlt : a < e) (he : e ≤ cs.length) :
    (Lib.index ((cs.take e).drop a) pat = -1 ∧ places every (hitS cs pat L y e) pat.length e a = []) ∨
    ∃ i : Nat, Lib.index ((cs.take e).drop a) pat = (i : Int) ∧ a + i + pat.length ≤ e ∧ places every (hitS cs pat L y e) pat.length e a = places every (hitS cs pat L y e) pat.length e (a + i) ∧
      hitS cs pat L y e (a + i) = ((L.drop (a + i)).take pat.length).all (fun x => seen x y) := by
  have hlen : ((cs.take e).drop a).length = e - a := by rw [List.length_drop, List.length_take]; omega
  rcases Lib.index_spec ((cs.take e).drop a) pat with ⟨hi, hno⟩ | ⟨i, hi, hil, hocc, hno⟩
  · refine .inl ⟨hi, places_none hp (fun k h1 h2 hh => ?_)⟩
    obtain ⟨e1, e2, _⟩ := hitS_iff.1 hh
    have := hno (k - a) (by omega)
    rw [Bool.eq_false_iff] at this
    exact this ((occ_iff _ _ _).2 (by rw [drop_take_drop _ _ _ _ _ h1 e1]; exact e2))
  · have hroom := Lib.index_room ((cs.take e).drop a) pat (by rw [hi]; omega)
    rw [hi, hlen] at hroom
    have hm := (occ_iff _ _ _).1 hocc
    have hpe : a + i + pat.length ≤ e := by omega
    have hm2 : (cs.drop (a + i)).take pat.length = pat := by
      have := drop_take_drop cs a e (a + i) pat.length (by omega) (by omega)
      rw [show a + i - a = i by omega] at this
      rw [← this]; exact hm
    refine .inr ⟨i, hi, hpe, places_skip hp i a (by omega) (fun k hk hh => ?_), ?_⟩
    · obtain ⟨e1, e2, _⟩ := hitS_iff.1 hh
      have := hno k hk
      rw [Bool.eq_false_iff] at this
      exact this ((occ_iff _ _ _).2 (by
        have q := drop_take_drop cs a e (a + k) pat.length (by omega) e1
        rw [show a + k - a = k by omega] at q
        rw [q]; exact e2))
    · rw [Bool.eq_iff_iff, hitS_iff]
      exact ⟨fun q => q.2.2, fun q => ⟨hpe, hm2, q⟩⟩
theorem idx_is (s pat : ByteArray) (a e : Nat) (hs : s.size ≤ 4096) : strings_Index.f (s.extract a e) pat = some (Lib.index ((s.data.toList.take e).drop a) pat.data.toList) := by
  unfold strings_Index.f
  have hsz : (s.extract a e).size < 4294967281 := by rw [ByteArray.size_extract]; omega
  rw [if_pos hsz, ext_list]
theorem places_ev {s : ByteArray} {l : List S51} {y : Int} (h : Fine s l y) (A B : Int) (pat rep : ByteArray) (every : Bool) (hp : 1 ≤ pat.size) (a e : Nat) (hae : a ≤ e) (he : e ≤ s.size) :
    Ev (fun k => subst_places.f k s l y A B pat rep every (a : Int) (e : Int)) ((places every (hitS s.data.toList pat.data.toList (bytes l) y e) pat.data.toList.length e a).map (fun i : Nat => (i : Int))) := by
  have h4 := h.size.1
  have hidx := fun a e => idx_is s pat a e h4
  have hcs : e ≤ s.data.toList.length := by rw [← Lib.size_eq]; exact he
  have hps : pat.size = pat.data.toList.length := Lib.size_eq pat
  have hpl : 1 ≤ pat.data.toList.length := by rw [← hps]; exact hp
  have hstep := fun a ha => index_step s.data.toList pat.data.toList (bytes l) y every e a hpl ha hcs
  have hseen := fun p q hpq hq => seen_ev h p q hpq hq
  obtain ⟨n, hn⟩ : ∃ n, s.size = n := ⟨_, rfl⟩
  have hsn : (s.size : Int) = (n : Int) := by rw [hn]
  have hpn : (pat.size : Int) = (pat.data.toList.length : Int) := by rw [hps]
  rw [hn] at he h4 hseen
  generalize pat.data.toList.length = m at *
  generalize hhit : hitS s.data.toList pat.data.toList (bytes l) y e = hit at *
  clear hhit hps hcs
  have loop : ∀ (d a : Nat) (acc : List Int), e - a ≤ d → a ≤ e → acc.length ≤ a → Ev (fun k => subst_places.l0 k y (e : Int) acc (a : Int) s l A B pat rep every) (acc ++ (places every hit m e a).map (fun i : Nat => (i : Int))) := by
    intro d
    induction d with
    | zero =>
      intro a acc hd ha hacc
      refine Ev.step (fun k => by simp only [subst_places.l0]; rfl) ?_
      refine Ev.neg (by omega) ?_
      rw [places_end (by omega), List.map_nil, List.append_nil]
      exact Ev.now _
    | succ d ih =>
      intro a acc hd ha hacc
      refine Ev.step (fun k => by simp only [subst_places.l0]; rfl) ?_
      by_cases hlt : a < e
      · refine Ev.pos (by omega) (Ev.pos (by omega) (Ev.pos (by omega) (Ev.pos (by rw [hsn]; omega) ?_)))
        rw [Int.toNat_natCast, Int.toNat_natCast, hidx]
        refine Ev.bind (Ev.now _) ?_
        rcases hstep a hlt with ⟨hi, hno⟩ | ⟨i, hi, hpe, hskip, hs⟩
        · rw [hi, hno, List.map_nil, List.append_nil]
          exact Ev.pos (by decide) (Ev.now _)
        · rw [hi, hskip]
          clear hi hskip hidx
          have hb : a + i + m ≤ 4096 := Nat.le_trans hpe (Nat.le_trans he h4)
          rw [hpn, wadd a i (by omega), wadd (a + i) m (by omega), wadd1 (a + i) (by omega)]
          refine Ev.neg (by omega) ?_
          have hsv := hseen (a + i) (a + i + m) (by omega) (by omega)
          rw [List.drop_take, show a + i + m - (a + i) = m by omega, ← hs] at hsv
          refine Ev.bind hsv ?_
          by_cases hh : hit (a + i) = true
          · rw [places_hit hpl (by omega) hh]
            refine Ev.pos hh (Ev.pos (by omega) (Ev.bind (Ev.now _) ?_))
            by_cases hev : every = true
            · rw [if_pos hev]
              refine Ev.pos hev (ev_val (ih (a + i + m) (acc ++ [((a + i : Nat) : Int)]) (by omega) (by omega) (by rw [List.length_append, List.length_singleton]; omega)) ?_)
              simp
            · rw [if_neg hev]
              exact Ev.neg hev (ev_val (Ev.now _) (by simp))
          · rw [places_miss hpl (by omega) hh]
            exact Ev.neg hh (ih (a + i + 1) acc (by omega) (by omega) (by omega))
      · refine Ev.neg (by omega) ?_
        rw [places_end (by omega), List.map_nil, List.append_nil]
        exact Ev.now _
  unfold subst_places.f
  exact loop (e - a) a [] (Nat.le_refl _) hae (by simp)
end Go.Proofs.Ytnbdldpjiofafaa.PB
end

section
namespace Go.Proofs.Ytnbdldpjiofafaa.PB
open Go.RowKit Go.Proofs.YtnbdldpjiofafaaW.PrintWords
set_option linter.unusedVariables false
set_option maxHeartbeats 1000000
def allP (f : Nat → List Nat) : Nat → Nat → List Nat
  | _, 0 => []
  | n, d + 1 => f n ++ allP f (n + 1) d
def lineP (v s pat : ByteArray) (l : List S51) (y : Int) (every : Bool) (n : Nat) : List Nat :=
  places every (hitS s.data.toList pat.data.toList (bytes l) y (lineTo v n)) pat.data.toList.length (lineTo v n) (lineFrom v n)
end Go.Proofs.Ytnbdldpjiofafaa.PB
end

section
namespace Go.Proofs.Ytnbdldpjiofafaa.PB
open Go.RowKit Go.Proofs.YtnbdldpjiofafaaW.PrintWords
set_option linter.unusedVariables false
set_option maxHeartbeats 1000000
abbrev ints (l : List Nat) : List Int := l.map (fun i : Nat => (i : Int))
def bld (s r : ByteArray) (m a : Nat) (ps : List Nat) (e : Nat) : ByteArray := ⟨(buildS s.data.toList r.data.toList m a ps e).toArray⟩
theorem bld_list (s r : ByteArray) (m a : Nat) (ps : List Nat) (e : Nat) : (bld s r m a ps e).data.toList = buildS s.data.toList r.data.toList m a ps e := by unfold bld; rfl
theorem bld_size (s r : ByteArray) (m a : Nat) (ps : List Nat) (e : Nat) : (bld s r m a ps e).size = (buildS s.data.toList r.data.toList m a ps e).length := by rw [Lib.size_eq, bld_list]
theorem bld_nil (s r : ByteArray) (m a e : Nat) : bld s r m a [] e = s.extract a e := data_inj (by rw [bld_list, ext_list]; rfl)
theorem bld_cons (s r : ByteArray) (m a p : Nat) (ps : List Nat) (e : Nat) : bld s r m a (p :: ps) e = s.extract a p ++ (r ++ bld s r m (p + m) ps e) := data_inj (by rw [bld_list, app_list, app_list, bld_list, ext_list]; rfl)
theorem cut_ok {s : ByteArray} {l : List S51} {y : Int} (h : Fine s l y) (a p : Nat) (h1 : a ≤ p) (h2 : p ≤ s.size) : cutS s l (a : Int) (p : Int) = (s.extract a p, pack (((bytes l).take p).drop a), 0) := by
  unfold cutS
  rw [if_pos (withinT_iff.2 ⟨h.good, by omega, by omega, by omega⟩), Int.toNat_natCast, Int.toNat_natCast]
theorem packBig {C : List Int} {n : Nat} (h : C.length = n) (hn : n ≤ 20000) : (pack C).length ≤ big := by have := pack_len C; unfold big; omega
theorem cut_ev' {s : ByteArray} {l : List S51} {y : Int} (h : Fine s l y) (a p : Nat) (h1 : a ≤ p) (h2 : p ≤ s.size) : Ev (fun k => strip_Cut.f k s l (a : Int) (p : Int)) (s.extract a p, pack (((bytes l).take p).drop a), 0) := ev_val (cut_ev s l h.len _ _) (cut_ok h a p h1 h2)
theorem cat_ev' (X Z : ByteArray) (C D : List Int) (hC : C.length = X.size) (hD : D.length = Z.size) (h : X.size + Z.size ≤ 4096) : Ev (fun k => strip_Cat.f k X (pack C) Z (pack D)) (X ++ Z, pack (C ++ D), 0) :=
  ev_val (cat4_ev X (pack C) (packBig hC (by omega)) Z (pack D) (packBig hD (by omega))) (catT_pack X Z C D hC hD h)
theorem rd_at {all ps : List Nat} {i p : Nat} (h : all.drop i = p :: ps) (z : Int) : rd (ints all ++ [z]) (i : Int) = (p : Int) := by
  have hi : i < all.length := by
    rcases Nat.lt_or_ge i all.length with q | q
    · exact q
    · rw [List.drop_eq_nil_of_le q] at h; cases h
  rw [List.drop_eq_getElem_cons hi] at h
  injection h with h _
  unfold rd ints
  rw [Int.toNat_natCast, List.getD_eq_getElem?_getD, List.getElem?_append_left (by rw [List.length_map]; exact hi), List.getElem?_map, List.getElem?_eq_getElem hi, h]
  rfl
theorem rd_end {all : List Nat} {i : Nat} (h : i = all.length) (z : Int) : rd (ints all ++ [z]) (i : Int) = z := by
  subst h
  unfold rd ints
  rw [Int.toNat_natCast, List.getD_eq_getElem?_getD, List.getElem?_append_right (by rw [List.length_map]; exact Nat.le_refl _), List.length_map, Nat.sub_self]
  rfl
theorem ints_len (all : List Nat) (z : Int) : (ints all ++ [z]).length = all.length + 1 := by simp [ints]
abbrev DX := Int × ByteArray × (List S51) × ByteArray × (List S51) × Int × Int
def badD (c : Int) : DX := (0, ⟨#[]⟩, [], ⟨#[]⟩, [], 0, c)
def okD (s : ByteArray) (l : List S51) (fr e : Nat) (T : ByteArray) (D : List Int) (n : Int) : DX := ((fr : Int), s.extract fr e, pack (((bytes l).take e).drop fr), T, pack D, n, 0)
theorem splice_ok0 {s : ByteArray} {l : List S51} {y : Int} (h : Fine s l y) (fr e : Nat) (T : ByteArray) (D : List Int) (h1 : fr ≤ e) (h2 : e ≤ s.size) (hD : D.length = T.size) (hT : T.size ≤ 4096) (hz : (s.size : Int) - ((e : Int) - (fr : Int)) + (T.size : Int) ≤ 4096) :
    (spliceT s l (fr : Int) (e : Int) T (pack D)).2.2 = 0 := by
  unfold spliceT
  rw [if_pos (withinT_iff.2 ⟨h.good, by omega, by omega, by omega⟩), if_pos (goodT_pack hD hT), if_neg (by omega)]
theorem of_ok {s : ByteArray} {l : List S51} {y : Int} (h : Fine s l y) (fr e : Nat) (T : ByteArray) (D : List Int) (h1 : fr ≤ e) (h2 : e ≤ s.size) (hD : D.length = T.size) (hT : T.size ≤ 4096) (hz : (s.size : Int) - ((e : Int) - (fr : Int)) + (T.size : Int) ≤ 4096) :
    ofS s l (fr : Int) (e : Int) T (pack D) = ((fr : Int), s.extract fr e, pack (((bytes l).take e).drop fr), T, pack D, 0) := by
  unfold ofS
  rw [if_pos (splice_ok0 h fr e T D h1 h2 hD hT hz), cut_ok h fr e h1 h2]
theorem fwd_ev {s : ByteArray} {l : List S51} {y : Int} (h : Fine s l y) (A B : Int) (pat rep : ByteArray) (every : Bool) (fr e : Nat) (x11 : List Int) (all : List Nat) (hp : 1 ≤ pat.size) (hfe : fr ≤ e) (he : e ≤ s.size) (hall : all.length ≤ 5000) (hfin : ∀ T : ByteArray, ∀ D : List Int, D.length = T.size → T = bld s rep pat.size fr all e → T.size ≤ 4096 ∧ (s.size : Int) - ((e : Int) - (fr : Int)) + (T.size : Int) ≤ 4096) :
    ∀ (ps : List Nat) (i a : Nat) (X : ByteArray) (C : List Int), all.drop i = ps → i + ps.length = all.length → a ≤ e + pat.size → spaced pat.size a ps e → C.length = X.size → X ++ bld s rep pat.size a ps e = bld s rep pat.size fr all e → C ++ buildS (bytes l) (List.replicate rep.size y) pat.size a ps e = buildS (bytes l) (List.replicate rep.size y) pat.size fr all e →
      Ev (fun k => subst_Do.l1 k x11 (fr : Int) (e : Int) (a : Int) (ints all ++ [(e : Int)]) ((ints all ++ [(e : Int)]).length : Int) (i : Int) s l A B pat rep every rep (pack (List.replicate rep.size y)) X (pack C))
        (okD s l fr e (bld s rep pat.size fr all e) (buildS (bytes l) (List.replicate rep.size y) pat.size fr all e) (x11.length : Int)) := by
  have h4 := h.size.1
  have hL := h.size.2
  have hlen := ints_len all (e : Int)
  have hF := hfin
  have hR : (List.replicate rep.size y).length = rep.size := List.length_replicate
  have hbd := fun (a p : Nat) (hap : a ≤ p) (hpe : p ≤ e) => show (((bytes l).take p).drop a).length = (s.extract a p).size from by
    rw [ByteArray.size_extract, List.length_drop, List.length_take]; omega
  have hbz := fun (a p : Nat) (hpe : p ≤ e) => show (s.extract a p).size = p - a from by rw [ByteArray.size_extract]; omega
  intro ps
  induction ps with
  | nil =>
    intro i a X C hd hi ha hsp hC hT hB
    have hil : i = all.length := by simpa using hi
    have hae : a ≤ e := hsp
    have hq := hF (X ++ s.extract a e) (C ++ ((bytes l).take e).drop a) (by rw [List.length_append, ByteArray.size_append, hC, hbd a e hae (Nat.le_refl _)]) (by rw [← hT, bld_nil])
    have hsum : X.size + (s.extract a e).size ≤ 4096 := by have := hq.1; rw [ByteArray.size_append] at this; exact this
    refine Ev.step (fun k => by simp only [subst_Do.l1]; rfl) ?_
    rw [rd_end hil, hlen]
    refine Ev.pos (by omega) (Ev.pos (by omega) (Ev.pos (by omega) (Ev.bind (cut_ev' h a e hae he) (Ev.bind (cat_ev' X (s.extract a e) C _ hC (hbd a e hae (Nat.le_refl _)) hsum) (Ev.neg (by omega) ?_)))))
    rw [wadd1 i (by omega)]
    refine Ev.step (fun k => by simp only [subst_Do.l1]; rfl) (Ev.neg (by omega) ?_)
    refine Ev.bind (of_ev s l h.len _ _ _ _ (packBig (n := (X ++ s.extract a e).size) (by rw [List.length_append, ByteArray.size_append, hC, hbd a e hae (Nat.le_refl _)]) (by have := hq.1; omega))) (ev_val (Ev.now _) ?_)
    rw [of_ok h fr e _ _ hfe he (by rw [List.length_append, ByteArray.size_append, hC, hbd a e hae (Nat.le_refl _)]) hq.1 hq.2]
    rw [← hT, ← hB, bld_nil]
    rfl
  | cons p ps ih =>
    intro i a X C hd hi ha hsp hC hT hB
    have hap : a ≤ p := hsp.1
    have hpe := spaced_le hsp.2
    have hpe' : p < e := by omega
    have hi' : i + ps.length + 1 = all.length := by rw [List.length_cons] at hi; omega
    rw [bld_cons] at hT
    have hB' : C ++ (((bytes l).take p).drop a ++ (List.replicate rep.size y ++ buildS (bytes l) (List.replicate rep.size y) pat.size (p + pat.size) ps e)) = buildS (bytes l) (List.replicate rep.size y) pat.size fr all e := hB
    have hz : (X ++ (s.extract a p ++ (rep ++ bld s rep pat.size (p + pat.size) ps e))).size ≤ 4096 := by
      have hq := hF (bld s rep pat.size fr all e) (List.replicate (bld s rep pat.size fr all e).size 0) List.length_replicate rfl
      rw [hT]; exact hq.1
    rw [ByteArray.size_append, ByteArray.size_append, ByteArray.size_append] at hz
    have hb1 := hbd a p hap (by omega)
    refine Ev.step (fun k => by simp only [subst_Do.l1]; rfl) ?_
    rw [rd_at hd, hlen]
    refine Ev.pos (by omega) (Ev.pos (by omega) (Ev.pos (by omega) (Ev.bind (cut_ev' h a p hap (by omega)) (Ev.bind (cat_ev' X (s.extract a p) C _ hC hb1 (by omega)) (Ev.pos (by omega) (Ev.bind (cat_ev' (X ++ s.extract a p) rep _ _ (by rw [List.length_append, ByteArray.size_append, hC, hb1]) hR (by rw [ByteArray.size_append]; omega)) ?_))))))
    rw [wadd1 i (by omega), wadd p pat.size (by omega), ← hlen]
    refine ih (i + 1) (p + pat.size) _ _ ?_ (by omega) (by omega) hsp.2 ?_ ?_ ?_
    · rw [← List.drop_drop, hd]; rfl
    · rw [List.length_append, List.length_append, ByteArray.size_append, ByteArray.size_append, hC, hb1, hR]
    · rw [← hT]; exact data_inj (by simp only [app_list, List.append_assoc])
    · rw [← hB']; simp only [List.append_assoc]
end Go.Proofs.Ytnbdldpjiofafaa.PB
end

section
namespace Go.Proofs.Ytnbdldpjiofafaa.PB
open Go.RowKit Go.Proofs.YtnbdldpjiofafaaW.PrintWords
set_option linter.unusedVariables false
set_option maxHeartbeats 1000000
section
variable {s : ByteArray} {l : List S51} {y : Int}
theorem lineP_spaced (v s pat : ByteArray) (l : List S51) (y : Int) (every : Bool) (hp : 1 ≤ pat.size) (n : Nat) (h : n < (ends v).length) :
    spaced pat.size (lineFrom v n) (lineP v s pat l y every n) (lineTo v n) ∧ ∀ p ∈ lineP v s pat l y every n, hitS s.data.toList pat.data.toList (bytes l) y (lineTo v n) p = true := by
  have hr := line_range v n h
  rw [Lib.size_eq] at hp ⊢
  exact places_spaced (every := every) (hit := hitS s.data.toList pat.data.toList (bytes l) y (lineTo v n)) (m := pat.data.toList.length) (e := lineTo v n) hp (fun k hk => (hitS_iff.1 hk).1) (lineTo v n - lineFrom v n) (lineFrom v n) (Nat.le_refl _) hr.1
theorem lineP_len (v s pat : ByteArray) (l : List S51) (y : Int) (every : Bool) (hp : 1 ≤ pat.size) (n : Nat) (h : n < (ends v).length) : (lineP v s pat l y every n).length ≤ v.size := by
  have hr := line_range v n h
  have q1 := (lineP_spaced v s pat l y every hp n h).1
  have q2 := spaced_len hp q1
  have q3 := Nat.le_mul_of_pos_right (lineP v s pat l y every n).length hp
  omega
theorem allP_spaced (v s pat : ByteArray) (l : List S51) (y : Int) (every : Bool) (hp : 1 ≤ pat.size) : ∀ (d n : Nat), n + d < (ends v).length →
    spaced pat.size (lineFrom v n) (allP (lineP v s pat l y every) n (d + 1)) (lineTo v (n + d)) ∧ ∀ p ∈ allP (lineP v s pat l y every) n (d + 1), ∃ q, n ≤ q ∧ q ≤ n + d ∧ p ∈ lineP v s pat l y every q ∧ hitS s.data.toList pat.data.toList (bytes l) y (lineTo v q) p = true := by
  intro d
  induction d with
  | zero =>
    intro n hn
    obtain ⟨q1, q2⟩ := lineP_spaced v s pat l y every hp n hn
    simp only [allP, List.append_nil, Nat.add_zero]
    exact ⟨q1, fun p hp => ⟨n, Nat.le_refl _, Nat.le_refl _, hp, q2 p hp⟩⟩
  | succ d ih =>
    intro n hn
    obtain ⟨q1, q2⟩ := lineP_spaced v s pat l y every hp n (by omega)
    obtain ⟨i1, i2⟩ := ih (n + 1) (by omega)
    have hnx := line_next v n (by omega)
    rw [show n + 1 + d = n + (d + 1) by omega] at i1
    rw [show allP (lineP v s pat l y every) n (d + 1 + 1) = lineP v s pat l y every n ++ allP (lineP v s pat l y every) (n + 1) (d + 1) from rfl]
    refine ⟨spaced_app q1 (spaced_mono (by omega) i1), fun p hpm => ?_⟩
    rcases List.mem_append.1 hpm with hpm | hpm
    · exact ⟨n, Nat.le_refl _, by omega, hpm, q2 p hpm⟩
    · obtain ⟨q, w1, w2, w3, w4⟩ := i2 p hpm
      exact ⟨q, by omega, by omega, w3, w4⟩
theorem sub_lines_ev (h : Fine s l y) (v pat rep : ByteArray) (every : Bool) (hv : v.size = s.size) (hp : 1 ≤ pat.size) (A : Int) (B : Nat) (hB : B < (ends v).length) (r : DX) :
    ∀ (d n : Nat) (acc : List Int), n + d = B + 1 → acc.length ≤ n * 5000 → Ev (fun k => subst_Do.l0 k y v (acc ++ ints (allP (lineP v s pat l y every) n d)) ((B + 1 : Nat) : Int) s l A (B : Int) pat rep every) r →
      Ev (fun k => subst_Do.l0 k y v acc (n : Int) s l A (B : Int) pat rep every) r := by
  have h4 := h.size.1
  have hends := ends_len_le v
  intro d
  induction d with
  | zero =>
    intro n acc hn hacc hr
    have : n = B + 1 := by omega
    subst this
    rw [show allP (lineP v s pat l y every) (B + 1) 0 = [] from rfl, show ints [] = [] from rfl, List.append_nil] at hr
    exact hr
  | succ d ih =>
    intro n acc hn hacc hr
    have hne : n < (ends v).length := by omega
    have hrg := line_range v n hne
    have hpl := lineP_len v s pat l y every hp n hne
    have hb := bounds_ev v (by omega) n hne
    have hps := places_ev h A (B : Int) pat rep every hp (lineFrom v n) (lineTo v n) hrg.1 (by omega)
    refine Ev.step (fun k => by simp only [subst_Do.l0]; rfl) (Ev.pos (by omega) (Ev.bind hb (Ev.bind hps ?_)))
    have hl1 : (ints (lineP v s pat l y every n)).length = (lineP v s pat l y every n).length := List.length_map _
    rw [wadd1 n (by omega)]
    refine Ev.pos ?_ (ih (n + 1) _ (by omega) ?_ ?_)
    · show acc.length + (ints (lineP v s pat l y every n)).length < _
      omega
    · show (acc ++ ints (lineP v s pat l y every n)).length ≤ _
      rw [List.length_append]
      omega
    · show Ev (fun k => subst_Do.l0 k y v ((acc ++ ints (lineP v s pat l y every n)) ++ ints (allP (lineP v s pat l y every) (n + 1) d)) ((B + 1 : Nat) : Int) s l A (B : Int) pat rep every) r
      rw [show allP (lineP v s pat l y every) n (d + 1) = lineP v s pat l y every n ++ allP (lineP v s pat l y every) (n + 1) d from rfl, show ints (lineP v s pat l y every n ++ allP (lineP v s pat l y every) (n + 1) d) = ints (lineP v s pat l y every n) ++ ints (allP (lineP v s pat l y every) (n + 1) d) from List.map_append, ← List.append_assoc] at hr
      exact hr
theorem wcount (n a b z : Nat) (hn : n ≤ 5000) (ha : a ≤ 5000) (hb : b ≤ 5000) (hz : z ≤ 5000) : wrap64 ((z : Int) + wrap64 ((n : Int) * wrap64 ((a : Int) - (b : Int)))) = (z : Int) + (((n * a : Nat) : Int) - ((n * b : Nat) : Int)) := by
  have h1 : n * a ≤ 5000 * 5000 := Nat.mul_le_mul hn ha
  have h2 : n * b ≤ 5000 * 5000 := Nat.mul_le_mul hn hb
  rw [show wrap64 ((a : Int) - (b : Int)) = (a : Int) - (b : Int) by unfold wrap64; omega, Int.mul_sub, ← Int.natCast_mul, ← Int.natCast_mul]
  generalize n * a = u at *
  generalize n * b = w at *
  rw [show wrap64 ((u : Int) - (w : Int)) = (u : Int) - (w : Int) by unfold wrap64; omega]
  unfold wrap64
  omega
def tailD (s : ByteArray) (l : List S51) (y : Int) (fr e : Nat) (ps : List Nat) (pat rep : ByteArray) : DX :=
  if ps.length = 0 then badD 6 else if (s.size : Int) + (((ps.length * rep.size : Nat) : Int) - ((ps.length * pat.size : Nat) : Int)) > 4096 then badD 3
  else okD s l fr e (bld s rep pat.size fr ps e) (buildS (bytes l) (List.replicate rep.size y) pat.size fr ps e) (ps.length : Int)
theorem bld_room (s rep : ByteArray) (m fr e : Nat) (ps : List Nat) (hs : spaced m fr ps e) (he : e ≤ s.size) (h4 : s.size ≤ 4096) (hc : ¬ (s.size : Int) + (((ps.length * rep.size : Nat) : Int) - ((ps.length * m : Nat) : Int)) > 4096) :
    (bld s rep m fr ps e).size ≤ 4096 ∧ (s.size : Int) - ((e : Int) - (fr : Int)) + ((bld s rep m fr ps e).size : Int) = (s.size : Int) + (((ps.length * rep.size : Nat) : Int) - ((ps.length * m : Nat) : Int)) := by
  have hb := build_len s.data.toList rep.data.toList m ps fr e (by rw [← Lib.size_eq]; exact he) hs
  have hle := spaced_le hs
  rw [← bld_size, ← Lib.size_eq] at hb
  generalize (bld s rep m fr ps e).size = u at *
  generalize ps.length * rep.size = x at *
  generalize ps.length * m = z at *
  generalize s.size = n at *
  omega
theorem sub_tail_ev (h : Fine s l y) (v pat rep : ByteArray) (every : Bool) (hv : v.size = s.size) (hp : 1 ≤ pat.size) (hp4 : pat.size ≤ 5000) (hr4 : rep.size ≤ 4096) (A B : Nat) (hAB : A ≤ B) (hB : B < (ends v).length) (ps : List Nat) (hps : spaced pat.size (lineFrom v A) ps (lineTo v B)) :
    Ev (fun k => subst_Do.l0 k y v (ints ps) ((B + 1 : Nat) : Int) s l (A : Int) (B : Int) pat rep every) (tailD s l y (lineFrom v A) (lineTo v B) ps pat rep) := by
  have h4 := h.size.1
  have hle := spaced_le hps
  have hz := spaced_len hp hps
  have hz2 := Nat.le_mul_of_pos_right ps.length hp
  have hrA := line_range v A (by omega)
  have hrB := line_range v B hB
  have hil : (ints ps).length = ps.length := List.length_map _
  have hn5 : ps.length ≤ 5000 := by omega
  have hbA := bounds_ev v (by omega) A (by omega)
  have hbB := bounds_ev v (by omega) B hB
  have hmk : makeS rep y = (rep, pack (List.replicate rep.size y), 0) := by unfold makeS; rw [if_neg (by omega)]
  have hbl := fun hc => bld_room s rep pat.size (lineFrom v A) (lineTo v B) ps hps (by omega) h4 hc
  refine Ev.step (fun k => by simp only [subst_Do.l0]; rfl) (Ev.neg (by omega) ?_)
  rw [hil, wcount ps.length rep.size pat.size s.size hn5 (by omega) hp4 (by omega)]
  unfold tailD
  by_cases h0 : ps.length = 0
  · rw [if_pos h0]
    exact Ev.pos (by omega) (Ev.now _)
  · rw [if_neg h0]
    refine Ev.neg (by omega) ?_
    by_cases hc : (s.size : Int) + (((ps.length * rep.size : Nat) : Int) - ((ps.length * pat.size : Nat) : Int)) > 4096
    · rw [if_pos hc]
      exact Ev.pos hc (Ev.now _)
    · rw [if_neg hc]
      refine Ev.neg hc (Ev.bind (ev_val (make_ev rep y) hmk) (Ev.bind hbA (Ev.bind hbB (Ev.pos (by omega) (Ev.bind (Ev.now _) ?_)))))
      have hq := hbl hc
      have hF := fwd_ev h (A : Int) (B : Int) pat rep every (lineFrom v A) (lineTo v B) (ints ps) ps hp hle (by omega) hn5 (fun T D _ hT => by subst hT; exact ⟨hq.1, by rw [hq.2]; omega⟩) ps 0 (lineFrom v A) ⟨#[]⟩ [] rfl (by omega) (by omega) hps rfl (data_inj (by rw [app_list]; rfl)) rfl
      rw [hil] at hF
      exact hF
end
end Go.Proofs.Ytnbdldpjiofafaa.PB
end
