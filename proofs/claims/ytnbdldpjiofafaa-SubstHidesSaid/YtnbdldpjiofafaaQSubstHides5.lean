/- What the row hangs on, part 5. -/
import Derived.Deep.MidRow
import Derived.Laws.BitsAllLaws
import Derived.Test.YtnbdldpjiofafaaQSubstHides4
section
namespace Go.Proofs.Ytnbdldpjiofafaa.PB
open Go.RowKit Go.Proofs.YtnbdldpjiofafaaW.PrintWords Go.Proofs.YtnbdldpjiofafaaW.PrintLast Go.Proofs.YtnbdldpjiofafaaW.PrintMore
attribute [local go_sem] max2_int min2_int max_two min_two max_three min_three max_four min_four   
set_option linter.unusedVariables false
set_option linter.unusedSimpArgs false
def bureaulaw15_alive.f (k : Nat)  : Option (Bool) := (some (([(⟨1, 6⟩ : S51)] : List (S51)) : List (S51))).bind fun y246 => ((subst_Do.f k (⟨#[97, 97, 98, 10, 97, 97]⟩ : ByteArray) y246 1 0 1 (⟨#[97]⟩ : ByteArray) (⟨#[120, 121]⟩ : ByteArray) true).bind fun bt250 => ((subst_Do.f k (⟨#[97, 97, 98, 10, 97, 97]⟩ : ByteArray) y246 1 1 1 (⟨#[98]⟩ : ByteArray) (⟨#[]⟩ : ByteArray) false).bind fun bt262 => (if bt250.2.2.2.2.2.2 = 0 then (if bt250.2.2.2.2.2.1 = 4 then (if bt250.2.2.2.1.toList = ([120, 121, 120, 121, 98, 10, 120, 121, 120, 121] : List UInt8) then (some (bt262.2.2.2.2.2.2 == 6)) else (some false)) else (some false)) else (some false))))
theorem bureaulaw15_alive.mono : ∀ k, LeO (bureaulaw15_alive.f k ) (bureaulaw15_alive.f (k + 1) ) := by
 intro  k
 unfold bureaulaw15_alive.f
 repeat' first
   | (with_reducible exact subst_Do.mono _ _ _ _ _ _ _ _ _)
   | (with_reducible exact LeO.refl _)
   | (with_reducible exact LeO.none _)
   | (with_reducible refine LeO.ite ?_ ?_)
   | (with_reducible refine LeO.bind ?_ (fun _ => ?_))
   | exact subst_Do.mono _ _ _ _ _ _ _ _ _
   | exact LeO.none _
   | refine LeO.ite ?_ ?_
   | refine LeO.bind ?_ (fun _ => ?_)
set_option maxHeartbeats 8000000 in
set_option maxRecDepth 100000 in
theorem bureaulaw15_alive.calls (k : Nat)  (r : Bool) (w : World) (hMX : MaxOk w) (h : bureaulaw15_alive.f k  = some r) :
  Calls Try.prog 8 #[] w fun e w' => e = .returned (.bool r) ∧ Below w.heap.size w w' := by
 have HMX := aM hMX
 clear hMX
 have hu51 := Try.underlying51
 have hu24 := Try.underlying24
 have hu28 := Try.underlying28
 have hu32 := Try.underlying32
 have HB := aM (Below.refl w.heap.size w)
 have H : ((some (([(⟨1, 6⟩ : S51)] : List (S51)) : List (S51))).bind fun y246 => ((subst_Do.f k (⟨#[97, 97, 98, 10, 97, 97]⟩ : ByteArray) y246 1 0 1 (⟨#[97]⟩ : ByteArray) (⟨#[120, 121]⟩ : ByteArray) true).bind fun bt250 => ((subst_Do.f k (⟨#[97, 97, 98, 10, 97, 97]⟩ : ByteArray) y246 1 1 1 (⟨#[98]⟩ : ByteArray) (⟨#[]⟩ : ByteArray) false).bind fun bt262 => (if bt250.2.2.2.2.2.2 = 0 then (if bt250.2.2.2.2.2.1 = 4 then (if bt250.2.2.2.1.toList = ([120, 121, 120, 121, 98, 10, 120, 121, 120, 121] : List UInt8) then (some (bt262.2.2.2.2.2.2 == 6)) else (some false)) else (some false)) else (some false))))) = some r := h
 clear h
 obtain ⟨y246, hy246⟩ : ∃ y_ : List (S51), y_ = (([(⟨1, 6⟩ : S51)] : List (S51))) := ⟨_, rfl⟩
 replace H : ((subst_Do.f k (⟨#[97, 97, 98, 10, 97, 97]⟩ : ByteArray) y246 1 0 1 (⟨#[97]⟩ : ByteArray) (⟨#[120, 121]⟩ : ByteArray) true).bind fun bt250 => ((subst_Do.f k (⟨#[97, 97, 98, 10, 97, 97]⟩ : ByteArray) y246 1 1 1 (⟨#[98]⟩ : ByteArray) (⟨#[]⟩ : ByteArray) false).bind fun bt262 => (if bt250.2.2.2.2.2.2 = 0 then (if bt250.2.2.2.2.2.1 = 4 then (if bt250.2.2.2.1.toList = ([120, 121, 120, 121, 98, 10, 120, 121, 120, 121] : List UInt8) then (some (bt262.2.2.2.2.2.2 == 6)) else (some false)) else (some false)) else (some false)))) = some r := by first | (rw [hy246]; with_reducible exact H) | (have H2_ := (Option.bind_some _ _).symm.trans H; rw [hy246]; with_reducible exact H2_) | (have H2_ := (Option.bind_some _ _).symm.trans H; with_reducible exact H2_) | with_reducible exact H | (rw [hy246]; exact H) | exact H
 have Ny246 := aM hy246
 clear hy246
 replace H := Option.bind_eq_some_iff.mp H
 obtain ⟨⟨t250, t251, t252, t255, t256, t259, t260⟩, A10, H⟩ := H
 replace H : ((subst_Do.f k (⟨#[97, 97, 98, 10, 97, 97]⟩ : ByteArray) y246 1 1 1 (⟨#[98]⟩ : ByteArray) (⟨#[]⟩ : ByteArray) false).bind fun bt262 => (if t260 = 0 then (if t259 = 4 then (if t255.toList = ([120, 121, 120, 121, 98, 10, 120, 121, 120, 121] : List UInt8) then (some (bt262.2.2.2.2.2.2 == 6)) else (some false)) else (some false)) else (some false))) = some r := H
 have A1 := aM A10
 clear A10
 replace H := Option.bind_eq_some_iff.mp H
 obtain ⟨⟨t262, t263, t264, t267, t268, t271, t272⟩, A20, H⟩ := H
 replace H : (if t260 = 0 then (if t259 = 4 then (if t255.toList = ([120, 121, 120, 121, 98, 10, 120, 121, 120, 121] : List UInt8) then (some (t272 == 6)) else (some false)) else (some false)) else (some false)) = some r := H
 have A2 := aM A20
 clear A20
 by_cases c3 : t260 = 0
 ·rw [if_pos c3] at H
  have c3b0 : (t260 == 0) = true := beq_iff_eq.mpr c3
  have c3b1 : (t260 != 0) = false := bne_eq_false_iff_eq.mpr c3
  clear c3
  by_cases c4 : t259 = 4
  ·rw [if_pos c4] at H
   have c4b0 : (t259 == 4) = true := beq_iff_eq.mpr c4
   have c4b1 : (t259 != 4) = false := bne_eq_false_iff_eq.mpr c4
   clear c4
   by_cases c5 : t255.toList = ([120, 121, 120, 121, 98, 10, 120, 121, 120, 121] : List UInt8)
   ·rw [if_pos c5] at H
    have c5b0 : (t255.toList == ([120, 121, 120, 121, 98, 10, 120, 121, 120, 121] : List UInt8)) = true := beq_iff_eq.mpr c5
    have c5b1 : (t255.toList != ([120, 121, 120, 121, 98, 10, 120, 121, 120, 121] : List UInt8)) = false := bne_eq_false_iff_eq.mpr c5
    clear c5
    obtain rfl := Option.some.inj H
    go_enter Try.func8, Try.ntmps8
    go_wp2_with (first | ((with_reducible refine gate_dst (N := 9) rfl ?_); refine Kd.R_lit k51 _ 51 ?hg (N := 9) ?hd (xs := ([(⟨1, 6⟩ : S51)] : List (S51))) (inner := [.int .u64 1, .int .i64 6]) (ok := fun _ => True) (okp := fun _ => True) ?hr ?hp (fun _ hk => hk) trivial (Below.refl _ _) (Nat.le_refl _) (by simp) ?_; (case hd | hg => rfl); (case hr => first | (go_simp; done) | (go_simp; rfl)); (case hp => exact (Reps.c2 (show Kd.M k51 _ _ _ (⟨1, 6⟩ : S51) [.int .u64 1, .int .i64 6] from (k51_mkM _ _ _ (⟨1, 6⟩ : S51) )) (Reps.none _ _))); intro v247 w6 ho7 hb hg_ hnew_; clear hg_ hnew_; (first | rw [← Ny246.out] at ho7 | (simp only [Int.reduceToNat] at ho7; rw [← Ny246.out] at ho7)); have n0_ := aM (rL ho7 (bZ (ey HB.out))); have n1_ := aM (bP (ey HB.out) hb); clear HB; have HO248 := n0_; have HB := n1_; clear n0_ n1_; clear hb ho7; obtain ⟨Ao8, co8, eo8⟩ := Kd.R_slice HO248.out; subst eo8) | ((with_reducible refine gate_dst (N := 1) rfl ?_); refine box_event ?hg (N := 1) ?hd (cs := #[.string (⟨#[]⟩ : ByteArray), .slice none 0 0]) (t := 24) ?hr ?_; (case hd | hg => rfl); (case hr => first | (go_simp; done) | (go_simp; rfl)); intro gb249 hg w9 hbox hb; have n0_ := aM (Kd.R_below (ry HO248.out) hb); have n1_ := aM (bP (ey HB.out) hb); have n2_ := aM (hbox); have n3_ := aM ((by rw [hg]; exact (bZ (ey HB.out)) : w.heap.size ≤ gb249)); have n4_ := n3_; clear HO248 HB; have HO248 := n0_; have HB := n1_; have BK249 := n2_; have GW249 := n3_; have GE249 := n4_; clear n0_ n1_ n2_ n3_ n4_; clear hb hbox hg; have hcz10_0 : w9.cell? ⟨gb249, 0, none⟩ = some (.string (⟨#[]⟩ : ByteArray)) := (bC BK249.out 0).trans rfl; have hcz10_1 : w9.cell? ⟨gb249, 1, none⟩ = some (.slice none 0 0) := (bC BK249.out 1).trans rfl; have hfz10_0 := bF BK249.out 0; have hfz10_1 := bF BK249.out 1) | ((with_reducible refine gate_callee (f := 10) rfl ?_); refine goesL_ (some 14) rfl rfl Try.func10 (by kernel_rfl) rfl #[.agg #[.string (⟨#[97, 97, 98, 10, 97, 97]⟩ : ByteArray), .slice Ao8 y246.length co8], .int .u64 1, .agg #[.int .i64 0, .int .i64 1, .string (⟨#[97]⟩ : ByteArray), .string (⟨#[120, 121]⟩ : ByteArray), .bool true]] rfl (by (try simp only [mT, mC, mN]); first | done | rfl | (simp only [lD, lT]; rfl)) ?_; (with_reducible refine (subst_Do.calls k (⟨#[97, 97, 98, 10, 97, 97]⟩ : ByteArray) _ _ y246 1 0 1 (⟨#[97]⟩ : ByteArray) (⟨#[120, 121]⟩ : ByteArray) true t250 t251 t252 t255 t256 t259 t260 _ ?mx6 ?side1 ?side2 A1.out).mono ?_); (case mx6 => exact MaxOk.below HMX.out (by repeat (first | (with_reducible first | exact HB.out | apply ea | apply en | apply ed | refine es ?_ GE249.out) | exact HB.out))); (case side1 => refine (rR (e := 51) (base := w.heap.size) (ok := fun k_ => True) (n := y246.length) (c := co8) ?_).2.2; exact (by (with_reducible repeat (first | apply ra | apply rn | apply rd_)); exact (rM (rF (p := ⟨gb249, 1, none⟩) (rF (p := ⟨gb249, 0, none⟩) (rT HO248.out BK249.out (by decide)) (fun _ hk => hk.2) (.string (⟨#[97, 97, 98, 10, 97, 97]⟩ : ByteArray))) (fun _ hk => hk.2) (.slice Ao8 y246.length co8)) (fun _ h_ => h_.1)))); (case side2 => exact (rR HO248.out).2.1); rintro e w11 ⟨v253, v257, rfl, ho0, ho1, hb⟩; refine ⟨_, rfl, ?_⟩; have n0_ := aM (rM (Kd.R_told (Kd.R_told (Kd.R_old (by (with_reducible repeat (first | apply ra | apply rn | apply rd_)); exact (rM (rF (p := ⟨gb249, 1, none⟩) (rF (p := ⟨gb249, 0, none⟩) (rT HO248.out BK249.out (by decide)) (fun _ hk => hk.2) (.string (⟨#[97, 97, 98, 10, 97, 97]⟩ : ByteArray))) (fun _ hk => hk.2) (.slice Ao8 y246.length co8)) (fun _ h_ => h_.1))) hb) (Kd.R_base ho0)) (Kd.R_base ho1)) (fun _ h_ => h_.1)); have n1_ := aM (rL (Kd.R_new' ho0 (Kd.R_lt (by (with_reducible repeat (first | apply ra | apply rn | apply rd_)); exact (rM (rF (p := ⟨gb249, 1, none⟩) (rF (p := ⟨gb249, 0, none⟩) (rT HO248.out BK249.out (by decide)) (fun _ hk => hk.2) (.string (⟨#[97, 97, 98, 10, 97, 97]⟩ : ByteArray))) (fun _ hk => hk.2) (.slice Ao8 y246.length co8)) (fun _ h_ => h_.1))))) (bZ (by repeat (first | (with_reducible first | exact HB.out | apply ea | apply en | apply ed | refine es ?_ GE249.out) | exact HB.out)))); have n2_ := aM (rL (Kd.R_new' ho1 (Kd.R_lt (by (with_reducible repeat (first | apply ra | apply rn | apply rd_)); exact (rM (rF (p := ⟨gb249, 1, none⟩) (rF (p := ⟨gb249, 0, none⟩) (rT HO248.out BK249.out (by decide)) (fun _ hk => hk.2) (.string (⟨#[97, 97, 98, 10, 97, 97]⟩ : ByteArray))) (fun _ hk => hk.2) (.slice Ao8 y246.length co8)) (fun _ h_ => h_.1))))) (bZ (by repeat (first | (with_reducible first | exact HB.out | apply ea | apply en | apply ed | refine es ?_ GE249.out) | exact HB.out)))); have n3_ := aM (bB (g := gb249) (o := .cells #[.string (⟨#[97, 97, 98, 10, 97, 97]⟩ : ByteArray), .slice Ao8 y246.length co8] 24 (0, 0)) (by (with_reducible repeat (first | apply qn | apply qd | apply qa)); refine bU (cs := #[.string (⟨#[97, 97, 98, 10, 97, 97]⟩ : ByteArray), .slice none 0 0]) ?_ 1 _ rfl; (with_reducible repeat (first | apply qn | apply qd | apply qa)); refine bU (cs := #[.string (⟨#[]⟩ : ByteArray), .slice none 0 0]) ?_ 0 _ rfl; exact qy BK249.out) hb); have n4_ := aM (bP (by repeat (first | (with_reducible first | exact HB.out | apply ea | apply en | apply ed | refine es ?_ GE249.out) | exact HB.out)) hb); clear HO248 BK249 HB; have HO248 := n0_; have HO254 := n1_; have HO258 := n2_; have BK249 := n3_; have HB := n4_; clear n0_ n1_ n2_ n3_ n4_; (try clear hb); (try clear hb2); (try clear hk); (try clear hi); (try clear ho0); (try clear ho1)) | ((with_reducible refine gate_dst (N := 2) rfl ?_); refine box_event ?hg (N := 2) ?hd (cs := #[.int .i64 0, .string (⟨#[]⟩ : ByteArray), .slice none 0 0, .string (⟨#[]⟩ : ByteArray), .slice none 0 0]) (t := 32) ?hr ?_; (case hd | hg => rfl); (case hr => first | (go_simp; done) | (go_simp; rfl)); intro gb261 hg w12 hbox hb; have n0_ := aM (Kd.R_below (ry HO248.out) hb); have n1_ := aM (Kd.R_below (ry HO254.out) hb); have n2_ := aM (Kd.R_below (ry HO258.out) hb); have n3_ := aM (bB (g := gb249) (qy BK249.out) hb); have n4_ := aM (bP (by repeat (first | (with_reducible first | exact HB.out | apply ea | apply en | apply ed | refine es ?_ GE249.out) | exact HB.out)) hb); have n5_ := aM (hbox); have n6_ := aM ((by rw [hg]; exact (bZ (by repeat (first | (with_reducible first | exact HB.out | apply ea | apply en | apply ed | refine es ?_ GE249.out) | exact HB.out))) : w.heap.size ≤ gb261)); have n7_ := n6_; have n8_ := aM ((by rw [hg]; exact Nat.ne_of_lt (blk_lt (g := gb249) (qy BK249.out)) : gb249 ≠ gb261)); have n9_ := aM ((by rw [hg]; exact Nat.ne_of_gt (blk_lt (g := gb249) (qy BK249.out)) : gb261 ≠ gb249)); clear HO248 HO254 HO258 BK249 HB; have HO248 := n0_; have HO254 := n1_; have HO258 := n2_; have BK249 := n3_; have HB := n4_; have BK261 := n5_; have GW261 := n6_; have GE261 := n7_; have NB249_261 := n8_; have NB261_249 := n9_; clear n0_ n1_ n2_ n3_ n4_ n5_ n6_ n7_ n8_ n9_; clear hb hbox hg; have hnb13 := NB261_249.out; have hnc13 := NB249_261.out; have hcz14_0 : w12.cell? ⟨gb261, 0, none⟩ = some (.int .i64 0) := (bC BK261.out 0).trans rfl; have hcz14_1 : w12.cell? ⟨gb261, 1, none⟩ = some (.string (⟨#[]⟩ : ByteArray)) := (bC BK261.out 1).trans rfl; have hcz14_2 : w12.cell? ⟨gb261, 2, none⟩ = some (.slice none 0 0) := (bC BK261.out 2).trans rfl; have hcz14_3 : w12.cell? ⟨gb261, 3, none⟩ = some (.string (⟨#[]⟩ : ByteArray)) := (bC BK261.out 3).trans rfl; have hcz14_4 : w12.cell? ⟨gb261, 4, none⟩ = some (.slice none 0 0) := (bC BK261.out 4).trans rfl; have hfz14_0 := bF BK261.out 0; have hfz14_1 := bF BK261.out 1; have hfz14_2 := bF BK261.out 2; have hfz14_3 := bF BK261.out 3; have hfz14_4 := bF BK261.out 4; obtain ⟨Ao15, co15, eo15⟩ := Kd.R_slice HO254.out; subst eo15; obtain ⟨Ao16, co16, eo16⟩ := Kd.R_slice HO258.out; subst eo16; have hcz17_0 : w12.cell? ⟨gb249, 0, none⟩ = some (.string (⟨#[97, 97, 98, 10, 97, 97]⟩ : ByteArray)) := (bC BK249.out 0).trans rfl; have hcz17_1 : w12.cell? ⟨gb249, 1, none⟩ = some (.slice Ao8 y246.length co8) := (bC BK249.out 1).trans rfl; have hfz17_0 := bF BK249.out 0; have hfz17_1 := bF BK249.out 1) | ((with_reducible refine gate_callee (f := 10) rfl ?_); refine goesL_ (some 21) rfl rfl Try.func10 (by kernel_rfl) rfl #[.agg #[.string (⟨#[97, 97, 98, 10, 97, 97]⟩ : ByteArray), .slice Ao8 y246.length co8], .int .u64 1, .agg #[.int .i64 1, .int .i64 1, .string (⟨#[98]⟩ : ByteArray), .string (⟨#[]⟩ : ByteArray), .bool false]] rfl (by (try simp only [mT, mC, mN]); first | done | rfl | (simp only [lD, lT]; rfl)) ?_; (with_reducible refine (subst_Do.calls k (⟨#[97, 97, 98, 10, 97, 97]⟩ : ByteArray) _ _ y246 1 1 1 (⟨#[98]⟩ : ByteArray) (⟨#[]⟩ : ByteArray) false t262 t263 t264 t267 t268 t271 t272 _ ?mx7 ?side1 ?side2 A2.out).mono ?_); (case mx7 => exact MaxOk.below HMX.out (by repeat (first | (with_reducible first | exact HB.out | apply ea | apply en | apply ed | refine es ?_ GE249.out | refine es ?_ GE261.out) | exact HB.out))); (case side1 => refine (rR (e := 51) (base := w.heap.size) (ok := fun k_ => ((True ∧ some k_ ≠ (.slice Ao15 t252.length co15 : Value).ownBlock) ∧ some k_ ≠ (.slice Ao16 t256.length co16 : Value).ownBlock)) (n := y246.length) (c := co8) ?_).2.2; exact (by (with_reducible repeat (first | apply ra | apply rn | apply rd_)); exact (rM (rF (p := ⟨gb261, 4, none⟩) (rF (p := ⟨gb261, 3, none⟩) (rF (p := ⟨gb261, 2, none⟩) (rF (p := ⟨gb261, 1, none⟩) (rF (p := ⟨gb261, 0, none⟩) (rT HO248.out BK261.out (by decide)) (fun _ hk => hk.2) (.int .i64 t250)) (fun _ hk => hk.2) (.string t251)) (fun _ hk => hk.2) (.slice Ao15 t252.length co15)) (fun _ hk => hk.2) (.string t255)) (fun _ hk => hk.2) (.slice Ao16 t256.length co16)) (fun _ h_ => h_.1)))); (case side2 => exact (rR HO248.out).2.1); rintro e w18 ⟨v265, v269, rfl, ho0, ho1, hb⟩; refine ⟨_, rfl, ?_⟩; have n0_ := aM (rM (Kd.R_told (Kd.R_told (Kd.R_old (by (with_reducible repeat (first | apply ra | apply rn | apply rd_)); exact (rM (rF (p := ⟨gb261, 4, none⟩) (rF (p := ⟨gb261, 3, none⟩) (rF (p := ⟨gb261, 2, none⟩) (rF (p := ⟨gb261, 1, none⟩) (rF (p := ⟨gb261, 0, none⟩) (rT HO248.out BK261.out (by decide)) (fun _ hk => hk.2) (.int .i64 t250)) (fun _ hk => hk.2) (.string t251)) (fun _ hk => hk.2) (.slice Ao15 t252.length co15)) (fun _ hk => hk.2) (.string t255)) (fun _ hk => hk.2) (.slice Ao16 t256.length co16)) (fun _ h_ => h_.1))) hb) (Kd.R_base ho0)) (Kd.R_base ho1)) (fun _ h_ => h_.1)); have n1_ := aM (rM (Kd.R_told (Kd.R_told (Kd.R_old (by (with_reducible repeat (first | apply ra | apply rn | apply rd_)); exact (rM (rF (p := ⟨gb261, 4, none⟩) (rF (p := ⟨gb261, 3, none⟩) (rF (p := ⟨gb261, 2, none⟩) (rF (p := ⟨gb261, 1, none⟩) (rF (p := ⟨gb261, 0, none⟩) (rT HO254.out BK261.out (by decide)) (fun _ hk => hk.2) (.int .i64 t250)) (fun _ hk => hk.2) (.string t251)) (fun _ hk => hk.2) (.slice Ao15 t252.length co15)) (fun _ hk => hk.2) (.string t255)) (fun _ hk => hk.2) (.slice Ao16 t256.length co16)) (fun _ h_ => h_.1))) hb) (Kd.R_base ho0)) (Kd.R_base ho1)) (fun _ h_ => h_.1)); have n2_ := aM (rM (Kd.R_told (Kd.R_told (Kd.R_old (by (with_reducible repeat (first | apply ra | apply rn | apply rd_)); exact (rM (rF (p := ⟨gb261, 4, none⟩) (rF (p := ⟨gb261, 3, none⟩) (rF (p := ⟨gb261, 2, none⟩) (rF (p := ⟨gb261, 1, none⟩) (rF (p := ⟨gb261, 0, none⟩) (rT HO258.out BK261.out (by decide)) (fun _ hk => hk.2) (.int .i64 t250)) (fun _ hk => hk.2) (.string t251)) (fun _ hk => hk.2) (.slice Ao15 t252.length co15)) (fun _ hk => hk.2) (.string t255)) (fun _ hk => hk.2) (.slice Ao16 t256.length co16)) (fun _ h_ => h_.1))) hb) (Kd.R_base ho0)) (Kd.R_base ho1)) (fun _ h_ => h_.1)); have n3_ := aM (rL (Kd.R_new' (Kd.R_new' (Kd.R_new' ho0 (Kd.R_lt (by (with_reducible repeat (first | apply ra | apply rn | apply rd_)); exact (rM (rF (p := ⟨gb261, 4, none⟩) (rF (p := ⟨gb261, 3, none⟩) (rF (p := ⟨gb261, 2, none⟩) (rF (p := ⟨gb261, 1, none⟩) (rF (p := ⟨gb261, 0, none⟩) (rT HO248.out BK261.out (by decide)) (fun _ hk => hk.2) (.int .i64 t250)) (fun _ hk => hk.2) (.string t251)) (fun _ hk => hk.2) (.slice Ao15 t252.length co15)) (fun _ hk => hk.2) (.string t255)) (fun _ hk => hk.2) (.slice Ao16 t256.length co16)) (fun _ h_ => h_.1))))) (Kd.R_lt (by (with_reducible repeat (first | apply ra | apply rn | apply rd_)); exact (rM (rF (p := ⟨gb261, 4, none⟩) (rF (p := ⟨gb261, 3, none⟩) (rF (p := ⟨gb261, 2, none⟩) (rF (p := ⟨gb261, 1, none⟩) (rF (p := ⟨gb261, 0, none⟩) (rT HO254.out BK261.out (by decide)) (fun _ hk => hk.2) (.int .i64 t250)) (fun _ hk => hk.2) (.string t251)) (fun _ hk => hk.2) (.slice Ao15 t252.length co15)) (fun _ hk => hk.2) (.string t255)) (fun _ hk => hk.2) (.slice Ao16 t256.length co16)) (fun _ h_ => h_.1))))) (Kd.R_lt (by (with_reducible repeat (first | apply ra | apply rn | apply rd_)); exact (rM (rF (p := ⟨gb261, 4, none⟩) (rF (p := ⟨gb261, 3, none⟩) (rF (p := ⟨gb261, 2, none⟩) (rF (p := ⟨gb261, 1, none⟩) (rF (p := ⟨gb261, 0, none⟩) (rT HO258.out BK261.out (by decide)) (fun _ hk => hk.2) (.int .i64 t250)) (fun _ hk => hk.2) (.string t251)) (fun _ hk => hk.2) (.slice Ao15 t252.length co15)) (fun _ hk => hk.2) (.string t255)) (fun _ hk => hk.2) (.slice Ao16 t256.length co16)) (fun _ h_ => h_.1))))) (bZ (by repeat (first | (with_reducible first | exact HB.out | apply ea | apply en | apply ed | refine es ?_ GE249.out | refine es ?_ GE261.out) | exact HB.out)))); have n4_ := aM (rL (Kd.R_new' (Kd.R_new' (Kd.R_new' ho1 (Kd.R_lt (by (with_reducible repeat (first | apply ra | apply rn | apply rd_)); exact (rM (rF (p := ⟨gb261, 4, none⟩) (rF (p := ⟨gb261, 3, none⟩) (rF (p := ⟨gb261, 2, none⟩) (rF (p := ⟨gb261, 1, none⟩) (rF (p := ⟨gb261, 0, none⟩) (rT HO248.out BK261.out (by decide)) (fun _ hk => hk.2) (.int .i64 t250)) (fun _ hk => hk.2) (.string t251)) (fun _ hk => hk.2) (.slice Ao15 t252.length co15)) (fun _ hk => hk.2) (.string t255)) (fun _ hk => hk.2) (.slice Ao16 t256.length co16)) (fun _ h_ => h_.1))))) (Kd.R_lt (by (with_reducible repeat (first | apply ra | apply rn | apply rd_)); exact (rM (rF (p := ⟨gb261, 4, none⟩) (rF (p := ⟨gb261, 3, none⟩) (rF (p := ⟨gb261, 2, none⟩) (rF (p := ⟨gb261, 1, none⟩) (rF (p := ⟨gb261, 0, none⟩) (rT HO254.out BK261.out (by decide)) (fun _ hk => hk.2) (.int .i64 t250)) (fun _ hk => hk.2) (.string t251)) (fun _ hk => hk.2) (.slice Ao15 t252.length co15)) (fun _ hk => hk.2) (.string t255)) (fun _ hk => hk.2) (.slice Ao16 t256.length co16)) (fun _ h_ => h_.1))))) (Kd.R_lt (by (with_reducible repeat (first | apply ra | apply rn | apply rd_)); exact (rM (rF (p := ⟨gb261, 4, none⟩) (rF (p := ⟨gb261, 3, none⟩) (rF (p := ⟨gb261, 2, none⟩) (rF (p := ⟨gb261, 1, none⟩) (rF (p := ⟨gb261, 0, none⟩) (rT HO258.out BK261.out (by decide)) (fun _ hk => hk.2) (.int .i64 t250)) (fun _ hk => hk.2) (.string t251)) (fun _ hk => hk.2) (.slice Ao15 t252.length co15)) (fun _ hk => hk.2) (.string t255)) (fun _ hk => hk.2) (.slice Ao16 t256.length co16)) (fun _ h_ => h_.1))))) (bZ (by repeat (first | (with_reducible first | exact HB.out | apply ea | apply en | apply ed | refine es ?_ GE249.out | refine es ?_ GE261.out) | exact HB.out)))); have n5_ := aM (bB (g := gb249) (o := .cells #[.string (⟨#[97, 97, 98, 10, 97, 97]⟩ : ByteArray), .slice Ao8 y246.length co8] 24 (0, 0)) (by (with_reducible repeat (first | apply qn | apply qd | apply qa)); refine bR ?_ NB249_261.out _; (with_reducible repeat (first | apply qn | apply qd | apply qa)); refine bR ?_ NB249_261.out _; (with_reducible repeat (first | apply qn | apply qd | apply qa)); refine bR ?_ NB249_261.out _; (with_reducible repeat (first | apply qn | apply qd | apply qa)); refine bR ?_ NB249_261.out _; (with_reducible repeat (first | apply qn | apply qd | apply qa)); refine bR ?_ NB249_261.out _; exact qy BK249.out) hb); have n6_ := aM (bB (g := gb261) (o := .cells #[.int .i64 t250, .string t251, .slice Ao15 t252.length co15, .string t255, .slice Ao16 t256.length co16] 32 (0, 0)) (by (with_reducible repeat (first | apply qn | apply qd | apply qa)); refine bU (cs := #[.int .i64 t250, .string t251, .slice Ao15 t252.length co15, .string t255, .slice none 0 0]) ?_ 4 _ rfl; (with_reducible repeat (first | apply qn | apply qd | apply qa)); refine bU (cs := #[.int .i64 t250, .string t251, .slice Ao15 t252.length co15, .string (⟨#[]⟩ : ByteArray), .slice none 0 0]) ?_ 3 _ rfl; (with_reducible repeat (first | apply qn | apply qd | apply qa)); refine bU (cs := #[.int .i64 t250, .string t251, .slice none 0 0, .string (⟨#[]⟩ : ByteArray), .slice none 0 0]) ?_ 2 _ rfl; (with_reducible repeat (first | apply qn | apply qd | apply qa)); refine bU (cs := #[.int .i64 t250, .string (⟨#[]⟩ : ByteArray), .slice none 0 0, .string (⟨#[]⟩ : ByteArray), .slice none 0 0]) ?_ 1 _ rfl; (with_reducible repeat (first | apply qn | apply qd | apply qa)); refine bU (cs := #[.int .i64 0, .string (⟨#[]⟩ : ByteArray), .slice none 0 0, .string (⟨#[]⟩ : ByteArray), .slice none 0 0]) ?_ 0 _ rfl; exact qy BK261.out) hb); have n7_ := aM (bP (by repeat (first | (with_reducible first | exact HB.out | apply ea | apply en | apply ed | refine es ?_ GE249.out | refine es ?_ GE261.out) | exact HB.out)) hb); clear HO248 HO254 HO258 BK249 BK261 HB; have HO248 := n0_; have HO254 := n1_; have HO258 := n2_; have HO266 := n3_; have HO270 := n4_; have BK249 := n5_; have BK261 := n6_; have HB := n7_; clear n0_ n1_ n2_ n3_ n4_ n5_ n6_ n7_; (try clear hb); (try clear hb2); (try clear hk); (try clear hi); (try clear ho0); (try clear ho1)) | ((with_reducible refine gate_dst (N := 5) rfl ?_); refine box_event ?hg (N := 5) ?hd (cs := #[.int .i64 0, .string (⟨#[]⟩ : ByteArray), .slice none 0 0, .string (⟨#[]⟩ : ByteArray), .slice none 0 0]) (t := 32) ?hr ?_; (case hd | hg => rfl); (case hr => first | (go_simp; done) | (go_simp; rfl)); intro gb273 hg w19 hbox hb; have n0_ := aM (Kd.R_below (ry HO248.out) hb); have n1_ := aM (Kd.R_below (ry HO254.out) hb); have n2_ := aM (Kd.R_below (ry HO258.out) hb); have n3_ := aM (Kd.R_below (ry HO266.out) hb); have n4_ := aM (Kd.R_below (ry HO270.out) hb); have n5_ := aM (bB (g := gb249) (qy BK249.out) hb); have n6_ := aM (bB (g := gb261) (qy BK261.out) hb); have n7_ := aM (bP (by repeat (first | (with_reducible first | exact HB.out | apply ea | apply en | apply ed | refine es ?_ GE249.out | refine es ?_ GE261.out) | exact HB.out)) hb); have n8_ := aM (hbox); have n9_ := aM ((by rw [hg]; exact (bZ (by repeat (first | (with_reducible first | exact HB.out | apply ea | apply en | apply ed | refine es ?_ GE249.out | refine es ?_ GE261.out) | exact HB.out))) : w.heap.size ≤ gb273)); have n10_ := n9_; have n11_ := aM ((by rw [hg]; exact Nat.ne_of_lt (blk_lt (g := gb249) (qy BK249.out)) : gb249 ≠ gb273)); have n12_ := aM ((by rw [hg]; exact Nat.ne_of_gt (blk_lt (g := gb249) (qy BK249.out)) : gb273 ≠ gb249)); have n13_ := aM ((by rw [hg]; exact Nat.ne_of_lt (blk_lt (g := gb261) (qy BK261.out)) : gb261 ≠ gb273)); have n14_ := aM ((by rw [hg]; exact Nat.ne_of_gt (blk_lt (g := gb261) (qy BK261.out)) : gb273 ≠ gb261)); clear HO248 HO254 HO258 HO266 HO270 BK249 BK261 HB; have HO248 := n0_; have HO254 := n1_; have HO258 := n2_; have HO266 := n3_; have HO270 := n4_; have BK249 := n5_; have BK261 := n6_; have HB := n7_; have BK273 := n8_; have GW273 := n9_; have GE273 := n10_; have NB249_273 := n11_; have NB273_249 := n12_; have NB261_273 := n13_; have NB273_261 := n14_; clear n0_ n1_ n2_ n3_ n4_ n5_ n6_ n7_ n8_ n9_ n10_ n11_ n12_ n13_ n14_; clear hb hbox hg; have hnb20 := NB273_249.out; have hnc20 := NB249_273.out; have hnb21 := NB273_261.out; have hnc21 := NB261_273.out; have hcz22_0 : w19.cell? ⟨gb273, 0, none⟩ = some (.int .i64 0) := (bC BK273.out 0).trans rfl; have hcz22_1 : w19.cell? ⟨gb273, 1, none⟩ = some (.string (⟨#[]⟩ : ByteArray)) := (bC BK273.out 1).trans rfl; have hcz22_2 : w19.cell? ⟨gb273, 2, none⟩ = some (.slice none 0 0) := (bC BK273.out 2).trans rfl; have hcz22_3 : w19.cell? ⟨gb273, 3, none⟩ = some (.string (⟨#[]⟩ : ByteArray)) := (bC BK273.out 3).trans rfl; have hcz22_4 : w19.cell? ⟨gb273, 4, none⟩ = some (.slice none 0 0) := (bC BK273.out 4).trans rfl; have hfz22_0 := bF BK273.out 0; have hfz22_1 := bF BK273.out 1; have hfz22_2 := bF BK273.out 2; have hfz22_3 := bF BK273.out 3; have hfz22_4 := bF BK273.out 4; obtain ⟨Ao23, co23, eo23⟩ := Kd.R_slice HO266.out; subst eo23; obtain ⟨Ao24, co24, eo24⟩ := Kd.R_slice HO270.out; subst eo24; have hcz25_0 : w19.cell? ⟨gb261, 0, none⟩ = some (.int .i64 t250) := (bC BK261.out 0).trans rfl; have hcz25_1 : w19.cell? ⟨gb261, 1, none⟩ = some (.string t251) := (bC BK261.out 1).trans rfl; have hcz25_2 : w19.cell? ⟨gb261, 2, none⟩ = some (.slice Ao15 t252.length co15) := (bC BK261.out 2).trans rfl; have hcz25_3 : w19.cell? ⟨gb261, 3, none⟩ = some (.string t255) := (bC BK261.out 3).trans rfl; have hcz25_4 : w19.cell? ⟨gb261, 4, none⟩ = some (.slice Ao16 t256.length co16) := (bC BK261.out 4).trans rfl; have hfz25_0 := bF BK261.out 0; have hfz25_1 := bF BK261.out 1; have hfz25_2 := bF BK261.out 2; have hfz25_3 := bF BK261.out 3; have hfz25_4 := bF BK261.out 4))
    go_ret
    exact ⟨by first | rfl | (simp [errW_none, errW_some] <;> rfl) | (simp [*, errW_none, errW_some] <;> rfl), by repeat (first | (with_reducible first | exact HB.out | apply ea | apply en | apply ed | refine es ?_ GE249.out | refine es ?_ GE261.out | refine es ?_ GE273.out) | exact HB.out)⟩
   ·rw [if_neg c5] at H
    have c5b0 : (t255.toList == ([120, 121, 120, 121, 98, 10, 120, 121, 120, 121] : List UInt8)) = false := beq_eq_false_iff_ne.mpr c5
    have c5b1 : (t255.toList != ([120, 121, 120, 121, 98, 10, 120, 121, 120, 121] : List UInt8)) = true := bne_iff_ne.mpr c5
    obtain rfl := Option.some.inj H
    go_enter Try.func8, Try.ntmps8
    go_wp2_with (first | ((with_reducible refine gate_dst (N := 9) rfl ?_); refine Kd.R_lit k51 _ 51 ?hg (N := 9) ?hd (xs := ([(⟨1, 6⟩ : S51)] : List (S51))) (inner := [.int .u64 1, .int .i64 6]) (ok := fun _ => True) (okp := fun _ => True) ?hr ?hp (fun _ hk => hk) trivial (Below.refl _ _) (Nat.le_refl _) (by simp) ?_; (case hd | hg => rfl); (case hr => first | (go_simp; done) | (go_simp; rfl)); (case hp => exact (Reps.c2 (show Kd.M k51 _ _ _ (⟨1, 6⟩ : S51) [.int .u64 1, .int .i64 6] from (k51_mkM _ _ _ (⟨1, 6⟩ : S51) )) (Reps.none _ _))); intro v247 w26 ho27 hb hg_ hnew_; clear hg_ hnew_; (first | rw [← Ny246.out] at ho27 | (simp only [Int.reduceToNat] at ho27; rw [← Ny246.out] at ho27)); have n0_ := aM (rL ho27 (bZ (ey HB.out))); have n1_ := aM (bP (ey HB.out) hb); clear HB; have HO248 := n0_; have HB := n1_; clear n0_ n1_; clear hb ho27; obtain ⟨Ao28, co28, eo28⟩ := Kd.R_slice HO248.out; subst eo28) | ((with_reducible refine gate_dst (N := 1) rfl ?_); refine box_event ?hg (N := 1) ?hd (cs := #[.string (⟨#[]⟩ : ByteArray), .slice none 0 0]) (t := 24) ?hr ?_; (case hd | hg => rfl); (case hr => first | (go_simp; done) | (go_simp; rfl)); intro gb249 hg w29 hbox hb; have n0_ := aM (Kd.R_below (ry HO248.out) hb); have n1_ := aM (bP (ey HB.out) hb); have n2_ := aM (hbox); have n3_ := aM ((by rw [hg]; exact (bZ (ey HB.out)) : w.heap.size ≤ gb249)); have n4_ := n3_; clear HO248 HB; have HO248 := n0_; have HB := n1_; have BK249 := n2_; have GW249 := n3_; have GE249 := n4_; clear n0_ n1_ n2_ n3_ n4_; clear hb hbox hg; have hcz30_0 : w29.cell? ⟨gb249, 0, none⟩ = some (.string (⟨#[]⟩ : ByteArray)) := (bC BK249.out 0).trans rfl; have hcz30_1 : w29.cell? ⟨gb249, 1, none⟩ = some (.slice none 0 0) := (bC BK249.out 1).trans rfl; have hfz30_0 := bF BK249.out 0; have hfz30_1 := bF BK249.out 1) | ((with_reducible refine gate_callee (f := 10) rfl ?_); refine goesL_ (some 14) rfl rfl Try.func10 (by kernel_rfl) rfl #[.agg #[.string (⟨#[97, 97, 98, 10, 97, 97]⟩ : ByteArray), .slice Ao28 y246.length co28], .int .u64 1, .agg #[.int .i64 0, .int .i64 1, .string (⟨#[97]⟩ : ByteArray), .string (⟨#[120, 121]⟩ : ByteArray), .bool true]] rfl (by (try simp only [mT, mC, mN]); first | done | rfl | (simp only [lD, lT]; rfl)) ?_; (with_reducible refine (subst_Do.calls k (⟨#[97, 97, 98, 10, 97, 97]⟩ : ByteArray) _ _ y246 1 0 1 (⟨#[97]⟩ : ByteArray) (⟨#[120, 121]⟩ : ByteArray) true t250 t251 t252 t255 t256 t259 t260 _ ?mx8 ?side1 ?side2 A1.out).mono ?_); (case mx8 => exact MaxOk.below HMX.out (by repeat (first | (with_reducible first | exact HB.out | apply ea | apply en | apply ed | refine es ?_ GE249.out) | exact HB.out))); (case side1 => refine (rR (e := 51) (base := w.heap.size) (ok := fun k_ => True) (n := y246.length) (c := co28) ?_).2.2; exact (by (with_reducible repeat (first | apply ra | apply rn | apply rd_)); exact (rM (rF (p := ⟨gb249, 1, none⟩) (rF (p := ⟨gb249, 0, none⟩) (rT HO248.out BK249.out (by decide)) (fun _ hk => hk.2) (.string (⟨#[97, 97, 98, 10, 97, 97]⟩ : ByteArray))) (fun _ hk => hk.2) (.slice Ao28 y246.length co28)) (fun _ h_ => h_.1)))); (case side2 => exact (rR HO248.out).2.1); rintro e w31 ⟨v253, v257, rfl, ho0, ho1, hb⟩; refine ⟨_, rfl, ?_⟩; have n0_ := aM (rM (Kd.R_told (Kd.R_told (Kd.R_old (by (with_reducible repeat (first | apply ra | apply rn | apply rd_)); exact (rM (rF (p := ⟨gb249, 1, none⟩) (rF (p := ⟨gb249, 0, none⟩) (rT HO248.out BK249.out (by decide)) (fun _ hk => hk.2) (.string (⟨#[97, 97, 98, 10, 97, 97]⟩ : ByteArray))) (fun _ hk => hk.2) (.slice Ao28 y246.length co28)) (fun _ h_ => h_.1))) hb) (Kd.R_base ho0)) (Kd.R_base ho1)) (fun _ h_ => h_.1)); have n1_ := aM (rL (Kd.R_new' ho0 (Kd.R_lt (by (with_reducible repeat (first | apply ra | apply rn | apply rd_)); exact (rM (rF (p := ⟨gb249, 1, none⟩) (rF (p := ⟨gb249, 0, none⟩) (rT HO248.out BK249.out (by decide)) (fun _ hk => hk.2) (.string (⟨#[97, 97, 98, 10, 97, 97]⟩ : ByteArray))) (fun _ hk => hk.2) (.slice Ao28 y246.length co28)) (fun _ h_ => h_.1))))) (bZ (by repeat (first | (with_reducible first | exact HB.out | apply ea | apply en | apply ed | refine es ?_ GE249.out) | exact HB.out)))); have n2_ := aM (rL (Kd.R_new' ho1 (Kd.R_lt (by (with_reducible repeat (first | apply ra | apply rn | apply rd_)); exact (rM (rF (p := ⟨gb249, 1, none⟩) (rF (p := ⟨gb249, 0, none⟩) (rT HO248.out BK249.out (by decide)) (fun _ hk => hk.2) (.string (⟨#[97, 97, 98, 10, 97, 97]⟩ : ByteArray))) (fun _ hk => hk.2) (.slice Ao28 y246.length co28)) (fun _ h_ => h_.1))))) (bZ (by repeat (first | (with_reducible first | exact HB.out | apply ea | apply en | apply ed | refine es ?_ GE249.out) | exact HB.out)))); have n3_ := aM (bB (g := gb249) (o := .cells #[.string (⟨#[97, 97, 98, 10, 97, 97]⟩ : ByteArray), .slice Ao28 y246.length co28] 24 (0, 0)) (by (with_reducible repeat (first | apply qn | apply qd | apply qa)); refine bU (cs := #[.string (⟨#[97, 97, 98, 10, 97, 97]⟩ : ByteArray), .slice none 0 0]) ?_ 1 _ rfl; (with_reducible repeat (first | apply qn | apply qd | apply qa)); refine bU (cs := #[.string (⟨#[]⟩ : ByteArray), .slice none 0 0]) ?_ 0 _ rfl; exact qy BK249.out) hb); have n4_ := aM (bP (by repeat (first | (with_reducible first | exact HB.out | apply ea | apply en | apply ed | refine es ?_ GE249.out) | exact HB.out)) hb); clear HO248 BK249 HB; have HO248 := n0_; have HO254 := n1_; have HO258 := n2_; have BK249 := n3_; have HB := n4_; clear n0_ n1_ n2_ n3_ n4_; (try clear hb); (try clear hb2); (try clear hk); (try clear hi); (try clear ho0); (try clear ho1)) | ((with_reducible refine gate_dst (N := 2) rfl ?_); refine box_event ?hg (N := 2) ?hd (cs := #[.int .i64 0, .string (⟨#[]⟩ : ByteArray), .slice none 0 0, .string (⟨#[]⟩ : ByteArray), .slice none 0 0]) (t := 32) ?hr ?_; (case hd | hg => rfl); (case hr => first | (go_simp; done) | (go_simp; rfl)); intro gb261 hg w32 hbox hb; have n0_ := aM (Kd.R_below (ry HO248.out) hb); have n1_ := aM (Kd.R_below (ry HO254.out) hb); have n2_ := aM (Kd.R_below (ry HO258.out) hb); have n3_ := aM (bB (g := gb249) (qy BK249.out) hb); have n4_ := aM (bP (by repeat (first | (with_reducible first | exact HB.out | apply ea | apply en | apply ed | refine es ?_ GE249.out) | exact HB.out)) hb); have n5_ := aM (hbox); have n6_ := aM ((by rw [hg]; exact (bZ (by repeat (first | (with_reducible first | exact HB.out | apply ea | apply en | apply ed | refine es ?_ GE249.out) | exact HB.out))) : w.heap.size ≤ gb261)); have n7_ := n6_; have n8_ := aM ((by rw [hg]; exact Nat.ne_of_lt (blk_lt (g := gb249) (qy BK249.out)) : gb249 ≠ gb261)); have n9_ := aM ((by rw [hg]; exact Nat.ne_of_gt (blk_lt (g := gb249) (qy BK249.out)) : gb261 ≠ gb249)); clear HO248 HO254 HO258 BK249 HB; have HO248 := n0_; have HO254 := n1_; have HO258 := n2_; have BK249 := n3_; have HB := n4_; have BK261 := n5_; have GW261 := n6_; have GE261 := n7_; have NB249_261 := n8_; have NB261_249 := n9_; clear n0_ n1_ n2_ n3_ n4_ n5_ n6_ n7_ n8_ n9_; clear hb hbox hg; have hnb33 := NB261_249.out; have hnc33 := NB249_261.out; have hcz34_0 : w32.cell? ⟨gb261, 0, none⟩ = some (.int .i64 0) := (bC BK261.out 0).trans rfl; have hcz34_1 : w32.cell? ⟨gb261, 1, none⟩ = some (.string (⟨#[]⟩ : ByteArray)) := (bC BK261.out 1).trans rfl; have hcz34_2 : w32.cell? ⟨gb261, 2, none⟩ = some (.slice none 0 0) := (bC BK261.out 2).trans rfl; have hcz34_3 : w32.cell? ⟨gb261, 3, none⟩ = some (.string (⟨#[]⟩ : ByteArray)) := (bC BK261.out 3).trans rfl; have hcz34_4 : w32.cell? ⟨gb261, 4, none⟩ = some (.slice none 0 0) := (bC BK261.out 4).trans rfl; have hfz34_0 := bF BK261.out 0; have hfz34_1 := bF BK261.out 1; have hfz34_2 := bF BK261.out 2; have hfz34_3 := bF BK261.out 3; have hfz34_4 := bF BK261.out 4; obtain ⟨Ao35, co35, eo35⟩ := Kd.R_slice HO254.out; subst eo35; obtain ⟨Ao36, co36, eo36⟩ := Kd.R_slice HO258.out; subst eo36; have hcz37_0 : w32.cell? ⟨gb249, 0, none⟩ = some (.string (⟨#[97, 97, 98, 10, 97, 97]⟩ : ByteArray)) := (bC BK249.out 0).trans rfl; have hcz37_1 : w32.cell? ⟨gb249, 1, none⟩ = some (.slice Ao28 y246.length co28) := (bC BK249.out 1).trans rfl; have hfz37_0 := bF BK249.out 0; have hfz37_1 := bF BK249.out 1) | ((with_reducible refine gate_callee (f := 10) rfl ?_); refine goesL_ (some 21) rfl rfl Try.func10 (by kernel_rfl) rfl #[.agg #[.string (⟨#[97, 97, 98, 10, 97, 97]⟩ : ByteArray), .slice Ao28 y246.length co28], .int .u64 1, .agg #[.int .i64 1, .int .i64 1, .string (⟨#[98]⟩ : ByteArray), .string (⟨#[]⟩ : ByteArray), .bool false]] rfl (by (try simp only [mT, mC, mN]); first | done | rfl | (simp only [lD, lT]; rfl)) ?_; (with_reducible refine (subst_Do.calls k (⟨#[97, 97, 98, 10, 97, 97]⟩ : ByteArray) _ _ y246 1 1 1 (⟨#[98]⟩ : ByteArray) (⟨#[]⟩ : ByteArray) false t262 t263 t264 t267 t268 t271 t272 _ ?mx9 ?side1 ?side2 A2.out).mono ?_); (case mx9 => exact MaxOk.below HMX.out (by repeat (first | (with_reducible first | exact HB.out | apply ea | apply en | apply ed | refine es ?_ GE249.out | refine es ?_ GE261.out) | exact HB.out))); (case side1 => refine (rR (e := 51) (base := w.heap.size) (ok := fun k_ => ((True ∧ some k_ ≠ (.slice Ao35 t252.length co35 : Value).ownBlock) ∧ some k_ ≠ (.slice Ao36 t256.length co36 : Value).ownBlock)) (n := y246.length) (c := co28) ?_).2.2; exact (by (with_reducible repeat (first | apply ra | apply rn | apply rd_)); exact (rM (rF (p := ⟨gb261, 4, none⟩) (rF (p := ⟨gb261, 3, none⟩) (rF (p := ⟨gb261, 2, none⟩) (rF (p := ⟨gb261, 1, none⟩) (rF (p := ⟨gb261, 0, none⟩) (rT HO248.out BK261.out (by decide)) (fun _ hk => hk.2) (.int .i64 t250)) (fun _ hk => hk.2) (.string t251)) (fun _ hk => hk.2) (.slice Ao35 t252.length co35)) (fun _ hk => hk.2) (.string t255)) (fun _ hk => hk.2) (.slice Ao36 t256.length co36)) (fun _ h_ => h_.1)))); (case side2 => exact (rR HO248.out).2.1); rintro e w38 ⟨v265, v269, rfl, ho0, ho1, hb⟩; refine ⟨_, rfl, ?_⟩; have n0_ := aM (rM (Kd.R_told (Kd.R_told (Kd.R_old (by (with_reducible repeat (first | apply ra | apply rn | apply rd_)); exact (rM (rF (p := ⟨gb261, 4, none⟩) (rF (p := ⟨gb261, 3, none⟩) (rF (p := ⟨gb261, 2, none⟩) (rF (p := ⟨gb261, 1, none⟩) (rF (p := ⟨gb261, 0, none⟩) (rT HO248.out BK261.out (by decide)) (fun _ hk => hk.2) (.int .i64 t250)) (fun _ hk => hk.2) (.string t251)) (fun _ hk => hk.2) (.slice Ao35 t252.length co35)) (fun _ hk => hk.2) (.string t255)) (fun _ hk => hk.2) (.slice Ao36 t256.length co36)) (fun _ h_ => h_.1))) hb) (Kd.R_base ho0)) (Kd.R_base ho1)) (fun _ h_ => h_.1)); have n1_ := aM (rM (Kd.R_told (Kd.R_told (Kd.R_old (by (with_reducible repeat (first | apply ra | apply rn | apply rd_)); exact (rM (rF (p := ⟨gb261, 4, none⟩) (rF (p := ⟨gb261, 3, none⟩) (rF (p := ⟨gb261, 2, none⟩) (rF (p := ⟨gb261, 1, none⟩) (rF (p := ⟨gb261, 0, none⟩) (rT HO254.out BK261.out (by decide)) (fun _ hk => hk.2) (.int .i64 t250)) (fun _ hk => hk.2) (.string t251)) (fun _ hk => hk.2) (.slice Ao35 t252.length co35)) (fun _ hk => hk.2) (.string t255)) (fun _ hk => hk.2) (.slice Ao36 t256.length co36)) (fun _ h_ => h_.1))) hb) (Kd.R_base ho0)) (Kd.R_base ho1)) (fun _ h_ => h_.1)); have n2_ := aM (rM (Kd.R_told (Kd.R_told (Kd.R_old (by (with_reducible repeat (first | apply ra | apply rn | apply rd_)); exact (rM (rF (p := ⟨gb261, 4, none⟩) (rF (p := ⟨gb261, 3, none⟩) (rF (p := ⟨gb261, 2, none⟩) (rF (p := ⟨gb261, 1, none⟩) (rF (p := ⟨gb261, 0, none⟩) (rT HO258.out BK261.out (by decide)) (fun _ hk => hk.2) (.int .i64 t250)) (fun _ hk => hk.2) (.string t251)) (fun _ hk => hk.2) (.slice Ao35 t252.length co35)) (fun _ hk => hk.2) (.string t255)) (fun _ hk => hk.2) (.slice Ao36 t256.length co36)) (fun _ h_ => h_.1))) hb) (Kd.R_base ho0)) (Kd.R_base ho1)) (fun _ h_ => h_.1)); have n3_ := aM (rL (Kd.R_new' (Kd.R_new' (Kd.R_new' ho0 (Kd.R_lt (by (with_reducible repeat (first | apply ra | apply rn | apply rd_)); exact (rM (rF (p := ⟨gb261, 4, none⟩) (rF (p := ⟨gb261, 3, none⟩) (rF (p := ⟨gb261, 2, none⟩) (rF (p := ⟨gb261, 1, none⟩) (rF (p := ⟨gb261, 0, none⟩) (rT HO248.out BK261.out (by decide)) (fun _ hk => hk.2) (.int .i64 t250)) (fun _ hk => hk.2) (.string t251)) (fun _ hk => hk.2) (.slice Ao35 t252.length co35)) (fun _ hk => hk.2) (.string t255)) (fun _ hk => hk.2) (.slice Ao36 t256.length co36)) (fun _ h_ => h_.1))))) (Kd.R_lt (by (with_reducible repeat (first | apply ra | apply rn | apply rd_)); exact (rM (rF (p := ⟨gb261, 4, none⟩) (rF (p := ⟨gb261, 3, none⟩) (rF (p := ⟨gb261, 2, none⟩) (rF (p := ⟨gb261, 1, none⟩) (rF (p := ⟨gb261, 0, none⟩) (rT HO254.out BK261.out (by decide)) (fun _ hk => hk.2) (.int .i64 t250)) (fun _ hk => hk.2) (.string t251)) (fun _ hk => hk.2) (.slice Ao35 t252.length co35)) (fun _ hk => hk.2) (.string t255)) (fun _ hk => hk.2) (.slice Ao36 t256.length co36)) (fun _ h_ => h_.1))))) (Kd.R_lt (by (with_reducible repeat (first | apply ra | apply rn | apply rd_)); exact (rM (rF (p := ⟨gb261, 4, none⟩) (rF (p := ⟨gb261, 3, none⟩) (rF (p := ⟨gb261, 2, none⟩) (rF (p := ⟨gb261, 1, none⟩) (rF (p := ⟨gb261, 0, none⟩) (rT HO258.out BK261.out (by decide)) (fun _ hk => hk.2) (.int .i64 t250)) (fun _ hk => hk.2) (.string t251)) (fun _ hk => hk.2) (.slice Ao35 t252.length co35)) (fun _ hk => hk.2) (.string t255)) (fun _ hk => hk.2) (.slice Ao36 t256.length co36)) (fun _ h_ => h_.1))))) (bZ (by repeat (first | (with_reducible first | exact HB.out | apply ea | apply en | apply ed | refine es ?_ GE249.out | refine es ?_ GE261.out) | exact HB.out)))); have n4_ := aM (rL (Kd.R_new' (Kd.R_new' (Kd.R_new' ho1 (Kd.R_lt (by (with_reducible repeat (first | apply ra | apply rn | apply rd_)); exact (rM (rF (p := ⟨gb261, 4, none⟩) (rF (p := ⟨gb261, 3, none⟩) (rF (p := ⟨gb261, 2, none⟩) (rF (p := ⟨gb261, 1, none⟩) (rF (p := ⟨gb261, 0, none⟩) (rT HO248.out BK261.out (by decide)) (fun _ hk => hk.2) (.int .i64 t250)) (fun _ hk => hk.2) (.string t251)) (fun _ hk => hk.2) (.slice Ao35 t252.length co35)) (fun _ hk => hk.2) (.string t255)) (fun _ hk => hk.2) (.slice Ao36 t256.length co36)) (fun _ h_ => h_.1))))) (Kd.R_lt (by (with_reducible repeat (first | apply ra | apply rn | apply rd_)); exact (rM (rF (p := ⟨gb261, 4, none⟩) (rF (p := ⟨gb261, 3, none⟩) (rF (p := ⟨gb261, 2, none⟩) (rF (p := ⟨gb261, 1, none⟩) (rF (p := ⟨gb261, 0, none⟩) (rT HO254.out BK261.out (by decide)) (fun _ hk => hk.2) (.int .i64 t250)) (fun _ hk => hk.2) (.string t251)) (fun _ hk => hk.2) (.slice Ao35 t252.length co35)) (fun _ hk => hk.2) (.string t255)) (fun _ hk => hk.2) (.slice Ao36 t256.length co36)) (fun _ h_ => h_.1))))) (Kd.R_lt (by (with_reducible repeat (first | apply ra | apply rn | apply rd_)); exact (rM (rF (p := ⟨gb261, 4, none⟩) (rF (p := ⟨gb261, 3, none⟩) (rF (p := ⟨gb261, 2, none⟩) (rF (p := ⟨gb261, 1, none⟩) (rF (p := ⟨gb261, 0, none⟩) (rT HO258.out BK261.out (by decide)) (fun _ hk => hk.2) (.int .i64 t250)) (fun _ hk => hk.2) (.string t251)) (fun _ hk => hk.2) (.slice Ao35 t252.length co35)) (fun _ hk => hk.2) (.string t255)) (fun _ hk => hk.2) (.slice Ao36 t256.length co36)) (fun _ h_ => h_.1))))) (bZ (by repeat (first | (with_reducible first | exact HB.out | apply ea | apply en | apply ed | refine es ?_ GE249.out | refine es ?_ GE261.out) | exact HB.out)))); have n5_ := aM (bB (g := gb249) (o := .cells #[.string (⟨#[97, 97, 98, 10, 97, 97]⟩ : ByteArray), .slice Ao28 y246.length co28] 24 (0, 0)) (by (with_reducible repeat (first | apply qn | apply qd | apply qa)); refine bR ?_ NB249_261.out _; (with_reducible repeat (first | apply qn | apply qd | apply qa)); refine bR ?_ NB249_261.out _; (with_reducible repeat (first | apply qn | apply qd | apply qa)); refine bR ?_ NB249_261.out _; (with_reducible repeat (first | apply qn | apply qd | apply qa)); refine bR ?_ NB249_261.out _; (with_reducible repeat (first | apply qn | apply qd | apply qa)); refine bR ?_ NB249_261.out _; exact qy BK249.out) hb); have n6_ := aM (bB (g := gb261) (o := .cells #[.int .i64 t250, .string t251, .slice Ao35 t252.length co35, .string t255, .slice Ao36 t256.length co36] 32 (0, 0)) (by (with_reducible repeat (first | apply qn | apply qd | apply qa)); refine bU (cs := #[.int .i64 t250, .string t251, .slice Ao35 t252.length co35, .string t255, .slice none 0 0]) ?_ 4 _ rfl; (with_reducible repeat (first | apply qn | apply qd | apply qa)); refine bU (cs := #[.int .i64 t250, .string t251, .slice Ao35 t252.length co35, .string (⟨#[]⟩ : ByteArray), .slice none 0 0]) ?_ 3 _ rfl; (with_reducible repeat (first | apply qn | apply qd | apply qa)); refine bU (cs := #[.int .i64 t250, .string t251, .slice none 0 0, .string (⟨#[]⟩ : ByteArray), .slice none 0 0]) ?_ 2 _ rfl; (with_reducible repeat (first | apply qn | apply qd | apply qa)); refine bU (cs := #[.int .i64 t250, .string (⟨#[]⟩ : ByteArray), .slice none 0 0, .string (⟨#[]⟩ : ByteArray), .slice none 0 0]) ?_ 1 _ rfl; (with_reducible repeat (first | apply qn | apply qd | apply qa)); refine bU (cs := #[.int .i64 0, .string (⟨#[]⟩ : ByteArray), .slice none 0 0, .string (⟨#[]⟩ : ByteArray), .slice none 0 0]) ?_ 0 _ rfl; exact qy BK261.out) hb); have n7_ := aM (bP (by repeat (first | (with_reducible first | exact HB.out | apply ea | apply en | apply ed | refine es ?_ GE249.out | refine es ?_ GE261.out) | exact HB.out)) hb); clear HO248 HO254 HO258 BK249 BK261 HB; have HO248 := n0_; have HO254 := n1_; have HO258 := n2_; have HO266 := n3_; have HO270 := n4_; have BK249 := n5_; have BK261 := n6_; have HB := n7_; clear n0_ n1_ n2_ n3_ n4_ n5_ n6_ n7_; (try clear hb); (try clear hb2); (try clear hk); (try clear hi); (try clear ho0); (try clear ho1)) | ((with_reducible refine gate_dst (N := 5) rfl ?_); refine box_event ?hg (N := 5) ?hd (cs := #[.int .i64 0, .string (⟨#[]⟩ : ByteArray), .slice none 0 0, .string (⟨#[]⟩ : ByteArray), .slice none 0 0]) (t := 32) ?hr ?_; (case hd | hg => rfl); (case hr => first | (go_simp; done) | (go_simp; rfl)); intro gb273 hg w39 hbox hb; have n0_ := aM (Kd.R_below (ry HO248.out) hb); have n1_ := aM (Kd.R_below (ry HO254.out) hb); have n2_ := aM (Kd.R_below (ry HO258.out) hb); have n3_ := aM (Kd.R_below (ry HO266.out) hb); have n4_ := aM (Kd.R_below (ry HO270.out) hb); have n5_ := aM (bB (g := gb249) (qy BK249.out) hb); have n6_ := aM (bB (g := gb261) (qy BK261.out) hb); have n7_ := aM (bP (by repeat (first | (with_reducible first | exact HB.out | apply ea | apply en | apply ed | refine es ?_ GE249.out | refine es ?_ GE261.out) | exact HB.out)) hb); have n8_ := aM (hbox); have n9_ := aM ((by rw [hg]; exact (bZ (by repeat (first | (with_reducible first | exact HB.out | apply ea | apply en | apply ed | refine es ?_ GE249.out | refine es ?_ GE261.out) | exact HB.out))) : w.heap.size ≤ gb273)); have n10_ := n9_; have n11_ := aM ((by rw [hg]; exact Nat.ne_of_lt (blk_lt (g := gb249) (qy BK249.out)) : gb249 ≠ gb273)); have n12_ := aM ((by rw [hg]; exact Nat.ne_of_gt (blk_lt (g := gb249) (qy BK249.out)) : gb273 ≠ gb249)); have n13_ := aM ((by rw [hg]; exact Nat.ne_of_lt (blk_lt (g := gb261) (qy BK261.out)) : gb261 ≠ gb273)); have n14_ := aM ((by rw [hg]; exact Nat.ne_of_gt (blk_lt (g := gb261) (qy BK261.out)) : gb273 ≠ gb261)); clear HO248 HO254 HO258 HO266 HO270 BK249 BK261 HB; have HO248 := n0_; have HO254 := n1_; have HO258 := n2_; have HO266 := n3_; have HO270 := n4_; have BK249 := n5_; have BK261 := n6_; have HB := n7_; have BK273 := n8_; have GW273 := n9_; have GE273 := n10_; have NB249_273 := n11_; have NB273_249 := n12_; have NB261_273 := n13_; have NB273_261 := n14_; clear n0_ n1_ n2_ n3_ n4_ n5_ n6_ n7_ n8_ n9_ n10_ n11_ n12_ n13_ n14_; clear hb hbox hg; have hnb40 := NB273_249.out; have hnc40 := NB249_273.out; have hnb41 := NB273_261.out; have hnc41 := NB261_273.out; have hcz42_0 : w39.cell? ⟨gb273, 0, none⟩ = some (.int .i64 0) := (bC BK273.out 0).trans rfl; have hcz42_1 : w39.cell? ⟨gb273, 1, none⟩ = some (.string (⟨#[]⟩ : ByteArray)) := (bC BK273.out 1).trans rfl; have hcz42_2 : w39.cell? ⟨gb273, 2, none⟩ = some (.slice none 0 0) := (bC BK273.out 2).trans rfl; have hcz42_3 : w39.cell? ⟨gb273, 3, none⟩ = some (.string (⟨#[]⟩ : ByteArray)) := (bC BK273.out 3).trans rfl; have hcz42_4 : w39.cell? ⟨gb273, 4, none⟩ = some (.slice none 0 0) := (bC BK273.out 4).trans rfl; have hfz42_0 := bF BK273.out 0; have hfz42_1 := bF BK273.out 1; have hfz42_2 := bF BK273.out 2; have hfz42_3 := bF BK273.out 3; have hfz42_4 := bF BK273.out 4; obtain ⟨Ao43, co43, eo43⟩ := Kd.R_slice HO266.out; subst eo43; obtain ⟨Ao44, co44, eo44⟩ := Kd.R_slice HO270.out; subst eo44; have hcz45_0 : w39.cell? ⟨gb261, 0, none⟩ = some (.int .i64 t250) := (bC BK261.out 0).trans rfl; have hcz45_1 : w39.cell? ⟨gb261, 1, none⟩ = some (.string t251) := (bC BK261.out 1).trans rfl; have hcz45_2 : w39.cell? ⟨gb261, 2, none⟩ = some (.slice Ao35 t252.length co35) := (bC BK261.out 2).trans rfl; have hcz45_3 : w39.cell? ⟨gb261, 3, none⟩ = some (.string t255) := (bC BK261.out 3).trans rfl; have hcz45_4 : w39.cell? ⟨gb261, 4, none⟩ = some (.slice Ao36 t256.length co36) := (bC BK261.out 4).trans rfl; have hfz45_0 := bF BK261.out 0; have hfz45_1 := bF BK261.out 1; have hfz45_2 := bF BK261.out 2; have hfz45_3 := bF BK261.out 3; have hfz45_4 := bF BK261.out 4))
    go_ret
    exact ⟨by first | rfl | (simp [errW_none, errW_some] <;> rfl) | (simp [*, errW_none, errW_some] <;> rfl), by repeat (first | (with_reducible first | exact HB.out | apply ea | apply en | apply ed | refine es ?_ GE249.out | refine es ?_ GE261.out | refine es ?_ GE273.out) | exact HB.out)⟩
  ·rw [if_neg c4] at H
   have c4b0 : (t259 == 4) = false := beq_eq_false_iff_ne.mpr c4
   have c4b1 : (t259 != 4) = true := bne_iff_ne.mpr c4
   obtain rfl := Option.some.inj H
   go_enter Try.func8, Try.ntmps8
   go_wp2_with (first | ((with_reducible refine gate_dst (N := 9) rfl ?_); refine Kd.R_lit k51 _ 51 ?hg (N := 9) ?hd (xs := ([(⟨1, 6⟩ : S51)] : List (S51))) (inner := [.int .u64 1, .int .i64 6]) (ok := fun _ => True) (okp := fun _ => True) ?hr ?hp (fun _ hk => hk) trivial (Below.refl _ _) (Nat.le_refl _) (by simp) ?_; (case hd | hg => rfl); (case hr => first | (go_simp; done) | (go_simp; rfl)); (case hp => exact (Reps.c2 (show Kd.M k51 _ _ _ (⟨1, 6⟩ : S51) [.int .u64 1, .int .i64 6] from (k51_mkM _ _ _ (⟨1, 6⟩ : S51) )) (Reps.none _ _))); intro v247 w46 ho47 hb hg_ hnew_; clear hg_ hnew_; (first | rw [← Ny246.out] at ho47 | (simp only [Int.reduceToNat] at ho47; rw [← Ny246.out] at ho47)); have n0_ := aM (rL ho47 (bZ (ey HB.out))); have n1_ := aM (bP (ey HB.out) hb); clear HB; have HO248 := n0_; have HB := n1_; clear n0_ n1_; clear hb ho47; obtain ⟨Ao48, co48, eo48⟩ := Kd.R_slice HO248.out; subst eo48) | ((with_reducible refine gate_dst (N := 1) rfl ?_); refine box_event ?hg (N := 1) ?hd (cs := #[.string (⟨#[]⟩ : ByteArray), .slice none 0 0]) (t := 24) ?hr ?_; (case hd | hg => rfl); (case hr => first | (go_simp; done) | (go_simp; rfl)); intro gb249 hg w49 hbox hb; have n0_ := aM (Kd.R_below (ry HO248.out) hb); have n1_ := aM (bP (ey HB.out) hb); have n2_ := aM (hbox); have n3_ := aM ((by rw [hg]; exact (bZ (ey HB.out)) : w.heap.size ≤ gb249)); have n4_ := n3_; clear HO248 HB; have HO248 := n0_; have HB := n1_; have BK249 := n2_; have GW249 := n3_; have GE249 := n4_; clear n0_ n1_ n2_ n3_ n4_; clear hb hbox hg; have hcz50_0 : w49.cell? ⟨gb249, 0, none⟩ = some (.string (⟨#[]⟩ : ByteArray)) := (bC BK249.out 0).trans rfl; have hcz50_1 : w49.cell? ⟨gb249, 1, none⟩ = some (.slice none 0 0) := (bC BK249.out 1).trans rfl; have hfz50_0 := bF BK249.out 0; have hfz50_1 := bF BK249.out 1) | ((with_reducible refine gate_callee (f := 10) rfl ?_); refine goesL_ (some 14) rfl rfl Try.func10 (by kernel_rfl) rfl #[.agg #[.string (⟨#[97, 97, 98, 10, 97, 97]⟩ : ByteArray), .slice Ao48 y246.length co48], .int .u64 1, .agg #[.int .i64 0, .int .i64 1, .string (⟨#[97]⟩ : ByteArray), .string (⟨#[120, 121]⟩ : ByteArray), .bool true]] rfl (by (try simp only [mT, mC, mN]); first | done | rfl | (simp only [lD, lT]; rfl)) ?_; (with_reducible refine (subst_Do.calls k (⟨#[97, 97, 98, 10, 97, 97]⟩ : ByteArray) _ _ y246 1 0 1 (⟨#[97]⟩ : ByteArray) (⟨#[120, 121]⟩ : ByteArray) true t250 t251 t252 t255 t256 t259 t260 _ ?mx10 ?side1 ?side2 A1.out).mono ?_); (case mx10 => exact MaxOk.below HMX.out (by repeat (first | (with_reducible first | exact HB.out | apply ea | apply en | apply ed | refine es ?_ GE249.out) | exact HB.out))); (case side1 => refine (rR (e := 51) (base := w.heap.size) (ok := fun k_ => True) (n := y246.length) (c := co48) ?_).2.2; exact (by (with_reducible repeat (first | apply ra | apply rn | apply rd_)); exact (rM (rF (p := ⟨gb249, 1, none⟩) (rF (p := ⟨gb249, 0, none⟩) (rT HO248.out BK249.out (by decide)) (fun _ hk => hk.2) (.string (⟨#[97, 97, 98, 10, 97, 97]⟩ : ByteArray))) (fun _ hk => hk.2) (.slice Ao48 y246.length co48)) (fun _ h_ => h_.1)))); (case side2 => exact (rR HO248.out).2.1); rintro e w51 ⟨v253, v257, rfl, ho0, ho1, hb⟩; refine ⟨_, rfl, ?_⟩; have n0_ := aM (rM (Kd.R_told (Kd.R_told (Kd.R_old (by (with_reducible repeat (first | apply ra | apply rn | apply rd_)); exact (rM (rF (p := ⟨gb249, 1, none⟩) (rF (p := ⟨gb249, 0, none⟩) (rT HO248.out BK249.out (by decide)) (fun _ hk => hk.2) (.string (⟨#[97, 97, 98, 10, 97, 97]⟩ : ByteArray))) (fun _ hk => hk.2) (.slice Ao48 y246.length co48)) (fun _ h_ => h_.1))) hb) (Kd.R_base ho0)) (Kd.R_base ho1)) (fun _ h_ => h_.1)); have n1_ := aM (rL (Kd.R_new' ho0 (Kd.R_lt (by (with_reducible repeat (first | apply ra | apply rn | apply rd_)); exact (rM (rF (p := ⟨gb249, 1, none⟩) (rF (p := ⟨gb249, 0, none⟩) (rT HO248.out BK249.out (by decide)) (fun _ hk => hk.2) (.string (⟨#[97, 97, 98, 10, 97, 97]⟩ : ByteArray))) (fun _ hk => hk.2) (.slice Ao48 y246.length co48)) (fun _ h_ => h_.1))))) (bZ (by repeat (first | (with_reducible first | exact HB.out | apply ea | apply en | apply ed | refine es ?_ GE249.out) | exact HB.out)))); have n2_ := aM (rL (Kd.R_new' ho1 (Kd.R_lt (by (with_reducible repeat (first | apply ra | apply rn | apply rd_)); exact (rM (rF (p := ⟨gb249, 1, none⟩) (rF (p := ⟨gb249, 0, none⟩) (rT HO248.out BK249.out (by decide)) (fun _ hk => hk.2) (.string (⟨#[97, 97, 98, 10, 97, 97]⟩ : ByteArray))) (fun _ hk => hk.2) (.slice Ao48 y246.length co48)) (fun _ h_ => h_.1))))) (bZ (by repeat (first | (with_reducible first | exact HB.out | apply ea | apply en | apply ed | refine es ?_ GE249.out) | exact HB.out)))); have n3_ := aM (bB (g := gb249) (o := .cells #[.string (⟨#[97, 97, 98, 10, 97, 97]⟩ : ByteArray), .slice Ao48 y246.length co48] 24 (0, 0)) (by (with_reducible repeat (first | apply qn | apply qd | apply qa)); refine bU (cs := #[.string (⟨#[97, 97, 98, 10, 97, 97]⟩ : ByteArray), .slice none 0 0]) ?_ 1 _ rfl; (with_reducible repeat (first | apply qn | apply qd | apply qa)); refine bU (cs := #[.string (⟨#[]⟩ : ByteArray), .slice none 0 0]) ?_ 0 _ rfl; exact qy BK249.out) hb); have n4_ := aM (bP (by repeat (first | (with_reducible first | exact HB.out | apply ea | apply en | apply ed | refine es ?_ GE249.out) | exact HB.out)) hb); clear HO248 BK249 HB; have HO248 := n0_; have HO254 := n1_; have HO258 := n2_; have BK249 := n3_; have HB := n4_; clear n0_ n1_ n2_ n3_ n4_; (try clear hb); (try clear hb2); (try clear hk); (try clear hi); (try clear ho0); (try clear ho1)) | ((with_reducible refine gate_dst (N := 2) rfl ?_); refine box_event ?hg (N := 2) ?hd (cs := #[.int .i64 0, .string (⟨#[]⟩ : ByteArray), .slice none 0 0, .string (⟨#[]⟩ : ByteArray), .slice none 0 0]) (t := 32) ?hr ?_; (case hd | hg => rfl); (case hr => first | (go_simp; done) | (go_simp; rfl)); intro gb261 hg w52 hbox hb; have n0_ := aM (Kd.R_below (ry HO248.out) hb); have n1_ := aM (Kd.R_below (ry HO254.out) hb); have n2_ := aM (Kd.R_below (ry HO258.out) hb); have n3_ := aM (bB (g := gb249) (qy BK249.out) hb); have n4_ := aM (bP (by repeat (first | (with_reducible first | exact HB.out | apply ea | apply en | apply ed | refine es ?_ GE249.out) | exact HB.out)) hb); have n5_ := aM (hbox); have n6_ := aM ((by rw [hg]; exact (bZ (by repeat (first | (with_reducible first | exact HB.out | apply ea | apply en | apply ed | refine es ?_ GE249.out) | exact HB.out))) : w.heap.size ≤ gb261)); have n7_ := n6_; have n8_ := aM ((by rw [hg]; exact Nat.ne_of_lt (blk_lt (g := gb249) (qy BK249.out)) : gb249 ≠ gb261)); have n9_ := aM ((by rw [hg]; exact Nat.ne_of_gt (blk_lt (g := gb249) (qy BK249.out)) : gb261 ≠ gb249)); clear HO248 HO254 HO258 BK249 HB; have HO248 := n0_; have HO254 := n1_; have HO258 := n2_; have BK249 := n3_; have HB := n4_; have BK261 := n5_; have GW261 := n6_; have GE261 := n7_; have NB249_261 := n8_; have NB261_249 := n9_; clear n0_ n1_ n2_ n3_ n4_ n5_ n6_ n7_ n8_ n9_; clear hb hbox hg; have hnb53 := NB261_249.out; have hnc53 := NB249_261.out; have hcz54_0 : w52.cell? ⟨gb261, 0, none⟩ = some (.int .i64 0) := (bC BK261.out 0).trans rfl; have hcz54_1 : w52.cell? ⟨gb261, 1, none⟩ = some (.string (⟨#[]⟩ : ByteArray)) := (bC BK261.out 1).trans rfl; have hcz54_2 : w52.cell? ⟨gb261, 2, none⟩ = some (.slice none 0 0) := (bC BK261.out 2).trans rfl; have hcz54_3 : w52.cell? ⟨gb261, 3, none⟩ = some (.string (⟨#[]⟩ : ByteArray)) := (bC BK261.out 3).trans rfl; have hcz54_4 : w52.cell? ⟨gb261, 4, none⟩ = some (.slice none 0 0) := (bC BK261.out 4).trans rfl; have hfz54_0 := bF BK261.out 0; have hfz54_1 := bF BK261.out 1; have hfz54_2 := bF BK261.out 2; have hfz54_3 := bF BK261.out 3; have hfz54_4 := bF BK261.out 4; obtain ⟨Ao55, co55, eo55⟩ := Kd.R_slice HO254.out; subst eo55; obtain ⟨Ao56, co56, eo56⟩ := Kd.R_slice HO258.out; subst eo56; have hcz57_0 : w52.cell? ⟨gb249, 0, none⟩ = some (.string (⟨#[97, 97, 98, 10, 97, 97]⟩ : ByteArray)) := (bC BK249.out 0).trans rfl; have hcz57_1 : w52.cell? ⟨gb249, 1, none⟩ = some (.slice Ao48 y246.length co48) := (bC BK249.out 1).trans rfl; have hfz57_0 := bF BK249.out 0; have hfz57_1 := bF BK249.out 1) | ((with_reducible refine gate_callee (f := 10) rfl ?_); refine goesL_ (some 21) rfl rfl Try.func10 (by kernel_rfl) rfl #[.agg #[.string (⟨#[97, 97, 98, 10, 97, 97]⟩ : ByteArray), .slice Ao48 y246.length co48], .int .u64 1, .agg #[.int .i64 1, .int .i64 1, .string (⟨#[98]⟩ : ByteArray), .string (⟨#[]⟩ : ByteArray), .bool false]] rfl (by (try simp only [mT, mC, mN]); first | done | rfl | (simp only [lD, lT]; rfl)) ?_; (with_reducible refine (subst_Do.calls k (⟨#[97, 97, 98, 10, 97, 97]⟩ : ByteArray) _ _ y246 1 1 1 (⟨#[98]⟩ : ByteArray) (⟨#[]⟩ : ByteArray) false t262 t263 t264 t267 t268 t271 t272 _ ?mx11 ?side1 ?side2 A2.out).mono ?_); (case mx11 => exact MaxOk.below HMX.out (by repeat (first | (with_reducible first | exact HB.out | apply ea | apply en | apply ed | refine es ?_ GE249.out | refine es ?_ GE261.out) | exact HB.out))); (case side1 => refine (rR (e := 51) (base := w.heap.size) (ok := fun k_ => ((True ∧ some k_ ≠ (.slice Ao55 t252.length co55 : Value).ownBlock) ∧ some k_ ≠ (.slice Ao56 t256.length co56 : Value).ownBlock)) (n := y246.length) (c := co48) ?_).2.2; exact (by (with_reducible repeat (first | apply ra | apply rn | apply rd_)); exact (rM (rF (p := ⟨gb261, 4, none⟩) (rF (p := ⟨gb261, 3, none⟩) (rF (p := ⟨gb261, 2, none⟩) (rF (p := ⟨gb261, 1, none⟩) (rF (p := ⟨gb261, 0, none⟩) (rT HO248.out BK261.out (by decide)) (fun _ hk => hk.2) (.int .i64 t250)) (fun _ hk => hk.2) (.string t251)) (fun _ hk => hk.2) (.slice Ao55 t252.length co55)) (fun _ hk => hk.2) (.string t255)) (fun _ hk => hk.2) (.slice Ao56 t256.length co56)) (fun _ h_ => h_.1)))); (case side2 => exact (rR HO248.out).2.1); rintro e w58 ⟨v265, v269, rfl, ho0, ho1, hb⟩; refine ⟨_, rfl, ?_⟩; have n0_ := aM (rM (Kd.R_told (Kd.R_told (Kd.R_old (by (with_reducible repeat (first | apply ra | apply rn | apply rd_)); exact (rM (rF (p := ⟨gb261, 4, none⟩) (rF (p := ⟨gb261, 3, none⟩) (rF (p := ⟨gb261, 2, none⟩) (rF (p := ⟨gb261, 1, none⟩) (rF (p := ⟨gb261, 0, none⟩) (rT HO248.out BK261.out (by decide)) (fun _ hk => hk.2) (.int .i64 t250)) (fun _ hk => hk.2) (.string t251)) (fun _ hk => hk.2) (.slice Ao55 t252.length co55)) (fun _ hk => hk.2) (.string t255)) (fun _ hk => hk.2) (.slice Ao56 t256.length co56)) (fun _ h_ => h_.1))) hb) (Kd.R_base ho0)) (Kd.R_base ho1)) (fun _ h_ => h_.1)); have n1_ := aM (rM (Kd.R_told (Kd.R_told (Kd.R_old (by (with_reducible repeat (first | apply ra | apply rn | apply rd_)); exact (rM (rF (p := ⟨gb261, 4, none⟩) (rF (p := ⟨gb261, 3, none⟩) (rF (p := ⟨gb261, 2, none⟩) (rF (p := ⟨gb261, 1, none⟩) (rF (p := ⟨gb261, 0, none⟩) (rT HO254.out BK261.out (by decide)) (fun _ hk => hk.2) (.int .i64 t250)) (fun _ hk => hk.2) (.string t251)) (fun _ hk => hk.2) (.slice Ao55 t252.length co55)) (fun _ hk => hk.2) (.string t255)) (fun _ hk => hk.2) (.slice Ao56 t256.length co56)) (fun _ h_ => h_.1))) hb) (Kd.R_base ho0)) (Kd.R_base ho1)) (fun _ h_ => h_.1)); have n2_ := aM (rM (Kd.R_told (Kd.R_told (Kd.R_old (by (with_reducible repeat (first | apply ra | apply rn | apply rd_)); exact (rM (rF (p := ⟨gb261, 4, none⟩) (rF (p := ⟨gb261, 3, none⟩) (rF (p := ⟨gb261, 2, none⟩) (rF (p := ⟨gb261, 1, none⟩) (rF (p := ⟨gb261, 0, none⟩) (rT HO258.out BK261.out (by decide)) (fun _ hk => hk.2) (.int .i64 t250)) (fun _ hk => hk.2) (.string t251)) (fun _ hk => hk.2) (.slice Ao55 t252.length co55)) (fun _ hk => hk.2) (.string t255)) (fun _ hk => hk.2) (.slice Ao56 t256.length co56)) (fun _ h_ => h_.1))) hb) (Kd.R_base ho0)) (Kd.R_base ho1)) (fun _ h_ => h_.1)); have n3_ := aM (rL (Kd.R_new' (Kd.R_new' (Kd.R_new' ho0 (Kd.R_lt (by (with_reducible repeat (first | apply ra | apply rn | apply rd_)); exact (rM (rF (p := ⟨gb261, 4, none⟩) (rF (p := ⟨gb261, 3, none⟩) (rF (p := ⟨gb261, 2, none⟩) (rF (p := ⟨gb261, 1, none⟩) (rF (p := ⟨gb261, 0, none⟩) (rT HO248.out BK261.out (by decide)) (fun _ hk => hk.2) (.int .i64 t250)) (fun _ hk => hk.2) (.string t251)) (fun _ hk => hk.2) (.slice Ao55 t252.length co55)) (fun _ hk => hk.2) (.string t255)) (fun _ hk => hk.2) (.slice Ao56 t256.length co56)) (fun _ h_ => h_.1))))) (Kd.R_lt (by (with_reducible repeat (first | apply ra | apply rn | apply rd_)); exact (rM (rF (p := ⟨gb261, 4, none⟩) (rF (p := ⟨gb261, 3, none⟩) (rF (p := ⟨gb261, 2, none⟩) (rF (p := ⟨gb261, 1, none⟩) (rF (p := ⟨gb261, 0, none⟩) (rT HO254.out BK261.out (by decide)) (fun _ hk => hk.2) (.int .i64 t250)) (fun _ hk => hk.2) (.string t251)) (fun _ hk => hk.2) (.slice Ao55 t252.length co55)) (fun _ hk => hk.2) (.string t255)) (fun _ hk => hk.2) (.slice Ao56 t256.length co56)) (fun _ h_ => h_.1))))) (Kd.R_lt (by (with_reducible repeat (first | apply ra | apply rn | apply rd_)); exact (rM (rF (p := ⟨gb261, 4, none⟩) (rF (p := ⟨gb261, 3, none⟩) (rF (p := ⟨gb261, 2, none⟩) (rF (p := ⟨gb261, 1, none⟩) (rF (p := ⟨gb261, 0, none⟩) (rT HO258.out BK261.out (by decide)) (fun _ hk => hk.2) (.int .i64 t250)) (fun _ hk => hk.2) (.string t251)) (fun _ hk => hk.2) (.slice Ao55 t252.length co55)) (fun _ hk => hk.2) (.string t255)) (fun _ hk => hk.2) (.slice Ao56 t256.length co56)) (fun _ h_ => h_.1))))) (bZ (by repeat (first | (with_reducible first | exact HB.out | apply ea | apply en | apply ed | refine es ?_ GE249.out | refine es ?_ GE261.out) | exact HB.out)))); have n4_ := aM (rL (Kd.R_new' (Kd.R_new' (Kd.R_new' ho1 (Kd.R_lt (by (with_reducible repeat (first | apply ra | apply rn | apply rd_)); exact (rM (rF (p := ⟨gb261, 4, none⟩) (rF (p := ⟨gb261, 3, none⟩) (rF (p := ⟨gb261, 2, none⟩) (rF (p := ⟨gb261, 1, none⟩) (rF (p := ⟨gb261, 0, none⟩) (rT HO248.out BK261.out (by decide)) (fun _ hk => hk.2) (.int .i64 t250)) (fun _ hk => hk.2) (.string t251)) (fun _ hk => hk.2) (.slice Ao55 t252.length co55)) (fun _ hk => hk.2) (.string t255)) (fun _ hk => hk.2) (.slice Ao56 t256.length co56)) (fun _ h_ => h_.1))))) (Kd.R_lt (by (with_reducible repeat (first | apply ra | apply rn | apply rd_)); exact (rM (rF (p := ⟨gb261, 4, none⟩) (rF (p := ⟨gb261, 3, none⟩) (rF (p := ⟨gb261, 2, none⟩) (rF (p := ⟨gb261, 1, none⟩) (rF (p := ⟨gb261, 0, none⟩) (rT HO254.out BK261.out (by decide)) (fun _ hk => hk.2) (.int .i64 t250)) (fun _ hk => hk.2) (.string t251)) (fun _ hk => hk.2) (.slice Ao55 t252.length co55)) (fun _ hk => hk.2) (.string t255)) (fun _ hk => hk.2) (.slice Ao56 t256.length co56)) (fun _ h_ => h_.1))))) (Kd.R_lt (by (with_reducible repeat (first | apply ra | apply rn | apply rd_)); exact (rM (rF (p := ⟨gb261, 4, none⟩) (rF (p := ⟨gb261, 3, none⟩) (rF (p := ⟨gb261, 2, none⟩) (rF (p := ⟨gb261, 1, none⟩) (rF (p := ⟨gb261, 0, none⟩) (rT HO258.out BK261.out (by decide)) (fun _ hk => hk.2) (.int .i64 t250)) (fun _ hk => hk.2) (.string t251)) (fun _ hk => hk.2) (.slice Ao55 t252.length co55)) (fun _ hk => hk.2) (.string t255)) (fun _ hk => hk.2) (.slice Ao56 t256.length co56)) (fun _ h_ => h_.1))))) (bZ (by repeat (first | (with_reducible first | exact HB.out | apply ea | apply en | apply ed | refine es ?_ GE249.out | refine es ?_ GE261.out) | exact HB.out)))); have n5_ := aM (bB (g := gb249) (o := .cells #[.string (⟨#[97, 97, 98, 10, 97, 97]⟩ : ByteArray), .slice Ao48 y246.length co48] 24 (0, 0)) (by (with_reducible repeat (first | apply qn | apply qd | apply qa)); refine bR ?_ NB249_261.out _; (with_reducible repeat (first | apply qn | apply qd | apply qa)); refine bR ?_ NB249_261.out _; (with_reducible repeat (first | apply qn | apply qd | apply qa)); refine bR ?_ NB249_261.out _; (with_reducible repeat (first | apply qn | apply qd | apply qa)); refine bR ?_ NB249_261.out _; (with_reducible repeat (first | apply qn | apply qd | apply qa)); refine bR ?_ NB249_261.out _; exact qy BK249.out) hb); have n6_ := aM (bB (g := gb261) (o := .cells #[.int .i64 t250, .string t251, .slice Ao55 t252.length co55, .string t255, .slice Ao56 t256.length co56] 32 (0, 0)) (by (with_reducible repeat (first | apply qn | apply qd | apply qa)); refine bU (cs := #[.int .i64 t250, .string t251, .slice Ao55 t252.length co55, .string t255, .slice none 0 0]) ?_ 4 _ rfl; (with_reducible repeat (first | apply qn | apply qd | apply qa)); refine bU (cs := #[.int .i64 t250, .string t251, .slice Ao55 t252.length co55, .string (⟨#[]⟩ : ByteArray), .slice none 0 0]) ?_ 3 _ rfl; (with_reducible repeat (first | apply qn | apply qd | apply qa)); refine bU (cs := #[.int .i64 t250, .string t251, .slice none 0 0, .string (⟨#[]⟩ : ByteArray), .slice none 0 0]) ?_ 2 _ rfl; (with_reducible repeat (first | apply qn | apply qd | apply qa)); refine bU (cs := #[.int .i64 t250, .string (⟨#[]⟩ : ByteArray), .slice none 0 0, .string (⟨#[]⟩ : ByteArray), .slice none 0 0]) ?_ 1 _ rfl; (with_reducible repeat (first | apply qn | apply qd | apply qa)); refine bU (cs := #[.int .i64 0, .string (⟨#[]⟩ : ByteArray), .slice none 0 0, .string (⟨#[]⟩ : ByteArray), .slice none 0 0]) ?_ 0 _ rfl; exact qy BK261.out) hb); have n7_ := aM (bP (by repeat (first | (with_reducible first | exact HB.out | apply ea | apply en | apply ed | refine es ?_ GE249.out | refine es ?_ GE261.out) | exact HB.out)) hb); clear HO248 HO254 HO258 BK249 BK261 HB; have HO248 := n0_; have HO254 := n1_; have HO258 := n2_; have HO266 := n3_; have HO270 := n4_; have BK249 := n5_; have BK261 := n6_; have HB := n7_; clear n0_ n1_ n2_ n3_ n4_ n5_ n6_ n7_; (try clear hb); (try clear hb2); (try clear hk); (try clear hi); (try clear ho0); (try clear ho1)) | ((with_reducible refine gate_dst (N := 5) rfl ?_); refine box_event ?hg (N := 5) ?hd (cs := #[.int .i64 0, .string (⟨#[]⟩ : ByteArray), .slice none 0 0, .string (⟨#[]⟩ : ByteArray), .slice none 0 0]) (t := 32) ?hr ?_; (case hd | hg => rfl); (case hr => first | (go_simp; done) | (go_simp; rfl)); intro gb273 hg w59 hbox hb; have n0_ := aM (Kd.R_below (ry HO248.out) hb); have n1_ := aM (Kd.R_below (ry HO254.out) hb); have n2_ := aM (Kd.R_below (ry HO258.out) hb); have n3_ := aM (Kd.R_below (ry HO266.out) hb); have n4_ := aM (Kd.R_below (ry HO270.out) hb); have n5_ := aM (bB (g := gb249) (qy BK249.out) hb); have n6_ := aM (bB (g := gb261) (qy BK261.out) hb); have n7_ := aM (bP (by repeat (first | (with_reducible first | exact HB.out | apply ea | apply en | apply ed | refine es ?_ GE249.out | refine es ?_ GE261.out) | exact HB.out)) hb); have n8_ := aM (hbox); have n9_ := aM ((by rw [hg]; exact (bZ (by repeat (first | (with_reducible first | exact HB.out | apply ea | apply en | apply ed | refine es ?_ GE249.out | refine es ?_ GE261.out) | exact HB.out))) : w.heap.size ≤ gb273)); have n10_ := n9_; have n11_ := aM ((by rw [hg]; exact Nat.ne_of_lt (blk_lt (g := gb249) (qy BK249.out)) : gb249 ≠ gb273)); have n12_ := aM ((by rw [hg]; exact Nat.ne_of_gt (blk_lt (g := gb249) (qy BK249.out)) : gb273 ≠ gb249)); have n13_ := aM ((by rw [hg]; exact Nat.ne_of_lt (blk_lt (g := gb261) (qy BK261.out)) : gb261 ≠ gb273)); have n14_ := aM ((by rw [hg]; exact Nat.ne_of_gt (blk_lt (g := gb261) (qy BK261.out)) : gb273 ≠ gb261)); clear HO248 HO254 HO258 HO266 HO270 BK249 BK261 HB; have HO248 := n0_; have HO254 := n1_; have HO258 := n2_; have HO266 := n3_; have HO270 := n4_; have BK249 := n5_; have BK261 := n6_; have HB := n7_; have BK273 := n8_; have GW273 := n9_; have GE273 := n10_; have NB249_273 := n11_; have NB273_249 := n12_; have NB261_273 := n13_; have NB273_261 := n14_; clear n0_ n1_ n2_ n3_ n4_ n5_ n6_ n7_ n8_ n9_ n10_ n11_ n12_ n13_ n14_; clear hb hbox hg; have hnb60 := NB273_249.out; have hnc60 := NB249_273.out; have hnb61 := NB273_261.out; have hnc61 := NB261_273.out; have hcz62_0 : w59.cell? ⟨gb273, 0, none⟩ = some (.int .i64 0) := (bC BK273.out 0).trans rfl; have hcz62_1 : w59.cell? ⟨gb273, 1, none⟩ = some (.string (⟨#[]⟩ : ByteArray)) := (bC BK273.out 1).trans rfl; have hcz62_2 : w59.cell? ⟨gb273, 2, none⟩ = some (.slice none 0 0) := (bC BK273.out 2).trans rfl; have hcz62_3 : w59.cell? ⟨gb273, 3, none⟩ = some (.string (⟨#[]⟩ : ByteArray)) := (bC BK273.out 3).trans rfl; have hcz62_4 : w59.cell? ⟨gb273, 4, none⟩ = some (.slice none 0 0) := (bC BK273.out 4).trans rfl; have hfz62_0 := bF BK273.out 0; have hfz62_1 := bF BK273.out 1; have hfz62_2 := bF BK273.out 2; have hfz62_3 := bF BK273.out 3; have hfz62_4 := bF BK273.out 4; obtain ⟨Ao63, co63, eo63⟩ := Kd.R_slice HO266.out; subst eo63; obtain ⟨Ao64, co64, eo64⟩ := Kd.R_slice HO270.out; subst eo64))
   go_ret
   exact ⟨by first | rfl | (simp [errW_none, errW_some] <;> rfl) | (simp [*, errW_none, errW_some] <;> rfl), by repeat (first | (with_reducible first | exact HB.out | apply ea | apply en | apply ed | refine es ?_ GE249.out | refine es ?_ GE261.out | refine es ?_ GE273.out) | exact HB.out)⟩
 ·rw [if_neg c3] at H
  have c3b0 : (t260 == 0) = false := beq_eq_false_iff_ne.mpr c3
  have c3b1 : (t260 != 0) = true := bne_iff_ne.mpr c3
  obtain rfl := Option.some.inj H
  go_enter Try.func8, Try.ntmps8
  go_wp2_with (first | ((with_reducible refine gate_dst (N := 9) rfl ?_); refine Kd.R_lit k51 _ 51 ?hg (N := 9) ?hd (xs := ([(⟨1, 6⟩ : S51)] : List (S51))) (inner := [.int .u64 1, .int .i64 6]) (ok := fun _ => True) (okp := fun _ => True) ?hr ?hp (fun _ hk => hk) trivial (Below.refl _ _) (Nat.le_refl _) (by simp) ?_; (case hd | hg => rfl); (case hr => first | (go_simp; done) | (go_simp; rfl)); (case hp => exact (Reps.c2 (show Kd.M k51 _ _ _ (⟨1, 6⟩ : S51) [.int .u64 1, .int .i64 6] from (k51_mkM _ _ _ (⟨1, 6⟩ : S51) )) (Reps.none _ _))); intro v247 w65 ho66 hb hg_ hnew_; clear hg_ hnew_; (first | rw [← Ny246.out] at ho66 | (simp only [Int.reduceToNat] at ho66; rw [← Ny246.out] at ho66)); have n0_ := aM (rL ho66 (bZ (ey HB.out))); have n1_ := aM (bP (ey HB.out) hb); clear HB; have HO248 := n0_; have HB := n1_; clear n0_ n1_; clear hb ho66; obtain ⟨Ao67, co67, eo67⟩ := Kd.R_slice HO248.out; subst eo67) | ((with_reducible refine gate_dst (N := 1) rfl ?_); refine box_event ?hg (N := 1) ?hd (cs := #[.string (⟨#[]⟩ : ByteArray), .slice none 0 0]) (t := 24) ?hr ?_; (case hd | hg => rfl); (case hr => first | (go_simp; done) | (go_simp; rfl)); intro gb249 hg w68 hbox hb; have n0_ := aM (Kd.R_below (ry HO248.out) hb); have n1_ := aM (bP (ey HB.out) hb); have n2_ := aM (hbox); have n3_ := aM ((by rw [hg]; exact (bZ (ey HB.out)) : w.heap.size ≤ gb249)); have n4_ := n3_; clear HO248 HB; have HO248 := n0_; have HB := n1_; have BK249 := n2_; have GW249 := n3_; have GE249 := n4_; clear n0_ n1_ n2_ n3_ n4_; clear hb hbox hg; have hcz69_0 : w68.cell? ⟨gb249, 0, none⟩ = some (.string (⟨#[]⟩ : ByteArray)) := (bC BK249.out 0).trans rfl; have hcz69_1 : w68.cell? ⟨gb249, 1, none⟩ = some (.slice none 0 0) := (bC BK249.out 1).trans rfl; have hfz69_0 := bF BK249.out 0; have hfz69_1 := bF BK249.out 1) | ((with_reducible refine gate_callee (f := 10) rfl ?_); refine goesL_ (some 14) rfl rfl Try.func10 (by kernel_rfl) rfl #[.agg #[.string (⟨#[97, 97, 98, 10, 97, 97]⟩ : ByteArray), .slice Ao67 y246.length co67], .int .u64 1, .agg #[.int .i64 0, .int .i64 1, .string (⟨#[97]⟩ : ByteArray), .string (⟨#[120, 121]⟩ : ByteArray), .bool true]] rfl (by (try simp only [mT, mC, mN]); first | done | rfl | (simp only [lD, lT]; rfl)) ?_; (with_reducible refine (subst_Do.calls k (⟨#[97, 97, 98, 10, 97, 97]⟩ : ByteArray) _ _ y246 1 0 1 (⟨#[97]⟩ : ByteArray) (⟨#[120, 121]⟩ : ByteArray) true t250 t251 t252 t255 t256 t259 t260 _ ?mx12 ?side1 ?side2 A1.out).mono ?_); (case mx12 => exact MaxOk.below HMX.out (by repeat (first | (with_reducible first | exact HB.out | apply ea | apply en | apply ed | refine es ?_ GE249.out) | exact HB.out))); (case side1 => refine (rR (e := 51) (base := w.heap.size) (ok := fun k_ => True) (n := y246.length) (c := co67) ?_).2.2; exact (by (with_reducible repeat (first | apply ra | apply rn | apply rd_)); exact (rM (rF (p := ⟨gb249, 1, none⟩) (rF (p := ⟨gb249, 0, none⟩) (rT HO248.out BK249.out (by decide)) (fun _ hk => hk.2) (.string (⟨#[97, 97, 98, 10, 97, 97]⟩ : ByteArray))) (fun _ hk => hk.2) (.slice Ao67 y246.length co67)) (fun _ h_ => h_.1)))); (case side2 => exact (rR HO248.out).2.1); rintro e w70 ⟨v253, v257, rfl, ho0, ho1, hb⟩; refine ⟨_, rfl, ?_⟩; have n0_ := aM (rM (Kd.R_told (Kd.R_told (Kd.R_old (by (with_reducible repeat (first | apply ra | apply rn | apply rd_)); exact (rM (rF (p := ⟨gb249, 1, none⟩) (rF (p := ⟨gb249, 0, none⟩) (rT HO248.out BK249.out (by decide)) (fun _ hk => hk.2) (.string (⟨#[97, 97, 98, 10, 97, 97]⟩ : ByteArray))) (fun _ hk => hk.2) (.slice Ao67 y246.length co67)) (fun _ h_ => h_.1))) hb) (Kd.R_base ho0)) (Kd.R_base ho1)) (fun _ h_ => h_.1)); have n1_ := aM (rL (Kd.R_new' ho0 (Kd.R_lt (by (with_reducible repeat (first | apply ra | apply rn | apply rd_)); exact (rM (rF (p := ⟨gb249, 1, none⟩) (rF (p := ⟨gb249, 0, none⟩) (rT HO248.out BK249.out (by decide)) (fun _ hk => hk.2) (.string (⟨#[97, 97, 98, 10, 97, 97]⟩ : ByteArray))) (fun _ hk => hk.2) (.slice Ao67 y246.length co67)) (fun _ h_ => h_.1))))) (bZ (by repeat (first | (with_reducible first | exact HB.out | apply ea | apply en | apply ed | refine es ?_ GE249.out) | exact HB.out)))); have n2_ := aM (rL (Kd.R_new' ho1 (Kd.R_lt (by (with_reducible repeat (first | apply ra | apply rn | apply rd_)); exact (rM (rF (p := ⟨gb249, 1, none⟩) (rF (p := ⟨gb249, 0, none⟩) (rT HO248.out BK249.out (by decide)) (fun _ hk => hk.2) (.string (⟨#[97, 97, 98, 10, 97, 97]⟩ : ByteArray))) (fun _ hk => hk.2) (.slice Ao67 y246.length co67)) (fun _ h_ => h_.1))))) (bZ (by repeat (first | (with_reducible first | exact HB.out | apply ea | apply en | apply ed | refine es ?_ GE249.out) | exact HB.out)))); have n3_ := aM (bB (g := gb249) (o := .cells #[.string (⟨#[97, 97, 98, 10, 97, 97]⟩ : ByteArray), .slice Ao67 y246.length co67] 24 (0, 0)) (by (with_reducible repeat (first | apply qn | apply qd | apply qa)); refine bU (cs := #[.string (⟨#[97, 97, 98, 10, 97, 97]⟩ : ByteArray), .slice none 0 0]) ?_ 1 _ rfl; (with_reducible repeat (first | apply qn | apply qd | apply qa)); refine bU (cs := #[.string (⟨#[]⟩ : ByteArray), .slice none 0 0]) ?_ 0 _ rfl; exact qy BK249.out) hb); have n4_ := aM (bP (by repeat (first | (with_reducible first | exact HB.out | apply ea | apply en | apply ed | refine es ?_ GE249.out) | exact HB.out)) hb); clear HO248 BK249 HB; have HO248 := n0_; have HO254 := n1_; have HO258 := n2_; have BK249 := n3_; have HB := n4_; clear n0_ n1_ n2_ n3_ n4_; (try clear hb); (try clear hb2); (try clear hk); (try clear hi); (try clear ho0); (try clear ho1)) | ((with_reducible refine gate_dst (N := 2) rfl ?_); refine box_event ?hg (N := 2) ?hd (cs := #[.int .i64 0, .string (⟨#[]⟩ : ByteArray), .slice none 0 0, .string (⟨#[]⟩ : ByteArray), .slice none 0 0]) (t := 32) ?hr ?_; (case hd | hg => rfl); (case hr => first | (go_simp; done) | (go_simp; rfl)); intro gb261 hg w71 hbox hb; have n0_ := aM (Kd.R_below (ry HO248.out) hb); have n1_ := aM (Kd.R_below (ry HO254.out) hb); have n2_ := aM (Kd.R_below (ry HO258.out) hb); have n3_ := aM (bB (g := gb249) (qy BK249.out) hb); have n4_ := aM (bP (by repeat (first | (with_reducible first | exact HB.out | apply ea | apply en | apply ed | refine es ?_ GE249.out) | exact HB.out)) hb); have n5_ := aM (hbox); have n6_ := aM ((by rw [hg]; exact (bZ (by repeat (first | (with_reducible first | exact HB.out | apply ea | apply en | apply ed | refine es ?_ GE249.out) | exact HB.out))) : w.heap.size ≤ gb261)); have n7_ := n6_; have n8_ := aM ((by rw [hg]; exact Nat.ne_of_lt (blk_lt (g := gb249) (qy BK249.out)) : gb249 ≠ gb261)); have n9_ := aM ((by rw [hg]; exact Nat.ne_of_gt (blk_lt (g := gb249) (qy BK249.out)) : gb261 ≠ gb249)); clear HO248 HO254 HO258 BK249 HB; have HO248 := n0_; have HO254 := n1_; have HO258 := n2_; have BK249 := n3_; have HB := n4_; have BK261 := n5_; have GW261 := n6_; have GE261 := n7_; have NB249_261 := n8_; have NB261_249 := n9_; clear n0_ n1_ n2_ n3_ n4_ n5_ n6_ n7_ n8_ n9_; clear hb hbox hg; have hnb72 := NB261_249.out; have hnc72 := NB249_261.out; have hcz73_0 : w71.cell? ⟨gb261, 0, none⟩ = some (.int .i64 0) := (bC BK261.out 0).trans rfl; have hcz73_1 : w71.cell? ⟨gb261, 1, none⟩ = some (.string (⟨#[]⟩ : ByteArray)) := (bC BK261.out 1).trans rfl; have hcz73_2 : w71.cell? ⟨gb261, 2, none⟩ = some (.slice none 0 0) := (bC BK261.out 2).trans rfl; have hcz73_3 : w71.cell? ⟨gb261, 3, none⟩ = some (.string (⟨#[]⟩ : ByteArray)) := (bC BK261.out 3).trans rfl; have hcz73_4 : w71.cell? ⟨gb261, 4, none⟩ = some (.slice none 0 0) := (bC BK261.out 4).trans rfl; have hfz73_0 := bF BK261.out 0; have hfz73_1 := bF BK261.out 1; have hfz73_2 := bF BK261.out 2; have hfz73_3 := bF BK261.out 3; have hfz73_4 := bF BK261.out 4; obtain ⟨Ao74, co74, eo74⟩ := Kd.R_slice HO254.out; subst eo74; obtain ⟨Ao75, co75, eo75⟩ := Kd.R_slice HO258.out; subst eo75; have hcz76_0 : w71.cell? ⟨gb249, 0, none⟩ = some (.string (⟨#[97, 97, 98, 10, 97, 97]⟩ : ByteArray)) := (bC BK249.out 0).trans rfl; have hcz76_1 : w71.cell? ⟨gb249, 1, none⟩ = some (.slice Ao67 y246.length co67) := (bC BK249.out 1).trans rfl; have hfz76_0 := bF BK249.out 0; have hfz76_1 := bF BK249.out 1) | ((with_reducible refine gate_callee (f := 10) rfl ?_); refine goesL_ (some 21) rfl rfl Try.func10 (by kernel_rfl) rfl #[.agg #[.string (⟨#[97, 97, 98, 10, 97, 97]⟩ : ByteArray), .slice Ao67 y246.length co67], .int .u64 1, .agg #[.int .i64 1, .int .i64 1, .string (⟨#[98]⟩ : ByteArray), .string (⟨#[]⟩ : ByteArray), .bool false]] rfl (by (try simp only [mT, mC, mN]); first | done | rfl | (simp only [lD, lT]; rfl)) ?_; (with_reducible refine (subst_Do.calls k (⟨#[97, 97, 98, 10, 97, 97]⟩ : ByteArray) _ _ y246 1 1 1 (⟨#[98]⟩ : ByteArray) (⟨#[]⟩ : ByteArray) false t262 t263 t264 t267 t268 t271 t272 _ ?mx13 ?side1 ?side2 A2.out).mono ?_); (case mx13 => exact MaxOk.below HMX.out (by repeat (first | (with_reducible first | exact HB.out | apply ea | apply en | apply ed | refine es ?_ GE249.out | refine es ?_ GE261.out) | exact HB.out))); (case side1 => refine (rR (e := 51) (base := w.heap.size) (ok := fun k_ => ((True ∧ some k_ ≠ (.slice Ao74 t252.length co74 : Value).ownBlock) ∧ some k_ ≠ (.slice Ao75 t256.length co75 : Value).ownBlock)) (n := y246.length) (c := co67) ?_).2.2; exact (by (with_reducible repeat (first | apply ra | apply rn | apply rd_)); exact (rM (rF (p := ⟨gb261, 4, none⟩) (rF (p := ⟨gb261, 3, none⟩) (rF (p := ⟨gb261, 2, none⟩) (rF (p := ⟨gb261, 1, none⟩) (rF (p := ⟨gb261, 0, none⟩) (rT HO248.out BK261.out (by decide)) (fun _ hk => hk.2) (.int .i64 t250)) (fun _ hk => hk.2) (.string t251)) (fun _ hk => hk.2) (.slice Ao74 t252.length co74)) (fun _ hk => hk.2) (.string t255)) (fun _ hk => hk.2) (.slice Ao75 t256.length co75)) (fun _ h_ => h_.1)))); (case side2 => exact (rR HO248.out).2.1); rintro e w77 ⟨v265, v269, rfl, ho0, ho1, hb⟩; refine ⟨_, rfl, ?_⟩; have n0_ := aM (rM (Kd.R_told (Kd.R_told (Kd.R_old (by (with_reducible repeat (first | apply ra | apply rn | apply rd_)); exact (rM (rF (p := ⟨gb261, 4, none⟩) (rF (p := ⟨gb261, 3, none⟩) (rF (p := ⟨gb261, 2, none⟩) (rF (p := ⟨gb261, 1, none⟩) (rF (p := ⟨gb261, 0, none⟩) (rT HO248.out BK261.out (by decide)) (fun _ hk => hk.2) (.int .i64 t250)) (fun _ hk => hk.2) (.string t251)) (fun _ hk => hk.2) (.slice Ao74 t252.length co74)) (fun _ hk => hk.2) (.string t255)) (fun _ hk => hk.2) (.slice Ao75 t256.length co75)) (fun _ h_ => h_.1))) hb) (Kd.R_base ho0)) (Kd.R_base ho1)) (fun _ h_ => h_.1)); have n1_ := aM (rM (Kd.R_told (Kd.R_told (Kd.R_old (by (with_reducible repeat (first | apply ra | apply rn | apply rd_)); exact (rM (rF (p := ⟨gb261, 4, none⟩) (rF (p := ⟨gb261, 3, none⟩) (rF (p := ⟨gb261, 2, none⟩) (rF (p := ⟨gb261, 1, none⟩) (rF (p := ⟨gb261, 0, none⟩) (rT HO254.out BK261.out (by decide)) (fun _ hk => hk.2) (.int .i64 t250)) (fun _ hk => hk.2) (.string t251)) (fun _ hk => hk.2) (.slice Ao74 t252.length co74)) (fun _ hk => hk.2) (.string t255)) (fun _ hk => hk.2) (.slice Ao75 t256.length co75)) (fun _ h_ => h_.1))) hb) (Kd.R_base ho0)) (Kd.R_base ho1)) (fun _ h_ => h_.1)); have n2_ := aM (rM (Kd.R_told (Kd.R_told (Kd.R_old (by (with_reducible repeat (first | apply ra | apply rn | apply rd_)); exact (rM (rF (p := ⟨gb261, 4, none⟩) (rF (p := ⟨gb261, 3, none⟩) (rF (p := ⟨gb261, 2, none⟩) (rF (p := ⟨gb261, 1, none⟩) (rF (p := ⟨gb261, 0, none⟩) (rT HO258.out BK261.out (by decide)) (fun _ hk => hk.2) (.int .i64 t250)) (fun _ hk => hk.2) (.string t251)) (fun _ hk => hk.2) (.slice Ao74 t252.length co74)) (fun _ hk => hk.2) (.string t255)) (fun _ hk => hk.2) (.slice Ao75 t256.length co75)) (fun _ h_ => h_.1))) hb) (Kd.R_base ho0)) (Kd.R_base ho1)) (fun _ h_ => h_.1)); have n3_ := aM (rL (Kd.R_new' (Kd.R_new' (Kd.R_new' ho0 (Kd.R_lt (by (with_reducible repeat (first | apply ra | apply rn | apply rd_)); exact (rM (rF (p := ⟨gb261, 4, none⟩) (rF (p := ⟨gb261, 3, none⟩) (rF (p := ⟨gb261, 2, none⟩) (rF (p := ⟨gb261, 1, none⟩) (rF (p := ⟨gb261, 0, none⟩) (rT HO248.out BK261.out (by decide)) (fun _ hk => hk.2) (.int .i64 t250)) (fun _ hk => hk.2) (.string t251)) (fun _ hk => hk.2) (.slice Ao74 t252.length co74)) (fun _ hk => hk.2) (.string t255)) (fun _ hk => hk.2) (.slice Ao75 t256.length co75)) (fun _ h_ => h_.1))))) (Kd.R_lt (by (with_reducible repeat (first | apply ra | apply rn | apply rd_)); exact (rM (rF (p := ⟨gb261, 4, none⟩) (rF (p := ⟨gb261, 3, none⟩) (rF (p := ⟨gb261, 2, none⟩) (rF (p := ⟨gb261, 1, none⟩) (rF (p := ⟨gb261, 0, none⟩) (rT HO254.out BK261.out (by decide)) (fun _ hk => hk.2) (.int .i64 t250)) (fun _ hk => hk.2) (.string t251)) (fun _ hk => hk.2) (.slice Ao74 t252.length co74)) (fun _ hk => hk.2) (.string t255)) (fun _ hk => hk.2) (.slice Ao75 t256.length co75)) (fun _ h_ => h_.1))))) (Kd.R_lt (by (with_reducible repeat (first | apply ra | apply rn | apply rd_)); exact (rM (rF (p := ⟨gb261, 4, none⟩) (rF (p := ⟨gb261, 3, none⟩) (rF (p := ⟨gb261, 2, none⟩) (rF (p := ⟨gb261, 1, none⟩) (rF (p := ⟨gb261, 0, none⟩) (rT HO258.out BK261.out (by decide)) (fun _ hk => hk.2) (.int .i64 t250)) (fun _ hk => hk.2) (.string t251)) (fun _ hk => hk.2) (.slice Ao74 t252.length co74)) (fun _ hk => hk.2) (.string t255)) (fun _ hk => hk.2) (.slice Ao75 t256.length co75)) (fun _ h_ => h_.1))))) (bZ (by repeat (first | (with_reducible first | exact HB.out | apply ea | apply en | apply ed | refine es ?_ GE249.out | refine es ?_ GE261.out) | exact HB.out)))); have n4_ := aM (rL (Kd.R_new' (Kd.R_new' (Kd.R_new' ho1 (Kd.R_lt (by (with_reducible repeat (first | apply ra | apply rn | apply rd_)); exact (rM (rF (p := ⟨gb261, 4, none⟩) (rF (p := ⟨gb261, 3, none⟩) (rF (p := ⟨gb261, 2, none⟩) (rF (p := ⟨gb261, 1, none⟩) (rF (p := ⟨gb261, 0, none⟩) (rT HO248.out BK261.out (by decide)) (fun _ hk => hk.2) (.int .i64 t250)) (fun _ hk => hk.2) (.string t251)) (fun _ hk => hk.2) (.slice Ao74 t252.length co74)) (fun _ hk => hk.2) (.string t255)) (fun _ hk => hk.2) (.slice Ao75 t256.length co75)) (fun _ h_ => h_.1))))) (Kd.R_lt (by (with_reducible repeat (first | apply ra | apply rn | apply rd_)); exact (rM (rF (p := ⟨gb261, 4, none⟩) (rF (p := ⟨gb261, 3, none⟩) (rF (p := ⟨gb261, 2, none⟩) (rF (p := ⟨gb261, 1, none⟩) (rF (p := ⟨gb261, 0, none⟩) (rT HO254.out BK261.out (by decide)) (fun _ hk => hk.2) (.int .i64 t250)) (fun _ hk => hk.2) (.string t251)) (fun _ hk => hk.2) (.slice Ao74 t252.length co74)) (fun _ hk => hk.2) (.string t255)) (fun _ hk => hk.2) (.slice Ao75 t256.length co75)) (fun _ h_ => h_.1))))) (Kd.R_lt (by (with_reducible repeat (first | apply ra | apply rn | apply rd_)); exact (rM (rF (p := ⟨gb261, 4, none⟩) (rF (p := ⟨gb261, 3, none⟩) (rF (p := ⟨gb261, 2, none⟩) (rF (p := ⟨gb261, 1, none⟩) (rF (p := ⟨gb261, 0, none⟩) (rT HO258.out BK261.out (by decide)) (fun _ hk => hk.2) (.int .i64 t250)) (fun _ hk => hk.2) (.string t251)) (fun _ hk => hk.2) (.slice Ao74 t252.length co74)) (fun _ hk => hk.2) (.string t255)) (fun _ hk => hk.2) (.slice Ao75 t256.length co75)) (fun _ h_ => h_.1))))) (bZ (by repeat (first | (with_reducible first | exact HB.out | apply ea | apply en | apply ed | refine es ?_ GE249.out | refine es ?_ GE261.out) | exact HB.out)))); have n5_ := aM (bB (g := gb249) (o := .cells #[.string (⟨#[97, 97, 98, 10, 97, 97]⟩ : ByteArray), .slice Ao67 y246.length co67] 24 (0, 0)) (by (with_reducible repeat (first | apply qn | apply qd | apply qa)); refine bR ?_ NB249_261.out _; (with_reducible repeat (first | apply qn | apply qd | apply qa)); refine bR ?_ NB249_261.out _; (with_reducible repeat (first | apply qn | apply qd | apply qa)); refine bR ?_ NB249_261.out _; (with_reducible repeat (first | apply qn | apply qd | apply qa)); refine bR ?_ NB249_261.out _; (with_reducible repeat (first | apply qn | apply qd | apply qa)); refine bR ?_ NB249_261.out _; exact qy BK249.out) hb); have n6_ := aM (bB (g := gb261) (o := .cells #[.int .i64 t250, .string t251, .slice Ao74 t252.length co74, .string t255, .slice Ao75 t256.length co75] 32 (0, 0)) (by (with_reducible repeat (first | apply qn | apply qd | apply qa)); refine bU (cs := #[.int .i64 t250, .string t251, .slice Ao74 t252.length co74, .string t255, .slice none 0 0]) ?_ 4 _ rfl; (with_reducible repeat (first | apply qn | apply qd | apply qa)); refine bU (cs := #[.int .i64 t250, .string t251, .slice Ao74 t252.length co74, .string (⟨#[]⟩ : ByteArray), .slice none 0 0]) ?_ 3 _ rfl; (with_reducible repeat (first | apply qn | apply qd | apply qa)); refine bU (cs := #[.int .i64 t250, .string t251, .slice none 0 0, .string (⟨#[]⟩ : ByteArray), .slice none 0 0]) ?_ 2 _ rfl; (with_reducible repeat (first | apply qn | apply qd | apply qa)); refine bU (cs := #[.int .i64 t250, .string (⟨#[]⟩ : ByteArray), .slice none 0 0, .string (⟨#[]⟩ : ByteArray), .slice none 0 0]) ?_ 1 _ rfl; (with_reducible repeat (first | apply qn | apply qd | apply qa)); refine bU (cs := #[.int .i64 0, .string (⟨#[]⟩ : ByteArray), .slice none 0 0, .string (⟨#[]⟩ : ByteArray), .slice none 0 0]) ?_ 0 _ rfl; exact qy BK261.out) hb); have n7_ := aM (bP (by repeat (first | (with_reducible first | exact HB.out | apply ea | apply en | apply ed | refine es ?_ GE249.out | refine es ?_ GE261.out) | exact HB.out)) hb); clear HO248 HO254 HO258 BK249 BK261 HB; have HO248 := n0_; have HO254 := n1_; have HO258 := n2_; have HO266 := n3_; have HO270 := n4_; have BK249 := n5_; have BK261 := n6_; have HB := n7_; clear n0_ n1_ n2_ n3_ n4_ n5_ n6_ n7_; (try clear hb); (try clear hb2); (try clear hk); (try clear hi); (try clear ho0); (try clear ho1)) | ((with_reducible refine gate_dst (N := 5) rfl ?_); refine box_event ?hg (N := 5) ?hd (cs := #[.int .i64 0, .string (⟨#[]⟩ : ByteArray), .slice none 0 0, .string (⟨#[]⟩ : ByteArray), .slice none 0 0]) (t := 32) ?hr ?_; (case hd | hg => rfl); (case hr => first | (go_simp; done) | (go_simp; rfl)); intro gb273 hg w78 hbox hb; have n0_ := aM (Kd.R_below (ry HO248.out) hb); have n1_ := aM (Kd.R_below (ry HO254.out) hb); have n2_ := aM (Kd.R_below (ry HO258.out) hb); have n3_ := aM (Kd.R_below (ry HO266.out) hb); have n4_ := aM (Kd.R_below (ry HO270.out) hb); have n5_ := aM (bB (g := gb249) (qy BK249.out) hb); have n6_ := aM (bB (g := gb261) (qy BK261.out) hb); have n7_ := aM (bP (by repeat (first | (with_reducible first | exact HB.out | apply ea | apply en | apply ed | refine es ?_ GE249.out | refine es ?_ GE261.out) | exact HB.out)) hb); have n8_ := aM (hbox); have n9_ := aM ((by rw [hg]; exact (bZ (by repeat (first | (with_reducible first | exact HB.out | apply ea | apply en | apply ed | refine es ?_ GE249.out | refine es ?_ GE261.out) | exact HB.out))) : w.heap.size ≤ gb273)); have n10_ := n9_; have n11_ := aM ((by rw [hg]; exact Nat.ne_of_lt (blk_lt (g := gb249) (qy BK249.out)) : gb249 ≠ gb273)); have n12_ := aM ((by rw [hg]; exact Nat.ne_of_gt (blk_lt (g := gb249) (qy BK249.out)) : gb273 ≠ gb249)); have n13_ := aM ((by rw [hg]; exact Nat.ne_of_lt (blk_lt (g := gb261) (qy BK261.out)) : gb261 ≠ gb273)); have n14_ := aM ((by rw [hg]; exact Nat.ne_of_gt (blk_lt (g := gb261) (qy BK261.out)) : gb273 ≠ gb261)); clear HO248 HO254 HO258 HO266 HO270 BK249 BK261 HB; have HO248 := n0_; have HO254 := n1_; have HO258 := n2_; have HO266 := n3_; have HO270 := n4_; have BK249 := n5_; have BK261 := n6_; have HB := n7_; have BK273 := n8_; have GW273 := n9_; have GE273 := n10_; have NB249_273 := n11_; have NB273_249 := n12_; have NB261_273 := n13_; have NB273_261 := n14_; clear n0_ n1_ n2_ n3_ n4_ n5_ n6_ n7_ n8_ n9_ n10_ n11_ n12_ n13_ n14_; clear hb hbox hg; have hnb79 := NB273_249.out; have hnc79 := NB249_273.out; have hnb80 := NB273_261.out; have hnc80 := NB261_273.out; have hcz81_0 : w78.cell? ⟨gb273, 0, none⟩ = some (.int .i64 0) := (bC BK273.out 0).trans rfl; have hcz81_1 : w78.cell? ⟨gb273, 1, none⟩ = some (.string (⟨#[]⟩ : ByteArray)) := (bC BK273.out 1).trans rfl; have hcz81_2 : w78.cell? ⟨gb273, 2, none⟩ = some (.slice none 0 0) := (bC BK273.out 2).trans rfl; have hcz81_3 : w78.cell? ⟨gb273, 3, none⟩ = some (.string (⟨#[]⟩ : ByteArray)) := (bC BK273.out 3).trans rfl; have hcz81_4 : w78.cell? ⟨gb273, 4, none⟩ = some (.slice none 0 0) := (bC BK273.out 4).trans rfl; have hfz81_0 := bF BK273.out 0; have hfz81_1 := bF BK273.out 1; have hfz81_2 := bF BK273.out 2; have hfz81_3 := bF BK273.out 3; have hfz81_4 := bF BK273.out 4; obtain ⟨Ao82, co82, eo82⟩ := Kd.R_slice HO266.out; subst eo82; obtain ⟨Ao83, co83, eo83⟩ := Kd.R_slice HO270.out; subst eo83))
  go_ret
  exact ⟨by first | rfl | (simp [errW_none, errW_some] <;> rfl) | (simp [*, errW_none, errW_some] <;> rfl), by repeat (first | (with_reducible first | exact HB.out | apply ea | apply en | apply ed | refine es ?_ GE249.out | refine es ?_ GE261.out | refine es ?_ GE273.out) | exact HB.out)⟩
end Go.Proofs.Ytnbdldpjiofafaa.PB
end

section
namespace Go.Proofs.Ytnbdldpjiofafaa.PB
open Go.RowKit Go.Proofs.YtnbdldpjiofafaaW.PrintWords Go.Proofs.YtnbdldpjiofafaaW.PrintLast Go.Proofs.YtnbdldpjiofafaaW.PrintMore
attribute [local go_sem] max2_int min2_int max_two min_two max_three min_three max_four min_four   
set_option linter.unusedVariables false
set_option linter.unusedSimpArgs false
mutual
def bureauref03_Bytes.l0 : Nat → List (S51) → List Int → Int → Option (List Int)
 | 0, _, _, _ => none
 | k + 1, x0, x3, x4 => if x4 < (x0.length : Int) then (bureauref03_Bytes.l1 k x0 x3 x4 0) else (some x3)
def bureauref03_Bytes.l1 : Nat → List (S51) → List Int → Int → Int → Option (List Int)
 | 0, _, _, _, _ => none
 | k + 1, x0, x3, x4, x5 => if 0 ≤ x4 then (if x4 < (x0.length : Int) then (if x5 < ((rd_T51 x0 x4).f1) then (if x3.length < 17592186044416 then (bureauref03_Bytes.l1 k x0 (x3 ++ [(rd_T51 x0 x4).f0]) x4 (wrap64 (x5 + 1))) else (none)) else (bureauref03_Bytes.l0 k x0 x3 (wrap64 (x4 + 1)))) else (none)) else (none)
end
def bureauref03_Bytes.f (k : Nat) (l0 : List (S51)) : Option (List Int) := bureauref03_Bytes.l0 k l0 ([] : List Int) 0
set_option maxHeartbeats 8000000 in
set_option maxRecDepth 100000 in
theorem bureauref03_Bytes.calls (k : Nat) (A0 : Option Addr) (c0 : Nat) (l0 : List (S51)) (r : List Int) (w : World) (hr0 : Kd.C k51 w A0 l0.length l0) (hc0 : l0.length ≤ c0) (h : bureauref03_Bytes.f k l0 = some r) :
  Calls Try.prog 40 #[.slice A0 l0.length c0] w fun e w' => ∃ v0_ : Value, e = .returned (v0_) ∧ Kd.R (Kd.int .u64) 26 w' w.heap.size (fun _ => True) v0_ r ∧ Below w.heap.size w w' := by
 have HR0 := aM hr0
 have HC0 := aM hc0
 clear hr0 hc0
 have HB := aM (Below.refl w.heap.size w)
 have H : (bureauref03_Bytes.l0 k l0 ([] : List Int) 0) = some r := h
 clear h
 have H' := aM H
 clear H
 go_enter Try.func40, Try.ntmps40
 go_wp2
 go_loopg [3, 4] k (fun kq v3 v4 w' => ∃ (x3_1 : List Int) (x4_1 : Int), v4 = .int .i64 x4_1 ∧ Aside0 (bureauref03_Bytes.l0 kq l0 x3_1 x4_1 = some r) ∧ Aside0 (kq ≤ k) ∧ Aside0 (Kd.R (Kd.int .u64) 26 w' w.heap.size (fun _ => True) v3 x3_1) ∧ Aside0 (Below w.heap.size w w'))
 case atStart => exact ⟨(([] : List Int)), (0), (by first | rfl | (simp; done) | (simp [*]; done)), H', ⟨Nat.le_refl _⟩, ⟨by first | exact Kd.R_nil _ _ _ _ _ | exact Kd.N_nil _ _ _ _ _ | exact Kd.V_nil _ _ _ _ _ | exact Kd.Q_nil _ _ _ _ _ | exact Kd.S_nil _ _ _ _ _⟩, ⟨by exact ey HB.out⟩⟩
 case round =>
  clear H'
  obtain ⟨x3_1, x4_1, rfl, HA, HK1, HO_3, HB⟩ := hrel
  cases gk with
  | zero => exact absurd HA.out (by simp [bureauref03_Bytes.l0])
  | succ k1 =>
   have H := HA.out
   clear HA
   simp only [bureauref03_Bytes.l0] at H
   by_cases c2 : x4_1 < (l0.length : Int)
   ·rw [if_pos c2] at H
    have c2b0 : decide (x4_1 < (l0.length : Int)) = true := decide_eq_true c2
    clear c2
    have H' := aM H
    clear H
    go_wp2
    go_loopg [3, 5] k1 (fun kq v3 v5 w' => ∃ (x3_2 : List Int) (x5_2 : Int), v5 = .int .i64 x5_2 ∧ Aside0 (bureauref03_Bytes.l1 kq l0 x3_2 x4_1 x5_2 = some r) ∧ Aside0 (kq ≤ k1) ∧ Aside0 (Kd.R (Kd.int .u64) 26 w' w.heap.size (fun _ => True) v3 x3_2) ∧ Aside0 (Below w.heap.size w w'))
    case atStart => exact ⟨(x3_1), (0), (by first | rfl | (simp; done) | (simp [*]; done)), H', ⟨Nat.le_refl _⟩, ⟨by exact ry HO_3.out⟩, ⟨by exact ey HB.out⟩⟩
    case round =>
     clear H'
     try clear c2
     try clear c2b0
     try clear p2
     obtain ⟨x3_2, x5_2, rfl, HA, HK2, HO_3, HB⟩ := hrel
     cases gk with
     | zero => exact absurd HA.out (by simp [bureauref03_Bytes.l1])
     | succ k2 =>
      have H := HA.out
      clear HA
      simp only [bureauref03_Bytes.l1] at H
      by_cases c3 : 0 ≤ x4_1
      ·rw [if_pos c3] at H
       have c3b0 : decide (0 ≤ x4_1) = true := decide_eq_true c3
       clear c3
       by_cases c4 : x4_1 < (l0.length : Int)
       ·rw [if_pos c4] at H
        have c4b0 : decide (x4_1 < (l0.length : Int)) = true := decide_eq_true c4
        clear c4
        by_cases c5 : x5_2 < ((rd_T51 l0 x4_1).f1)
        ·rw [if_pos c5] at H
         have c5b0 : decide (x5_2 < ((rd_T51 l0 x4_1).f1)) = true := decide_eq_true c5
         clear c5
         by_cases c6 : x3_2.length < 17592186044416
         ·rw [if_pos c6] at H
          have LMc6 := aM c6
          clear c6
          obtain ⟨y280, hy280⟩ : ∃ y_ : List Int, y_ = (x3_2 ++ [(rd_T51 l0 x4_1).f0]) := ⟨_, rfl⟩
          replace H : (bureauref03_Bytes.l1 k2 l0 y280 x4_1 (wrap64 (x5_2 + 1))) = some r := by first | (rw [hy280]; with_reducible exact H) | (have H2_ := (Option.bind_some _ _).symm.trans H; rw [hy280]; with_reducible exact H2_) | (have H2_ := (Option.bind_some _ _).symm.trans H; with_reducible exact H2_) | with_reducible exact H | (rw [hy280]; exact H) | exact H
          have Ny280 := aM hy280
          clear hy280
          have H' := aM H
          clear H
          have p278 : 0 ≤ (x4_1 : Int) := of_decide_eq_true (by first | (with_reducible assumption) | assumption)
          have q278 : x4_1 < (l0.length : Int) := of_decide_eq_true (by first | (with_reducible assumption) | assumption)
          obtain ⟨ad278, e278, hx278_0, hx278_1⟩ := at_T51 HR0.out x4_1 p278 q278
          cases e278
          replace hx278_0 := (HB.out.cell (World.block_lt_of_cell? w _ hx278_0)).trans hx278_0
          replace hx278_1 := (HB.out.cell (World.block_lt_of_cell? w _ hx278_1)).trans hx278_1
          replace p278 := eq_true p278
          replace q278 := eq_true q278
          have p279 : 0 ≤ (x4_1 : Int) := of_decide_eq_true (by first | (with_reducible assumption) | assumption)
          have q279 : x4_1 < (l0.length : Int) := of_decide_eq_true (by first | (with_reducible assumption) | assumption)
          obtain ⟨ad279, e279, hx279_0, hx279_1⟩ := at_T51 HR0.out x4_1 p279 q279
          obtain rfl : ad278 = ad279 := (by injection e279)
          replace hx279_0 := (HB.out.cell (World.block_lt_of_cell? w _ hx279_0)).trans hx279_0
          replace hx279_1 := (HB.out.cell (World.block_lt_of_cell? w _ hx279_1)).trans hx279_1
          replace p279 := eq_true p279
          replace q279 := eq_true q279
          go_wp2_with (first | ((with_reducible refine gate_builtin (b := .append) (xs := #[.tmp 21, .tmp 27]) rfl ?_); at_builtin; refine Kd.R_append (Kd.int .u64) (w0 := w) w.heap.size rfl (.tmp 21) (.tmp 27) 80 26 (.int .u64 0) 8 rfl Try.underlying80 info26 rfl (by decide) (by omega) u3 x3_2 ((rd_T51 l0 x4_1).f0) [.int .u64 ((rd_T51 l0 x4_1).f0)] (fun _ => True) (fun _ => False) rfl rfl ?aP (fun _ hk => hk.elim) ?aF ?aO ?aB ?aS ?aL ?_; (case aP => exact rfl); (case aB => exact (ey HB.out)); (case aF => exact (fun _ _ => trivial)); (case aO => exact (ry HO_3.out)); (case aS => exact (bZ (ey HB.out))); (case aL => have := LMc6.out; omega); intro v281 w7 ho hb hg hat; rw [← Ny280.out] at ho; have n0_ := aM (hb); have n1_ := aM (ho); clear HB HO_3; have HB := n0_; have HO282 := n1_; clear n0_ n1_; clear ho hb hg hat))
          go_roundg k2
          case measure => have := HK1.out; have := HK2.out; omega
          case rel => exact ⟨(y280), (wrap64 (x5_2 + 1)), (by first | rfl | (simp; done) | (simp [*]; done)), H', ⟨by have := HK1.out; have := HK2.out; omega⟩, ⟨by exact ry HO282.out⟩, ⟨by exact ey HB.out⟩⟩
         ·rw [if_neg c6] at H
          exact absurd H (by simp)
        ·rw [if_neg c5] at H
         have c5b0 : decide (x5_2 < ((rd_T51 l0 x4_1).f1)) = false := decide_eq_false c5
         clear c5
         have H' := aM H
         clear H
         have p278 : 0 ≤ (x4_1 : Int) := of_decide_eq_true (by first | (with_reducible assumption) | assumption)
         have q278 : x4_1 < (l0.length : Int) := of_decide_eq_true (by first | (with_reducible assumption) | assumption)
         obtain ⟨ad278, e278, hx278_0, hx278_1⟩ := at_T51 HR0.out x4_1 p278 q278
         cases e278
         replace hx278_0 := (HB.out.cell (World.block_lt_of_cell? w _ hx278_0)).trans hx278_0
         replace hx278_1 := (HB.out.cell (World.block_lt_of_cell? w _ hx278_1)).trans hx278_1
         replace p278 := eq_true p278
         replace q278 := eq_true q278
         go_wp2
         go_roundg k2
         case measure => have := HK1.out; have := HK2.out; omega
         case rel => exact ⟨(x3_2), (wrap64 (x4_1 + 1)), (by first | rfl | (simp; done) | (simp [*]; done)), H', ⟨by have := HK1.out; have := HK2.out; omega⟩, ⟨by exact ry HO_3.out⟩, ⟨by exact ey HB.out⟩⟩
       ·rw [if_neg c4] at H
        exact absurd H (by simp)
      ·rw [if_neg c3] at H
       exact absurd H (by simp)
   ·rw [if_neg c2] at H
    have c2b0 : decide (x4_1 < (l0.length : Int)) = false := decide_eq_false c2
    clear c2
    obtain rfl := Option.some.inj H
    go_wp2
    go_ret
    exact ⟨_, by first | rfl | (simp [errW_none, errW_some] <;> rfl) | (simp [*, errW_none, errW_some] <;> rfl), by exact ry HO_3.out, by exact ey HB.out⟩
end Go.Proofs.Ytnbdldpjiofafaa.PB
end

section
namespace Go.Proofs.Ytnbdldpjiofafaa.PB
open Go.RowKit Go.Proofs.YtnbdldpjiofafaaW.PrintWords Go.Proofs.YtnbdldpjiofafaaW.PrintLast Go.Proofs.YtnbdldpjiofafaaW.PrintMore
attribute [local go_sem] max2_int min2_int max_two min_two max_three min_three max_four min_four   
set_option linter.unusedVariables false
set_option linter.unusedSimpArgs false
def bureauref03_Total.l0 : Nat → List (S51) → Int → Int → Option (Int)
 | 0, _, _, _ => none
 | k + 1, x0, x3, x4 => if x4 < (x0.length : Int) then (if 0 ≤ x4 then (if ((rd_T51 x0 x4).f1) > (wrap64 (4096 - x3)) then (some 4097) else (if ((rd_T51 x0 x4).f1) > 0 then (bureauref03_Total.l0 k x0 (wrap64 (x3 + ((rd_T51 x0 x4).f1))) (wrap64 (x4 + 1))) else (bureauref03_Total.l0 k x0 x3 (wrap64 (x4 + 1))))) else (none)) else (some x3)
def bureauref03_Total.f (k : Nat) (l0 : List (S51)) : Option (Int) := bureauref03_Total.l0 k l0 0 0
set_option maxHeartbeats 8000000 in
set_option maxRecDepth 100000 in
theorem bureauref03_Total.calls (k : Nat) (A0 : Option Addr) (c0 : Nat) (l0 : List (S51)) (r : Int) (w : World) (hr0 : Kd.C k51 w A0 l0.length l0) (hc0 : l0.length ≤ c0) (h : bureauref03_Total.f k l0 = some r) :
  Calls Try.prog 61 #[.slice A0 l0.length c0] w fun e w' => e = .returned (.int .i64 r) ∧ Drawn0 w w' := by
 have HR0 := aM hr0
 have HC0 := aM hc0
 clear hr0 hc0
 have H : (bureauref03_Total.l0 k l0 0 0) = some r := h
 clear h
 have H' := aM H
 clear H
 go_enter Try.func61, Try.ntmps61
 go_wp2
 go_loopg [3, 4] k (fun kq v3 v4 w' => ∃ (x3_1 : Int) (x4_1 : Int), v3 = .int .i64 x3_1 ∧ v4 = .int .i64 x4_1 ∧ Aside0 (bureauref03_Total.l0 kq l0 x3_1 x4_1 = some r) ∧ Aside0 (kq ≤ k) ∧ Drawn0 w w')
 case atStart => exact ⟨(0), (0), (by first | rfl | (simp; done) | (simp [*]; done)), (by first | rfl | (simp; done) | (simp [*]; done)), H', ⟨Nat.le_refl _⟩, by repeat (first | exact Drawn0.refl _ | apply Drawn0.step)⟩
 case round =>
  clear H'
  obtain ⟨x3_1, x4_1, rfl, rfl, HA, HK1, ⟨m1, rfl⟩⟩ := hrel
  cases gk with
  | zero => exact absurd HA.out (by simp [bureauref03_Total.l0])
  | succ k1 =>
   have H := HA.out
   clear HA
   simp only [bureauref03_Total.l0] at H
   by_cases c2 : x4_1 < (l0.length : Int)
   ·rw [if_pos c2] at H
    have c2b0 : decide (x4_1 < (l0.length : Int)) = true := decide_eq_true c2
    clear c2
    by_cases c3 : 0 ≤ x4_1
    ·rw [if_pos c3] at H
     have c3b0 : decide (0 ≤ x4_1) = true := decide_eq_true c3
     clear c3
     by_cases c4 : ((rd_T51 l0 x4_1).f1) > (wrap64 (4096 - x3_1))
     ·rw [if_pos c4] at H
      have c4b0 : decide ((wrap64 (4096 - x3_1)) < ((rd_T51 l0 x4_1).f1)) = true := decide_eq_true c4
      clear c4
      obtain rfl := Option.some.inj H
      have p297 : 0 ≤ (x4_1 : Int) := of_decide_eq_true (by first | (with_reducible assumption) | assumption)
      have q297 : x4_1 < (l0.length : Int) := of_decide_eq_true (by first | (with_reducible assumption) | assumption)
      obtain ⟨ad297, e297, hx297_0, hx297_1⟩ := at_T51 HR0.out x4_1 p297 q297
      cases e297
      replace p297 := eq_true p297
      replace q297 := eq_true q297
      go_wp2
      go_ret
      exact ⟨by first | rfl | (simp; done) | (simp [*]; done), by repeat (first | exact Drawn0.refl _ | apply Drawn0.step)⟩
     ·rw [if_neg c4] at H
      have c4b0 : decide ((wrap64 (4096 - x3_1)) < ((rd_T51 l0 x4_1).f1)) = false := decide_eq_false c4
      clear c4
      by_cases c5 : ((rd_T51 l0 x4_1).f1) > 0
      ·rw [if_pos c5] at H
       have c5b0 : decide (0 < ((rd_T51 l0 x4_1).f1)) = true := decide_eq_true c5
       clear c5
       have H' := aM H
       clear H
       have p297 : 0 ≤ (x4_1 : Int) := of_decide_eq_true (by first | (with_reducible assumption) | assumption)
       have q297 : x4_1 < (l0.length : Int) := of_decide_eq_true (by first | (with_reducible assumption) | assumption)
       obtain ⟨ad297, e297, hx297_0, hx297_1⟩ := at_T51 HR0.out x4_1 p297 q297
       cases e297
       replace p297 := eq_true p297
       replace q297 := eq_true q297
       have p298 : 0 ≤ (x4_1 : Int) := of_decide_eq_true (by first | (with_reducible assumption) | assumption)
       have q298 : x4_1 < (l0.length : Int) := of_decide_eq_true (by first | (with_reducible assumption) | assumption)
       obtain ⟨ad298, e298, hx298_0, hx298_1⟩ := at_T51 HR0.out x4_1 p298 q298
       obtain rfl : ad297 = ad298 := (by injection e298)
       replace p298 := eq_true p298
       replace q298 := eq_true q298
       have p299 : 0 ≤ (x4_1 : Int) := of_decide_eq_true (by first | (with_reducible assumption) | assumption)
       have q299 : x4_1 < (l0.length : Int) := of_decide_eq_true (by first | (with_reducible assumption) | assumption)
       obtain ⟨ad299, e299, hx299_0, hx299_1⟩ := at_T51 HR0.out x4_1 p299 q299
       obtain rfl : ad297 = ad299 := (by injection e299)
       replace p299 := eq_true p299
       replace q299 := eq_true q299
       go_wp2
       go_roundg k1
       case measure => have := HK1.out; omega
       case rel => exact ⟨(wrap64 (x3_1 + ((rd_T51 l0 x4_1).f1))), (wrap64 (x4_1 + 1)), (by first | rfl | (simp; done) | (simp [*]; done)), (by first | rfl | (simp; done) | (simp [*]; done)), H', ⟨by have := HK1.out; omega⟩, by repeat (first | exact Drawn0.refl _ | apply Drawn0.step)⟩
      ·rw [if_neg c5] at H
       have c5b0 : decide (0 < ((rd_T51 l0 x4_1).f1)) = false := decide_eq_false c5
       clear c5
       have H' := aM H
       clear H
       have p297 : 0 ≤ (x4_1 : Int) := of_decide_eq_true (by first | (with_reducible assumption) | assumption)
       have q297 : x4_1 < (l0.length : Int) := of_decide_eq_true (by first | (with_reducible assumption) | assumption)
       obtain ⟨ad297, e297, hx297_0, hx297_1⟩ := at_T51 HR0.out x4_1 p297 q297
       cases e297
       replace p297 := eq_true p297
       replace q297 := eq_true q297
       have p298 : 0 ≤ (x4_1 : Int) := of_decide_eq_true (by first | (with_reducible assumption) | assumption)
       have q298 : x4_1 < (l0.length : Int) := of_decide_eq_true (by first | (with_reducible assumption) | assumption)
       obtain ⟨ad298, e298, hx298_0, hx298_1⟩ := at_T51 HR0.out x4_1 p298 q298
       obtain rfl : ad297 = ad298 := (by injection e298)
       replace p298 := eq_true p298
       replace q298 := eq_true q298
       go_wp2
       go_roundg k1
       case measure => have := HK1.out; omega
       case rel => exact ⟨(x3_1), (wrap64 (x4_1 + 1)), (by first | rfl | (simp; done) | (simp [*]; done)), (by first | rfl | (simp; done) | (simp [*]; done)), H', ⟨by have := HK1.out; omega⟩, by repeat (first | exact Drawn0.refl _ | apply Drawn0.step)⟩
    ·rw [if_neg c3] at H
     exact absurd H (by simp)
   ·rw [if_neg c2] at H
    have c2b0 : decide (x4_1 < (l0.length : Int)) = false := decide_eq_false c2
    clear c2
    obtain rfl := Option.some.inj H
    go_wp2
    go_ret
    exact ⟨by first | rfl | (simp; done) | (simp [*]; done), by repeat (first | exact Drawn0.refl _ | apply Drawn0.step)⟩
end Go.Proofs.Ytnbdldpjiofafaa.PB
end

section
namespace Go.Proofs.Ytnbdldpjiofafaa.PB
open Go.RowKit Go.Proofs.YtnbdldpjiofafaaW.PrintWords Go.Proofs.YtnbdldpjiofafaaW.PrintLast Go.Proofs.YtnbdldpjiofafaaW.PrintMore
attribute [local go_sem] max2_int min2_int max_two min_two max_three min_three max_four min_four   
set_option linter.unusedVariables false
set_option linter.unusedSimpArgs false
theorem eqA51 (d : Nat) (w : World) (x0 y0 : Int) (x1 y1 : Int) :
  (Op.equalIn (d + 2) 51 (.agg #[.int .u64 x0, .int .i64 x1]) (.agg #[.int .u64 y0, .int .i64 y1])).run Try.prog w = .ok (x0 == y0 && (x1 == y1)) w := by
 refine eqA_of Try.underlying51 (by kernel_rfl) ?_
 refine eqf_cons (by rfl) (by go_simp; rfl) (by go_simp; rfl) (by go_simp) ?_
 exact eqf_last (by rfl) (by go_simp; rfl) (by go_simp; rfl) (by go_simp)
end Go.Proofs.Ytnbdldpjiofafaa.PB
end

section
namespace Go.Proofs.Ytnbdldpjiofafaa.PB
open Go.RowKit Go.Proofs.YtnbdldpjiofafaaW.PrintWords Go.Proofs.YtnbdldpjiofafaaW.PrintLast Go.Proofs.YtnbdldpjiofafaaW.PrintMore
attribute [local go_sem] max2_int min2_int max_two min_two max_three min_three max_four min_four   
set_option linter.unusedVariables false
set_option linter.unusedSimpArgs false
attribute [local go_sem high] eqA51
def bureauref03_Same.l0 : Nat → List (S51) → List (S51) → Int → Option (Bool)
 | 0, _, _, _ => none
 | k + 1, x0, x1, x5 => if x5 < (x0.length : Int) then (if 0 ≤ x5 then (if x5 < (x1.length : Int) then (if (!(((rd_T51 x0 x5).f0) == ((rd_T51 x1 x5).f0)) || (!(((rd_T51 x0 x5).f1) == ((rd_T51 x1 x5).f1)))) = true then (some false) else (bureauref03_Same.l0 k x0 x1 (wrap64 (x5 + 1)))) else (none)) else (none)) else (some true)
def bureauref03_Same.f (k : Nat) (l0 : List (S51)) (l1 : List (S51)) : Option (Bool) := if (l0.length : Int) = (l1.length : Int) then (bureauref03_Same.l0 k l0 l1 0) else (some false)
set_option maxHeartbeats 8000000 in
set_option maxRecDepth 100000 in
theorem bureauref03_Same.calls (k : Nat) (A0 : Option Addr) (c0 : Nat) (l0 : List (S51)) (A1 : Option Addr) (c1 : Nat) (l1 : List (S51)) (r : Bool) (w : World) (hr0 : Kd.C k51 w A0 l0.length l0) (hc0 : l0.length ≤ c0) (hr1 : Kd.C k51 w A1 l1.length l1) (hc1 : l1.length ≤ c1) (h : bureauref03_Same.f k l0 l1 = some r) :
  Calls Try.prog 42 #[.slice A0 l0.length c0, .slice A1 l1.length c1] w fun e w' => e = .returned (.bool r) ∧ Drawn0 w w' := by
 have hu51 := Try.underlying51
 have HR0 := aM hr0
 have HC0 := aM hc0
 clear hr0 hc0
 have HR1 := aM hr1
 have HC1 := aM hc1
 clear hr1 hc1
 have H : (if (l0.length : Int) = (l1.length : Int) then (bureauref03_Same.l0 k l0 l1 0) else (some false)) = some r := h
 clear h
 by_cases c3 : (l0.length : Int) = (l1.length : Int)
 ·rw [if_pos c3] at H
  have c3b0 : ((l0.length : Int) == (l1.length : Int)) = true := beq_iff_eq.mpr c3
  have c3b1 : ((l0.length : Int) != (l1.length : Int)) = false := bne_eq_false_iff_eq.mpr c3
  have c3b2 : (l0.length == l1.length) = true := by first | simpa using c3 | (simp at c3 ⊢; omega)
  clear c3
  have H' := aM H
  clear H
  go_enter Try.func42, Try.ntmps42
  go_wp2
  repeat (go_quiet (fail); try go_wp2)
  go_loopg [5] k (fun kq v5 w' => ∃ (x5_1 : Int), v5 = .int .i64 x5_1 ∧ Aside0 (bureauref03_Same.l0 kq l0 l1 x5_1 = some r) ∧ Aside0 (kq ≤ k) ∧ Drawn0 w w')
  case atStart => exact ⟨(0), (by first | rfl | (simp; done) | (simp [*]; done)), H', ⟨Nat.le_refl _⟩, by repeat (first | exact Drawn0.refl _ | apply Drawn0.step)⟩
  case round =>
   clear H'
   try clear c1
   try clear p2
   try clear c3
   try clear c3b0
   try clear c3b1
   try clear c3b2
   obtain ⟨x5_1, rfl, HA, HK1, ⟨m1, rfl⟩⟩ := hrel
   cases gk with
   | zero => exact absurd HA.out (by simp [bureauref03_Same.l0])
   | succ k1 =>
    have H := HA.out
    clear HA
    simp only [bureauref03_Same.l0] at H
    by_cases c4 : x5_1 < (l0.length : Int)
    ·rw [if_pos c4] at H
     have c4b0 : decide (x5_1 < (l0.length : Int)) = true := decide_eq_true c4
     clear c4
     by_cases c5 : 0 ≤ x5_1
     ·rw [if_pos c5] at H
      have c5b0 : decide (0 ≤ x5_1) = true := decide_eq_true c5
      clear c5
      by_cases c6 : x5_1 < (l1.length : Int)
      ·rw [if_pos c6] at H
       have c6b0 : decide (x5_1 < (l1.length : Int)) = true := decide_eq_true c6
       clear c6
       by_cases c7 : (!(((rd_T51 l0 x5_1).f0) == ((rd_T51 l1 x5_1).f0)) || (!(((rd_T51 l0 x5_1).f1) == ((rd_T51 l1 x5_1).f1)))) = true
       ·rw [if_pos c7] at H
        have c7b0 : (!(((rd_T51 l0 x5_1).f0) == ((rd_T51 l1 x5_1).f0)) || (!(((rd_T51 l0 x5_1).f1) == ((rd_T51 l1 x5_1).f1)))) = true := c7
        clear c7
        obtain rfl := Option.some.inj H
        have p283 : 0 ≤ (x5_1 : Int) := of_decide_eq_true (by first | (with_reducible assumption) | assumption)
        have q283 : x5_1 < (l0.length : Int) := of_decide_eq_true (by first | (with_reducible assumption) | assumption)
        obtain ⟨ad283, e283, hx283_0, hx283_1⟩ := at_T51 HR0.out x5_1 p283 q283
        cases e283
        replace p283 := eq_true p283
        replace q283 := eq_true q283
        have p284 : 0 ≤ (x5_1 : Int) := of_decide_eq_true (by first | (with_reducible assumption) | assumption)
        have q284 : x5_1 < (l1.length : Int) := of_decide_eq_true (by first | (with_reducible assumption) | assumption)
        obtain ⟨ad284, e284, hx284_0, hx284_1⟩ := at_T51 HR1.out x5_1 p284 q284
        cases e284
        replace p284 := eq_true p284
        replace q284 := eq_true q284
        go_wp2
        repeat (go_quiet (fail); try go_wp2)
        go_ret
        exact ⟨by first | rfl | (simp; done) | (simp [*]; done), by repeat (first | exact Drawn0.refl _ | apply Drawn0.step)⟩
       ·rw [if_neg c7] at H
        have c7b0 : (!(((rd_T51 l0 x5_1).f0) == ((rd_T51 l1 x5_1).f0)) || (!(((rd_T51 l0 x5_1).f1) == ((rd_T51 l1 x5_1).f1)))) = false := by simpa using c7
        clear c7
        have H' := aM H
        clear H
        have p283 : 0 ≤ (x5_1 : Int) := of_decide_eq_true (by first | (with_reducible assumption) | assumption)
        have q283 : x5_1 < (l0.length : Int) := of_decide_eq_true (by first | (with_reducible assumption) | assumption)
        obtain ⟨ad283, e283, hx283_0, hx283_1⟩ := at_T51 HR0.out x5_1 p283 q283
        cases e283
        replace p283 := eq_true p283
        replace q283 := eq_true q283
        have p284 : 0 ≤ (x5_1 : Int) := of_decide_eq_true (by first | (with_reducible assumption) | assumption)
        have q284 : x5_1 < (l1.length : Int) := of_decide_eq_true (by first | (with_reducible assumption) | assumption)
        obtain ⟨ad284, e284, hx284_0, hx284_1⟩ := at_T51 HR1.out x5_1 p284 q284
        cases e284
        replace p284 := eq_true p284
        replace q284 := eq_true q284
        go_wp2
        repeat (go_quiet (fail); try go_wp2)
        go_roundg k1
        case measure => have := HK1.out; omega
        case rel => exact ⟨(wrap64 (x5_1 + 1)), (by first | rfl | (simp; done) | (simp [*]; done)), H', ⟨by have := HK1.out; omega⟩, by repeat (first | exact Drawn0.refl _ | apply Drawn0.step)⟩
      ·rw [if_neg c6] at H
       exact absurd H (by simp)
     ·rw [if_neg c5] at H
      exact absurd H (by simp)
    ·rw [if_neg c4] at H
     have c4b0 : decide (x5_1 < (l0.length : Int)) = false := decide_eq_false c4
     clear c4
     obtain rfl := Option.some.inj H
     go_wp2
     repeat (go_quiet (fail); try go_wp2)
     go_ret
     exact ⟨by first | rfl | (simp; done) | (simp [*]; done), by repeat (first | exact Drawn0.refl _ | apply Drawn0.step)⟩
 ·rw [if_neg c3] at H
  have c3b0 : ((l0.length : Int) == (l1.length : Int)) = false := beq_eq_false_iff_ne.mpr c3
  have c3b1 : ((l0.length : Int) != (l1.length : Int)) = true := bne_iff_ne.mpr c3
  have c3b2 : (l0.length == l1.length) = false := by first | simpa using c3 | (simp at c3 ⊢; omega)
  obtain rfl := Option.some.inj H
  go_enter Try.func42, Try.ntmps42
  go_wp2
  repeat (go_quiet (fail); try go_wp2)
  go_ret
  exact ⟨by first | rfl | (simp; done) | (simp [*]; done), by repeat (first | exact Drawn0.refl _ | apply Drawn0.step)⟩
end Go.Proofs.Ytnbdldpjiofafaa.PB
end

section
namespace Go.Proofs.Ytnbdldpjiofafaa.PB
open Go.RowKit Go.Proofs.YtnbdldpjiofafaaW.PrintWords Go.Proofs.YtnbdldpjiofafaaW.PrintLast Go.Proofs.YtnbdldpjiofafaaW.PrintMore
attribute [local go_sem] max2_int min2_int max_two min_two max_three min_three max_four min_four   
set_option linter.unusedVariables false
set_option linter.unusedSimpArgs false
def bureauref03_Pack.l0 : Nat → List Int → List (S51) → Int → Option ((List (S51)))
 | 0, _, _, _ => none
 | k + 1, x0, x3, x4 => if x4 < (x0.length : Int) then (if (x3.length : Int) > 0 then (if 0 ≤ (wrap64 ((x3.length : Int) - 1)) then (if (wrap64 ((x3.length : Int) - 1)) < (x3.length : Int) then (if 0 ≤ x4 then (if ((rd_T51 x3 (wrap64 ((x3.length : Int) - 1))).f0) = (rd x0 x4) then (bureauref03_Pack.l0 k x0 (x3.set ((wrap64 ((x3.length : Int) - 1)) : Int).toNat (⟨(rd_T51 x3 (wrap64 ((x3.length : Int) - 1))).f0, wrap64 (((rd_T51 x3 (wrap64 ((x3.length : Int) - 1))).f1) + 1)⟩ : S51)) (wrap64 (x4 + 1))) else (if x3.length < 8796093022208 then (bureauref03_Pack.l0 k x0 (x3 ++ [(⟨rd x0 x4, 1⟩ : S51)]) (wrap64 (x4 + 1))) else (none))) else (none)) else (none)) else (none)) else (if 0 ≤ x4 then (if x3.length < 8796093022208 then (bureauref03_Pack.l0 k x0 (x3 ++ [(⟨rd x0 x4, 1⟩ : S51)]) (wrap64 (x4 + 1))) else (none)) else (none))) else (some x3)
def bureauref03_Pack.f (k : Nat) (l0 : List Int) : Option ((List (S51))) := bureauref03_Pack.l0 k l0 ([] : List (S51)) 0
set_option maxHeartbeats 8000000 in
set_option maxRecDepth 100000 in
theorem bureauref03_Pack.calls (k : Nat) (A0 : Option Addr) (c0 : Nat) (l0 : List Int) (r : List (S51)) (w : World) (hr0 : Kd.C (Kd.int .u64) w A0 l0.length l0) (hc0 : l0.length ≤ c0) (h : bureauref03_Pack.f k l0 = some r) :
  Calls Try.prog 57 #[.slice A0 l0.length c0] w fun e w' => ∃ v0_ : Value, e = .returned (v0_) ∧ Kd.R k51 51 w' w.heap.size (fun _ => True) v0_ r ∧ Below w.heap.size w w' := by
 have hu51 := Try.underlying51
 have HR0 := aM hr0
 have HC0 := aM hc0
 clear hr0 hc0
 have HB := aM (Below.refl w.heap.size w)
 have H : (bureauref03_Pack.l0 k l0 ([] : List (S51)) 0) = some r := h
 clear h
 have H' := aM H
 clear H
 go_enter Try.func57, Try.ntmps57
 go_wp2
 repeat (go_quiet (fail); try go_wp2)
 go_loopg [3, 4] k (fun kq v3 v4 w' => ∃ (x3_1 : List (S51)) (x4_1 : Int), v4 = .int .i64 x4_1 ∧ Aside0 (bureauref03_Pack.l0 kq l0 x3_1 x4_1 = some r) ∧ Aside0 (kq ≤ k) ∧ Aside0 (Kd.R k51 51 w' w.heap.size (fun _ => True) v3 x3_1) ∧ Aside0 (Below w.heap.size w w'))
 case atStart => exact ⟨(([] : List (S51))), (0), (by first | rfl | (simp; done) | (simp [*]; done)), H', ⟨Nat.le_refl _⟩, ⟨by first | exact Kd.R_nil _ _ _ _ _ | exact Kd.N_nil _ _ _ _ _ | exact Kd.V_nil _ _ _ _ _ | exact Kd.Q_nil _ _ _ _ _ | exact Kd.S_nil _ _ _ _ _⟩, ⟨by exact ey HB.out⟩⟩
 case round =>
  clear H'
  obtain ⟨x3_1, x4_1, rfl, HA, HK1, HO_3, HB⟩ := hrel
  cases gk with
  | zero => exact absurd HA.out (by simp [bureauref03_Pack.l0])
  | succ k1 =>
   have H := HA.out
   clear HA
   simp only [bureauref03_Pack.l0] at H
   by_cases c2 : x4_1 < (l0.length : Int)
   ·rw [if_pos c2] at H
    have c2b0 : decide (x4_1 < (l0.length : Int)) = true := decide_eq_true c2
    clear c2
    by_cases c3 : (x3_1.length : Int) > 0
    ·rw [if_pos c3] at H
     have c3b0 : decide (0 < (x3_1.length : Int)) = true := decide_eq_true c3
     have c3b1 : decide (0 < x3_1.length) = true := decide_eq_true (by omega)
     clear c3
     obtain ⟨ji4, hji4⟩ : ∃ j_ : Int, (wrap64 ((x3_1.length : Int) - 1)) = j_ := ⟨_, rfl⟩
     replace H : (if 0 ≤ (ji4) then (if (ji4) < (x3_1.length : Int) then (if 0 ≤ x4_1 then (if ((rd_T51 x3_1 (ji4)).f0) = (rd l0 x4_1) then (bureauref03_Pack.l0 k1 l0 (x3_1.set ((ji4) : Int).toNat (⟨(rd_T51 x3_1 (ji4)).f0, wrap64 (((rd_T51 x3_1 (ji4)).f1) + 1)⟩ : S51)) (wrap64 (x4_1 + 1))) else (if x3_1.length < 8796093022208 then (bureauref03_Pack.l0 k1 l0 (x3_1 ++ [(⟨rd l0 x4_1, 1⟩ : S51)]) (wrap64 (x4_1 + 1))) else (none))) else (none)) else (none)) else (none)) = some r := by first | (rw [hji4] at H; exact H) | (simp only [hji4] at H ⊢; exact H)
     have hji4w : (IntKind.i64.wrap ((x3_1.length : Int) - 1)) = ji4 := (i64_w _).trans hji4
     by_cases c5 : 0 ≤ (ji4)
     ·rw [if_pos c5] at H
      have c5b0 : decide (0 ≤ (ji4)) = true := decide_eq_true c5
      clear c5
      by_cases c6 : (ji4) < (x3_1.length : Int)
      ·rw [if_pos c6] at H
       have c6b0 : decide ((ji4) < (x3_1.length : Int)) = true := decide_eq_true c6
       clear c6
       by_cases c7 : 0 ≤ x4_1
       ·rw [if_pos c7] at H
        have c7b0 : decide (0 ≤ x4_1) = true := decide_eq_true c7
        clear c7
        by_cases c8 : ((rd_T51 x3_1 (ji4)).f0) = (rd l0 x4_1)
        ·rw [if_pos c8] at H
         have c8b0 : (((rd_T51 x3_1 (ji4)).f0) == (rd l0 x4_1)) = true := beq_iff_eq.mpr c8
         have c8b1 : (((rd_T51 x3_1 (ji4)).f0) != (rd l0 x4_1)) = false := bne_eq_false_iff_eq.mpr c8
         clear c8
         obtain ⟨y288, hy288⟩ : ∃ y_ : List (S51), y_ = (x3_1.set ((ji4) : Int).toNat (⟨(rd_T51 x3_1 (ji4)).f0, wrap64 (((rd_T51 x3_1 (ji4)).f1) + 1)⟩ : S51)) := ⟨_, rfl⟩
         replace H : (bureauref03_Pack.l0 k1 l0 y288 (wrap64 (x4_1 + 1))) = some r := by first | (rw [hy288]; with_reducible exact H) | (have H2_ := (Option.bind_some _ _).symm.trans H; rw [hy288]; with_reducible exact H2_) | (have H2_ := (Option.bind_some _ _).symm.trans H; with_reducible exact H2_) | with_reducible exact H | (rw [hy288]; exact H) | exact H
         have Ny288 := aM hy288
         clear hy288
         have H' := aM H
         clear H
         obtain ⟨Ao10, co10, eo10⟩ := Kd.R_slice HO_3.out
         subst eo10
         have p285 : 0 ≤ ((ji4) : Int) := of_decide_eq_true (by first | (with_reducible assumption) | assumption)
         have q285 : (ji4) < (x3_1.length : Int) := of_decide_eq_true (by first | (with_reducible assumption) | assumption)
         obtain ⟨ad285, e285, hx285_0, hx285_1⟩ := at_T51 (rR HO_3.out).2.2 (ji4) p285 q285
         cases e285
         replace p285 := eq_true p285
         replace q285 := eq_true q285
         have p286 : 0 ≤ (x4_1 : Int) := of_decide_eq_true (by first | (with_reducible assumption) | assumption)
         have q286 : x4_1 < (l0.length : Int) := of_decide_eq_true (by first | (with_reducible assumption) | assumption)
         obtain ⟨ad286, e286, hx286_0⟩ := Kd.at_int HR0.out x4_1 p286 q286
         cases e286
         replace hx286_0 := (HB.out.cell (World.block_lt_of_cell? w _ hx286_0)).trans hx286_0
         replace p286 := eq_true p286
         replace q286 := eq_true q286
         have p287 : 0 ≤ ((ji4) : Int) := of_decide_eq_true (by first | (with_reducible assumption) | assumption)
         have q287 : (ji4) < (x3_1.length : Int) := of_decide_eq_true (by first | (with_reducible assumption) | assumption)
         obtain ⟨ad287, e287, hx287_0, hx287_1⟩ := at_T51 (rR HO_3.out).2.2 (ji4) p287 q287
         obtain rfl : ad285 = ad287 := (by injection e287)
         replace p287 := eq_true p287
         replace q287 := eq_true q287
         have p9 : 0 ≤ ((ji4) : Int) := of_decide_eq_true (by first | (with_reducible assumption) | assumption)
         have q9 : ((ji4) : Int) < ((x3_1.length : Int) : Int) := of_decide_eq_true (by first | (with_reducible assumption) | assumption)
         obtain ⟨go9, co9, eo9, gb9, gl9, cl9, HG9⟩ := Kd.R_form HO_3.out (by omega)
         (first | cases eo9 | (injection eo9 with ea_ en_ ec_; (first | subst ea_ | (injection ea_ with ea_; subst ea_)); subst ec_; clear en_))
         have GB9 := aM gb9
         have GG9 := aM HG9
         clear gb9 gl9 HG9
         (first | simp only [add_plain] at hx285_0 | skip)
         (first | simp only [add_plain] at hx285_1 | skip)
         (first | simp only [add_plain] at hx287_0 | skip)
         (first | simp only [add_plain] at hx287_1 | skip)
         obtain ⟨ce9, hcl9, hM9, hcc9, hfr9⟩ := Kd.R_elem HO_3.out z51 ((ji4) : Int) p9 q9
         obtain rfl := k51_openM hM9
         have hx9_0 : wr.cell? ⟨go9, ((ji4) : Int).toNat * 2, none⟩ = some (.int .u64 ((rd_T51 x3_1 (ji4)).f0)) := hcc9 0 _ rfl
         have hx9_1 : wr.cell? ⟨go9, ((ji4) : Int).toNat * 2 + 1, none⟩ = some (.int .i64 ((rd_T51 x3_1 (ji4)).f1)) := hcc9 1 _ rfl
         have hf9_0 : wr.frozen? ⟨go9, ((ji4) : Int).toNat * 2, none⟩ = false := hfr9 0
         have hf9_1 : wr.frozen? ⟨go9, ((ji4) : Int).toNat * 2 + 1, none⟩ = false := hfr9 1
         clear hcl9 hcc9 hfr9 hM9
         replace p9 := eq_true p9
         replace q9 := eq_true q9
         have HX11 := aM (show Kd.R k51 51 wr w.heap.size (fun _ => True) (.slice (some ⟨go9, 0, none⟩) x3_1.length co10) x3_1 from (ry HO_3.out))
         obtain ⟨ce11, hcl11, hM11, hcc11, hfr11⟩ := Kd.R_elem HX11.out z51 ((ji4) : Int) (of_decide_eq_true (by first | (with_reducible assumption) | assumption)) (by have h_ : ((ji4) : Int) < ((x3_1.length : Int) : Int) := of_decide_eq_true (by first | (with_reducible assumption) | assumption); first | exact h_ | (have e_ := (rR HO_3.out).1; omega) | simpa using h_)
         obtain rfl := k51_openM hM11
         have HP11 := Kd.R_seg HX11.out ((ji4) : Int) (of_decide_eq_true (by first | (with_reducible assumption) | assumption)) (by have h_ : ((ji4) : Int) < ((x3_1.length : Int) : Int) := of_decide_eq_true (by first | (with_reducible assumption) | assumption); first | exact h_ | (have e_ := (rR HO_3.out).1; omega) | simpa using h_) (seg := [.int .i64 (wrap64 (((rd_T51 x3_1 (ji4)).f1) + 1))]) (j := 1) hcl11 hcc11 (show 2 ≤ 2 from by decide) (x' := (⟨(rd_T51 x3_1 (ji4)).f0, wrap64 (((rd_T51 x3_1 (ji4)).f1) + 1)⟩ : S51)) (k51_mkM _ _ _ (⟨(rd_T51 x3_1 (ji4)).f0, wrap64 (((rd_T51 x3_1 (ji4)).f1) + 1)⟩ : S51) ) (fun _ hk => hk)
         have hx11_1 := hcc11 1 _ rfl
         (try simp only [show (k51).sz = 2 from rfl, Nat.mul_one, Nat.add_zero] at hx11_1)
         have hf11_1 := hfr11 1
         (try simp only [show (k51).sz = 2 from rfl, Nat.mul_one, Nat.add_zero] at hf11_1)
         clear hcl11 hcc11 hfr11 hM11
         go_wp2_with (first | ((with_reducible refine gate_store (t := 3) (p := 37) rfl ?_); (try (rw [drewN_self wr]; generalize hq_ : World.drewN wr _ = wr; have n0_ := aM (Kd.R_at hq_ HO_3.out); have n1_ := aM (below_at hq_ HB.out); clear hq_ HO_3 HB; have HO_3 := n0_; have HB := n1_; clear n0_ n1_; (try (have HX11 := aM (show Kd.R k51 51 wr w.heap.size (fun _ => True) (.slice (some ⟨go9, 0, none⟩) x3_1.length co10) x3_1 from (ry HO_3.out)))); (try (obtain ⟨ce11, hcl11, hM11, hcc11, hfr11⟩ := Kd.R_elem HX11.out z51 ((ji4) : Int) (of_decide_eq_true (by first | (with_reducible assumption) | assumption)) (by have h_ : ((ji4) : Int) < ((x3_1.length : Int) : Int) := of_decide_eq_true (by first | (with_reducible assumption) | assumption); first | exact h_ | (have e_ := (rR HO_3.out).1; omega) | simpa using h_))); (try (obtain rfl := k51_openM hM11)); (try (have HP11 := Kd.R_seg HX11.out ((ji4) : Int) (of_decide_eq_true (by first | (with_reducible assumption) | assumption)) (by have h_ : ((ji4) : Int) < ((x3_1.length : Int) : Int) := of_decide_eq_true (by first | (with_reducible assumption) | assumption); first | exact h_ | (have e_ := (rR HO_3.out).1; omega) | simpa using h_) (seg := [.int .i64 (wrap64 (((rd_T51 x3_1 (ji4)).f1) + 1))]) (j := 1) hcl11 hcc11 (show 2 ≤ 2 from by decide) (x' := (⟨(rd_T51 x3_1 (ji4)).f0, wrap64 (((rd_T51 x3_1 (ji4)).f1) + 1)⟩ : S51)) (k51_mkM _ _ _ (⟨(rd_T51 x3_1 (ji4)).f0, wrap64 (((rd_T51 x3_1 (ji4)).f1) + 1)⟩ : S51) ) (fun _ hk => hk))); (try (have hx11_1 := hcc11 1 _ rfl)); (try (try simp only [show (k51).sz = 2 from rfl, Nat.mul_one, Nat.add_zero] at hx11_1)); (try (have hf11_1 := hfr11 1)); (try (try simp only [show (k51).sz = 2 from rfl, Nat.mul_one, Nat.add_zero] at hf11_1)); (try (clear hcl11 hcc11 hfr11 hM11)))); refine store_event (t := 3) (p := 37) (v := ?vo_w12) (w1 := (wr.setCell ⟨go9, ((ji4) : Int).toNat * 2 + 1, none⟩ (.int .i64 (wrap64 (((rd_T51 x3_1 (ji4)).f1) + 1))))) ?hg ?ho ?hn ?hr ?_; (case ho => rfl); (case hg => rfl); (case hn => rfl); (case hr => first | (go_simp; done) | (go_simp; rfl)); intro w12 hw; have hg : wr.grownBy w12 (some go9) := (by rw [hw]; exact HP11.2); have hp_ : Kd.R k51 51 w12 w.heap.size (fun _ => True) (.slice (some ⟨go9, 0, none⟩) x3_1.length co10) y288 := (by rw [hw, Ny288.out]; exact HP11.1); clear HP11; have n0_ := aM (hp_); have n1_ := aM ((by rw [hw]; exact below_set (HB.out) GB9.out : Below w.heap.size w w12)); clear HO_3 HB; have HO_3 := n0_; have HB := n1_; clear n0_ n1_; clear hg hw hp_))
         repeat (go_quiet (first | ((with_reducible refine gate_store (t := 3) (p := 37) rfl ?_); (try (rw [drewN_self wr]; generalize hq_ : World.drewN wr _ = wr; have n0_ := aM (Kd.R_at hq_ HO_3.out); have n1_ := aM (below_at hq_ HB.out); clear hq_ HO_3 HB; have HO_3 := n0_; have HB := n1_; clear n0_ n1_; (try (have HX11 := aM (show Kd.R k51 51 wr w.heap.size (fun _ => True) (.slice (some ⟨go9, 0, none⟩) x3_1.length co10) x3_1 from (ry HO_3.out)))); (try (obtain ⟨ce11, hcl11, hM11, hcc11, hfr11⟩ := Kd.R_elem HX11.out z51 ((ji4) : Int) (of_decide_eq_true (by first | (with_reducible assumption) | assumption)) (by have h_ : ((ji4) : Int) < ((x3_1.length : Int) : Int) := of_decide_eq_true (by first | (with_reducible assumption) | assumption); first | exact h_ | (have e_ := (rR HO_3.out).1; omega) | simpa using h_))); (try (obtain rfl := k51_openM hM11)); (try (have HP11 := Kd.R_seg HX11.out ((ji4) : Int) (of_decide_eq_true (by first | (with_reducible assumption) | assumption)) (by have h_ : ((ji4) : Int) < ((x3_1.length : Int) : Int) := of_decide_eq_true (by first | (with_reducible assumption) | assumption); first | exact h_ | (have e_ := (rR HO_3.out).1; omega) | simpa using h_) (seg := [.int .i64 (wrap64 (((rd_T51 x3_1 (ji4)).f1) + 1))]) (j := 1) hcl11 hcc11 (show 2 ≤ 2 from by decide) (x' := (⟨(rd_T51 x3_1 (ji4)).f0, wrap64 (((rd_T51 x3_1 (ji4)).f1) + 1)⟩ : S51)) (k51_mkM _ _ _ (⟨(rd_T51 x3_1 (ji4)).f0, wrap64 (((rd_T51 x3_1 (ji4)).f1) + 1)⟩ : S51) ) (fun _ hk => hk))); (try (have hx11_1 := hcc11 1 _ rfl)); (try (try simp only [show (k51).sz = 2 from rfl, Nat.mul_one, Nat.add_zero] at hx11_1)); (try (have hf11_1 := hfr11 1)); (try (try simp only [show (k51).sz = 2 from rfl, Nat.mul_one, Nat.add_zero] at hf11_1)); (try (clear hcl11 hcc11 hfr11 hM11)))); refine store_event (t := 3) (p := 37) (v := ?vo_w12) (w1 := (wr.setCell ⟨go9, ((ji4) : Int).toNat * 2 + 1, none⟩ (.int .i64 (wrap64 (((rd_T51 x3_1 (ji4)).f1) + 1))))) ?hg ?ho ?hn ?hr ?_; (case ho => rfl); (case hg => rfl); (case hn => rfl); (case hr => first | (go_simp; done) | (go_simp; rfl)); intro w12 hw; have hg : wr.grownBy w12 (some go9) := (by rw [hw]; exact HP11.2); have hp_ : Kd.R k51 51 w12 w.heap.size (fun _ => True) (.slice (some ⟨go9, 0, none⟩) x3_1.length co10) y288 := (by rw [hw, Ny288.out]; exact HP11.1); clear HP11; have n0_ := aM (hp_); have n1_ := aM ((by rw [hw]; exact below_set (HB.out) GB9.out : Below w.heap.size w w12)); clear HO_3 HB; have HO_3 := n0_; have HB := n1_; clear n0_ n1_; clear hg hw hp_)); try go_wp2_with (first | ((with_reducible refine gate_store (t := 3) (p := 37) rfl ?_); (try (rw [drewN_self wr]; generalize hq_ : World.drewN wr _ = wr; have n0_ := aM (Kd.R_at hq_ HO_3.out); have n1_ := aM (below_at hq_ HB.out); clear hq_ HO_3 HB; have HO_3 := n0_; have HB := n1_; clear n0_ n1_; (try (have HX11 := aM (show Kd.R k51 51 wr w.heap.size (fun _ => True) (.slice (some ⟨go9, 0, none⟩) x3_1.length co10) x3_1 from (ry HO_3.out)))); (try (obtain ⟨ce11, hcl11, hM11, hcc11, hfr11⟩ := Kd.R_elem HX11.out z51 ((ji4) : Int) (of_decide_eq_true (by first | (with_reducible assumption) | assumption)) (by have h_ : ((ji4) : Int) < ((x3_1.length : Int) : Int) := of_decide_eq_true (by first | (with_reducible assumption) | assumption); first | exact h_ | (have e_ := (rR HO_3.out).1; omega) | simpa using h_))); (try (obtain rfl := k51_openM hM11)); (try (have HP11 := Kd.R_seg HX11.out ((ji4) : Int) (of_decide_eq_true (by first | (with_reducible assumption) | assumption)) (by have h_ : ((ji4) : Int) < ((x3_1.length : Int) : Int) := of_decide_eq_true (by first | (with_reducible assumption) | assumption); first | exact h_ | (have e_ := (rR HO_3.out).1; omega) | simpa using h_) (seg := [.int .i64 (wrap64 (((rd_T51 x3_1 (ji4)).f1) + 1))]) (j := 1) hcl11 hcc11 (show 2 ≤ 2 from by decide) (x' := (⟨(rd_T51 x3_1 (ji4)).f0, wrap64 (((rd_T51 x3_1 (ji4)).f1) + 1)⟩ : S51)) (k51_mkM _ _ _ (⟨(rd_T51 x3_1 (ji4)).f0, wrap64 (((rd_T51 x3_1 (ji4)).f1) + 1)⟩ : S51) ) (fun _ hk => hk))); (try (have hx11_1 := hcc11 1 _ rfl)); (try (try simp only [show (k51).sz = 2 from rfl, Nat.mul_one, Nat.add_zero] at hx11_1)); (try (have hf11_1 := hfr11 1)); (try (try simp only [show (k51).sz = 2 from rfl, Nat.mul_one, Nat.add_zero] at hf11_1)); (try (clear hcl11 hcc11 hfr11 hM11)))); refine store_event (t := 3) (p := 37) (v := ?vo_w12) (w1 := (wr.setCell ⟨go9, ((ji4) : Int).toNat * 2 + 1, none⟩ (.int .i64 (wrap64 (((rd_T51 x3_1 (ji4)).f1) + 1))))) ?hg ?ho ?hn ?hr ?_; (case ho => rfl); (case hg => rfl); (case hn => rfl); (case hr => first | (go_simp; done) | (go_simp; rfl)); intro w12 hw; have hg : wr.grownBy w12 (some go9) := (by rw [hw]; exact HP11.2); have hp_ : Kd.R k51 51 w12 w.heap.size (fun _ => True) (.slice (some ⟨go9, 0, none⟩) x3_1.length co10) y288 := (by rw [hw, Ny288.out]; exact HP11.1); clear HP11; have n0_ := aM (hp_); have n1_ := aM ((by rw [hw]; exact below_set (HB.out) GB9.out : Below w.heap.size w w12)); clear HO_3 HB; have HO_3 := n0_; have HB := n1_; clear n0_ n1_; clear hg hw hp_)))
         go_roundg k1
         case measure => have := HK1.out; omega
         case rel => exact ⟨(y288), (wrap64 (x4_1 + 1)), (by first | rfl | (simp; done) | (simp [*]; done)), H', ⟨by have := HK1.out; omega⟩, ⟨by exact ry HO_3.out⟩, ⟨by exact ey HB.out⟩⟩
        ·rw [if_neg c8] at H
         have c8b0 : (((rd_T51 x3_1 (ji4)).f0) == (rd l0 x4_1)) = false := beq_eq_false_iff_ne.mpr c8
         have c8b1 : (((rd_T51 x3_1 (ji4)).f0) != (rd l0 x4_1)) = true := bne_iff_ne.mpr c8
         by_cases c13 : x3_1.length < 8796093022208
         ·rw [if_pos c13] at H
          have LMc13 := aM c13
          clear c13
          obtain ⟨y290, hy290⟩ : ∃ y_ : List (S51), y_ = (x3_1 ++ [(⟨rd l0 x4_1, 1⟩ : S51)]) := ⟨_, rfl⟩
          replace H : (bureauref03_Pack.l0 k1 l0 y290 (wrap64 (x4_1 + 1))) = some r := by first | (rw [hy290]; with_reducible exact H) | (have H2_ := (Option.bind_some _ _).symm.trans H; rw [hy290]; with_reducible exact H2_) | (have H2_ := (Option.bind_some _ _).symm.trans H; with_reducible exact H2_) | with_reducible exact H | (rw [hy290]; exact H) | exact H
          have Ny290 := aM hy290
          clear hy290
          have H' := aM H
          clear H
          obtain ⟨Ao14, co14, eo14⟩ := Kd.R_slice HO_3.out
          subst eo14
          have p285 : 0 ≤ ((ji4) : Int) := of_decide_eq_true (by first | (with_reducible assumption) | assumption)
          have q285 : (ji4) < (x3_1.length : Int) := of_decide_eq_true (by first | (with_reducible assumption) | assumption)
          obtain ⟨ad285, e285, hx285_0, hx285_1⟩ := at_T51 (rR HO_3.out).2.2 (ji4) p285 q285
          cases e285
          replace p285 := eq_true p285
          replace q285 := eq_true q285
          have p286 : 0 ≤ (x4_1 : Int) := of_decide_eq_true (by first | (with_reducible assumption) | assumption)
          have q286 : x4_1 < (l0.length : Int) := of_decide_eq_true (by first | (with_reducible assumption) | assumption)
          obtain ⟨ad286, e286, hx286_0⟩ := Kd.at_int HR0.out x4_1 p286 q286
          cases e286
          replace hx286_0 := (HB.out.cell (World.block_lt_of_cell? w _ hx286_0)).trans hx286_0
          replace p286 := eq_true p286
          replace q286 := eq_true q286
          have p289 : 0 ≤ (x4_1 : Int) := of_decide_eq_true (by first | (with_reducible assumption) | assumption)
          have q289 : x4_1 < (l0.length : Int) := of_decide_eq_true (by first | (with_reducible assumption) | assumption)
          obtain ⟨ad289, e289, hx289_0⟩ := Kd.at_int HR0.out x4_1 p289 q289
          obtain rfl : ad286 = ad289 := (by injection e289)
          replace hx289_0 := (HB.out.cell (World.block_lt_of_cell? w _ hx289_0)).trans hx289_0
          replace p289 := eq_true p289
          replace q289 := eq_true q289
          go_wp2_with (first | ((with_reducible refine gate_builtin (b := .append) (xs := #[.tmp 38, .tmp 44]) rfl ?_); at_builtin; refine Kd.R_append k51 (w0 := w) w.heap.size rfl (.tmp 38) (.tmp 44) 22 51 (.agg #[(.int .u64 0), (.int .i64 0)]) 16 rfl Try.underlying22 info51 rfl (by decide) (by omega) (.slice (some ad285) x3_1.length co14) x3_1 (⟨rd l0 x4_1, 1⟩ : S51) [.int .u64 (rd l0 x4_1), .int .i64 1] (fun _ => True) (fun _ => False) rfl rfl ?aP (fun _ hk => hk.elim) ?aF ?aO ?aB ?aS ?aL ?_; (case aP => exact k51_mkM _ _ _ (⟨rd l0 x4_1, 1⟩ : S51)); (case aB => exact (ey HB.out)); (case aF => exact (fun _ _ => trivial)); (case aO => exact (ry HO_3.out)); (case aS => exact (bZ (ey HB.out))); (case aL => have := LMc13.out; omega); intro v291 w15 ho hb hg hat; rw [← Ny290.out] at ho; have n0_ := aM (hb); have n1_ := aM (ho); clear HB HO_3; have HB := n0_; have HO292 := n1_; clear n0_ n1_; clear ho hb hg hat))
          repeat (go_quiet (first | ((with_reducible refine gate_builtin (b := .append) (xs := #[.tmp 38, .tmp 44]) rfl ?_); at_builtin; refine Kd.R_append k51 (w0 := w) w.heap.size rfl (.tmp 38) (.tmp 44) 22 51 (.agg #[(.int .u64 0), (.int .i64 0)]) 16 rfl Try.underlying22 info51 rfl (by decide) (by omega) (.slice (some ad285) x3_1.length co14) x3_1 (⟨rd l0 x4_1, 1⟩ : S51) [.int .u64 (rd l0 x4_1), .int .i64 1] (fun _ => True) (fun _ => False) rfl rfl ?aP (fun _ hk => hk.elim) ?aF ?aO ?aB ?aS ?aL ?_; (case aP => exact k51_mkM _ _ _ (⟨rd l0 x4_1, 1⟩ : S51)); (case aB => exact (ey HB.out)); (case aF => exact (fun _ _ => trivial)); (case aO => exact (ry HO_3.out)); (case aS => exact (bZ (ey HB.out))); (case aL => have := LMc13.out; omega); intro v291 w15 ho hb hg hat; rw [← Ny290.out] at ho; have n0_ := aM (hb); have n1_ := aM (ho); clear HB HO_3; have HB := n0_; have HO292 := n1_; clear n0_ n1_; clear ho hb hg hat)); try go_wp2_with (first | ((with_reducible refine gate_builtin (b := .append) (xs := #[.tmp 38, .tmp 44]) rfl ?_); at_builtin; refine Kd.R_append k51 (w0 := w) w.heap.size rfl (.tmp 38) (.tmp 44) 22 51 (.agg #[(.int .u64 0), (.int .i64 0)]) 16 rfl Try.underlying22 info51 rfl (by decide) (by omega) (.slice (some ad285) x3_1.length co14) x3_1 (⟨rd l0 x4_1, 1⟩ : S51) [.int .u64 (rd l0 x4_1), .int .i64 1] (fun _ => True) (fun _ => False) rfl rfl ?aP (fun _ hk => hk.elim) ?aF ?aO ?aB ?aS ?aL ?_; (case aP => exact k51_mkM _ _ _ (⟨rd l0 x4_1, 1⟩ : S51)); (case aB => exact (ey HB.out)); (case aF => exact (fun _ _ => trivial)); (case aO => exact (ry HO_3.out)); (case aS => exact (bZ (ey HB.out))); (case aL => have := LMc13.out; omega); intro v291 w15 ho hb hg hat; rw [← Ny290.out] at ho; have n0_ := aM (hb); have n1_ := aM (ho); clear HB HO_3; have HB := n0_; have HO292 := n1_; clear n0_ n1_; clear ho hb hg hat)))
          go_roundg k1
          case measure => have := HK1.out; omega
          case rel => exact ⟨(y290), (wrap64 (x4_1 + 1)), (by first | rfl | (simp; done) | (simp [*]; done)), H', ⟨by have := HK1.out; omega⟩, ⟨by exact ry HO292.out⟩, ⟨by exact ey HB.out⟩⟩
         ·rw [if_neg c13] at H
          exact absurd H (by simp)
       ·rw [if_neg c7] at H
        exact absurd H (by simp)
      ·rw [if_neg c6] at H
       exact absurd H (by simp)
     ·rw [if_neg c5] at H
      exact absurd H (by simp)
    ·rw [if_neg c3] at H
     have c3b0 : decide (0 < (x3_1.length : Int)) = false := decide_eq_false c3
     have c3b1 : decide (0 < x3_1.length) = false := decide_eq_false (by omega)
     clear c3
     by_cases c16 : 0 ≤ x4_1
     ·rw [if_pos c16] at H
      have c16b0 : decide (0 ≤ x4_1) = true := decide_eq_true c16
      clear c16
      by_cases c17 : x3_1.length < 8796093022208
      ·rw [if_pos c17] at H
       have LMc17 := aM c17
       clear c17
       obtain ⟨y294, hy294⟩ : ∃ y_ : List (S51), y_ = (x3_1 ++ [(⟨rd l0 x4_1, 1⟩ : S51)]) := ⟨_, rfl⟩
       replace H : (bureauref03_Pack.l0 k1 l0 y294 (wrap64 (x4_1 + 1))) = some r := by first | (rw [hy294]; with_reducible exact H) | (have H2_ := (Option.bind_some _ _).symm.trans H; rw [hy294]; with_reducible exact H2_) | (have H2_ := (Option.bind_some _ _).symm.trans H; with_reducible exact H2_) | with_reducible exact H | (rw [hy294]; exact H) | exact H
       have Ny294 := aM hy294
       clear hy294
       have H' := aM H
       clear H
       obtain ⟨Ao18, co18, eo18⟩ := Kd.R_slice HO_3.out
       subst eo18
       have p293 : 0 ≤ (x4_1 : Int) := of_decide_eq_true (by first | (with_reducible assumption) | assumption)
       have q293 : x4_1 < (l0.length : Int) := of_decide_eq_true (by first | (with_reducible assumption) | assumption)
       obtain ⟨ad293, e293, hx293_0⟩ := Kd.at_int HR0.out x4_1 p293 q293
       cases e293
       replace hx293_0 := (HB.out.cell (World.block_lt_of_cell? w _ hx293_0)).trans hx293_0
       replace p293 := eq_true p293
       replace q293 := eq_true q293
       go_wp2_with (first | ((with_reducible refine gate_builtin (b := .append) (xs := #[.tmp 38, .tmp 44]) rfl ?_); at_builtin; refine Kd.R_append k51 (w0 := w) w.heap.size rfl (.tmp 38) (.tmp 44) 22 51 (.agg #[(.int .u64 0), (.int .i64 0)]) 16 rfl Try.underlying22 info51 rfl (by decide) (by omega) (.slice Ao18 x3_1.length co18) x3_1 (⟨rd l0 x4_1, 1⟩ : S51) [.int .u64 (rd l0 x4_1), .int .i64 1] (fun _ => True) (fun _ => False) rfl rfl ?aP (fun _ hk => hk.elim) ?aF ?aO ?aB ?aS ?aL ?_; (case aP => exact k51_mkM _ _ _ (⟨rd l0 x4_1, 1⟩ : S51)); (case aB => exact (ey HB.out)); (case aF => exact (fun _ _ => trivial)); (case aO => exact (ry HO_3.out)); (case aS => exact (bZ (ey HB.out))); (case aL => have := LMc17.out; omega); intro v295 w19 ho hb hg hat; rw [← Ny294.out] at ho; have n0_ := aM (hb); have n1_ := aM (ho); clear HB HO_3; have HB := n0_; have HO296 := n1_; clear n0_ n1_; clear ho hb hg hat))
       repeat (go_quiet (first | ((with_reducible refine gate_builtin (b := .append) (xs := #[.tmp 38, .tmp 44]) rfl ?_); at_builtin; refine Kd.R_append k51 (w0 := w) w.heap.size rfl (.tmp 38) (.tmp 44) 22 51 (.agg #[(.int .u64 0), (.int .i64 0)]) 16 rfl Try.underlying22 info51 rfl (by decide) (by omega) (.slice Ao18 x3_1.length co18) x3_1 (⟨rd l0 x4_1, 1⟩ : S51) [.int .u64 (rd l0 x4_1), .int .i64 1] (fun _ => True) (fun _ => False) rfl rfl ?aP (fun _ hk => hk.elim) ?aF ?aO ?aB ?aS ?aL ?_; (case aP => exact k51_mkM _ _ _ (⟨rd l0 x4_1, 1⟩ : S51)); (case aB => exact (ey HB.out)); (case aF => exact (fun _ _ => trivial)); (case aO => exact (ry HO_3.out)); (case aS => exact (bZ (ey HB.out))); (case aL => have := LMc17.out; omega); intro v295 w19 ho hb hg hat; rw [← Ny294.out] at ho; have n0_ := aM (hb); have n1_ := aM (ho); clear HB HO_3; have HB := n0_; have HO296 := n1_; clear n0_ n1_; clear ho hb hg hat)); try go_wp2_with (first | ((with_reducible refine gate_builtin (b := .append) (xs := #[.tmp 38, .tmp 44]) rfl ?_); at_builtin; refine Kd.R_append k51 (w0 := w) w.heap.size rfl (.tmp 38) (.tmp 44) 22 51 (.agg #[(.int .u64 0), (.int .i64 0)]) 16 rfl Try.underlying22 info51 rfl (by decide) (by omega) (.slice Ao18 x3_1.length co18) x3_1 (⟨rd l0 x4_1, 1⟩ : S51) [.int .u64 (rd l0 x4_1), .int .i64 1] (fun _ => True) (fun _ => False) rfl rfl ?aP (fun _ hk => hk.elim) ?aF ?aO ?aB ?aS ?aL ?_; (case aP => exact k51_mkM _ _ _ (⟨rd l0 x4_1, 1⟩ : S51)); (case aB => exact (ey HB.out)); (case aF => exact (fun _ _ => trivial)); (case aO => exact (ry HO_3.out)); (case aS => exact (bZ (ey HB.out))); (case aL => have := LMc17.out; omega); intro v295 w19 ho hb hg hat; rw [← Ny294.out] at ho; have n0_ := aM (hb); have n1_ := aM (ho); clear HB HO_3; have HB := n0_; have HO296 := n1_; clear n0_ n1_; clear ho hb hg hat)))
       go_roundg k1
       case measure => have := HK1.out; omega
       case rel => exact ⟨(y294), (wrap64 (x4_1 + 1)), (by first | rfl | (simp; done) | (simp [*]; done)), H', ⟨by have := HK1.out; omega⟩, ⟨by exact ry HO296.out⟩, ⟨by exact ey HB.out⟩⟩
      ·rw [if_neg c17] at H
       exact absurd H (by simp)
     ·rw [if_neg c16] at H
      exact absurd H (by simp)
   ·rw [if_neg c2] at H
    have c2b0 : decide (x4_1 < (l0.length : Int)) = false := decide_eq_false c2
    clear c2
    obtain rfl := Option.some.inj H
    go_wp2
    repeat (go_quiet (fail); try go_wp2)
    go_ret
    exact ⟨_, by first | rfl | (simp [errW_none, errW_some] <;> rfl) | (simp [*, errW_none, errW_some] <;> rfl), by exact ry HO_3.out, by exact ey HB.out⟩
end Go.Proofs.Ytnbdldpjiofafaa.PB
end

section
namespace Go.Proofs.Ytnbdldpjiofafaa.PB
open Go.RowKit Go.Proofs.YtnbdldpjiofafaaW.PrintWords Go.Proofs.YtnbdldpjiofafaaW.PrintLast Go.Proofs.YtnbdldpjiofafaaW.PrintMore
attribute [local go_sem] max2_int min2_int max_two min_two max_three min_three max_four min_four   
set_option linter.unusedVariables false
set_option linter.unusedSimpArgs false
def bureauref03_Good.f (k : Nat) (l0 : List (S51)) : Option (Bool) := (bureauref03_Total.f k l0).bind fun t300 => (if t300 > 4096 then (some false) else ((bureauref03_Bytes.f k l0).bind fun t301 => ((bureauref03_Pack.f k t301).bind fun t304 => ((bureauref03_Same.f k l0 t304).bind fun t307 => (some t307)))))
set_option maxHeartbeats 8000000 in
set_option maxRecDepth 100000 in
theorem bureauref03_Good.calls (k : Nat) (A0 : Option Addr) (c0 : Nat) (l0 : List (S51)) (r : Bool) (w : World) (hr0 : Kd.C k51 w A0 l0.length l0) (hc0 : l0.length ≤ c0) (h : bureauref03_Good.f k l0 = some r) :
  Calls Try.prog 60 #[.slice A0 l0.length c0] w fun e w' => e = .returned (.bool r) ∧ Below w.heap.size w w' := by
 have HR0 := aM hr0
 have HC0 := aM hc0
 clear hr0 hc0
 have HB := aM (Below.refl w.heap.size w)
 have H : ((bureauref03_Total.f k l0).bind fun t300 => (if t300 > 4096 then (some false) else ((bureauref03_Bytes.f k l0).bind fun t301 => ((bureauref03_Pack.f k t301).bind fun t304 => ((bureauref03_Same.f k l0 t304).bind fun t307 => (some t307)))))) = some r := h
 clear h
 replace H := Option.bind_eq_some_iff.mp H
 obtain ⟨t300, A20, H⟩ := H
 replace H : (if t300 > 4096 then (some false) else ((bureauref03_Bytes.f k l0).bind fun t301 => ((bureauref03_Pack.f k t301).bind fun t304 => ((bureauref03_Same.f k l0 t304).bind fun t307 => (some t307))))) = some r := H
 have A2 := aM A20
 clear A20
 by_cases c3 : t300 > 4096
 ·rw [if_pos c3] at H
  have c3b0 : decide (4096 < t300) = true := decide_eq_true c3
  clear c3
  obtain rfl := Option.some.inj H
  go_enter Try.func60, Try.ntmps60
  go_wp2_with (first | ((with_reducible refine gate_callee (f := 61) rfl ?_); refine goesL_ (some 4) rfl rfl Try.func61 (by kernel_rfl) rfl #[.slice A0 l0.length c0] rfl (by (try simp only [mT, mC, mN]); first | done | rfl | (simp only [lD, lT]; rfl)) ?_; (with_reducible refine (bureauref03_Total.calls k _ _ l0 t300 _ ?side1 ?side2 A2.out).mono ?_); (case side1 => repeat (first | exact HR0.out | (with_reducible refine Kd.C_alloc ?_ _) | (with_reducible refine Kd.C_drewN ?_ _) | (with_reducible refine Kd.C_drew ?_))); (case side2 => exact HC0.out); rintro e w' ⟨rfl, ⟨nd, rfl⟩⟩; refine ⟨_, rfl, ?_⟩))
  go_ret
  exact ⟨by first | rfl | (simp [errW_none, errW_some] <;> rfl) | (simp [*, errW_none, errW_some] <;> rfl), by exact ey HB.out⟩
 ·rw [if_neg c3] at H
  have c3b0 : decide (4096 < t300) = false := decide_eq_false c3
  clear c3
  replace H := Option.bind_eq_some_iff.mp H
  obtain ⟨t301, A40, H⟩ := H
  replace H : ((bureauref03_Pack.f k t301).bind fun t304 => ((bureauref03_Same.f k l0 t304).bind fun t307 => (some t307))) = some r := H
  have A4 := aM A40
  clear A40
  replace H := Option.bind_eq_some_iff.mp H
  obtain ⟨t304, A50, H⟩ := H
  replace H : ((bureauref03_Same.f k l0 t304).bind fun t307 => (some t307)) = some r := H
  have A5 := aM A50
  clear A50
  replace H := Option.bind_eq_some_iff.mp H
  obtain ⟨t307, A60, H⟩ := H
  replace H : (some t307) = some r := H
  have A6 := aM A60
  clear A60
  obtain rfl := Option.some.inj H
  go_enter Try.func60, Try.ntmps60
  go_wp2_with (first | ((with_reducible refine gate_callee (f := 61) rfl ?_); refine goesL_ (some 4) rfl rfl Try.func61 (by kernel_rfl) rfl #[.slice A0 l0.length c0] rfl (by (try simp only [mT, mC, mN]); first | done | rfl | (simp only [lD, lT]; rfl)) ?_; (with_reducible refine (bureauref03_Total.calls k _ _ l0 t300 _ ?side1 ?side2 A2.out).mono ?_); (case side1 => repeat (first | exact HR0.out | (with_reducible refine Kd.C_alloc ?_ _) | (with_reducible refine Kd.C_drewN ?_ _) | (with_reducible refine Kd.C_drew ?_))); (case side2 => exact HC0.out); rintro e w' ⟨rfl, ⟨nd, rfl⟩⟩; refine ⟨_, rfl, ?_⟩) | ((with_reducible refine gate_callee (f := 40) rfl ?_); refine goesL_ (some 8) rfl rfl Try.func40 (by kernel_rfl) rfl #[.slice A0 l0.length c0] rfl (by (try simp only [mT, mC, mN]); first | done | rfl | (simp only [lD, lT]; rfl)) ?_; (with_reducible refine (bureauref03_Bytes.calls k _ _ l0 t301 _ ?side1 ?side2 A4.out).mono ?_); (case side1 => repeat (first | exact HR0.out | (with_reducible refine Kd.C_alloc ?_ _) | (with_reducible refine Kd.C_drewN ?_ _) | (with_reducible refine Kd.C_drew ?_))); (case side2 => exact HC0.out); rintro e w7 ⟨v302, rfl, ho0, hb⟩; refine ⟨_, rfl, ?_⟩; have n0_ := aM (rL ho0 (bZ (ey HB.out))); have n1_ := aM (bP (ey HB.out) hb); clear HB; have HO303 := n0_; have HB := n1_; clear n0_ n1_; (try clear hb); (try clear hb2); (try clear hk); (try clear hi); (try clear ho0); obtain ⟨Ao8, co8, eo8⟩ := Kd.R_slice HO303.out; subst eo8) | ((with_reducible refine gate_callee (f := 57) rfl ?_); refine goesL_ (some 9) rfl rfl Try.func57 (by kernel_rfl) rfl #[.slice Ao8 t301.length co8] rfl (by (try simp only [mT, mC, mN]); first | done | rfl | (simp only [lD, lT]; rfl)) ?_; (with_reducible refine (bureauref03_Pack.calls k _ _ t301 t304 _ ?side1 ?side2 A5.out).mono ?_); (case side1 => repeat (first | exact (rR HO303.out).2.2 | (with_reducible refine Kd.C_alloc ?_ _) | (with_reducible refine Kd.C_drewN ?_ _) | (with_reducible refine Kd.C_drew ?_))); (case side2 => exact (rR HO303.out).2.1); rintro e w9 ⟨v305, rfl, ho0, hb⟩; refine ⟨_, rfl, ?_⟩; have n0_ := aM (Kd.R_below (ry HO303.out) hb); have n1_ := aM (rL ho0 (bZ (ey HB.out))); have n2_ := aM (bP (ey HB.out) hb); clear HO303 HB; have HO303 := n0_; have HO306 := n1_; have HB := n2_; clear n0_ n1_ n2_; (try clear hb); (try clear hb2); (try clear hk); (try clear hi); (try clear ho0); obtain ⟨Ao10, co10, eo10⟩ := Kd.R_slice HO306.out; subst eo10) | ((with_reducible refine gate_callee (f := 42) rfl ?_); refine goesL_ (some 10) rfl rfl Try.func42 (by kernel_rfl) rfl #[.slice A0 l0.length c0, .slice Ao10 t304.length co10] rfl (by (try simp only [mT, mC, mN]); first | done | rfl | (simp only [lD, lT]; rfl)) ?_; (with_reducible refine (bureauref03_Same.calls k _ _ l0 _ _ t304 t307 _ ?side1 ?side2 ?side3 ?side4 A6.out).mono ?_); (case side1 => repeat (first | exact (cB_ HR0.out HB.out) | (with_reducible refine Kd.C_alloc ?_ _) | (with_reducible refine Kd.C_drewN ?_ _) | (with_reducible refine Kd.C_drew ?_))); (case side2 => exact HC0.out); (case side3 => repeat (first | exact (rR HO306.out).2.2 | (with_reducible refine Kd.C_alloc ?_ _) | (with_reducible refine Kd.C_drewN ?_ _) | (with_reducible refine Kd.C_drew ?_))); (case side4 => exact (rR HO306.out).2.1); rintro e w' ⟨rfl, ⟨nd, rfl⟩⟩; refine ⟨_, rfl, ?_⟩))
  go_ret
  exact ⟨by first | rfl | (simp [errW_none, errW_some] <;> rfl) | (simp [*, errW_none, errW_some] <;> rfl), by exact ey HB.out⟩
end Go.Proofs.Ytnbdldpjiofafaa.PB
end

section
namespace Go.Proofs.Ytnbdldpjiofafaa.PB
open Go.RowKit Go.Proofs.YtnbdldpjiofafaaW.PrintWords Go.Proofs.YtnbdldpjiofafaaW.PrintLast Go.Proofs.YtnbdldpjiofafaaW.PrintMore
attribute [local go_sem] max2_int min2_int max_two min_two max_three min_three max_four min_four   
set_option linter.unusedVariables false
set_option linter.unusedSimpArgs false
def bureauref04_Good.f (k : Nat) (a0_0 : ByteArray) (l0_1 : List (S51)) : Option (Bool) := (bureauref03_Good.f k l0_1).bind fun t309 => (if t309 = true then ((bureauref03_Total.f k l0_1).bind fun t310 => (some (t310 == (a0_0.size : Int)))) else (some false))
def bureauref04_Good.T1 : Bool × List (List Nat × List Nat) := (true, [([], []), ([0], [0]), ([1], [1]), ([2, 2], [2]), ([3], [3]), ([4, 3], [3, 4]), ([5, 3, 3], [3, 5]), ([3], [3]), ([7, 3], [3, 7]), ([8, 3], [3, 8]), ([6, 9, 3], [3, 6, 9]), ([3, 10], [3, 10]), ([11, 6, 0, 1, 2, 3, 4, 5, 6, 7, 8, 9, 10, 11], [11])])
def bureauref04_Good.B1 : List Nat := [0, 1, 3, 7, 15, 31, 63, 15, 143, 399, 1023, 2047, 4095]
theorem bureauref04_Good.tab1 : rtab .any (opsOf Try.f39 1) = bureauref04_Good.T1 := by kernel_rfl
theorem bureauref04_Good.bits1 : waitsOk bureauref04_Good.T1.2 bureauref04_Good.B1 = true := by kernel_rfl
set_option maxHeartbeats 8000000 in
set_option maxRecDepth 100000 in
theorem bureauref04_Good.calls (k : Nat) (a0_0 : ByteArray) (A0_1 : Option Addr) (c0_1 : Nat) (l0_1 : List (S51)) (r : Bool) (w : World) (hr0_1 : Kd.C k51 w A0_1 l0_1.length l0_1) (hc0_1 : l0_1.length ≤ c0_1) (h : bureauref04_Good.f k a0_0 l0_1 = some r) :
  Calls Try.prog 39 #[.agg #[.string a0_0, .slice A0_1 l0_1.length c0_1]] w fun e w' => e = .returned (.bool r) ∧ Below w.heap.size w w' := by
 have hu24 := Try.underlying24
 have HR0_1 := aM hr0_1
 have HC0_1 := aM hc0_1
 clear hr0_1 hc0_1
 have HB := aM (Below.refl w.heap.size w)
 have H : ((bureauref03_Good.f k l0_1).bind fun t309 => (if t309 = true then ((bureauref03_Total.f k l0_1).bind fun t310 => (some (t310 == (a0_0.size : Int)))) else (some false))) = some r := h
 clear h
 replace H := Option.bind_eq_some_iff.mp H
 obtain ⟨t309, A20, H⟩ := H
 replace H : (if t309 = true then ((bureauref03_Total.f k l0_1).bind fun t310 => (some (t310 == (a0_0.size : Int)))) else (some false)) = some r := H
 have A2 := aM A20
 clear A20
 by_cases c3 : t309 = true
 ·subst c3
  have H1 : ((bureauref03_Total.f k l0_1).bind fun t310 => (some (t310 == (a0_0.size : Int)))) = some r := by rw [if_pos rfl] at H; exact H
  clear H
  have H := H1
  clear H1
  replace H := Option.bind_eq_some_iff.mp H
  obtain ⟨t310, A40, H⟩ := H
  replace H : (some (t310 == (a0_0.size : Int))) = some r := H
  have A4 := aM A40
  clear A40
  obtain rfl := Option.some.inj H
  go_enter Try.func39, Try.ntmps39
  try go_wp2_with (first | ((with_reducible refine gate_dst (N := 1) rfl ?_); (try (refine gate_guard (by rfl) ?_; dsimp only)); refine box_event ?hg (N := 1) ?hd (cs := #[.string a0_0, .slice A0_1 l0_1.length c0_1]) (t := 24) ?hr ?_; (case hd | hg => rfl); (case hr => first | (go_simp; done) | (go_simp; rfl)); intro gb308 hg w5 hbox hb; have n0_ := aM (bP (ey HB.out) hb); have n1_ := aM (hbox); have n2_ := aM ((by rw [hg]; exact (bZ (ey HB.out)) : w.heap.size ≤ gb308)); have n3_ := n2_; clear HB; have HB := n0_; have BK308 := n1_; have GW308 := n2_; have GE308 := n3_; clear n0_ n1_ n2_ n3_; clear hb hbox hg))
  have n0_ := aM (blk_drew BK308.out)
  have n1_ := aM (below_drew1 HB.out)
  clear BK308
  clear HB
  have BK308 := n0_
  have HB := n1_
  clear n0_ n1_
  refine start_ (n := 13) (S := fun w' => w'.cell? ⟨gb308, 0, none⟩ = some (.string a0_0) ∧ w'.cell? ⟨gb308, 1, none⟩ = some (.slice A0_1 l0_1.length c0_1)) (ds := []) b10_ (by kernel_rfl) rfl rfl ⟨(bC BK308.out 0).trans rfl, (bC BK308.out 1).trans rfl⟩ (fun hHeld => ?_); refine with_tabW bureauref04_Good.tab1 bureauref04_Good.bits1 (fun HT_ HW_ => ?_)
  generalize w5.drew = w6 at BK308 HB hHeld ⊢
  refine pure_ (i := 0) (N := some 3) (v := ?_) (a' := ?_) b11_ rfl rfl (any_of HT_.out (by kernel_rfl)) (fun _ _ _ h => h) (Or.inl ⟨by rfl, ?_⟩) ?_ ?_
  rotate_left
  ·intro w'
   go_simp
   with_reducible rfl
  rotate_left
  ·simp only [Act.put, sA, sZ, sS, i64_w, i32_w]
   rfl
  refine take_ (i := 1) (N := some 4) (v := ?_) (a' := ?_) b12_ rfl rfl (take_ofW HT_.out HW_.out (by kernel_rfl)) (fun _ _ _ h => h) (Or.inl ⟨by rfl, ?_⟩) hHeld ?_ ?_
  rotate_left
  ·rintro w' ⟨s0, s1⟩
   go_simp
   with_reducible rfl
  rotate_left
  ·simp only [Act.put, sA, sZ, sS, i64_w, i32_w]
   rfl
  refine one_ (i := 2) (N := some 5) b13_ rfl rfl (one_of HT_.out (by kernel_rfl)) (by decide) (fun K hK => ?_)
  refine goes_ Try.func60 (by kernel_rfl) rfl #[.slice A0_1 l0_1.length c0_1] (by rfl) rfl rfl (by (try simp only [mT, mC, mN]); first | done | rfl | (simp only [lD, lT]; rfl)) ?_
  with_reducible refine (bureauref03_Good.calls k _ _ l0_1 true _ ?side1 ?side2 A2.out).mono ?_
  (case side1 => repeat (first | exact (cB_ HR0_1.out HB.out) | (with_reducible refine Kd.C_alloc ?_ _) | (with_reducible refine Kd.C_drewN ?_ _) | (with_reducible refine Kd.C_drew ?_)))
  (case side2 => exact HC0_1.out)
  rintro e w7 ⟨rfl, hb⟩
  refine ⟨_, rfl, ?_⟩
  have n0_ := aM (bB (g := gb308) (qy BK308.out) hb)
  have n1_ := aM (bP (by repeat (first | (with_reducible first | exact HB.out | apply ea | apply en | apply ed | refine es ?_ GE308.out) | exact HB.out)) hb)
  clear BK308
  clear HB
  have BK308 := n0_
  have HB := n1_
  clear n0_ n1_
  (try clear hb)
  (try clear hb2)
  (try clear hk)
  (try clear hi)
  refine hK.out _ _ ⟨(bC BK308.out 0).trans rfl, (bC BK308.out 1).trans rfl⟩ (fun hHeld => ?_)
  clear hK K
  refine norm_ (a' := ?_) ?_ ?_
  rotate_left
  ·show Act.put _ (some 5) _ = _
   simp only [Act.put, sA, sZ, sS, i64_w, i32_w]
   rfl
  refine pure_ (i := 3) (N := some 6) (v := ?_) (a' := ?_) b14_ rfl rfl (any_of HT_.out (by kernel_rfl)) (fun _ _ _ h => h) (Or.inl ⟨by rfl, ?_⟩) ?_ ?_
  rotate_left
  ·intro w'
   go_simp
   with_reducible rfl
  rotate_left
  ·simp only [Act.put, sA, sZ, sS, i64_w, i32_w]
   rfl
  refine pure_ (i := 4) (N := some 7) (v := ?_) (a' := ?_) b15_ rfl rfl (any_of HT_.out (by kernel_rfl)) (fun _ _ _ h => h) (Or.inl ⟨by rfl, ?_⟩) ?_ ?_
  rotate_left
  ·intro w'
   go_simp
   with_reducible rfl
  rotate_left
  ·simp only [Act.put, sA, sZ, sS, i64_w, i32_w]
   rfl
  refine pure_ (i := 7) (N := some 10) (v := ?_) (a' := ?_) b16_ rfl rfl (any_of HT_.out (by kernel_rfl)) (fun _ _ _ h => h) (Or.inl ⟨by rfl, ?_⟩) ?_ ?_
  rotate_left
  ·intro w'
   go_simp
   with_reducible rfl
  rotate_left
  ·simp only [Act.put, sA, sZ, sS, i64_w, i32_w]
   rfl
  refine take_ (i := 5) (N := some 8) (v := ?_) (a' := ?_) b17_ rfl rfl (take_ofW HT_.out HW_.out (by kernel_rfl)) (fun _ _ _ h => h) (Or.inl ⟨by rfl, ?_⟩) hHeld ?_ ?_
  rotate_left
  ·rintro w' ⟨s0, s1⟩
   go_simp
   with_reducible rfl
  rotate_left
  ·simp only [Act.put, sA, sZ, sS, i64_w, i32_w]
   rfl
  refine take_ (i := 8) (N := some 11) (v := ?_) (a' := ?_) b18_ rfl rfl (take_ofW HT_.out HW_.out (by kernel_rfl)) (fun _ _ _ h => h) (Or.inl ⟨by rfl, ?_⟩) hHeld ?_ ?_
  rotate_left
  ·rintro w' ⟨s0, s1⟩
   go_simp
   with_reducible rfl
  rotate_left
  ·simp only [Act.put, sA, sZ, sS, i64_w, i32_w]
   rfl
  refine pure_ (i := 9) (N := some 12) (v := ?_) (a' := ?_) b19_ rfl rfl (any_of HT_.out (by kernel_rfl)) (fun _ _ _ h => h) (Or.inl ⟨by rfl, ?_⟩) ?_ ?_
  rotate_left
  ·intro w'
   go_simp
   with_reducible rfl
  rotate_left
  ·simp only [Act.put, sA, sZ, sS, i64_w, i32_w]
   rfl
  refine one_ (i := 6) (N := some 9) b20_ rfl rfl (one_of HT_.out (by kernel_rfl)) (by decide) (fun K hK => ?_)
  refine goes_ Try.func61 (by kernel_rfl) rfl #[.slice A0_1 l0_1.length c0_1] (by rfl) rfl rfl (by (try simp only [mT, mC, mN]); first | done | rfl | (simp only [lD, lT]; rfl)) ?_
  with_reducible refine (bureauref03_Total.calls k _ _ l0_1 t310 _ ?side1 ?side2 A4.out).mono ?_
  (case side1 => repeat (first | exact (cB_ HR0_1.out HB.out) | (with_reducible refine Kd.C_alloc ?_ _) | (with_reducible refine Kd.C_drewN ?_ _) | (with_reducible refine Kd.C_drew ?_)))
  (case side2 => exact HC0_1.out)
  rintro e w' ⟨rfl, ⟨nd, rfl⟩⟩
  refine ⟨_, rfl, ?_⟩
  refine hK.out _ _ ⟨(bC BK308.out 0).trans rfl, (bC BK308.out 1).trans rfl⟩ (fun hHeld => ?_)
  clear hK K
  refine norm_ (a' := ?_) ?_ ?_
  rotate_left
  ·show Act.put _ (some 9) _ = _
   simp only [Act.put, sA, sZ, sS, i64_w, i32_w]
   rfl
  refine pure_ (i := 10) (N := some 13) (v := ?_) (a' := ?_) b21_ rfl rfl (any_of HT_.out (by kernel_rfl)) (fun _ _ _ h => h) (Or.inl ⟨by rfl, ?_⟩) ?_ ?_
  rotate_left
  ·intro w'
   go_simp
   with_reducible rfl
  rotate_left
  ·simp only [Act.put, sA, sZ, sS, i64_w, i32_w]
   rfl
  refine pure_ (i := 11) (N := some 14) (v := ?_) (a' := ?_) b22_ rfl rfl (any_of HT_.out (by kernel_rfl)) (fun _ _ _ h => h) (Or.inl ⟨by rfl, ?_⟩) ?_ ?_
  rotate_left
  ·intro w'
   go_simp
   with_reducible rfl
  rotate_left
  ·simp only [Act.put, sA, sZ, sS, i64_w, i32_w]
   rfl
  refine pure_ (i := 12) (N := some 2) (v := ?_) (a' := ?_) b23_ rfl rfl (any_of HT_.out (by kernel_rfl)) (fun _ _ _ h => h) (Or.inl ⟨by rfl, ?_⟩) ?_ ?_
  rotate_left
  ·intro w'
   go_simp
   with_reducible rfl
  rotate_left
  ·simp only [Act.put, sA, sZ, sS, i64_w, i32_w]
   rfl
  refine done_ (done_of HT_.out (by kernel_rfl)) ?_
  try go_wp2
  go_ret
  exact ⟨by first | rfl | (simp [errW_none, errW_some] <;> rfl) | (simp [*, errW_none, errW_some] <;> rfl), by repeat (first | (with_reducible first | exact HB.out | apply ea | apply en | apply ed | refine es ?_ GE308.out) | exact HB.out)⟩
 ·replace c3 := Bool.eq_false_iff.mpr c3
  subst c3
  have H1 : (some false) = some r := by rw [if_neg (show ¬ (false = true) by decide)] at H; exact H
  clear H
  have H := H1
  clear H1
  obtain rfl := Option.some.inj H
  go_enter Try.func39, Try.ntmps39
  try go_wp2_with (first | ((with_reducible refine gate_dst (N := 1) rfl ?_); (try (refine gate_guard (by rfl) ?_; dsimp only)); refine box_event ?hg (N := 1) ?hd (cs := #[.string a0_0, .slice A0_1 l0_1.length c0_1]) (t := 24) ?hr ?_; (case hd | hg => rfl); (case hr => first | (go_simp; done) | (go_simp; rfl)); intro gb308 hg w8 hbox hb; have n0_ := aM (bP (ey HB.out) hb); have n1_ := aM (hbox); have n2_ := aM ((by rw [hg]; exact (bZ (ey HB.out)) : w.heap.size ≤ gb308)); have n3_ := n2_; clear HB; have HB := n0_; have BK308 := n1_; have GW308 := n2_; have GE308 := n3_; clear n0_ n1_ n2_ n3_; clear hb hbox hg))
  have n0_ := aM (blk_drew BK308.out)
  have n1_ := aM (below_drew1 HB.out)
  clear BK308
  clear HB
  have BK308 := n0_
  have HB := n1_
  clear n0_ n1_
  refine start_ (n := 13) (S := fun w' => w'.cell? ⟨gb308, 0, none⟩ = some (.string a0_0) ∧ w'.cell? ⟨gb308, 1, none⟩ = some (.slice A0_1 l0_1.length c0_1)) (ds := []) b10_ (by kernel_rfl) rfl rfl ⟨(bC BK308.out 0).trans rfl, (bC BK308.out 1).trans rfl⟩ (fun hHeld => ?_); refine with_tabW bureauref04_Good.tab1 bureauref04_Good.bits1 (fun HT_ HW_ => ?_)
  generalize w8.drew = w9 at BK308 HB hHeld ⊢
  refine pure_ (i := 0) (N := some 3) (v := ?_) (a' := ?_) b11_ rfl rfl (any_of HT_.out (by kernel_rfl)) (fun _ _ _ h => h) (Or.inl ⟨by rfl, ?_⟩) ?_ ?_
  rotate_left
  ·intro w'
   go_simp
   with_reducible rfl
  rotate_left
  ·simp only [Act.put, sA, sZ, sS, i64_w, i32_w]
   rfl
  refine take_ (i := 1) (N := some 4) (v := ?_) (a' := ?_) b12_ rfl rfl (take_ofW HT_.out HW_.out (by kernel_rfl)) (fun _ _ _ h => h) (Or.inl ⟨by rfl, ?_⟩) hHeld ?_ ?_
  rotate_left
  ·rintro w' ⟨s0, s1⟩
   go_simp
   with_reducible rfl
  rotate_left
  ·simp only [Act.put, sA, sZ, sS, i64_w, i32_w]
   rfl
  refine one_ (i := 2) (N := some 5) b13_ rfl rfl (one_of HT_.out (by kernel_rfl)) (by decide) (fun K hK => ?_)
  refine goes_ Try.func60 (by kernel_rfl) rfl #[.slice A0_1 l0_1.length c0_1] (by rfl) rfl rfl (by (try simp only [mT, mC, mN]); first | done | rfl | (simp only [lD, lT]; rfl)) ?_
  with_reducible refine (bureauref03_Good.calls k _ _ l0_1 false _ ?side1 ?side2 A2.out).mono ?_
  (case side1 => repeat (first | exact (cB_ HR0_1.out HB.out) | (with_reducible refine Kd.C_alloc ?_ _) | (with_reducible refine Kd.C_drewN ?_ _) | (with_reducible refine Kd.C_drew ?_)))
  (case side2 => exact HC0_1.out)
  rintro e w10 ⟨rfl, hb⟩
  refine ⟨_, rfl, ?_⟩
  have n0_ := aM (bB (g := gb308) (qy BK308.out) hb)
  have n1_ := aM (bP (by repeat (first | (with_reducible first | exact HB.out | apply ea | apply en | apply ed | refine es ?_ GE308.out) | exact HB.out)) hb)
  clear BK308
  clear HB
  have BK308 := n0_
  have HB := n1_
  clear n0_ n1_
  (try clear hb)
  (try clear hb2)
  (try clear hk)
  (try clear hi)
  refine hK.out _ _ ⟨(bC BK308.out 0).trans rfl, (bC BK308.out 1).trans rfl⟩ (fun hHeld => ?_)
  clear hK K
  refine norm_ (a' := ?_) ?_ ?_
  rotate_left
  ·show Act.put _ (some 5) _ = _
   simp only [Act.put, sA, sZ, sS, i64_w, i32_w]
   rfl
  refine pure_ (i := 3) (N := some 6) (v := ?_) (a' := ?_) b14_ rfl rfl (any_of HT_.out (by kernel_rfl)) (fun _ _ _ h => h) (Or.inl ⟨by rfl, ?_⟩) ?_ ?_
  rotate_left
  ·intro w'
   go_simp
   with_reducible rfl
  rotate_left
  ·simp only [Act.put, sA, sZ, sS, i64_w, i32_w]
   rfl
  refine pure_ (i := 4) (N := some 7) (v := undef) (a' := ?_) b15_ rfl rfl (any_of HT_.out (by kernel_rfl)) (fun _ _ _ h => h) (Or.inr ⟨by rfl, rfl⟩) ?_ ?_
  rotate_left
  ·simp only [Act.put, sA, sZ, sS, i64_w, i32_w]
   rfl
  refine pure_ (i := 5) (N := some 8) (v := undef) (a' := ?_) b24_ rfl rfl (any_of HT_.out (by kernel_rfl)) (fun _ _ _ h => h) (Or.inr ⟨by rfl, rfl⟩) ?_ ?_
  rotate_left
  ·simp only [Act.put, sA, sZ, sS, i64_w, i32_w]
   rfl
  refine pure_ (i := 6) (N := some 9) (v := undef) (a' := ?_) b25_ rfl rfl (any_of HT_.out (by kernel_rfl)) (fun _ _ _ h => h) (Or.inr ⟨by rfl, rfl⟩) ?_ ?_
  rotate_left
  ·simp only [Act.put, sA, sZ, sS, i64_w, i32_w]
   rfl
  refine pure_ (i := 7) (N := some 10) (v := undef) (a' := ?_) b26_ rfl rfl (any_of HT_.out (by kernel_rfl)) (fun _ _ _ h => h) (Or.inr ⟨by rfl, rfl⟩) ?_ ?_
  rotate_left
  ·simp only [Act.put, sA, sZ, sS, i64_w, i32_w]
   rfl
  refine pure_ (i := 8) (N := some 11) (v := undef) (a' := ?_) b27_ rfl rfl (any_of HT_.out (by kernel_rfl)) (fun _ _ _ h => h) (Or.inr ⟨by rfl, rfl⟩) ?_ ?_
  rotate_left
  ·simp only [Act.put, sA, sZ, sS, i64_w, i32_w]
   rfl
  refine pure_ (i := 9) (N := some 12) (v := undef) (a' := ?_) b20_ rfl rfl (any_of HT_.out (by kernel_rfl)) (fun _ _ _ h => h) (Or.inr ⟨by rfl, rfl⟩) ?_ ?_
  rotate_left
  ·simp only [Act.put, sA, sZ, sS, i64_w, i32_w]
   rfl
  refine pure_ (i := 10) (N := some 13) (v := undef) (a' := ?_) b21_ rfl rfl (any_of HT_.out (by kernel_rfl)) (fun _ _ _ h => h) (Or.inr ⟨by rfl, rfl⟩) ?_ ?_
  rotate_left
  ·simp only [Act.put, sA, sZ, sS, i64_w, i32_w]
   rfl
  refine pure_ (i := 11) (N := some 14) (v := ?_) (a' := ?_) b22_ rfl rfl (any_of HT_.out (by kernel_rfl)) (fun _ _ _ h => h) (Or.inl ⟨by rfl, ?_⟩) ?_ ?_
  rotate_left
  ·intro w'
   go_simp
   with_reducible rfl
  rotate_left
  ·simp only [Act.put, sA, sZ, sS, i64_w, i32_w]
   rfl
  refine pure_ (i := 12) (N := some 2) (v := ?_) (a' := ?_) b23_ rfl rfl (any_of HT_.out (by kernel_rfl)) (fun _ _ _ h => h) (Or.inl ⟨by rfl, ?_⟩) ?_ ?_
  rotate_left
  ·intro w'
   go_simp
   with_reducible rfl
  rotate_left
  ·simp only [Act.put, sA, sZ, sS, i64_w, i32_w]
   rfl
  refine done_ (done_of HT_.out (by kernel_rfl)) ?_
  try go_wp2
  go_ret
  exact ⟨by first | rfl | (simp [errW_none, errW_some] <;> rfl) | (simp [*, errW_none, errW_some] <;> rfl), by repeat (first | (with_reducible first | exact HB.out | apply ea | apply en | apply ed | refine es ?_ GE308.out) | exact HB.out)⟩
end Go.Proofs.Ytnbdldpjiofafaa.PB
end

section
namespace Go.Proofs.Ytnbdldpjiofafaa.PB
set_option linter.unusedVariables false
def marksTo (n k : Nat) : List Bool := (List.range 64).map (fun i => decide (i < k) && n.testBit i)
def marksN (n : Nat) : List Bool := (List.range 64).map (fun i => n.testBit i)
theorem marksTo_len (n k : Nat) : (marksTo n k).length = 64 := by simp [marksTo]
theorem marksN_len (n : Nat) : (marksN n).length = 64 := by simp [marksN]
theorem marksTo_zero (n : Nat) : marksTo n 0 = List.replicate 64 false := by simp [marksTo]; rfl
theorem marksTo_all (n : Nat) : marksTo n 64 = marksN n := by
  unfold marksTo marksN
  apply List.map_congr_left
  intro i hi
  simp [List.mem_range.1 hi]
theorem marksTo_set (n k : Nat) (hk : k < 64) : (marksTo n k).set k (n.testBit k) = marksTo n (k + 1) := by
  apply List.ext_getElem?
  intro i
  rw [List.getElem?_set]
  unfold marksTo
  simp only [List.getElem?_map, List.length_map, List.length_range]
  by_cases hi : i < 64
  · rw [List.getElem?_range hi]
    by_cases h : k = i
    · subst h; simp [hk]
    · have : decide (i < k) = decide (i < k + 1) := by rw [decide_eq_decide]; omega
      rw [if_neg h, Option.map_some, Option.map_some, this]
  · rw [List.getElem?_eq_none (by simpa using hi), if_neg (by omega)]; rfl
theorem marksN_getD (n i : Nat) (hi : i < 64) : (marksN n).getD i false = n.testBit i := by
  unfold marksN
  rw [List.getD_eq_getElem?_getD, List.getElem?_map, List.getElem?_range hi]
  rfl
end Go.Proofs.Ytnbdldpjiofafaa.PB
end

section
namespace Go.Proofs.Ytnbdldpjiofafaa.PB
open Go.RowKit Go.Proofs.YtnbdldpjiofafaaW.PrintWords Go.Proofs.YtnbdldpjiofafaaW.PrintLast Go.Proofs.YtnbdldpjiofafaaW.PrintMore
attribute [local go_sem] max2_int min2_int max_two min_two max_three min_three max_four min_four
set_option linter.unusedVariables false
set_option linter.unusedSimpArgs false
def mcells (l : List Bool) : Array Value := (bools l).toArray
theorem mcells_size (l : List Bool) : (mcells l).size = l.length := by simp [mcells, bools]
theorem mcells_get (l : List Bool) (i : Nat) (h : i < l.length) : (mcells l)[i]? = some (.bool (l.getD i false)) := by
  simp [mcells, bools, List.getD_eq_getElem?_getD, List.getElem?_eq_getElem h]
theorem mcells_set (l : List Bool) (i : Nat) (b : Bool) : (mcells l).setIfInBounds i (.bool b) = mcells (l.set i b) := by
  simp [mcells, bools, List.map_set]
theorem mcells_full (l : List Bool) (hl : l.length = 64) : (Try.prog.info? 101).map (fun i => i.size) = some (mcells l).size := by
  rw [mcells_size, hl]
  kernel_rfl
theorem mcells_one (l : List Bool) : (mcells l).all (·.oneCell') = true := by
  simp [mcells, bools, Value.oneCell']
theorem blk_there {w : World} {g : Nat} {t : TypeId} {l : List Bool} (h : w.heap[g]? = some (.cells (mcells l) t (0, 0))) : w.there g 0 l.length := fun j hj =>
  ⟨by rw [bC h, Nat.zero_add, mcells_get l j hj]; rfl, bF h _⟩
theorem setCells_blk {w : World} {g : Nat} {t : TypeId} {l m : List Bool} (h : w.heap[g]? = some (.cells (mcells l) t (0, 0))) (hl : m.length = l.length) :
    (w.setCells g 0 (mcells m).toList).heap[g]? = some (.cells (mcells m) t (0, 0)) := by
  obtain ⟨cur, h1, h2, h3⟩ := setCells_row (mcells m).toList 0 w (mcells l) h (by rw [Nat.zero_add, Array.length_toList, mcells_size, mcells_size, hl]; exact Nat.le_refl _)
  rw [h1]
  congr 2
  apply Array.toList_inj.1
  have hs : (mcells l).toList.length = (mcells m).toList.length := by rw [Array.length_toList, Array.length_toList, mcells_size, mcells_size, hl]
  rw [h3, List.take_zero, List.nil_append, List.drop_eq_nil_of_le (by omega), List.append_nil]
set_option maxHeartbeats 4000000 in
set_option maxRecDepth 100000 in
theorem Marks_calls (n : Nat) (hn : n < 2 ^ 64) (w : World) :
    Calls Try.prog 62 #[.int .u64 (n : Int)] w fun e w' => e = .returned (.agg (mcells (marksN n))) ∧ Below w.heap.size w w' := by
  go_enter Try.func62, Try.ntmps62
  have hn' : (n : Int) < 18446744073709551616 := by omega
  go_wp2_with (first | ((with_reducible refine gate_dst (N := 2) rfl ?_); refine box_event ?hg (N := 2) ?hd (cs := mcells (List.replicate 64 false)) (t := 101) ?hr ?_; (case hd => rfl); (case hg => rfl); (case hr => (go_simp; rfl)); intro g2 hg2 w2 hbox2 hb2; have HX2 := aM hbox2; have HB2 := aM hb2; have HE2 := aM hg2; clear hbox2 hb2 hg2) | ((with_reducible refine gate_dst (N := 3) rfl ?_); refine box_event ?hg (N := 3) ?hd (cs := mcells (List.replicate 64 false)) (t := 101) ?hr ?_; (case hd => rfl); (case hg => rfl); (case hr => (go_simp; rfl)); intro g3 hg3 w3 hbox3 hb3; have HX3 := aM hbox3; have HB3 := aM hb3; have HE3 := aM hg3; clear hbox3 hb3 hg3))
  have h23 : g2 < g3 := by have := HE3.out; have := blk_lt HX2.out; omega
  have hs2 : g2 = w.heap.size := HE2.out
  have HX2 := aM ((HB3.out.block g2 (blk_lt HX2.out)).trans HX2.out)
  have HBB := aM ((HB2.out).trans (HB3.out.mono (HB2.out.size)))
  rw [← marksTo_zero n] at HX3
  go_loopw [4, 5] (fun v4 v5 wr => ∃ (k : Nat), k ≤ 64 ∧ v5 = .int .i64 k ∧ v4 = .int .u64 ((n / 2 ^ k : Nat) : Int) ∧ Aside0 (wr.heap[g3]? = some (.cells (mcells (marksTo n k)) 101 (0, 0))) ∧ Aside0 (wr.heap[g2]? = some (.cells (mcells (List.replicate 64 false)) 101 (0, 0))) ∧ Aside0 (Below w.heap.size w wr)) (fun _ i _ => 64 - (intOf i).toNat)
  case atStart => exact ⟨0, by omega, rfl, by simp, HX3, HX2, HBB⟩
  case round =>
    obtain ⟨k, hk, rfl, rfl, HA, HC, HB⟩ := hrel
    by_cases hlt : k < 64
    · have hq := Nat.div_div_eq_div_mul n (2 ^ k) 2
      rw [← Nat.pow_succ] at hq
      have hb : n.testBit k = ((((n / 2 ^ k : Nat) : Int) % 2) == 1) := by
        rw [Nat.testBit_eq_decide_div_mod_eq]
        generalize n / 2 ^ k = q
        rw [Bool.eq_iff_iff, decide_eq_true_iff, beq_iff_eq]
        omega
      have hq2 : ((n / 2 ^ k : Nat) : Int) / 2 = ((n / 2 ^ (k + 1) : Nat) : Int) := by rw [← hq]; omega
      have hle : n / 2 ^ k ≤ n := Nat.div_le_self _ _
      have hc := (bC HA.out k).trans (mcells_get _ k (by rw [marksTo_len]; exact hlt))
      have hf := bF HA.out k
      have HQ := aM hq2
      have HBT := aM hb
      clear hq hb hq2
      generalize n / 2 ^ k = q at *
      generalize hqq : n / 2 ^ (k + 1) = q2 at *
      have HQ2 := aM hqq
      clear hqq
      have hk0 : (0 : Int) ≤ (k : Int) := by omega
      have hk1 : (k : Int) < 64 := by omega
      go_wp2
      have hb2 := blk_set HA.out k (.bool ((q : Int) % 2 == 1))
      rw [← HBT.out, mcells_set, marksTo_set _ _ hlt] at hb2
      refine ⟨⟨k + 1, by omega, by go_num, by rw [HQ2.out, HQ.out], ⟨by rw [← HBT.out]; exact hb2⟩, ⟨bR HC.out (by show g2 ≠ g3; omega) _⟩, ⟨HB.out.setCell (by show w.heap.size ≤ g3; omega) _⟩⟩, by simp [intOf]; omega⟩
    · obtain rfl : k = 64 := by omega
      have HA2 := HA.out
      rw [marksTo_all] at HA2
      have HA3 := aM HA2
      have ht := blk_there HC.out
      rw [List.length_replicate, ← marksN_len n, ← mcells_size] at ht
      have HT := aM ht
      clear HA2 ht hn hn'
      go_wp2_with (first | ((with_reducible refine gate_dst (N := 18) rfl ?_); refine wpList_load_row rfl 101 (.tmp 3) rfl g3 rfl 101 (mcells (marksN n)) (0, 0) _ HA3.out Try.underlying101 rfl (mcells_full _ (marksN_len n)) ?_) | ((with_reducible refine gate_store (t := 101) (p := 2) rfl ?_); refine wpList_store_mid rfl 101 (.tmp 2) (.tmp 18) rfl g2 0 (mcells (marksN n)) rfl rfl (HT.out) (mcells_full _ (marksN_len n)) (mcells_one _) ?_))
      have hz := setCells_blk HC.out (m := marksN n) (by rw [marksN_len, List.length_replicate])
      refine bodyPost_ret (results_cell_row rfl _ _ g2 101 (mcells (marksN n)) (0, 0) _ rfl hz Try.underlying101 rfl (mcells_full _ (marksN_len n))) rfl ⟨rfl, ?_⟩
      obtain ⟨s1, s2, s3, s4⟩ := setCells_same g2 (mcells (marksN n)).toList 0 wr
      exact HB.out.trans ⟨s1, s2, s3, by rw [s4]; exact Nat.le_refl _, fun i hi => setCells_far _ _ _ (by omega)⟩
theorem row_there {w : World} {g : Nat} {t : TypeId} {l m : List Bool} (h : w.heap[g]? = some (.cells (mcells l) t (0, 0))) (hl : l.length = 64) (hm : m.length = 64) : w.there g 0 (mcells m).size := by
  have := blk_there h
  rwa [hl, ← hm, ← mcells_size] at this
theorem setCells_below {B g : Nat} {w W : World} (h : Below B w W) (hB : B ≤ g) (vs : List Value) : Below B w (W.setCells g 0 vs) := by
  obtain ⟨s1, s2, s3, s4⟩ := setCells_same g vs 0 W
  exact h.trans ⟨s1, s2, s3, by rw [s4]; exact Nat.le_refl _, fun i hi => setCells_far _ _ _ (by omega)⟩
theorem blk_later {w w1 : World} {g : Nat} {o : Obj} (h : w.heap[g]? = some o) (hb : Below w.heap.size w w1) : w1.heap[g]? = some o := (hb.block g (blk_lt h)).trans h
theorem blk_other {w : World} {g g2 : Nat} {o : Obj} (h : w.heap[g]? = some o) (hne : g ≠ g2) (vs : List Value) : (w.setCells g2 0 vs).heap[g]? = some o := (setCells_far _ _ _ hne).trans h
theorem zlen : (List.replicate 64 false).length = 64 := List.length_replicate
def belowN (a b : Nat) : Bool := (List.range 64).all (fun i => !a.testBit i || b.testBit i)
theorem belowN_yes {a b : Nat} (h : ∀ i, i < 64 → a.testBit i = true → b.testBit i = true) : belowN a b = true := by
  unfold belowN
  rw [List.all_eq_true]
  intro i hi
  have := h i (List.mem_range.1 hi)
  cases ha : a.testBit i <;> simp_all
theorem belowN_no {a b i : Nat} (hi : i < 64) (ha : a.testBit i = true) (hb : b.testBit i = false) : belowN a b = false := by
  unfold belowN
  rw [List.all_eq_false]
  exact ⟨i, List.mem_range.2 hi, by simp [ha, hb]⟩
theorem belowN_bits (a b : Nat) (ha : a < 2 ^ 64) (hb : b < 2 ^ 64) : (Go.bits .andNot .u64 (a : Int) (b : Int) == 0) = belowN a b := by
  rw [u64_andNot_nat a b ha hb]
  have hs : ∀ i, (a &&& (18446744073709551615 - b)).testBit i = (a.testBit i && (decide (i < 64) && !b.testBit i)) := fun i => by
    rw [Nat.testBit_and, show 18446744073709551615 - b = 2 ^ 64 - (b + 1) by omega, Nat.testBit_two_pow_sub_succ hb]
  cases h : belowN a b with
  | true =>
    have h0 : a &&& (18446744073709551615 - b) = 0 := by
      apply Nat.eq_of_testBit_eq
      intro i
      rw [hs, Nat.zero_testBit]
      by_cases hi : i < 64
      · unfold belowN at h
        have := List.all_eq_true.1 h i (List.mem_range.2 hi)
        cases ha : a.testBit i <;> cases hb : b.testBit i <;> simp_all
      · simp [hi]
    rw [h0]; rfl
  | false =>
    unfold belowN at h
    obtain ⟨i, hi, hc⟩ := List.all_eq_false.1 h
    have hz : (a &&& (18446744073709551615 - b)).testBit i = true := by
      rw [hs]
      have := List.mem_range.1 hi
      cases ha : a.testBit i <;> cases hb : b.testBit i <;> simp_all
    rw [beq_eq_false_iff_ne]
    intro he
    have : a &&& (18446744073709551615 - b) = 0 := by omega
    rw [this, Nat.zero_testBit] at hz
    cases hz
set_option maxHeartbeats 4000000 in
set_option maxRecDepth 100000 in
theorem Below_calls (a b : Nat) (ha : a < 2 ^ 64) (hb : b < 2 ^ 64) (w : World) :
    Calls Try.prog 41 #[.int .u64 (a : Int), .int .u64 (b : Int)] w fun e w' => e = .returned (.bool (belowN a b)) ∧ Below w.heap.size w w' := by
  have HM1 := aM (fun W => Marks_calls a ha W)
  have HM2 := aM (fun W => Marks_calls b hb W)
  clear ha hb
  go_enter Try.func41, Try.ntmps41
  go_wp2_with fail
  refine (HM1.out _).mono ?_
  rintro e w1 ⟨rfl, hb1⟩
  have HC1 := aM hb1
  clear hb1
  go_wp2_with fail
  refine (HM2.out _).mono ?_
  rintro e w2 ⟨rfl, hb2⟩
  have HC2 := aM (HC1.out.trans (hb2.mono HC1.out.size))
  clear hb2
  go_wp2_with (first | ((with_reducible refine gate_dst (N := 5) rfl ?_); refine box_event ?hg (N := 5) ?hd (cs := mcells (List.replicate 64 false)) (t := 101) ?hr ?_; (case hd => rfl); (case hg => rfl); (case hr => first | (go_simp; done) | (go_simp; rfl)); intro g5 hg5 w5 hbox5 hb5; have HX5 := aM hbox5; have HB5 := aM hb5; have HE5 := aM hg5; clear hbox5 hb5 hg5) | ((with_reducible refine gate_dst (N := 6) rfl ?_); refine box_event ?hg (N := 6) ?hd (cs := mcells (List.replicate 64 false)) (t := 101) ?hr ?_; (case hd => rfl); (case hg => rfl); (case hr => first | (go_simp; done) | (go_simp; rfl)); intro g6 hg6 w6 hbox6 hb6; have HX6 := aM hbox6; have HB6 := aM hb6; have HE6 := aM hg6; clear hbox6 hb6 hg6) | ((with_reducible refine gate_store (t := 101) (p := 5) rfl ?_); refine wpList_store_mid rfl 101 (.tmp 5) (.tmp 9) rfl g5 0 (mcells (marksN a)) rfl rfl ?ht (mcells_full _ (marksN_len a)) (mcells_one _) ?_; (case ht => exact row_there (blk_later HX5.out HB6.out) zlen (marksN_len a)); have HS5 := aM (setCells_blk (blk_later HX5.out HB6.out) (m := marksN a) ((marksN_len a).trans zlen.symm)); have HS6 := aM (blk_other HX6.out (g2 := g5) (by have h1 := HE6.out; have h2 := blk_lt HX5.out; omega) (mcells (marksN a)).toList); have HD5 := aM (setCells_below (HC2.out.trans ((HB5.out.trans (HB6.out.mono HB5.out.size)).mono HC2.out.size)) (by have h1 := HE5.out; have h2 := HC2.out.size; omega : w.heap.size ≤ g5) (mcells (marksN a)).toList); generalize (World.setCells w6 g5 0 (mcells (marksN a)).toList) = w7 at HS5 HS6 HD5 ⊢) | ((with_reducible refine gate_store (t := 101) (p := 6) rfl ?_); refine wpList_store_mid rfl 101 (.tmp 6) (.tmp 11) rfl g6 0 (mcells (marksN b)) rfl rfl ?ht (mcells_full _ (marksN_len b)) (mcells_one _) ?_; (case ht => exact row_there HS6.out zlen (marksN_len b)); have HU6 := aM (setCells_blk HS6.out (m := marksN b) ((marksN_len b).trans zlen.symm)); have HU5 := aM (blk_other HS5.out (g2 := g6) (by have h1 := HE6.out; have h2 := blk_lt HX5.out; omega) (mcells (marksN b)).toList); have HD6 := aM (setCells_below HD5.out (by have h1 := HE6.out; have h2 := HC2.out.size; have h3 := HB5.out.size; omega : w.heap.size ≤ g6) (mcells (marksN b)).toList); generalize (World.setCells w7 g6 0 (mcells (marksN b)).toList) = w8 at HU5 HU6 HD6 ⊢))
  have h56 : g5 < g6 := by have h1 := HE6.out; have h2 := blk_lt HX5.out; omega
  go_loopw [7] (fun v8 wr => ∃ (k : Nat), k ≤ 64 ∧ v8 = .int .i64 k ∧ Aside0 (∀ i, i < k → a.testBit i = true → b.testBit i = true) ∧ Aside0 (wr.heap[g5]? = some (.cells (mcells (marksN a)) 101 (0, 0))) ∧ Aside0 (wr.heap[g6]? = some (.cells (mcells (marksN b)) 101 (0, 0))) ∧ Aside0 (Below w.heap.size w wr)) (fun i _ => 64 - (intOf i).toNat)
  case atStart => exact ⟨0, by omega, rfl, ⟨fun i hi => absurd hi (by omega)⟩, HU5, HU6, HD6⟩
  case round =>
    obtain ⟨k, hk, rfl, HA, HP, HQ, HB⟩ := hrel
    by_cases hlt : k < 64
    · have hc5 := (bC HP.out k).trans (mcells_get _ k (by rw [marksN_len]; exact hlt))
      have hc6 := (bC HQ.out k).trans (mcells_get _ k (by rw [marksN_len]; exact hlt))
      rw [marksN_getD _ _ hlt] at hc5 hc6
      have hk0 : (0 : Int) ≤ (k : Int) := by omega
      have hk1 : (k : Int) < 64 := by omega
      have HNO := aM (fun h1 h2 => belowN_no (a := a) (b := b) hlt h1 h2)
      have HYES := aM (fun (h1 : a.testBit k = true → b.testBit k = true) (i : Nat) (hi : i < k + 1) (h2 : a.testBit i = true) => (by
        rcases Nat.lt_or_ge i k with h | h
        · exact HA.out i h h2
        · obtain rfl : i = k := by omega
          exact h1 h2 : b.testBit i = true))
      cases hx : a.testBit k <;> cases hy : b.testBit k
      all_goals
        rw [hx, hy] at HNO HYES
        rw [hx] at hc5
        rw [hy] at hc6
        have HXY := aM (And.intro hx hy)
        clear hx hy
      case true.false =>
        go_wp2
        go_ret
        rw [HNO.out (by simp) (by simp)]
        exact ⟨rfl, HB.out⟩
      all_goals
        go_wp2
        exact ⟨⟨k + 1, by omega, by go_num, ⟨HYES.out (by simp)⟩, HP, HQ, HB⟩, by simp [intOf]; omega⟩
    · obtain rfl : k = 64 := by omega
      have hy := belowN_yes HA.out
      have HY := aM hy
      clear hy
      go_wp2
      go_ret
      rw [HY.out]
      exact ⟨rfl, HB.out⟩
def orAll (l : List Nat) : Nat := l.foldl (· ||| ·) 0
def bureauref01_Below.f (a0 : Int) (a1 : Int) : Option Bool := if 0 ≤ a0 ∧ a0 < 18446744073709551616 ∧ 0 ≤ a1 ∧ a1 < 18446744073709551616 then some (Go.bits .andNot .u64 a0 a1 == 0) else none
theorem bureauref01_Below.calls (a0 : Int) (a1 : Int) (r : Bool) (w : World) (h : bureauref01_Below.f a0 a1 = some r) :
    Calls Try.prog 41 #[.int .u64 a0, .int .u64 a1] w fun e w' => e = .returned (.bool r) ∧ Below w.heap.size w w' := by
  unfold bureauref01_Below.f at h
  split at h
  case isFalse => cases h
  rename_i hc
  injection h with h
  subst h
  obtain ⟨a, rfl⟩ := Int.eq_ofNat_of_zero_le hc.1
  obtain ⟨b, rfl⟩ := Int.eq_ofNat_of_zero_le hc.2.2.1
  rw [belowN_bits a b (by omega) (by omega)]
  exact Below_calls a b (by omega) (by omega) w
def orAllI (l : List Int) : Int := l.foldl (fun a x => Go.bits .or .u64 a x) 0
theorem orAllI_nat (l : List Nat) (hl : ∀ x ∈ l, x < 2 ^ 64) : orAllI (l.map (fun x : Nat => (x : Int))) = ((orAll l : Nat) : Int) := by
  unfold orAllI orAll
  have : ∀ (l : List Nat) (a : Nat), a < 2 ^ 64 → (∀ x ∈ l, x < 2 ^ 64) → (l.map (fun x : Nat => (x : Int))).foldl (fun a x => Go.bits .or .u64 a x) (a : Int) = ((l.foldl (· ||| ·) a : Nat) : Int) := by
    intro l
    induction l with
    | nil => intro a _ _; rfl
    | cons x l ih =>
      intro a ha hl
      have hx := hl x List.mem_cons_self
      rw [List.map_cons, List.foldl_cons, List.foldl_cons, u64_or_nat a x ha hx]
      exact ih _ (Nat.or_lt_two_pow ha hx) (fun y hy => hl y (List.mem_cons_of_mem _ hy))
  exact this l 0 (by decide) hl
end Go.Proofs.Ytnbdldpjiofafaa.PB
end

section
namespace Go.Proofs.Ytnbdldpjiofafaa.PB
open Go.RowKit Go.Proofs.YtnbdldpjiofafaaW.PrintWords Go.Proofs.YtnbdldpjiofafaaW.PrintLast Go.Proofs.YtnbdldpjiofafaaW.PrintMore
attribute [local go_sem] max2_int min2_int max_two min_two max_three min_three max_four min_four   
set_option linter.unusedVariables false
set_option linter.unusedSimpArgs false
mutual
def bureauref04_Other.j0 : Nat → Int → ByteArray → Bool → ByteArray → List (S51) → Option (ByteArray × (List (S51)))
 | 0, _, _, _, _, _ => none
 | k + 1, x1, x2, x17, x629000, x629001 => if x17 = true then (some (x629000, x629001)) else ((bureauref03_Bytes.f k x629001).bind fun t631 => (bureauref04_Other.l0 k x1 x2 t631 ([] : List Int) 0 x629000 x629001))
def bureauref04_Other.l0 : Nat → Int → ByteArray → List Int → List Int → Int → ByteArray → List (S51) → Option (ByteArray × (List (S51)))
 | 0, _, _, _, _, _, _, _ => none
 | k + 1, x1, x2, x7, x8, x9, x629000, x629001 => if x9 < (x7.length : Int) then (if 0 ≤ x9 then ((bureauref01_Below.f (rd x7 x9) x1).bind fun t635 => (if t635 = true then (if x9 < (x629000.size : Int) then (if x8.length < 140737488355328 then (bureauref04_Other.l0 k x1 x2 x7 (x8 ++ [bt x629000 x9]) (wrap64 (x9 + 1)) x629000 x629001) else (none)) else (none)) else (if (x2.size : Int) = 0 then (none) else (if 0 ≤ (Int.tmod x9 (x2.size : Int)) then (if (Int.tmod x9 (x2.size : Int)) < (x2.size : Int) then (if x8.length < 140737488355328 then (bureauref04_Other.l0 k x1 x2 x7 (x8 ++ [bt x2 (Int.tmod x9 (x2.size : Int))]) (wrap64 (x9 + 1)) x629000 x629001) else (none)) else (none)) else (none))))) else (none)) else (some (strOfNums x8, x629001))
end
def bureauref04_Other.f (k : Nat) (a0_0 : ByteArray) (l0_1 : List (S51)) (a1 : Int) (a2 : ByteArray) : Option (ByteArray × (List (S51))) := (bureauref04_Good.f k a0_0 l0_1).bind fun t630 => (if t630 = true then (bureauref04_Other.j0 k a1 a2 ((a2.size : Int) == 0) a0_0 l0_1) else (bureauref04_Other.j0 k a1 a2 true a0_0 l0_1))
set_option maxHeartbeats 8000000 in
set_option maxRecDepth 100000 in
theorem bureauref04_Other.calls (k : Nat) (a0_0 : ByteArray) (P0_1_ : Nat → Prop) (A0_1 : Option Addr) (c0_1 : Nat) (l0_1 : List (S51)) (a1 : Int) (a2 : ByteArray) (r1 : ByteArray) (r2 : List (S51)) (w : World) (hs0_1 : Kd.V k51 51 w w.heap.size (fun k_ => P0_1_ k_) (.slice A0_1 l0_1.length c0_1) l0_1) (h : bureauref04_Other.f k a0_0 l0_1 a1 a2 = some (r1, r2)) :
  Calls Try.prog 16 #[.agg #[.string a0_0, .slice A0_1 l0_1.length c0_1], .int .u64 a1, .string a2] w fun e w' => ∃ v1_ : Value, e = .returned (.agg #[.string r1, v1_]) ∧ Kd.V k51 51 w' w.heap.size (fun k_ => (P0_1_ k_ ∨ w.heap.size ≤ k_)) v1_ r2 ∧ Below w.heap.size w w' := by
 have hu24 := Try.underlying24
 have HO0_1 := aM (show Kd.V k51 51 w w.heap.size (fun k_ => (P0_1_ k_ ∨ w.heap.size ≤ k_)) (.slice A0_1 l0_1.length c0_1) l0_1 from Kd.V_mono hs0_1 (fun k_ hk => .inl hk))
 have HB := aM (Below.refl w.heap.size w)
 have H : ((bureauref04_Good.f k a0_0 l0_1).bind fun t630 => (if t630 = true then (bureauref04_Other.j0 k a1 a2 ((a2.size : Int) == 0) a0_0 l0_1) else (bureauref04_Other.j0 k a1 a2 true a0_0 l0_1))) = some (r1, r2) := h
 clear h
 have HC4 := aM H
 clear H
 go_enter Try.func16, Try.ntmps16
 go_upto_region 1 with (first | ((with_reducible refine gate_dst (N := 3) rfl ?_); (try (refine gate_guard (by rfl) ?_; dsimp only)); refine box_event ?hg (N := 3) ?hd (cs := #[.string a0_0, .slice A0_1 l0_1.length c0_1]) (t := 24) ?hr ?_; (case hd | hg => rfl); (case hr => first | (go_simp; done) | (go_simp; rfl)); intro gb628 hg w5 hbox hb; have n0_ := aM (Kd.V_below (Kd.V_elderB (by (with_reducible repeat (first | apply va | apply vn | apply vd)); exact HO0_1.out) gb628 (Nat.le_of_eq hg.symm)) hb); have n1_ := aM (bP (ey HB.out) hb); have n2_ := aM (hbox); have n3_ := aM ((by rw [hg]; exact (bZ (ey HB.out)) : w.heap.size ≤ gb628)); have n4_ := n3_; clear HO0_1 HB; have HO0_1 := n0_; have HB := n1_; have BK628 := n2_; have GW628 := n3_; have GE628 := n4_; clear n0_ n1_ n2_ n3_ n4_; clear hb hbox hg) | ((with_reducible refine gate_dst (N := 6) rfl ?_); (try (refine gate_guard (by rfl) ?_; dsimp only)); refine box_event ?hg (N := 6) ?hd (cs := #[.string (⟨#[]⟩ : ByteArray), .slice none 0 0]) (t := 24) ?hr ?_; (case hd | hg => rfl); (case hr => first | (go_simp; done) | (go_simp; rfl)); intro gb629 hg w6 hbox hb; have n0_ := aM (Kd.V_below (Kd.V_elderB (by (with_reducible repeat (first | apply va | apply vn | apply vd)); exact HO0_1.out) gb629 (Nat.le_of_eq hg.symm)) hb); have n1_ := aM (bB (g := gb628) (qy BK628.out) hb); have n2_ := aM (bP (by repeat (first | (with_reducible first | exact HB.out | apply ea | apply en | apply ed | refine es ?_ GE628.out) | exact HB.out)) hb); have n3_ := aM (hbox); have n4_ := aM ((by rw [hg]; exact (bZ (by repeat (first | (with_reducible first | exact HB.out | apply ea | apply en | apply ed | refine es ?_ GE628.out) | exact HB.out))) : w.heap.size ≤ gb629)); have n5_ := n4_; have n6_ := aM ((by rw [hg]; exact Nat.ne_of_lt (blk_lt (g := gb628) (qy BK628.out)) : gb628 ≠ gb629)); have n7_ := aM ((by rw [hg]; exact Nat.ne_of_gt (blk_lt (g := gb628) (qy BK628.out)) : gb629 ≠ gb628)); clear HO0_1 BK628 HB; have HO0_1 := n0_; have BK628 := n1_; have HB := n2_; have BK629 := n3_; have GW629 := n4_; have GE629 := n5_; have NB628_629 := n6_; have NB629_628 := n7_; clear n0_ n1_ n2_ n3_ n4_ n5_ n6_ n7_; clear hb hbox hg))
 (try simp only [Act.put, sA, sZ, sS])
 go_cut [17] (fun v17 wc => ∃ (kq : Nat) (x17_3 : Bool), v17 = .bool x17_3 ∧ Aside0 (bureauref04_Other.j0 kq a1 a2 x17_3 a0_0 l0_1 = some (r1, r2)) ∧ Aside0 (kq ≤ k) ∧ Aside0 (Kd.V k51 51 wc w.heap.size (fun k_ => (P0_1_ k_ ∨ w.heap.size ≤ k_) ∧ k_ ≠ gb628 ∧ k_ ≠ gb629) (.slice A0_1 l0_1.length c0_1) l0_1) ∧ Aside0 (wc.heap[gb628]? = some (.cells #[.string a0_0, (.slice A0_1 l0_1.length c0_1)] 24 (0, 0))) ∧ Aside0 (wc.heap[gb629]? = some (.cells #[.string (⟨#[]⟩ : ByteArray), (.slice none 0 0)] 24 (0, 0))) ∧ Aside0 (Below w.heap.size w wc))
 case first =>
  have H := HC4.out
  clear HC4
  replace H := Option.bind_eq_some_iff.mp H
  obtain ⟨t630, A70, H⟩ := H
  replace H : (if t630 = true then (bureauref04_Other.j0 k a1 a2 ((a2.size : Int) == 0) a0_0 l0_1) else (bureauref04_Other.j0 k a1 a2 true a0_0 l0_1)) = some (r1, r2) := H
  have A7 := aM A70
  clear A70
  by_cases c8 : t630 = true
  ·subst c8
   have H1 : (bureauref04_Other.j0 k a1 a2 ((a2.size : Int) == 0) a0_0 l0_1) = some (r1, r2) := by rw [if_pos rfl] at H; exact H
   clear H
   have H := H1
   clear H1
   have H' := aM H
   clear H
   have hnb9 := NB628_629.out
   have hnc9 := NB629_628.out
   have hcz10_0 : w6.cell? ⟨gb628, 0, none⟩ = some (.string a0_0) := (bC BK628.out 0).trans rfl
   have hcz10_1 : w6.cell? ⟨gb628, 1, none⟩ = some (.slice A0_1 l0_1.length c0_1) := (bC BK628.out 1).trans rfl
   have hfz10_0 := bF BK628.out 0
   have hfz10_1 := bF BK628.out 1
   go_wp2_with (first | ((with_reducible refine gate_callee (f := 39) rfl ?_); refine goesL_ (some 11) rfl rfl Try.func39 (by kernel_rfl) rfl #[.agg #[.string a0_0, .slice A0_1 l0_1.length c0_1]] rfl (by (try simp only [mT, mC, mN]); first | done | rfl | (simp only [lD, lT]; rfl)) ?_; (with_reducible refine (bureauref04_Good.calls k a0_0 _ _ l0_1 true _ ?side1 ?side2 A7.out).mono ?_); (case side1 => repeat (first | exact (Kd.V_reads' HO0_1.out).2.2 | (with_reducible refine Kd.C_alloc ?_ _) | (with_reducible refine Kd.C_drewN ?_ _) | (with_reducible refine Kd.C_drew ?_))); (case side2 => exact (Kd.V_reads' HO0_1.out).2.1); rintro e w11 ⟨rfl, hb⟩; refine ⟨_, rfl, ?_⟩; have n0_ := aM (Kd.V_below (by (with_reducible repeat (first | apply va | apply vn | apply vd)); exact HO0_1.out) hb); have n1_ := aM (bB (g := gb628) (qy BK628.out) hb); have n2_ := aM (bB (g := gb629) (qy BK629.out) hb); have n3_ := aM (bP (by repeat (first | (with_reducible first | exact HB.out | apply ea | apply en | apply ed | refine es ?_ GE628.out | refine es ?_ GE629.out) | exact HB.out)) hb); clear HO0_1 BK628 BK629 HB; have HO0_1 := n0_; have BK628 := n1_; have BK629 := n2_; have HB := n3_; clear n0_ n1_ n2_ n3_; (try clear hb); (try clear hb2); (try clear hk); (try clear hi)))
   go_meet
   case rel => exact ⟨_, (((a2.size : Int) == 0)), (by first | rfl | (simp; done) | (simp [*]; done)), H', ⟨by first | omega | exact Nat.le_refl _⟩, ⟨by (with_reducible repeat (first | apply va | apply vn | apply vd)); exact Kd.V_mono HO0_1.out (fun _ hk => ⟨hk.1.1, ⟨hk.1.2, hk.2⟩⟩)⟩, ⟨by exact qy BK628.out⟩, ⟨by exact qy BK629.out⟩, ⟨by repeat (first | (with_reducible first | exact HB.out | apply ea | apply en | apply ed | refine es ?_ GE628.out | refine es ?_ GE629.out) | exact HB.out)⟩⟩
  ·replace c8 := Bool.eq_false_iff.mpr c8
   subst c8
   have H1 : (bureauref04_Other.j0 k a1 a2 true a0_0 l0_1) = some (r1, r2) := by rw [if_neg (show ¬ (false = true) by decide)] at H; exact H
   clear H
   have H := H1
   clear H1
   have H' := aM H
   clear H
   have hnb12 := NB628_629.out
   have hnc12 := NB629_628.out
   have hcz13_0 : w6.cell? ⟨gb628, 0, none⟩ = some (.string a0_0) := (bC BK628.out 0).trans rfl
   have hcz13_1 : w6.cell? ⟨gb628, 1, none⟩ = some (.slice A0_1 l0_1.length c0_1) := (bC BK628.out 1).trans rfl
   have hfz13_0 := bF BK628.out 0
   have hfz13_1 := bF BK628.out 1
   go_wp2_with (first | ((with_reducible refine gate_callee (f := 39) rfl ?_); refine goesL_ (some 11) rfl rfl Try.func39 (by kernel_rfl) rfl #[.agg #[.string a0_0, .slice A0_1 l0_1.length c0_1]] rfl (by (try simp only [mT, mC, mN]); first | done | rfl | (simp only [lD, lT]; rfl)) ?_; (with_reducible refine (bureauref04_Good.calls k a0_0 _ _ l0_1 false _ ?side1 ?side2 A7.out).mono ?_); (case side1 => repeat (first | exact (Kd.V_reads' HO0_1.out).2.2 | (with_reducible refine Kd.C_alloc ?_ _) | (with_reducible refine Kd.C_drewN ?_ _) | (with_reducible refine Kd.C_drew ?_))); (case side2 => exact (Kd.V_reads' HO0_1.out).2.1); rintro e w14 ⟨rfl, hb⟩; refine ⟨_, rfl, ?_⟩; have n0_ := aM (Kd.V_below (by (with_reducible repeat (first | apply va | apply vn | apply vd)); exact HO0_1.out) hb); have n1_ := aM (bB (g := gb628) (qy BK628.out) hb); have n2_ := aM (bB (g := gb629) (qy BK629.out) hb); have n3_ := aM (bP (by repeat (first | (with_reducible first | exact HB.out | apply ea | apply en | apply ed | refine es ?_ GE628.out | refine es ?_ GE629.out) | exact HB.out)) hb); clear HO0_1 BK628 BK629 HB; have HO0_1 := n0_; have BK628 := n1_; have BK629 := n2_; have HB := n3_; clear n0_ n1_ n2_ n3_; (try clear hb); (try clear hb2); (try clear hk); (try clear hi)))
   go_meet
   case rel => exact ⟨_, (true), (by first | rfl | (simp; done) | (simp [*]; done)), H', ⟨by first | omega | exact Nat.le_refl _⟩, ⟨by (with_reducible repeat (first | apply va | apply vn | apply vd)); exact Kd.V_mono HO0_1.out (fun _ hk => ⟨hk.1.1, ⟨hk.1.2, hk.2⟩⟩)⟩, ⟨by exact qy BK628.out⟩, ⟨by exact qy BK629.out⟩, ⟨by repeat (first | (with_reducible first | exact HB.out | apply ea | apply en | apply ed | refine es ?_ GE628.out | refine es ?_ GE629.out) | exact HB.out)⟩⟩
 case rest =>
  clear HC4
  try clear c1
  try clear p2
  try clear c3
  try clear c8
  try clear c9
  try clear c12
  try clear hcz10_0
  try clear hcz10_1
  try clear hcz13_0
  try clear hcz13_1
  try clear hfz10_0
  try clear hfz10_1
  try clear hfz13_0
  try clear hfz13_1
  obtain ⟨kq, x17_3, rfl, HA, HJ3, HO_629001, BK628, BK629, HB⟩ := hcut
  cases kq with
  | zero => exact absurd HA.out (by simp [bureauref04_Other.j0])
  | succ kj3 =>
   have H := HA.out
   clear HA
   simp only [bureauref04_Other.j0] at H
   by_cases c15 : x17_3 = true
   ·subst c15
    have H1 : (some (a0_0, l0_1)) = some (r1, r2) := by rw [if_pos rfl] at H; exact H
    clear H
    have H := H1
    clear H1
    simp only [Option.some.injEq, Prod.mk.injEq] at H
    obtain ⟨rfl, rfl⟩ := H
    have hnb16 := NB628_629.out
    have hnc16 := NB629_628.out
    have hcz17_0 : wc.cell? ⟨gb628, 0, none⟩ = some (.string a0_0) := (bC BK628.out 0).trans rfl
    have hcz17_1 : wc.cell? ⟨gb628, 1, none⟩ = some (.slice A0_1 l0_1.length c0_1) := (bC BK628.out 1).trans rfl
    have hfz17_0 := bF BK628.out 0
    have hfz17_1 := bF BK628.out 1
    have hcz18_0 : wc.cell? ⟨gb629, 0, none⟩ = some (.string (⟨#[]⟩ : ByteArray)) := (bC BK629.out 0).trans rfl
    have hcz18_1 : wc.cell? ⟨gb629, 1, none⟩ = some (.slice none 0 0) := (bC BK629.out 1).trans rfl
    have hfz18_0 := bF BK629.out 0
    have hfz18_1 := bF BK629.out 1
    go_wp2
    refine bodyPost_ret (results_cell_row rfl _ _ gb629 24 #[.string a0_0, .slice A0_1 l0_1.length c0_1] (0, 0) _ rfl (by (with_reducible repeat (first | apply qn | apply qd | apply qa)); refine bU (cs := #[.string a0_0, .slice none 0 0]) ?_ 1 _ rfl; (with_reducible repeat (first | apply qn | apply qd | apply qa)); refine bU (cs := #[.string (⟨#[]⟩ : ByteArray), .slice none 0 0]) ?_ 0 _ rfl; exact qy BK629.out) Try.underlying24 rfl (by kernel_rfl)) rfl ?_
    exact ⟨_, by first | rfl | (simp [errW_none, errW_some] <;> rfl) | (simp [*, errW_none, errW_some] <;> rfl), by (with_reducible repeat (first | apply va | apply vn | apply vd)); exact Kd.V_mono (Kd.V_far (p := ⟨gb629, 1, none⟩) (Kd.V_far (p := ⟨gb629, 0, none⟩) (Kd.V_mono HO_629001.out (fun k_ hk => (⟨hk, hk.2.2⟩ : _ ∧ k_ ≠ gb629))) (fun _ hk => hk.2) (.string a0_0)) (fun _ hk => hk.2) (.slice A0_1 l0_1.length c0_1)) (fun _ hk => hk.1.1), by repeat (first | (with_reducible first | exact HB.out | apply ea | apply en | apply ed | refine es ?_ GE628.out | refine es ?_ GE629.out) | exact HB.out)⟩
   ·replace c15 := Bool.eq_false_iff.mpr c15
    subst c15
    have H1 : ((bureauref03_Bytes.f kj3 l0_1).bind fun t631 => (bureauref04_Other.l0 kj3 a1 a2 t631 ([] : List Int) 0 a0_0 l0_1)) = some (r1, r2) := by rw [if_neg (show ¬ (false = true) by decide)] at H; exact H
    clear H
    have H := H1
    clear H1
    replace H := Option.bind_eq_some_iff.mp H
    obtain ⟨t631, A190, H⟩ := H
    replace H : (bureauref04_Other.l0 kj3 a1 a2 t631 ([] : List Int) 0 a0_0 l0_1) = some (r1, r2) := H
    have A19 := aM A190
    clear A190
    have H' := aM H
    clear H
    have hnb20 := NB628_629.out
    have hnc20 := NB629_628.out
    have hcz21_0 : wc.cell? ⟨gb628, 0, none⟩ = some (.string a0_0) := (bC BK628.out 0).trans rfl
    have hcz21_1 : wc.cell? ⟨gb628, 1, none⟩ = some (.slice A0_1 l0_1.length c0_1) := (bC BK628.out 1).trans rfl
    have hfz21_0 := bF BK628.out 0
    have hfz21_1 := bF BK628.out 1
    go_wp2_with (first | ((with_reducible refine gate_callee (f := 40) rfl ?_); refine goesL_ (some 21) rfl rfl Try.func40 (by kernel_rfl) rfl #[.slice A0_1 l0_1.length c0_1] rfl (by (try simp only [mT, mC, mN]); first | done | rfl | (simp only [lD, lT]; rfl)) ?_; (with_reducible refine (bureauref03_Bytes.calls kj3 _ _ l0_1 t631 _ ?side1 ?side2 A19.out).mono ?_); (case side1 => repeat (first | exact (Kd.V_reads' HO_629001.out).2.2 | (with_reducible refine Kd.C_alloc ?_ _) | (with_reducible refine Kd.C_drewN ?_ _) | (with_reducible refine Kd.C_drew ?_))); (case side2 => exact (Kd.V_reads' HO_629001.out).2.1); rintro e w22 ⟨v632, rfl, ho0, hb⟩; refine ⟨_, rfl, ?_⟩; have n0_ := aM (Kd.V_elder' (by (with_reducible repeat (first | apply va | apply vn | apply vd)); exact HO_629001.out) (Kd.R_base ho0) hb); have n1_ := aM (rL (Kd.R_newM (M := fun k_ => (w.heap.size ≤ k_)) ho0 (bZ (by repeat (first | (with_reducible first | exact HB.out | apply ea | apply en | apply ed | refine es ?_ GE628.out | refine es ?_ GE629.out) | exact HB.out))) (fun k_ h_ => h_)) (bZ (by repeat (first | (with_reducible first | exact HB.out | apply ea | apply en | apply ed | refine es ?_ GE628.out | refine es ?_ GE629.out) | exact HB.out)))); have n2_ := aM (bB (g := gb628) (qy BK628.out) hb); have n3_ := aM (bB (g := gb629) (qy BK629.out) hb); have n4_ := aM (bP (by repeat (first | (with_reducible first | exact HB.out | apply ea | apply en | apply ed | refine es ?_ GE628.out | refine es ?_ GE629.out) | exact HB.out)) hb); clear HO_629001 BK628 BK629 HB; have HO_629001 := n0_; have HO633 := n1_; have BK628 := n2_; have BK629 := n3_; have HB := n4_; clear n0_ n1_ n2_ n3_ n4_; (try clear hb); (try clear hb2); (try clear hk); (try clear hi); (try clear ho0)))
    go_loopg [8, 9] kj3 (fun kq v8 v9 w' => ∃ (x8_2 : List Int) (x9_2 : Int), v9 = .int .i64 x9_2 ∧ Aside0 (bureauref04_Other.l0 kq a1 a2 t631 x8_2 x9_2 a0_0 l0_1 = some (r1, r2)) ∧ Aside0 (kq ≤ kj3) ∧ Aside0 (Kd.R (Kd.int .u64) 26 w' w.heap.size (fun k_ => (w.heap.size ≤ k_)) v632 t631) ∧ Aside0 (Kd.R (Kd.int .u8) 5 w' w.heap.size (fun k_ => (w.heap.size ≤ k_)) v8 x8_2) ∧ Aside0 (Kd.V k51 51 w' w.heap.size (fun k_ => (P0_1_ k_ ∨ w.heap.size ≤ k_) ∧ some k_ ≠ (v632 : Value).ownBlock ∧ some k_ ≠ (v8 : Value).ownBlock ∧ k_ ≠ gb628 ∧ k_ ≠ gb629) (.slice A0_1 l0_1.length c0_1) l0_1) ∧ Aside0 (w'.heap[gb628]? = some (.cells #[.string a0_0, (.slice A0_1 l0_1.length c0_1)] 24 (0, 0))) ∧ Aside0 (w'.heap[gb629]? = some (.cells #[.string (⟨#[]⟩ : ByteArray), (.slice none 0 0)] 24 (0, 0))) ∧ Aside0 (Below w.heap.size w w'))
    case atStart => exact ⟨(([] : List Int)), (0), (by first | rfl | (simp; done) | (simp [*]; done)), H', ⟨Nat.le_refl _⟩, ⟨by (with_reducible repeat (first | apply ra | apply rn | apply rd_)); exact rM HO633.out (fun _ hk => hk.1)⟩, ⟨by first | exact Kd.R_nil _ _ _ _ _ | exact Kd.N_nil _ _ _ _ _ | exact Kd.V_nil _ _ _ _ _ | exact Kd.Q_nil _ _ _ _ _ | exact Kd.S_nil _ _ _ _ _⟩, ⟨by (with_reducible repeat (first | apply va | apply vn | apply vd)); exact Kd.V_mono HO_629001.out (fun _ hk => ⟨hk.1.1, ⟨hk.2, ⟨(by simp [Value.ownBlock]), ⟨hk.1.2.1, hk.1.2.2⟩⟩⟩⟩)⟩, ⟨by exact qy BK628.out⟩, ⟨by exact qy BK629.out⟩, ⟨by repeat (first | (with_reducible first | exact HB.out | apply ea | apply en | apply ed | refine es ?_ GE628.out | refine es ?_ GE629.out) | exact HB.out)⟩⟩
    case round =>
     clear H'
     try clear c1
     try clear c2
     try clear p2
     try clear c3
     try clear c4
     try clear c8
     try clear c9
     try clear c12
     try clear c15
     try clear c16
     try clear c20
     try clear hcz10_0
     try clear hcz10_1
     try clear hcz13_0
     try clear hcz13_1
     try clear hcz17_0
     try clear hcz17_1
     try clear hcz18_0
     try clear hcz18_1
     try clear hcz21_0
     try clear hcz21_1
     try clear hfz10_0
     try clear hfz10_1
     try clear hfz13_0
     try clear hfz13_1
     try clear hfz17_0
     try clear hfz17_1
     try clear hfz18_0
     try clear hfz18_1
     try clear hfz21_0
     try clear hfz21_1
     try clear p2
     obtain ⟨x8_2, x9_2, rfl, HA, HK2, HO_7, HO_8, HO_629001, BK628, BK629, HB⟩ := hrel
     cases gk with
     | zero => exact absurd HA.out (by simp [bureauref04_Other.l0])
     | succ k2 =>
      have H := HA.out
      clear HA
      simp only [bureauref04_Other.l0] at H
      by_cases c23 : x9_2 < (t631.length : Int)
      ·rw [if_pos c23] at H
       have c23b0 : decide (x9_2 < (t631.length : Int)) = true := decide_eq_true c23
       clear c23
       by_cases c24 : 0 ≤ x9_2
       ·rw [if_pos c24] at H
        have c24b0 : decide (0 ≤ x9_2) = true := decide_eq_true c24
        clear c24
        replace H := Option.bind_eq_some_iff.mp H
        obtain ⟨t635, A250, H⟩ := H
        replace H : (if t635 = true then (if x9_2 < (a0_0.size : Int) then (if x8_2.length < 140737488355328 then (bureauref04_Other.l0 k2 a1 a2 t631 (x8_2 ++ [bt a0_0 x9_2]) (wrap64 (x9_2 + 1)) a0_0 l0_1) else (none)) else (none)) else (if (a2.size : Int) = 0 then (none) else (if 0 ≤ (Int.tmod x9_2 (a2.size : Int)) then (if (Int.tmod x9_2 (a2.size : Int)) < (a2.size : Int) then (if x8_2.length < 140737488355328 then (bureauref04_Other.l0 k2 a1 a2 t631 (x8_2 ++ [bt a2 (Int.tmod x9_2 (a2.size : Int))]) (wrap64 (x9_2 + 1)) a0_0 l0_1) else (none)) else (none)) else (none)))) = some (r1, r2) := H
        have A25 := aM A250
        clear A250
        by_cases c26 : t635 = true
        ·subst c26
         have H1 : (if x9_2 < (a0_0.size : Int) then (if x8_2.length < 140737488355328 then (bureauref04_Other.l0 k2 a1 a2 t631 (x8_2 ++ [bt a0_0 x9_2]) (wrap64 (x9_2 + 1)) a0_0 l0_1) else (none)) else (none)) = some (r1, r2) := by rw [if_pos rfl] at H; exact H
         clear H
         have H := H1
         clear H1
         by_cases c27 : x9_2 < (a0_0.size : Int)
         ·rw [if_pos c27] at H
          have c27b0 : decide (x9_2 < (a0_0.size : Int)) = true := decide_eq_true c27
          clear c27
          by_cases c29 : x8_2.length < 140737488355328
          ·rw [if_pos c29] at H
           have LMc29 := aM c29
           clear c29
           obtain ⟨y636, hy636⟩ : ∃ y_ : List Int, y_ = (x8_2 ++ [bt a0_0 x9_2]) := ⟨_, rfl⟩
           replace H : (bureauref04_Other.l0 k2 a1 a2 t631 y636 (wrap64 (x9_2 + 1)) a0_0 l0_1) = some (r1, r2) := by first | (rw [hy636]; with_reducible exact H) | (have H2_ := (Option.bind_some _ _).symm.trans H; rw [hy636]; with_reducible exact H2_) | (have H2_ := (Option.bind_some _ _).symm.trans H; with_reducible exact H2_) | with_reducible exact H | (rw [hy636]; exact H) | exact H
           have Ny636 := aM hy636
           clear hy636
           have H' := aM H
           clear H
           obtain ⟨Ao30, co30, eo30⟩ := Kd.R_slice HO_7.out
           subst eo30
           have p634 : 0 ≤ (x9_2 : Int) := of_decide_eq_true (by first | (with_reducible assumption) | assumption)
           have q634 : x9_2 < (t631.length : Int) := of_decide_eq_true (by first | (with_reducible assumption) | assumption)
           obtain ⟨ad634, e634, hx634_0⟩ := Kd.at_int (rR HO_7.out).2.2 x9_2 p634 q634
           cases e634
           replace p634 := eq_true p634
           replace q634 := eq_true q634
           go_wp2_with (first | ((with_reducible refine gate_callee (f := 41) rfl ?_); refine goesL_ (some 33) rfl rfl Try.func41 (by kernel_rfl) rfl #[.int .u64 (rd t631 x9_2), .int .u64 a1] rfl (by (try simp only [mT, mC, mN]); first | done | rfl | (simp only [lD, lT]; rfl)) ?_; (with_reducible refine (bureauref01_Below.calls (rd t631 x9_2) a1 true _ A25.out).mono ?_); rintro e w31 ⟨rfl, hb⟩; refine ⟨_, rfl, ?_⟩; have n0_ := aM (Kd.R_below (ry HO_7.out) hb); have n1_ := aM (Kd.R_below (ry HO_8.out) hb); have n2_ := aM (Kd.V_below (by (with_reducible repeat (first | apply va | apply vn | apply vd)); exact HO_629001.out) hb); have n3_ := aM (bB (g := gb628) (qy BK628.out) hb); have n4_ := aM (bB (g := gb629) (qy BK629.out) hb); have n5_ := aM (bP (by repeat (first | (with_reducible first | exact HB.out | apply ea | apply en | apply ed | refine es ?_ GE628.out | refine es ?_ GE629.out) | exact HB.out)) hb); clear HO_7 HO_8 HO_629001 BK628 BK629 HB; have HO_7 := n0_; have HO_8 := n1_; have HO_629001 := n2_; have BK628 := n3_; have BK629 := n4_; have HB := n5_; clear n0_ n1_ n2_ n3_ n4_ n5_; (try clear hb); (try clear hb2); (try clear hk); (try clear hi); have hnb32 := NB628_629.out; have hnc32 := NB629_628.out; have hcz33_0 : w31.cell? ⟨gb628, 0, none⟩ = some (.string a0_0) := (bC BK628.out 0).trans rfl; have hcz33_1 : w31.cell? ⟨gb628, 1, none⟩ = some (.slice A0_1 l0_1.length c0_1) := (bC BK628.out 1).trans rfl; have hfz33_0 := bF BK628.out 0; have hfz33_1 := bF BK628.out 1; have p28 : 0 ≤ (x9_2 : Int) := of_decide_eq_true (by first | (with_reducible assumption) | assumption); have q28 : x9_2 < (a0_0.size : Int) := of_decide_eq_true (by first | (with_reducible assumption) | assumption); have hx28 := bt_at a0_0 x9_2; replace p28 := eq_true p28; replace q28 := eq_true q28) | ((with_reducible refine gate_builtin (b := .append) (xs := #[.tmp 34, .tmp 39]) rfl ?_); (try (refine gate_guard (by rfl) ?_; dsimp only)); at_builtin; refine Kd.R_append (Kd.int .u8) (w0 := w) w.heap.size rfl (.tmp 34) (.tmp 39) 82 5 (.int .u8 0) 1 rfl Try.underlying82 info5 rfl (by decide) (by omega) u8 x8_2 (bt a0_0 x9_2) [.int .u8 (bt a0_0 x9_2)] (fun k_ => (w.heap.size ≤ k_)) (fun _ => False) rfl rfl ?aP (fun _ hk => hk.elim) ?aF ?aO ?aB ?aS ?aL ?_; (case aP => exact rfl); (case aB => exact (by repeat (first | (with_reducible first | exact HB.out | apply ea | apply en | apply ed | refine es ?_ GE628.out | refine es ?_ GE629.out) | exact HB.out))); (case aF => exact (fun k_ hk => (Nat.le_trans (bZ (by repeat (first | (with_reducible first | exact HB.out | apply ea | apply en | apply ed | refine es ?_ GE628.out | refine es ?_ GE629.out) | exact HB.out))) hk))); (case aO => exact (ry HO_8.out)); (case aS => exact (bZ (by repeat (first | (with_reducible first | exact HB.out | apply ea | apply en | apply ed | refine es ?_ GE628.out | refine es ?_ GE629.out) | exact HB.out)))); (case aL => have := LMc29.out; omega); intro v637 w34 ho hb hg hat; rw [← Ny636.out] at ho; have n0_ := aM (Kd.R_over' (ry HO_7.out) (Kd.R_typed (ry HO_8.out)) (by decide) hg); have n1_ := aM (Kd.V_afterv (ok := (fun k_ => (P0_1_ k_ ∨ w.heap.size ≤ k_) ∧ some k_ ≠ (.slice (some ad634) t631.length co30 : Value).ownBlock ∧ k_ ≠ gb628 ∧ k_ ≠ gb629)) (by (with_reducible repeat (first | apply va | apply vn | apply vd)); exact Kd.V_mono HO_629001.out (fun _ hk => ⟨⟨hk.1, ⟨hk.2.1, ⟨hk.2.2.2.1, hk.2.2.2.2⟩⟩⟩, hk.2.2.1⟩)) hg hat); have n2_ := aM (blk_grown (g := gb628) (qy BK628.out) hg (Kd.R_ne HO_8.out BK628.out (by decide))); have n3_ := aM (blk_grown (g := gb629) (qy BK629.out) hg (Kd.R_ne HO_8.out BK629.out (by decide))); have n4_ := aM (hb); have n5_ := aM (ho); clear HO_7 HO_629001 BK628 BK629 HB HO_8; have HO_7 := n0_; have HO_629001 := n1_; have BK628 := n2_; have BK629 := n3_; have HB := n4_; have HO638 := n5_; clear n0_ n1_ n2_ n3_ n4_ n5_; clear ho hb hg hat))
           go_roundg k2
           case measure => have := HJ3.out; have := HK2.out; omega
           case rel => exact ⟨(y636), (wrap64 (x9_2 + 1)), (by first | rfl | (simp; done) | (simp [*]; done)), H', ⟨by have := HJ3.out; have := HK2.out; omega⟩, ⟨by exact ry HO_7.out⟩, ⟨by exact ry HO638.out⟩, ⟨by (with_reducible repeat (first | apply va | apply vn | apply vd)); exact Kd.V_mono HO_629001.out (fun _ hk => ⟨hk.1.1, ⟨hk.1.2.1, ⟨hk.2, ⟨hk.1.2.2.1, hk.1.2.2.2⟩⟩⟩⟩)⟩, ⟨by exact qy BK628.out⟩, ⟨by exact qy BK629.out⟩, ⟨by repeat (first | (with_reducible first | exact HB.out | apply ea | apply en | apply ed | refine es ?_ GE628.out | refine es ?_ GE629.out) | exact HB.out)⟩⟩
          ·rw [if_neg c29] at H
           exact absurd H (by simp)
         ·rw [if_neg c27] at H
          exact absurd H (by simp)
        ·replace c26 := Bool.eq_false_iff.mpr c26
         subst c26
         have H1 : (if (a2.size : Int) = 0 then (none) else (if 0 ≤ (Int.tmod x9_2 (a2.size : Int)) then (if (Int.tmod x9_2 (a2.size : Int)) < (a2.size : Int) then (if x8_2.length < 140737488355328 then (bureauref04_Other.l0 k2 a1 a2 t631 (x8_2 ++ [bt a2 (Int.tmod x9_2 (a2.size : Int))]) (wrap64 (x9_2 + 1)) a0_0 l0_1) else (none)) else (none)) else (none))) = some (r1, r2) := by rw [if_neg (show ¬ (false = true) by decide)] at H; exact H
         clear H
         have H := H1
         clear H1
         by_cases c35 : (a2.size : Int) = 0
         ·rw [if_pos c35] at H
          exact absurd H (by simp)
         ·rw [if_neg c35] at H
          have c35b0 : ((a2.size : Int) == 0) = false := beq_eq_false_iff_ne.mpr c35
          have c35b1 : ((a2.size : Int) != 0) = true := bne_iff_ne.mpr c35
          obtain ⟨ji36, hji36⟩ : ∃ j_ : Int, (Int.tmod x9_2 (a2.size : Int)) = j_ := ⟨_, rfl⟩
          replace H : (if 0 ≤ (ji36) then (if (ji36) < (a2.size : Int) then (if x8_2.length < 140737488355328 then (bureauref04_Other.l0 k2 a1 a2 t631 (x8_2 ++ [bt a2 (ji36)]) (wrap64 (x9_2 + 1)) a0_0 l0_1) else (none)) else (none)) else (none)) = some (r1, r2) := by first | (rw [hji36] at H; exact H) | (simp only [hji36] at H ⊢; exact H)
          (try rw [hji36] at A25)
          by_cases c37 : 0 ≤ (ji36)
          ·rw [if_pos c37] at H
           have c37b0 : decide (0 ≤ (ji36)) = true := decide_eq_true c37
           clear c37
           by_cases c38 : (ji36) < (a2.size : Int)
           ·rw [if_pos c38] at H
            have c38b0 : decide ((ji36) < (a2.size : Int)) = true := decide_eq_true c38
            clear c38
            by_cases c40 : x8_2.length < 140737488355328
            ·rw [if_pos c40] at H
             have LMc40 := aM c40
             clear c40
             obtain ⟨y639, hy639⟩ : ∃ y_ : List Int, y_ = (x8_2 ++ [bt a2 (ji36)]) := ⟨_, rfl⟩
             replace H : (bureauref04_Other.l0 k2 a1 a2 t631 y639 (wrap64 (x9_2 + 1)) a0_0 l0_1) = some (r1, r2) := by first | (rw [hy639]; with_reducible exact H) | (have H2_ := (Option.bind_some _ _).symm.trans H; rw [hy639]; with_reducible exact H2_) | (have H2_ := (Option.bind_some _ _).symm.trans H; with_reducible exact H2_) | with_reducible exact H | (rw [hy639]; exact H) | exact H
             have Ny639 := aM hy639
             clear hy639
             have H' := aM H
             clear H
             obtain ⟨Ao41, co41, eo41⟩ := Kd.R_slice HO_7.out
             subst eo41
             have p634 : 0 ≤ (x9_2 : Int) := of_decide_eq_true (by first | (with_reducible assumption) | assumption)
             have q634 : x9_2 < (t631.length : Int) := of_decide_eq_true (by first | (with_reducible assumption) | assumption)
             obtain ⟨ad634, e634, hx634_0⟩ := Kd.at_int (rR HO_7.out).2.2 x9_2 p634 q634
             cases e634
             replace p634 := eq_true p634
             replace q634 := eq_true q634
             go_wp2_with (first | ((with_reducible refine gate_callee (f := 41) rfl ?_); refine goesL_ (some 33) rfl rfl Try.func41 (by kernel_rfl) rfl #[.int .u64 (rd t631 x9_2), .int .u64 a1] rfl (by (try simp only [mT, mC, mN]); first | done | rfl | (simp only [lD, lT]; rfl)) ?_; (with_reducible refine (bureauref01_Below.calls (rd t631 x9_2) a1 false _ A25.out).mono ?_); rintro e w42 ⟨rfl, hb⟩; refine ⟨_, rfl, ?_⟩; have n0_ := aM (Kd.R_below (ry HO_7.out) hb); have n1_ := aM (Kd.R_below (ry HO_8.out) hb); have n2_ := aM (Kd.V_below (by (with_reducible repeat (first | apply va | apply vn | apply vd)); exact HO_629001.out) hb); have n3_ := aM (bB (g := gb628) (qy BK628.out) hb); have n4_ := aM (bB (g := gb629) (qy BK629.out) hb); have n5_ := aM (bP (by repeat (first | (with_reducible first | exact HB.out | apply ea | apply en | apply ed | refine es ?_ GE628.out | refine es ?_ GE629.out) | exact HB.out)) hb); clear HO_7 HO_8 HO_629001 BK628 BK629 HB; have HO_7 := n0_; have HO_8 := n1_; have HO_629001 := n2_; have BK628 := n3_; have BK629 := n4_; have HB := n5_; clear n0_ n1_ n2_ n3_ n4_ n5_; (try clear hb); (try clear hb2); (try clear hk); (try clear hi); have p39 : 0 ≤ ((ji36) : Int) := of_decide_eq_true (by first | (with_reducible assumption) | assumption); have q39 : (ji36) < (a2.size : Int) := of_decide_eq_true (by first | (with_reducible assumption) | assumption); have hx39 := bt_at a2 (ji36); replace p39 := eq_true p39; replace q39 := eq_true q39) | ((with_reducible refine gate_builtin (b := .append) (xs := #[.tmp 41, .tmp 48]) rfl ?_); (try (refine gate_guard (by rfl) ?_; dsimp only)); at_builtin; refine Kd.R_append (Kd.int .u8) (w0 := w) w.heap.size rfl (.tmp 41) (.tmp 48) 82 5 (.int .u8 0) 1 rfl Try.underlying82 info5 rfl (by decide) (by omega) u8 x8_2 (bt a2 (ji36)) [.int .u8 (bt a2 (ji36))] (fun k_ => (w.heap.size ≤ k_)) (fun _ => False) rfl rfl ?aP (fun _ hk => hk.elim) ?aF ?aO ?aB ?aS ?aL ?_; (case aP => exact rfl); (case aB => exact (by repeat (first | (with_reducible first | exact HB.out | apply ea | apply en | apply ed | refine es ?_ GE628.out | refine es ?_ GE629.out) | exact HB.out))); (case aF => exact (fun k_ hk => (Nat.le_trans (bZ (by repeat (first | (with_reducible first | exact HB.out | apply ea | apply en | apply ed | refine es ?_ GE628.out | refine es ?_ GE629.out) | exact HB.out))) hk))); (case aO => exact (ry HO_8.out)); (case aS => exact (bZ (by repeat (first | (with_reducible first | exact HB.out | apply ea | apply en | apply ed | refine es ?_ GE628.out | refine es ?_ GE629.out) | exact HB.out)))); (case aL => have := LMc40.out; omega); intro v640 w43 ho hb hg hat; rw [← Ny639.out] at ho; have n0_ := aM (Kd.R_over' (ry HO_7.out) (Kd.R_typed (ry HO_8.out)) (by decide) hg); have n1_ := aM (Kd.V_afterv (ok := (fun k_ => (P0_1_ k_ ∨ w.heap.size ≤ k_) ∧ some k_ ≠ (.slice (some ad634) t631.length co41 : Value).ownBlock ∧ k_ ≠ gb628 ∧ k_ ≠ gb629)) (by (with_reducible repeat (first | apply va | apply vn | apply vd)); exact Kd.V_mono HO_629001.out (fun _ hk => ⟨⟨hk.1, ⟨hk.2.1, ⟨hk.2.2.2.1, hk.2.2.2.2⟩⟩⟩, hk.2.2.1⟩)) hg hat); have n2_ := aM (blk_grown (g := gb628) (qy BK628.out) hg (Kd.R_ne HO_8.out BK628.out (by decide))); have n3_ := aM (blk_grown (g := gb629) (qy BK629.out) hg (Kd.R_ne HO_8.out BK629.out (by decide))); have n4_ := aM (hb); have n5_ := aM (ho); clear HO_7 HO_629001 BK628 BK629 HB HO_8; have HO_7 := n0_; have HO_629001 := n1_; have BK628 := n2_; have BK629 := n3_; have HB := n4_; have HO641 := n5_; clear n0_ n1_ n2_ n3_ n4_ n5_; clear ho hb hg hat))
             go_roundg k2
             case measure => have := HJ3.out; have := HK2.out; omega
             case rel => exact ⟨(y639), (wrap64 (x9_2 + 1)), (by first | rfl | (simp; done) | (simp [*]; done)), H', ⟨by have := HJ3.out; have := HK2.out; omega⟩, ⟨by exact ry HO_7.out⟩, ⟨by exact ry HO641.out⟩, ⟨by (with_reducible repeat (first | apply va | apply vn | apply vd)); exact Kd.V_mono HO_629001.out (fun _ hk => ⟨hk.1.1, ⟨hk.1.2.1, ⟨hk.2, ⟨hk.1.2.2.1, hk.1.2.2.2⟩⟩⟩⟩)⟩, ⟨by exact qy BK628.out⟩, ⟨by exact qy BK629.out⟩, ⟨by repeat (first | (with_reducible first | exact HB.out | apply ea | apply en | apply ed | refine es ?_ GE628.out | refine es ?_ GE629.out) | exact HB.out)⟩⟩
            ·rw [if_neg c40] at H
             exact absurd H (by simp)
           ·rw [if_neg c38] at H
            exact absurd H (by simp)
          ·rw [if_neg c37] at H
           exact absurd H (by simp)
       ·rw [if_neg c24] at H
        exact absurd H (by simp)
      ·rw [if_neg c23] at H
       have c23b0 : decide (x9_2 < (t631.length : Int)) = false := decide_eq_false c23
       clear c23
       simp only [Option.some.injEq, Prod.mk.injEq] at H
       obtain ⟨rfl, rfl⟩ := H
       obtain ⟨Ao44, co44, eo44⟩ := Kd.R_slice HO_7.out
       subst eo44
       have hcv45 := own_string (P := Try.prog) Try.underlying82 Try.underlying5 Try.underlying9 (Kd.own_of_R HO_8.out)
       have hnb46 := NB628_629.out
       have hnc46 := NB629_628.out
       have hcz47_0 : wr.cell? ⟨gb628, 0, none⟩ = some (.string a0_0) := (bC BK628.out 0).trans rfl
       have hcz47_1 : wr.cell? ⟨gb628, 1, none⟩ = some (.slice A0_1 l0_1.length c0_1) := (bC BK628.out 1).trans rfl
       have hfz47_0 := bF BK628.out 0
       have hfz47_1 := bF BK628.out 1
       have hcz48_0 : wr.cell? ⟨gb629, 0, none⟩ = some (.string (⟨#[]⟩ : ByteArray)) := (bC BK629.out 0).trans rfl
       have hcz48_1 : wr.cell? ⟨gb629, 1, none⟩ = some (.slice none 0 0) := (bC BK629.out 1).trans rfl
       have hfz48_0 := bF BK629.out 0
       have hfz48_1 := bF BK629.out 1
       go_wp2
       refine bodyPost_ret (results_cell_row rfl _ _ gb629 24 #[.string (strOfNums x8_2), .slice A0_1 l0_1.length c0_1] (0, 0) _ rfl (by (with_reducible repeat (first | apply qn | apply qd | apply qa)); refine bU (cs := #[.string (strOfNums x8_2), .slice none 0 0]) ?_ 1 _ rfl; (with_reducible repeat (first | apply qn | apply qd | apply qa)); refine bU (cs := #[.string (⟨#[]⟩ : ByteArray), .slice none 0 0]) ?_ 0 _ rfl; exact qy BK629.out) Try.underlying24 rfl (by kernel_rfl)) rfl ?_
       exact ⟨_, by first | rfl | (simp [errW_none, errW_some] <;> rfl) | (simp [*, errW_none, errW_some] <;> rfl), by (with_reducible repeat (first | apply va | apply vn | apply vd)); exact Kd.V_mono (Kd.V_far (p := ⟨gb629, 1, none⟩) (Kd.V_far (p := ⟨gb629, 0, none⟩) (Kd.V_mono HO_629001.out (fun k_ hk => (⟨hk, hk.2.2.2.2⟩ : _ ∧ k_ ≠ gb629))) (fun _ hk => hk.2) (.string (strOfNums x8_2))) (fun _ hk => hk.2) (.slice A0_1 l0_1.length c0_1)) (fun _ hk => hk.1.1), by repeat (first | (with_reducible first | exact HB.out | apply ea | apply en | apply ed | refine es ?_ GE628.out | refine es ?_ GE629.out) | exact HB.out)⟩
end Go.Proofs.Ytnbdldpjiofafaa.PB
end

section
namespace Go.Proofs.Ytnbdldpjiofafaa.PB
open Go.RowKit Go.Proofs.YtnbdldpjiofafaaW.PrintWords Go.Proofs.YtnbdldpjiofafaaW.PrintLast Go.Proofs.YtnbdldpjiofafaaW.PrintMore
attribute [local go_sem] max2_int min2_int max_two min_two max_three min_three max_four min_four   
set_option linter.unusedVariables false
set_option linter.unusedSimpArgs false
def bureauref04_View.l0 : Nat → Int → List Int → List Int → Int → ByteArray → List (S51) → Option (ByteArray × Int)
 | 0, _, _, _, _, _, _ => none
 | k + 1, x1, x6, x7, x8, x312000, x312001 => if x8 < (x6.length : Int) then (if 0 ≤ x8 then ((bureauref01_Below.f (rd x6 x8) x1).bind fun t317 => (if t317 = true then (if x8 < (x312000.size : Int) then (if x7.length < 140737488355328 then (bureauref04_View.l0 k x1 x6 (x7 ++ [bt x312000 x8]) (wrap64 (x8 + 1)) x312000 x312001) else (none)) else (none)) else (if x7.length < 140737488355328 then (bureauref04_View.l0 k x1 x6 (x7 ++ [35]) (wrap64 (x8 + 1)) x312000 x312001) else (none)))) else (none)) else (some (strOfNums x7, 0))
def bureauref04_View.f (k : Nat) (a0_0 : ByteArray) (l0_1 : List (S51)) (a1 : Int) : Option (ByteArray × Int) := (bureauref04_Good.f k a0_0 l0_1).bind fun t312 => (if t312 = true then ((bureauref03_Bytes.f k l0_1).bind fun t313 => (bureauref04_View.l0 k a1 t313 ([] : List Int) 0 a0_0 l0_1)) else (some ((⟨#[]⟩ : ByteArray), 2)))
set_option maxHeartbeats 8000000 in
set_option maxRecDepth 100000 in
theorem bureauref04_View.calls (k : Nat) (a0_0 : ByteArray) (A0_1 : Option Addr) (c0_1 : Nat) (l0_1 : List (S51)) (a1 : Int) (r1 : ByteArray) (r2 : Int) (w : World) (hr0_1 : Kd.C k51 w A0_1 l0_1.length l0_1) (hc0_1 : l0_1.length ≤ c0_1) (h : bureauref04_View.f k a0_0 l0_1 a1 = some (r1, r2)) :
  Calls Try.prog 28 #[.agg #[.string a0_0, .slice A0_1 l0_1.length c0_1], .int .u64 a1] w fun e w' => e = .returned (.tuple #[.string r1, .int .i64 r2]) ∧ Below w.heap.size w w' := by
 have hu24 := Try.underlying24
 have HR0_1 := aM hr0_1
 have HC0_1 := aM hc0_1
 clear hr0_1 hc0_1
 have HB := aM (Below.refl w.heap.size w)
 have H : ((bureauref04_Good.f k a0_0 l0_1).bind fun t312 => (if t312 = true then ((bureauref03_Bytes.f k l0_1).bind fun t313 => (bureauref04_View.l0 k a1 t313 ([] : List Int) 0 a0_0 l0_1)) else (some ((⟨#[]⟩ : ByteArray), 2)))) = some (r1, r2) := h
 clear h
 replace H := Option.bind_eq_some_iff.mp H
 obtain ⟨t312, A30, H⟩ := H
 replace H : (if t312 = true then ((bureauref03_Bytes.f k l0_1).bind fun t313 => (bureauref04_View.l0 k a1 t313 ([] : List Int) 0 a0_0 l0_1)) else (some ((⟨#[]⟩ : ByteArray), 2))) = some (r1, r2) := H
 have A3 := aM A30
 clear A30
 by_cases c4 : t312 = true
 ·subst c4
  have H1 : ((bureauref03_Bytes.f k l0_1).bind fun t313 => (bureauref04_View.l0 k a1 t313 ([] : List Int) 0 a0_0 l0_1)) = some (r1, r2) := by rw [if_pos rfl] at H; exact H
  clear H
  have H := H1
  clear H1
  replace H := Option.bind_eq_some_iff.mp H
  obtain ⟨t313, A50, H⟩ := H
  replace H : (bureauref04_View.l0 k a1 t313 ([] : List Int) 0 a0_0 l0_1) = some (r1, r2) := H
  have A5 := aM A50
  clear A50
  have H' := aM H
  clear H
  go_enter Try.func28, Try.ntmps28
  go_wp2_with (first | ((with_reducible refine gate_dst (N := 2) rfl ?_); refine box_event ?hg (N := 2) ?hd (cs := #[.string a0_0, .slice A0_1 l0_1.length c0_1]) (t := 24) ?hr ?_; (case hd | hg => rfl); (case hr => first | (go_simp; done) | (go_simp; rfl)); intro gb311 hg w6 hbox hb; have n0_ := aM (bP (ey HB.out) hb); have n1_ := aM (hbox); have n2_ := aM ((by rw [hg]; exact (bZ (ey HB.out)) : w.heap.size ≤ gb311)); have n3_ := n2_; clear HB; have HB := n0_; have BK311 := n1_; have GW311 := n2_; have GE311 := n3_; clear n0_ n1_ n2_ n3_; clear hb hbox hg; have hcz7_0 : w6.cell? ⟨gb311, 0, none⟩ = some (.string a0_0) := (bC BK311.out 0).trans rfl; have hcz7_1 : w6.cell? ⟨gb311, 1, none⟩ = some (.slice A0_1 l0_1.length c0_1) := (bC BK311.out 1).trans rfl; have hfz7_0 := bF BK311.out 0; have hfz7_1 := bF BK311.out 1) | ((with_reducible refine gate_callee (f := 39) rfl ?_); refine goesL_ (some 10) rfl rfl Try.func39 (by kernel_rfl) rfl #[.agg #[.string a0_0, .slice A0_1 l0_1.length c0_1]] rfl (by (try simp only [mT, mC, mN]); first | done | rfl | (simp only [lD, lT]; rfl)) ?_; (with_reducible refine (bureauref04_Good.calls k a0_0 _ _ l0_1 true _ ?side1 ?side2 A3.out).mono ?_); (case side1 => repeat (first | exact (cB_ HR0_1.out HB.out) | (with_reducible refine Kd.C_alloc ?_ _) | (with_reducible refine Kd.C_drewN ?_ _) | (with_reducible refine Kd.C_drew ?_))); (case side2 => exact HC0_1.out); rintro e w8 ⟨rfl, hb⟩; refine ⟨_, rfl, ?_⟩; have n0_ := aM (bB (g := gb311) (qy BK311.out) hb); have n1_ := aM (bP (by repeat (first | (with_reducible first | exact HB.out | apply ea | apply en | apply ed | refine es ?_ GE311.out) | exact HB.out)) hb); clear BK311 HB; have BK311 := n0_; have HB := n1_; clear n0_ n1_; (try clear hb); (try clear hb2); (try clear hk); (try clear hi); have hcz9_0 : w8.cell? ⟨gb311, 0, none⟩ = some (.string a0_0) := (bC BK311.out 0).trans rfl; have hcz9_1 : w8.cell? ⟨gb311, 1, none⟩ = some (.slice A0_1 l0_1.length c0_1) := (bC BK311.out 1).trans rfl; have hfz9_0 := bF BK311.out 0; have hfz9_1 := bF BK311.out 1) | ((with_reducible refine gate_callee (f := 40) rfl ?_); refine goesL_ (some 14) rfl rfl Try.func40 (by kernel_rfl) rfl #[.slice A0_1 l0_1.length c0_1] rfl (by (try simp only [mT, mC, mN]); first | done | rfl | (simp only [lD, lT]; rfl)) ?_; (with_reducible refine (bureauref03_Bytes.calls k _ _ l0_1 t313 _ ?side1 ?side2 A5.out).mono ?_); (case side1 => repeat (first | exact (cB_ HR0_1.out HB.out) | (with_reducible refine Kd.C_alloc ?_ _) | (with_reducible refine Kd.C_drewN ?_ _) | (with_reducible refine Kd.C_drew ?_))); (case side2 => exact HC0_1.out); rintro e w10 ⟨v314, rfl, ho0, hb⟩; refine ⟨_, rfl, ?_⟩; have n0_ := aM (rL ho0 (bZ (by repeat (first | (with_reducible first | exact HB.out | apply ea | apply en | apply ed | refine es ?_ GE311.out) | exact HB.out)))); have n1_ := aM (bB (g := gb311) (qy BK311.out) hb); have n2_ := aM (bP (by repeat (first | (with_reducible first | exact HB.out | apply ea | apply en | apply ed | refine es ?_ GE311.out) | exact HB.out)) hb); clear BK311 HB; have HO315 := n0_; have BK311 := n1_; have HB := n2_; clear n0_ n1_ n2_; (try clear hb); (try clear hb2); (try clear hk); (try clear hi); (try clear ho0)))
  go_loopg [7, 8] k (fun kq v7 v8 w' => ∃ (x7_1 : List Int) (x8_1 : Int), v8 = .int .i64 x8_1 ∧ Aside0 (bureauref04_View.l0 kq a1 t313 x7_1 x8_1 a0_0 l0_1 = some (r1, r2)) ∧ Aside0 (kq ≤ k) ∧ Aside0 (Kd.R (Kd.int .u64) 26 w' w.heap.size (fun _ => True) v314 t313) ∧ Aside0 (Kd.R (Kd.int .u8) 5 w' w.heap.size (fun _ => True) v7 x7_1) ∧ Aside0 (w'.heap[gb311]? = some (.cells #[.string a0_0, (.slice A0_1 l0_1.length c0_1)] 24 (0, 0))) ∧ Aside0 (Below w.heap.size w w'))
  case atStart => exact ⟨(([] : List Int)), (0), (by first | rfl | (simp; done) | (simp [*]; done)), H', ⟨Nat.le_refl _⟩, ⟨by exact ry HO315.out⟩, ⟨by first | exact Kd.R_nil _ _ _ _ _ | exact Kd.N_nil _ _ _ _ _ | exact Kd.V_nil _ _ _ _ _ | exact Kd.Q_nil _ _ _ _ _ | exact Kd.S_nil _ _ _ _ _⟩, ⟨by exact qy BK311.out⟩, ⟨by repeat (first | (with_reducible first | exact HB.out | apply ea | apply en | apply ed | refine es ?_ GE311.out) | exact HB.out)⟩⟩
  case round =>
   clear H'
   try clear c2
   try clear p2
   try clear c3
   try clear c4
   try clear hcz7_0
   try clear hcz7_1
   try clear hcz9_0
   try clear hcz9_1
   try clear hfz7_0
   try clear hfz7_1
   try clear hfz9_0
   try clear hfz9_1
   obtain ⟨x7_1, x8_1, rfl, HA, HK1, HO_6, HO_7, BK311, HB⟩ := hrel
   cases gk with
   | zero => exact absurd HA.out (by simp [bureauref04_View.l0])
   | succ k1 =>
    have H := HA.out
    clear HA
    simp only [bureauref04_View.l0] at H
    by_cases c11 : x8_1 < (t313.length : Int)
    ·rw [if_pos c11] at H
     have c11b0 : decide (x8_1 < (t313.length : Int)) = true := decide_eq_true c11
     clear c11
     by_cases c12 : 0 ≤ x8_1
     ·rw [if_pos c12] at H
      have c12b0 : decide (0 ≤ x8_1) = true := decide_eq_true c12
      clear c12
      replace H := Option.bind_eq_some_iff.mp H
      obtain ⟨t317, A130, H⟩ := H
      replace H : (if t317 = true then (if x8_1 < (a0_0.size : Int) then (if x7_1.length < 140737488355328 then (bureauref04_View.l0 k1 a1 t313 (x7_1 ++ [bt a0_0 x8_1]) (wrap64 (x8_1 + 1)) a0_0 l0_1) else (none)) else (none)) else (if x7_1.length < 140737488355328 then (bureauref04_View.l0 k1 a1 t313 (x7_1 ++ [35]) (wrap64 (x8_1 + 1)) a0_0 l0_1) else (none))) = some (r1, r2) := H
      have A13 := aM A130
      clear A130
      by_cases c14 : t317 = true
      ·subst c14
       have H1 : (if x8_1 < (a0_0.size : Int) then (if x7_1.length < 140737488355328 then (bureauref04_View.l0 k1 a1 t313 (x7_1 ++ [bt a0_0 x8_1]) (wrap64 (x8_1 + 1)) a0_0 l0_1) else (none)) else (none)) = some (r1, r2) := by rw [if_pos rfl] at H; exact H
       clear H
       have H := H1
       clear H1
       by_cases c15 : x8_1 < (a0_0.size : Int)
       ·rw [if_pos c15] at H
        have c15b0 : decide (x8_1 < (a0_0.size : Int)) = true := decide_eq_true c15
        clear c15
        by_cases c17 : x7_1.length < 140737488355328
        ·rw [if_pos c17] at H
         have LMc17 := aM c17
         clear c17
         obtain ⟨y318, hy318⟩ : ∃ y_ : List Int, y_ = (x7_1 ++ [bt a0_0 x8_1]) := ⟨_, rfl⟩
         replace H : (bureauref04_View.l0 k1 a1 t313 y318 (wrap64 (x8_1 + 1)) a0_0 l0_1) = some (r1, r2) := by first | (rw [hy318]; with_reducible exact H) | (have H2_ := (Option.bind_some _ _).symm.trans H; rw [hy318]; with_reducible exact H2_) | (have H2_ := (Option.bind_some _ _).symm.trans H; with_reducible exact H2_) | with_reducible exact H | (rw [hy318]; exact H) | exact H
         have Ny318 := aM hy318
         clear hy318
         have H' := aM H
         clear H
         obtain ⟨Ao18, co18, eo18⟩ := Kd.R_slice HO_6.out
         subst eo18
         have p316 : 0 ≤ (x8_1 : Int) := of_decide_eq_true (by first | (with_reducible assumption) | assumption)
         have q316 : x8_1 < (t313.length : Int) := of_decide_eq_true (by first | (with_reducible assumption) | assumption)
         obtain ⟨ad316, e316, hx316_0⟩ := Kd.at_int (rR HO_6.out).2.2 x8_1 p316 q316
         cases e316
         replace p316 := eq_true p316
         replace q316 := eq_true q316
         go_wp2_with (first | ((with_reducible refine gate_callee (f := 41) rfl ?_); refine goesL_ (some 26) rfl rfl Try.func41 (by kernel_rfl) rfl #[.int .u64 (rd t313 x8_1), .int .u64 a1] rfl (by (try simp only [mT, mC, mN]); first | done | rfl | (simp only [lD, lT]; rfl)) ?_; (with_reducible refine (bureauref01_Below.calls (rd t313 x8_1) a1 true _ A13.out).mono ?_); rintro e w19 ⟨rfl, hb⟩; refine ⟨_, rfl, ?_⟩; have n0_ := aM (Kd.R_below (ry HO_6.out) hb); have n1_ := aM (Kd.R_below (ry HO_7.out) hb); have n2_ := aM (bB (g := gb311) (qy BK311.out) hb); have n3_ := aM (bP (by repeat (first | (with_reducible first | exact HB.out | apply ea | apply en | apply ed | refine es ?_ GE311.out) | exact HB.out)) hb); clear HO_6 HO_7 BK311 HB; have HO_6 := n0_; have HO_7 := n1_; have BK311 := n2_; have HB := n3_; clear n0_ n1_ n2_ n3_; (try clear hb); (try clear hb2); (try clear hk); (try clear hi); have hcz20_0 : w19.cell? ⟨gb311, 0, none⟩ = some (.string a0_0) := (bC BK311.out 0).trans rfl; have hcz20_1 : w19.cell? ⟨gb311, 1, none⟩ = some (.slice A0_1 l0_1.length c0_1) := (bC BK311.out 1).trans rfl; have hfz20_0 := bF BK311.out 0; have hfz20_1 := bF BK311.out 1; have p16 : 0 ≤ (x8_1 : Int) := of_decide_eq_true (by first | (with_reducible assumption) | assumption); have q16 : x8_1 < (a0_0.size : Int) := of_decide_eq_true (by first | (with_reducible assumption) | assumption); have hx16 := bt_at a0_0 x8_1; replace p16 := eq_true p16; replace q16 := eq_true q16) | ((with_reducible refine gate_builtin (b := .append) (xs := #[.tmp 27, .tmp 32]) rfl ?_); at_builtin; refine Kd.R_append (Kd.int .u8) (w0 := w) w.heap.size rfl (.tmp 27) (.tmp 32) 82 5 (.int .u8 0) 1 rfl Try.underlying82 info5 rfl (by decide) (by omega) u7 x7_1 (bt a0_0 x8_1) [.int .u8 (bt a0_0 x8_1)] (fun _ => True) (fun _ => False) rfl rfl ?aP (fun _ hk => hk.elim) ?aF ?aO ?aB ?aS ?aL ?_; (case aP => exact rfl); (case aB => exact (by repeat (first | (with_reducible first | exact HB.out | apply ea | apply en | apply ed | refine es ?_ GE311.out) | exact HB.out))); (case aF => exact (fun _ _ => trivial)); (case aO => exact (ry HO_7.out)); (case aS => exact (bZ (by repeat (first | (with_reducible first | exact HB.out | apply ea | apply en | apply ed | refine es ?_ GE311.out) | exact HB.out)))); (case aL => have := LMc17.out; omega); intro v319 w21 ho hb hg hat; rw [← Ny318.out] at ho; have n0_ := aM (Kd.R_over' (ry HO_6.out) (Kd.R_typed (ry HO_7.out)) (by decide) hg); have n1_ := aM (blk_grown (g := gb311) (qy BK311.out) hg (Kd.R_ne HO_7.out BK311.out (by decide))); have n2_ := aM (hb); have n3_ := aM (ho); clear HO_6 BK311 HB HO_7; have HO_6 := n0_; have BK311 := n1_; have HB := n2_; have HO320 := n3_; clear n0_ n1_ n2_ n3_; clear ho hb hg hat))
         go_roundg k1
         case measure => have := HK1.out; omega
         case rel => exact ⟨(y318), (wrap64 (x8_1 + 1)), (by first | rfl | (simp; done) | (simp [*]; done)), H', ⟨by have := HK1.out; omega⟩, ⟨by exact ry HO_6.out⟩, ⟨by exact ry HO320.out⟩, ⟨by exact qy BK311.out⟩, ⟨by repeat (first | (with_reducible first | exact HB.out | apply ea | apply en | apply ed | refine es ?_ GE311.out) | exact HB.out)⟩⟩
        ·rw [if_neg c17] at H
         exact absurd H (by simp)
       ·rw [if_neg c15] at H
        exact absurd H (by simp)
      ·replace c14 := Bool.eq_false_iff.mpr c14
       subst c14
       have H1 : (if x7_1.length < 140737488355328 then (bureauref04_View.l0 k1 a1 t313 (x7_1 ++ [35]) (wrap64 (x8_1 + 1)) a0_0 l0_1) else (none)) = some (r1, r2) := by rw [if_neg (show ¬ (false = true) by decide)] at H; exact H
       clear H
       have H := H1
       clear H1
       by_cases c22 : x7_1.length < 140737488355328
       ·rw [if_pos c22] at H
        have LMc22 := aM c22
        clear c22
        obtain ⟨y321, hy321⟩ : ∃ y_ : List Int, y_ = (x7_1 ++ [35]) := ⟨_, rfl⟩
        replace H : (bureauref04_View.l0 k1 a1 t313 y321 (wrap64 (x8_1 + 1)) a0_0 l0_1) = some (r1, r2) := by first | (rw [hy321]; with_reducible exact H) | (have H2_ := (Option.bind_some _ _).symm.trans H; rw [hy321]; with_reducible exact H2_) | (have H2_ := (Option.bind_some _ _).symm.trans H; with_reducible exact H2_) | with_reducible exact H | (rw [hy321]; exact H) | exact H
        have Ny321 := aM hy321
        clear hy321
        have H' := aM H
        clear H
        obtain ⟨Ao23, co23, eo23⟩ := Kd.R_slice HO_6.out
        subst eo23
        have p316 : 0 ≤ (x8_1 : Int) := of_decide_eq_true (by first | (with_reducible assumption) | assumption)
        have q316 : x8_1 < (t313.length : Int) := of_decide_eq_true (by first | (with_reducible assumption) | assumption)
        obtain ⟨ad316, e316, hx316_0⟩ := Kd.at_int (rR HO_6.out).2.2 x8_1 p316 q316
        cases e316
        replace p316 := eq_true p316
        replace q316 := eq_true q316
        go_wp2_with (first | ((with_reducible refine gate_callee (f := 41) rfl ?_); refine goesL_ (some 26) rfl rfl Try.func41 (by kernel_rfl) rfl #[.int .u64 (rd t313 x8_1), .int .u64 a1] rfl (by (try simp only [mT, mC, mN]); first | done | rfl | (simp only [lD, lT]; rfl)) ?_; (with_reducible refine (bureauref01_Below.calls (rd t313 x8_1) a1 false _ A13.out).mono ?_); rintro e w24 ⟨rfl, hb⟩; refine ⟨_, rfl, ?_⟩; have n0_ := aM (Kd.R_below (ry HO_6.out) hb); have n1_ := aM (Kd.R_below (ry HO_7.out) hb); have n2_ := aM (bB (g := gb311) (qy BK311.out) hb); have n3_ := aM (bP (by repeat (first | (with_reducible first | exact HB.out | apply ea | apply en | apply ed | refine es ?_ GE311.out) | exact HB.out)) hb); clear HO_6 HO_7 BK311 HB; have HO_6 := n0_; have HO_7 := n1_; have BK311 := n2_; have HB := n3_; clear n0_ n1_ n2_ n3_; (try clear hb); (try clear hb2); (try clear hk); (try clear hi)) | ((with_reducible refine gate_builtin (b := .append) (xs := #[.tmp 34, .tmp 35]) rfl ?_); at_builtin; refine Kd.R_append (Kd.int .u8) (w0 := w) w.heap.size rfl (.tmp 34) (.tmp 35) 82 5 (.int .u8 0) 1 rfl Try.underlying82 info5 rfl (by decide) (by omega) u7 x7_1 35 [.int .u8 35] (fun _ => True) (fun _ => False) rfl rfl ?aP (fun _ hk => hk.elim) ?aF ?aO ?aB ?aS ?aL ?_; (case aP => exact rfl); (case aB => exact (by repeat (first | (with_reducible first | exact HB.out | apply ea | apply en | apply ed | refine es ?_ GE311.out) | exact HB.out))); (case aF => exact (fun _ _ => trivial)); (case aO => exact (ry HO_7.out)); (case aS => exact (bZ (by repeat (first | (with_reducible first | exact HB.out | apply ea | apply en | apply ed | refine es ?_ GE311.out) | exact HB.out)))); (case aL => have := LMc22.out; omega); intro v322 w25 ho hb hg hat; rw [← Ny321.out] at ho; have n0_ := aM (Kd.R_over' (ry HO_6.out) (Kd.R_typed (ry HO_7.out)) (by decide) hg); have n1_ := aM (blk_grown (g := gb311) (qy BK311.out) hg (Kd.R_ne HO_7.out BK311.out (by decide))); have n2_ := aM (hb); have n3_ := aM (ho); clear HO_6 BK311 HB HO_7; have HO_6 := n0_; have BK311 := n1_; have HB := n2_; have HO323 := n3_; clear n0_ n1_ n2_ n3_; clear ho hb hg hat))
        go_roundg k1
        case measure => have := HK1.out; omega
        case rel => exact ⟨(y321), (wrap64 (x8_1 + 1)), (by first | rfl | (simp; done) | (simp [*]; done)), H', ⟨by have := HK1.out; omega⟩, ⟨by exact ry HO_6.out⟩, ⟨by exact ry HO323.out⟩, ⟨by exact qy BK311.out⟩, ⟨by repeat (first | (with_reducible first | exact HB.out | apply ea | apply en | apply ed | refine es ?_ GE311.out) | exact HB.out)⟩⟩
       ·rw [if_neg c22] at H
        exact absurd H (by simp)
     ·rw [if_neg c12] at H
      exact absurd H (by simp)
    ·rw [if_neg c11] at H
     have c11b0 : decide (x8_1 < (t313.length : Int)) = false := decide_eq_false c11
     clear c11
     simp only [Option.some.injEq, Prod.mk.injEq] at H
     obtain ⟨rfl, rfl⟩ := H
     obtain ⟨Ao26, co26, eo26⟩ := Kd.R_slice HO_6.out
     subst eo26
     have hcv27 := own_string (P := Try.prog) Try.underlying82 Try.underlying5 Try.underlying9 (Kd.own_of_R HO_7.out)
     go_wp2
     go_ret2
     exact ⟨by first | rfl | (simp [errW_none, errW_some] <;> rfl) | (simp [*, errW_none, errW_some] <;> rfl), by repeat (first | (with_reducible first | exact HB.out | apply ea | apply en | apply ed | refine es ?_ GE311.out) | exact HB.out)⟩
 ·replace c4 := Bool.eq_false_iff.mpr c4
  subst c4
  have H1 : (some ((⟨#[]⟩ : ByteArray), 2)) = some (r1, r2) := by rw [if_neg (show ¬ (false = true) by decide)] at H; exact H
  clear H
  have H := H1
  clear H1
  simp only [Option.some.injEq, Prod.mk.injEq] at H
  obtain ⟨rfl, rfl⟩ := H
  go_enter Try.func28, Try.ntmps28
  go_wp2_with (first | ((with_reducible refine gate_dst (N := 2) rfl ?_); refine box_event ?hg (N := 2) ?hd (cs := #[.string a0_0, .slice A0_1 l0_1.length c0_1]) (t := 24) ?hr ?_; (case hd | hg => rfl); (case hr => first | (go_simp; done) | (go_simp; rfl)); intro gb311 hg w28 hbox hb; have n0_ := aM (bP (ey HB.out) hb); have n1_ := aM (hbox); have n2_ := aM ((by rw [hg]; exact (bZ (ey HB.out)) : w.heap.size ≤ gb311)); have n3_ := n2_; clear HB; have HB := n0_; have BK311 := n1_; have GW311 := n2_; have GE311 := n3_; clear n0_ n1_ n2_ n3_; clear hb hbox hg; have hcz29_0 : w28.cell? ⟨gb311, 0, none⟩ = some (.string a0_0) := (bC BK311.out 0).trans rfl; have hcz29_1 : w28.cell? ⟨gb311, 1, none⟩ = some (.slice A0_1 l0_1.length c0_1) := (bC BK311.out 1).trans rfl; have hfz29_0 := bF BK311.out 0; have hfz29_1 := bF BK311.out 1) | ((with_reducible refine gate_callee (f := 39) rfl ?_); refine goesL_ (some 10) rfl rfl Try.func39 (by kernel_rfl) rfl #[.agg #[.string a0_0, .slice A0_1 l0_1.length c0_1]] rfl (by (try simp only [mT, mC, mN]); first | done | rfl | (simp only [lD, lT]; rfl)) ?_; (with_reducible refine (bureauref04_Good.calls k a0_0 _ _ l0_1 false _ ?side1 ?side2 A3.out).mono ?_); (case side1 => repeat (first | exact (cB_ HR0_1.out HB.out) | (with_reducible refine Kd.C_alloc ?_ _) | (with_reducible refine Kd.C_drewN ?_ _) | (with_reducible refine Kd.C_drew ?_))); (case side2 => exact HC0_1.out); rintro e w30 ⟨rfl, hb⟩; refine ⟨_, rfl, ?_⟩; have n0_ := aM (bB (g := gb311) (qy BK311.out) hb); have n1_ := aM (bP (by repeat (first | (with_reducible first | exact HB.out | apply ea | apply en | apply ed | refine es ?_ GE311.out) | exact HB.out)) hb); clear BK311 HB; have BK311 := n0_; have HB := n1_; clear n0_ n1_; (try clear hb); (try clear hb2); (try clear hk); (try clear hi)))
  go_ret2
  exact ⟨by first | rfl | (simp [errW_none, errW_some] <;> rfl) | (simp [*, errW_none, errW_some] <;> rfl), by repeat (first | (with_reducible first | exact HB.out | apply ea | apply en | apply ed | refine es ?_ GE311.out) | exact HB.out)⟩
end Go.Proofs.Ytnbdldpjiofafaa.PB
end

section
namespace Go.Proofs.Ytnbdldpjiofafaa.PB
open Go.RowKit Go.Proofs.YtnbdldpjiofafaaW.PrintWords Go.Proofs.YtnbdldpjiofafaaW.PrintLast Go.Proofs.YtnbdldpjiofafaaW.PrintMore
attribute [local go_sem] max2_int min2_int max_two min_two max_three min_three max_four min_four   
set_option linter.unusedVariables false
set_option linter.unusedSimpArgs false
def bureauref04_Low.f (k : Nat) (a0_0 : ByteArray) (l0_1 : List (S51)) (a1_0 : ByteArray) (l1_1 : List (S51)) (a2 : Int) : Option (Bool) := (bureauref04_View.f k a0_0 l0_1 a2).bind fun bt644 => ((bureauref04_View.f k a1_0 l1_1 a2).bind fun bt646 => (if bt644.2 = 0 then (if bt646.2 = 0 then ((bureauref03_Same.f k l0_1 l1_1).bind fun t648 => (if t648 = true then (some (bt644.1.toList == bt646.1.toList)) else (some false))) else (some false)) else (some false)))
set_option maxHeartbeats 8000000 in
set_option maxRecDepth 100000 in
theorem bureauref04_Low.calls (k : Nat) (a0_0 : ByteArray) (A0_1 : Option Addr) (c0_1 : Nat) (l0_1 : List (S51)) (a1_0 : ByteArray) (A1_1 : Option Addr) (c1_1 : Nat) (l1_1 : List (S51)) (a2 : Int) (r : Bool) (w : World) (hr0_1 : Kd.C k51 w A0_1 l0_1.length l0_1) (hc0_1 : l0_1.length ≤ c0_1) (hr1_1 : Kd.C k51 w A1_1 l1_1.length l1_1) (hc1_1 : l1_1.length ≤ c1_1) (h : bureauref04_Low.f k a0_0 l0_1 a1_0 l1_1 a2 = some r) :
  Calls Try.prog 17 #[.agg #[.string a0_0, .slice A0_1 l0_1.length c0_1], .agg #[.string a1_0, .slice A1_1 l1_1.length c1_1], .int .u64 a2] w fun e w' => e = .returned (.bool r) ∧ Below w.heap.size w w' := by
 have hu24 := Try.underlying24
 have HR0_1 := aM hr0_1
 have HC0_1 := aM hc0_1
 clear hr0_1 hc0_1
 have HR1_1 := aM hr1_1
 have HC1_1 := aM hc1_1
 clear hr1_1 hc1_1
 have HB := aM (Below.refl w.heap.size w)
 have H : ((bureauref04_View.f k a0_0 l0_1 a2).bind fun bt644 => ((bureauref04_View.f k a1_0 l1_1 a2).bind fun bt646 => (if bt644.2 = 0 then (if bt646.2 = 0 then ((bureauref03_Same.f k l0_1 l1_1).bind fun t648 => (if t648 = true then (some (bt644.1.toList == bt646.1.toList)) else (some false))) else (some false)) else (some false)))) = some r := h
 clear h
 replace H := Option.bind_eq_some_iff.mp H
 obtain ⟨⟨t644, t645⟩, A40, H⟩ := H
 replace H : ((bureauref04_View.f k a1_0 l1_1 a2).bind fun bt646 => (if t645 = 0 then (if bt646.2 = 0 then ((bureauref03_Same.f k l0_1 l1_1).bind fun t648 => (if t648 = true then (some (t644.toList == bt646.1.toList)) else (some false))) else (some false)) else (some false))) = some r := H
 have A4 := aM A40
 clear A40
 replace H := Option.bind_eq_some_iff.mp H
 obtain ⟨⟨t646, t647⟩, A50, H⟩ := H
 replace H : (if t645 = 0 then (if t647 = 0 then ((bureauref03_Same.f k l0_1 l1_1).bind fun t648 => (if t648 = true then (some (t644.toList == t646.toList)) else (some false))) else (some false)) else (some false)) = some r := H
 have A5 := aM A50
 clear A50
 by_cases c6 : t645 = 0
 ·rw [if_pos c6] at H
  have c6b0 : (t645 == 0) = true := beq_iff_eq.mpr c6
  have c6b1 : (t645 != 0) = false := bne_eq_false_iff_eq.mpr c6
  clear c6
  by_cases c7 : t647 = 0
  ·rw [if_pos c7] at H
   have c7b0 : (t647 == 0) = true := beq_iff_eq.mpr c7
   have c7b1 : (t647 != 0) = false := bne_eq_false_iff_eq.mpr c7
   clear c7
   replace H := Option.bind_eq_some_iff.mp H
   obtain ⟨t648, A80, H⟩ := H
   replace H : (if t648 = true then (some (t644.toList == t646.toList)) else (some false)) = some r := H
   have A8 := aM A80
   clear A80
   by_cases c9 : t648 = true
   ·subst c9
    have H1 : (some (t644.toList == t646.toList)) = some r := by rw [if_pos rfl] at H; exact H
    clear H
    have H := H1
    clear H1
    obtain rfl := Option.some.inj H
    go_enter Try.func17, Try.ntmps17
    go_wp2_with (first | ((with_reducible refine gate_dst (N := 3) rfl ?_); refine box_event ?hg (N := 3) ?hd (cs := #[.string a0_0, .slice A0_1 l0_1.length c0_1]) (t := 24) ?hr ?_; (case hd | hg => rfl); (case hr => first | (go_simp; done) | (go_simp; rfl)); intro gb642 hg w10 hbox hb; have n0_ := aM (bP (ey HB.out) hb); have n1_ := aM (hbox); have n2_ := aM ((by rw [hg]; exact (bZ (ey HB.out)) : w.heap.size ≤ gb642)); have n3_ := n2_; clear HB; have HB := n0_; have BK642 := n1_; have GW642 := n2_; have GE642 := n3_; clear n0_ n1_ n2_ n3_; clear hb hbox hg) | ((with_reducible refine gate_dst (N := 4) rfl ?_); refine box_event ?hg (N := 4) ?hd (cs := #[.string a1_0, .slice A1_1 l1_1.length c1_1]) (t := 24) ?hr ?_; (case hd | hg => rfl); (case hr => first | (go_simp; done) | (go_simp; rfl)); intro gb643 hg w11 hbox hb; have n0_ := aM (bB (g := gb642) (qy BK642.out) hb); have n1_ := aM (bP (by repeat (first | (with_reducible first | exact HB.out | apply ea | apply en | apply ed | refine es ?_ GE642.out) | exact HB.out)) hb); have n2_ := aM (hbox); have n3_ := aM ((by rw [hg]; exact (bZ (by repeat (first | (with_reducible first | exact HB.out | apply ea | apply en | apply ed | refine es ?_ GE642.out) | exact HB.out))) : w.heap.size ≤ gb643)); have n4_ := n3_; have n5_ := aM ((by rw [hg]; exact Nat.ne_of_lt (blk_lt (g := gb642) (qy BK642.out)) : gb642 ≠ gb643)); have n6_ := aM ((by rw [hg]; exact Nat.ne_of_gt (blk_lt (g := gb642) (qy BK642.out)) : gb643 ≠ gb642)); clear BK642 HB; have BK642 := n0_; have HB := n1_; have BK643 := n2_; have GW643 := n3_; have GE643 := n4_; have NB642_643 := n5_; have NB643_642 := n6_; clear n0_ n1_ n2_ n3_ n4_ n5_ n6_; clear hb hbox hg; have hnb12 := NB642_643.out; have hnc12 := NB643_642.out; have hcz13_0 : w11.cell? ⟨gb642, 0, none⟩ = some (.string a0_0) := (bC BK642.out 0).trans rfl; have hcz13_1 : w11.cell? ⟨gb642, 1, none⟩ = some (.slice A0_1 l0_1.length c0_1) := (bC BK642.out 1).trans rfl; have hfz13_0 := bF BK642.out 0; have hfz13_1 := bF BK642.out 1) | ((with_reducible refine gate_callee (f := 28) rfl ?_); refine goesL_ (some 14) rfl rfl Try.func28 (by kernel_rfl) rfl #[.agg #[.string a0_0, .slice A0_1 l0_1.length c0_1], .int .u64 a2] rfl (by (try simp only [mT, mC, mN]); first | done | rfl | (simp only [lD, lT]; rfl)) ?_; (with_reducible refine (bureauref04_View.calls k a0_0 _ _ l0_1 a2 t644 t645 _ ?side1 ?side2 A4.out).mono ?_); (case side1 => repeat (first | exact (cB_ HR0_1.out HB.out) | (with_reducible refine Kd.C_alloc ?_ _) | (with_reducible refine Kd.C_drewN ?_ _) | (with_reducible refine Kd.C_drew ?_))); (case side2 => exact HC0_1.out); rintro e w14 ⟨rfl, hb⟩; refine ⟨_, rfl, ?_⟩; have n0_ := aM (bB (g := gb642) (qy BK642.out) hb); have n1_ := aM (bB (g := gb643) (qy BK643.out) hb); have n2_ := aM (bP (by repeat (first | (with_reducible first | exact HB.out | apply ea | apply en | apply ed | refine es ?_ GE642.out | refine es ?_ GE643.out) | exact HB.out)) hb); clear BK642 BK643 HB; have BK642 := n0_; have BK643 := n1_; have HB := n2_; clear n0_ n1_ n2_; (try clear hb); (try clear hb2); (try clear hk); (try clear hi); have hcz15_0 : w14.cell? ⟨gb643, 0, none⟩ = some (.string a1_0) := (bC BK643.out 0).trans rfl; have hcz15_1 : w14.cell? ⟨gb643, 1, none⟩ = some (.slice A1_1 l1_1.length c1_1) := (bC BK643.out 1).trans rfl; have hfz15_0 := bF BK643.out 0; have hfz15_1 := bF BK643.out 1) | ((with_reducible refine gate_callee (f := 28) rfl ?_); refine goesL_ (some 20) rfl rfl Try.func28 (by kernel_rfl) rfl #[.agg #[.string a1_0, .slice A1_1 l1_1.length c1_1], .int .u64 a2] rfl (by (try simp only [mT, mC, mN]); first | done | rfl | (simp only [lD, lT]; rfl)) ?_; (with_reducible refine (bureauref04_View.calls k a1_0 _ _ l1_1 a2 t646 t647 _ ?side1 ?side2 A5.out).mono ?_); (case side1 => repeat (first | exact (cB_ HR1_1.out HB.out) | (with_reducible refine Kd.C_alloc ?_ _) | (with_reducible refine Kd.C_drewN ?_ _) | (with_reducible refine Kd.C_drew ?_))); (case side2 => exact HC1_1.out); rintro e w16 ⟨rfl, hb⟩; refine ⟨_, rfl, ?_⟩; have n0_ := aM (bB (g := gb642) (qy BK642.out) hb); have n1_ := aM (bB (g := gb643) (qy BK643.out) hb); have n2_ := aM (bP (by repeat (first | (with_reducible first | exact HB.out | apply ea | apply en | apply ed | refine es ?_ GE642.out | refine es ?_ GE643.out) | exact HB.out)) hb); clear BK642 BK643 HB; have BK642 := n0_; have BK643 := n1_; have HB := n2_; clear n0_ n1_ n2_; (try clear hb); (try clear hb2); (try clear hk); (try clear hi); have hcz17_0 : w16.cell? ⟨gb642, 0, none⟩ = some (.string a0_0) := (bC BK642.out 0).trans rfl; have hcz17_1 : w16.cell? ⟨gb642, 1, none⟩ = some (.slice A0_1 l0_1.length c0_1) := (bC BK642.out 1).trans rfl; have hfz17_0 := bF BK642.out 0; have hfz17_1 := bF BK642.out 1; have hcz18_0 : w16.cell? ⟨gb643, 0, none⟩ = some (.string a1_0) := (bC BK643.out 0).trans rfl; have hcz18_1 : w16.cell? ⟨gb643, 1, none⟩ = some (.slice A1_1 l1_1.length c1_1) := (bC BK643.out 1).trans rfl; have hfz18_0 := bF BK643.out 0; have hfz18_1 := bF BK643.out 1) | (go_at_call 42; (with_reducible refine (bureauref03_Same.calls k _ _ l0_1 _ _ l1_1 true _ ?side1 ?side2 ?side3 ?side4 A8.out).mono ?_); (case side1 => repeat (first | exact (cB_ HR0_1.out HB.out) | (with_reducible refine Kd.C_alloc ?_ _) | (with_reducible refine Kd.C_drewN ?_ _) | (with_reducible refine Kd.C_drew ?_))); (case side2 => exact HC0_1.out); (case side3 => repeat (first | exact (cB_ HR1_1.out HB.out) | (with_reducible refine Kd.C_alloc ?_ _) | (with_reducible refine Kd.C_drewN ?_ _) | (with_reducible refine Kd.C_drew ?_))); (case side4 => exact HC1_1.out); rintro e w' ⟨rfl, ⟨nd, rfl⟩⟩))
    go_ret
    exact ⟨by first | rfl | (simp [errW_none, errW_some] <;> rfl) | (simp [*, errW_none, errW_some] <;> rfl), by repeat (first | (with_reducible first | exact HB.out | apply ea | apply en | apply ed | refine es ?_ GE642.out | refine es ?_ GE643.out) | exact HB.out)⟩
   ·replace c9 := Bool.eq_false_iff.mpr c9
    subst c9
    have H1 : (some false) = some r := by rw [if_neg (show ¬ (false = true) by decide)] at H; exact H
    clear H
    have H := H1
    clear H1
    obtain rfl := Option.some.inj H
    go_enter Try.func17, Try.ntmps17
    go_wp2_with (first | ((with_reducible refine gate_dst (N := 3) rfl ?_); refine box_event ?hg (N := 3) ?hd (cs := #[.string a0_0, .slice A0_1 l0_1.length c0_1]) (t := 24) ?hr ?_; (case hd | hg => rfl); (case hr => first | (go_simp; done) | (go_simp; rfl)); intro gb642 hg w19 hbox hb; have n0_ := aM (bP (ey HB.out) hb); have n1_ := aM (hbox); have n2_ := aM ((by rw [hg]; exact (bZ (ey HB.out)) : w.heap.size ≤ gb642)); have n3_ := n2_; clear HB; have HB := n0_; have BK642 := n1_; have GW642 := n2_; have GE642 := n3_; clear n0_ n1_ n2_ n3_; clear hb hbox hg) | ((with_reducible refine gate_dst (N := 4) rfl ?_); refine box_event ?hg (N := 4) ?hd (cs := #[.string a1_0, .slice A1_1 l1_1.length c1_1]) (t := 24) ?hr ?_; (case hd | hg => rfl); (case hr => first | (go_simp; done) | (go_simp; rfl)); intro gb643 hg w20 hbox hb; have n0_ := aM (bB (g := gb642) (qy BK642.out) hb); have n1_ := aM (bP (by repeat (first | (with_reducible first | exact HB.out | apply ea | apply en | apply ed | refine es ?_ GE642.out) | exact HB.out)) hb); have n2_ := aM (hbox); have n3_ := aM ((by rw [hg]; exact (bZ (by repeat (first | (with_reducible first | exact HB.out | apply ea | apply en | apply ed | refine es ?_ GE642.out) | exact HB.out))) : w.heap.size ≤ gb643)); have n4_ := n3_; have n5_ := aM ((by rw [hg]; exact Nat.ne_of_lt (blk_lt (g := gb642) (qy BK642.out)) : gb642 ≠ gb643)); have n6_ := aM ((by rw [hg]; exact Nat.ne_of_gt (blk_lt (g := gb642) (qy BK642.out)) : gb643 ≠ gb642)); clear BK642 HB; have BK642 := n0_; have HB := n1_; have BK643 := n2_; have GW643 := n3_; have GE643 := n4_; have NB642_643 := n5_; have NB643_642 := n6_; clear n0_ n1_ n2_ n3_ n4_ n5_ n6_; clear hb hbox hg; have hnb21 := NB642_643.out; have hnc21 := NB643_642.out; have hcz22_0 : w20.cell? ⟨gb642, 0, none⟩ = some (.string a0_0) := (bC BK642.out 0).trans rfl; have hcz22_1 : w20.cell? ⟨gb642, 1, none⟩ = some (.slice A0_1 l0_1.length c0_1) := (bC BK642.out 1).trans rfl; have hfz22_0 := bF BK642.out 0; have hfz22_1 := bF BK642.out 1) | ((with_reducible refine gate_callee (f := 28) rfl ?_); refine goesL_ (some 14) rfl rfl Try.func28 (by kernel_rfl) rfl #[.agg #[.string a0_0, .slice A0_1 l0_1.length c0_1], .int .u64 a2] rfl (by (try simp only [mT, mC, mN]); first | done | rfl | (simp only [lD, lT]; rfl)) ?_; (with_reducible refine (bureauref04_View.calls k a0_0 _ _ l0_1 a2 t644 t645 _ ?side1 ?side2 A4.out).mono ?_); (case side1 => repeat (first | exact (cB_ HR0_1.out HB.out) | (with_reducible refine Kd.C_alloc ?_ _) | (with_reducible refine Kd.C_drewN ?_ _) | (with_reducible refine Kd.C_drew ?_))); (case side2 => exact HC0_1.out); rintro e w23 ⟨rfl, hb⟩; refine ⟨_, rfl, ?_⟩; have n0_ := aM (bB (g := gb642) (qy BK642.out) hb); have n1_ := aM (bB (g := gb643) (qy BK643.out) hb); have n2_ := aM (bP (by repeat (first | (with_reducible first | exact HB.out | apply ea | apply en | apply ed | refine es ?_ GE642.out | refine es ?_ GE643.out) | exact HB.out)) hb); clear BK642 BK643 HB; have BK642 := n0_; have BK643 := n1_; have HB := n2_; clear n0_ n1_ n2_; (try clear hb); (try clear hb2); (try clear hk); (try clear hi); have hcz24_0 : w23.cell? ⟨gb643, 0, none⟩ = some (.string a1_0) := (bC BK643.out 0).trans rfl; have hcz24_1 : w23.cell? ⟨gb643, 1, none⟩ = some (.slice A1_1 l1_1.length c1_1) := (bC BK643.out 1).trans rfl; have hfz24_0 := bF BK643.out 0; have hfz24_1 := bF BK643.out 1) | ((with_reducible refine gate_callee (f := 28) rfl ?_); refine goesL_ (some 20) rfl rfl Try.func28 (by kernel_rfl) rfl #[.agg #[.string a1_0, .slice A1_1 l1_1.length c1_1], .int .u64 a2] rfl (by (try simp only [mT, mC, mN]); first | done | rfl | (simp only [lD, lT]; rfl)) ?_; (with_reducible refine (bureauref04_View.calls k a1_0 _ _ l1_1 a2 t646 t647 _ ?side1 ?side2 A5.out).mono ?_); (case side1 => repeat (first | exact (cB_ HR1_1.out HB.out) | (with_reducible refine Kd.C_alloc ?_ _) | (with_reducible refine Kd.C_drewN ?_ _) | (with_reducible refine Kd.C_drew ?_))); (case side2 => exact HC1_1.out); rintro e w25 ⟨rfl, hb⟩; refine ⟨_, rfl, ?_⟩; have n0_ := aM (bB (g := gb642) (qy BK642.out) hb); have n1_ := aM (bB (g := gb643) (qy BK643.out) hb); have n2_ := aM (bP (by repeat (first | (with_reducible first | exact HB.out | apply ea | apply en | apply ed | refine es ?_ GE642.out | refine es ?_ GE643.out) | exact HB.out)) hb); clear BK642 BK643 HB; have BK642 := n0_; have BK643 := n1_; have HB := n2_; clear n0_ n1_ n2_; (try clear hb); (try clear hb2); (try clear hk); (try clear hi); have hcz26_0 : w25.cell? ⟨gb642, 0, none⟩ = some (.string a0_0) := (bC BK642.out 0).trans rfl; have hcz26_1 : w25.cell? ⟨gb642, 1, none⟩ = some (.slice A0_1 l0_1.length c0_1) := (bC BK642.out 1).trans rfl; have hfz26_0 := bF BK642.out 0; have hfz26_1 := bF BK642.out 1; have hcz27_0 : w25.cell? ⟨gb643, 0, none⟩ = some (.string a1_0) := (bC BK643.out 0).trans rfl; have hcz27_1 : w25.cell? ⟨gb643, 1, none⟩ = some (.slice A1_1 l1_1.length c1_1) := (bC BK643.out 1).trans rfl; have hfz27_0 := bF BK643.out 0; have hfz27_1 := bF BK643.out 1) | (go_at_call 42; (with_reducible refine (bureauref03_Same.calls k _ _ l0_1 _ _ l1_1 false _ ?side1 ?side2 ?side3 ?side4 A8.out).mono ?_); (case side1 => repeat (first | exact (cB_ HR0_1.out HB.out) | (with_reducible refine Kd.C_alloc ?_ _) | (with_reducible refine Kd.C_drewN ?_ _) | (with_reducible refine Kd.C_drew ?_))); (case side2 => exact HC0_1.out); (case side3 => repeat (first | exact (cB_ HR1_1.out HB.out) | (with_reducible refine Kd.C_alloc ?_ _) | (with_reducible refine Kd.C_drewN ?_ _) | (with_reducible refine Kd.C_drew ?_))); (case side4 => exact HC1_1.out); rintro e w' ⟨rfl, ⟨nd, rfl⟩⟩))
    go_ret
    exact ⟨by first | rfl | (simp [errW_none, errW_some] <;> rfl) | (simp [*, errW_none, errW_some] <;> rfl), by repeat (first | (with_reducible first | exact HB.out | apply ea | apply en | apply ed | refine es ?_ GE642.out | refine es ?_ GE643.out) | exact HB.out)⟩
  ·rw [if_neg c7] at H
   have c7b0 : (t647 == 0) = false := beq_eq_false_iff_ne.mpr c7
   have c7b1 : (t647 != 0) = true := bne_iff_ne.mpr c7
   obtain rfl := Option.some.inj H
   go_enter Try.func17, Try.ntmps17
   go_wp2_with (first | ((with_reducible refine gate_dst (N := 3) rfl ?_); refine box_event ?hg (N := 3) ?hd (cs := #[.string a0_0, .slice A0_1 l0_1.length c0_1]) (t := 24) ?hr ?_; (case hd | hg => rfl); (case hr => first | (go_simp; done) | (go_simp; rfl)); intro gb642 hg w28 hbox hb; have n0_ := aM (bP (ey HB.out) hb); have n1_ := aM (hbox); have n2_ := aM ((by rw [hg]; exact (bZ (ey HB.out)) : w.heap.size ≤ gb642)); have n3_ := n2_; clear HB; have HB := n0_; have BK642 := n1_; have GW642 := n2_; have GE642 := n3_; clear n0_ n1_ n2_ n3_; clear hb hbox hg) | ((with_reducible refine gate_dst (N := 4) rfl ?_); refine box_event ?hg (N := 4) ?hd (cs := #[.string a1_0, .slice A1_1 l1_1.length c1_1]) (t := 24) ?hr ?_; (case hd | hg => rfl); (case hr => first | (go_simp; done) | (go_simp; rfl)); intro gb643 hg w29 hbox hb; have n0_ := aM (bB (g := gb642) (qy BK642.out) hb); have n1_ := aM (bP (by repeat (first | (with_reducible first | exact HB.out | apply ea | apply en | apply ed | refine es ?_ GE642.out) | exact HB.out)) hb); have n2_ := aM (hbox); have n3_ := aM ((by rw [hg]; exact (bZ (by repeat (first | (with_reducible first | exact HB.out | apply ea | apply en | apply ed | refine es ?_ GE642.out) | exact HB.out))) : w.heap.size ≤ gb643)); have n4_ := n3_; have n5_ := aM ((by rw [hg]; exact Nat.ne_of_lt (blk_lt (g := gb642) (qy BK642.out)) : gb642 ≠ gb643)); have n6_ := aM ((by rw [hg]; exact Nat.ne_of_gt (blk_lt (g := gb642) (qy BK642.out)) : gb643 ≠ gb642)); clear BK642 HB; have BK642 := n0_; have HB := n1_; have BK643 := n2_; have GW643 := n3_; have GE643 := n4_; have NB642_643 := n5_; have NB643_642 := n6_; clear n0_ n1_ n2_ n3_ n4_ n5_ n6_; clear hb hbox hg; have hnb30 := NB642_643.out; have hnc30 := NB643_642.out; have hcz31_0 : w29.cell? ⟨gb642, 0, none⟩ = some (.string a0_0) := (bC BK642.out 0).trans rfl; have hcz31_1 : w29.cell? ⟨gb642, 1, none⟩ = some (.slice A0_1 l0_1.length c0_1) := (bC BK642.out 1).trans rfl; have hfz31_0 := bF BK642.out 0; have hfz31_1 := bF BK642.out 1) | ((with_reducible refine gate_callee (f := 28) rfl ?_); refine goesL_ (some 14) rfl rfl Try.func28 (by kernel_rfl) rfl #[.agg #[.string a0_0, .slice A0_1 l0_1.length c0_1], .int .u64 a2] rfl (by (try simp only [mT, mC, mN]); first | done | rfl | (simp only [lD, lT]; rfl)) ?_; (with_reducible refine (bureauref04_View.calls k a0_0 _ _ l0_1 a2 t644 t645 _ ?side1 ?side2 A4.out).mono ?_); (case side1 => repeat (first | exact (cB_ HR0_1.out HB.out) | (with_reducible refine Kd.C_alloc ?_ _) | (with_reducible refine Kd.C_drewN ?_ _) | (with_reducible refine Kd.C_drew ?_))); (case side2 => exact HC0_1.out); rintro e w32 ⟨rfl, hb⟩; refine ⟨_, rfl, ?_⟩; have n0_ := aM (bB (g := gb642) (qy BK642.out) hb); have n1_ := aM (bB (g := gb643) (qy BK643.out) hb); have n2_ := aM (bP (by repeat (first | (with_reducible first | exact HB.out | apply ea | apply en | apply ed | refine es ?_ GE642.out | refine es ?_ GE643.out) | exact HB.out)) hb); clear BK642 BK643 HB; have BK642 := n0_; have BK643 := n1_; have HB := n2_; clear n0_ n1_ n2_; (try clear hb); (try clear hb2); (try clear hk); (try clear hi); have hcz33_0 : w32.cell? ⟨gb643, 0, none⟩ = some (.string a1_0) := (bC BK643.out 0).trans rfl; have hcz33_1 : w32.cell? ⟨gb643, 1, none⟩ = some (.slice A1_1 l1_1.length c1_1) := (bC BK643.out 1).trans rfl; have hfz33_0 := bF BK643.out 0; have hfz33_1 := bF BK643.out 1) | ((with_reducible refine gate_callee (f := 28) rfl ?_); refine goesL_ (some 20) rfl rfl Try.func28 (by kernel_rfl) rfl #[.agg #[.string a1_0, .slice A1_1 l1_1.length c1_1], .int .u64 a2] rfl (by (try simp only [mT, mC, mN]); first | done | rfl | (simp only [lD, lT]; rfl)) ?_; (with_reducible refine (bureauref04_View.calls k a1_0 _ _ l1_1 a2 t646 t647 _ ?side1 ?side2 A5.out).mono ?_); (case side1 => repeat (first | exact (cB_ HR1_1.out HB.out) | (with_reducible refine Kd.C_alloc ?_ _) | (with_reducible refine Kd.C_drewN ?_ _) | (with_reducible refine Kd.C_drew ?_))); (case side2 => exact HC1_1.out); rintro e w34 ⟨rfl, hb⟩; refine ⟨_, rfl, ?_⟩; have n0_ := aM (bB (g := gb642) (qy BK642.out) hb); have n1_ := aM (bB (g := gb643) (qy BK643.out) hb); have n2_ := aM (bP (by repeat (first | (with_reducible first | exact HB.out | apply ea | apply en | apply ed | refine es ?_ GE642.out | refine es ?_ GE643.out) | exact HB.out)) hb); clear BK642 BK643 HB; have BK642 := n0_; have BK643 := n1_; have HB := n2_; clear n0_ n1_ n2_; (try clear hb); (try clear hb2); (try clear hk); (try clear hi)))
   go_ret
   exact ⟨by first | rfl | (simp [errW_none, errW_some] <;> rfl) | (simp [*, errW_none, errW_some] <;> rfl), by repeat (first | (with_reducible first | exact HB.out | apply ea | apply en | apply ed | refine es ?_ GE642.out | refine es ?_ GE643.out) | exact HB.out)⟩
 ·rw [if_neg c6] at H
  have c6b0 : (t645 == 0) = false := beq_eq_false_iff_ne.mpr c6
  have c6b1 : (t645 != 0) = true := bne_iff_ne.mpr c6
  obtain rfl := Option.some.inj H
  go_enter Try.func17, Try.ntmps17
  go_wp2_with (first | ((with_reducible refine gate_dst (N := 3) rfl ?_); refine box_event ?hg (N := 3) ?hd (cs := #[.string a0_0, .slice A0_1 l0_1.length c0_1]) (t := 24) ?hr ?_; (case hd | hg => rfl); (case hr => first | (go_simp; done) | (go_simp; rfl)); intro gb642 hg w35 hbox hb; have n0_ := aM (bP (ey HB.out) hb); have n1_ := aM (hbox); have n2_ := aM ((by rw [hg]; exact (bZ (ey HB.out)) : w.heap.size ≤ gb642)); have n3_ := n2_; clear HB; have HB := n0_; have BK642 := n1_; have GW642 := n2_; have GE642 := n3_; clear n0_ n1_ n2_ n3_; clear hb hbox hg) | ((with_reducible refine gate_dst (N := 4) rfl ?_); refine box_event ?hg (N := 4) ?hd (cs := #[.string a1_0, .slice A1_1 l1_1.length c1_1]) (t := 24) ?hr ?_; (case hd | hg => rfl); (case hr => first | (go_simp; done) | (go_simp; rfl)); intro gb643 hg w36 hbox hb; have n0_ := aM (bB (g := gb642) (qy BK642.out) hb); have n1_ := aM (bP (by repeat (first | (with_reducible first | exact HB.out | apply ea | apply en | apply ed | refine es ?_ GE642.out) | exact HB.out)) hb); have n2_ := aM (hbox); have n3_ := aM ((by rw [hg]; exact (bZ (by repeat (first | (with_reducible first | exact HB.out | apply ea | apply en | apply ed | refine es ?_ GE642.out) | exact HB.out))) : w.heap.size ≤ gb643)); have n4_ := n3_; have n5_ := aM ((by rw [hg]; exact Nat.ne_of_lt (blk_lt (g := gb642) (qy BK642.out)) : gb642 ≠ gb643)); have n6_ := aM ((by rw [hg]; exact Nat.ne_of_gt (blk_lt (g := gb642) (qy BK642.out)) : gb643 ≠ gb642)); clear BK642 HB; have BK642 := n0_; have HB := n1_; have BK643 := n2_; have GW643 := n3_; have GE643 := n4_; have NB642_643 := n5_; have NB643_642 := n6_; clear n0_ n1_ n2_ n3_ n4_ n5_ n6_; clear hb hbox hg; have hnb37 := NB642_643.out; have hnc37 := NB643_642.out; have hcz38_0 : w36.cell? ⟨gb642, 0, none⟩ = some (.string a0_0) := (bC BK642.out 0).trans rfl; have hcz38_1 : w36.cell? ⟨gb642, 1, none⟩ = some (.slice A0_1 l0_1.length c0_1) := (bC BK642.out 1).trans rfl; have hfz38_0 := bF BK642.out 0; have hfz38_1 := bF BK642.out 1) | ((with_reducible refine gate_callee (f := 28) rfl ?_); refine goesL_ (some 14) rfl rfl Try.func28 (by kernel_rfl) rfl #[.agg #[.string a0_0, .slice A0_1 l0_1.length c0_1], .int .u64 a2] rfl (by (try simp only [mT, mC, mN]); first | done | rfl | (simp only [lD, lT]; rfl)) ?_; (with_reducible refine (bureauref04_View.calls k a0_0 _ _ l0_1 a2 t644 t645 _ ?side1 ?side2 A4.out).mono ?_); (case side1 => repeat (first | exact (cB_ HR0_1.out HB.out) | (with_reducible refine Kd.C_alloc ?_ _) | (with_reducible refine Kd.C_drewN ?_ _) | (with_reducible refine Kd.C_drew ?_))); (case side2 => exact HC0_1.out); rintro e w39 ⟨rfl, hb⟩; refine ⟨_, rfl, ?_⟩; have n0_ := aM (bB (g := gb642) (qy BK642.out) hb); have n1_ := aM (bB (g := gb643) (qy BK643.out) hb); have n2_ := aM (bP (by repeat (first | (with_reducible first | exact HB.out | apply ea | apply en | apply ed | refine es ?_ GE642.out | refine es ?_ GE643.out) | exact HB.out)) hb); clear BK642 BK643 HB; have BK642 := n0_; have BK643 := n1_; have HB := n2_; clear n0_ n1_ n2_; (try clear hb); (try clear hb2); (try clear hk); (try clear hi); have hcz40_0 : w39.cell? ⟨gb643, 0, none⟩ = some (.string a1_0) := (bC BK643.out 0).trans rfl; have hcz40_1 : w39.cell? ⟨gb643, 1, none⟩ = some (.slice A1_1 l1_1.length c1_1) := (bC BK643.out 1).trans rfl; have hfz40_0 := bF BK643.out 0; have hfz40_1 := bF BK643.out 1) | ((with_reducible refine gate_callee (f := 28) rfl ?_); refine goesL_ (some 20) rfl rfl Try.func28 (by kernel_rfl) rfl #[.agg #[.string a1_0, .slice A1_1 l1_1.length c1_1], .int .u64 a2] rfl (by (try simp only [mT, mC, mN]); first | done | rfl | (simp only [lD, lT]; rfl)) ?_; (with_reducible refine (bureauref04_View.calls k a1_0 _ _ l1_1 a2 t646 t647 _ ?side1 ?side2 A5.out).mono ?_); (case side1 => repeat (first | exact (cB_ HR1_1.out HB.out) | (with_reducible refine Kd.C_alloc ?_ _) | (with_reducible refine Kd.C_drewN ?_ _) | (with_reducible refine Kd.C_drew ?_))); (case side2 => exact HC1_1.out); rintro e w41 ⟨rfl, hb⟩; refine ⟨_, rfl, ?_⟩; have n0_ := aM (bB (g := gb642) (qy BK642.out) hb); have n1_ := aM (bB (g := gb643) (qy BK643.out) hb); have n2_ := aM (bP (by repeat (first | (with_reducible first | exact HB.out | apply ea | apply en | apply ed | refine es ?_ GE642.out | refine es ?_ GE643.out) | exact HB.out)) hb); clear BK642 BK643 HB; have BK642 := n0_; have BK643 := n1_; have HB := n2_; clear n0_ n1_ n2_; (try clear hb); (try clear hb2); (try clear hk); (try clear hi)))
  go_ret
  exact ⟨by first | rfl | (simp [errW_none, errW_some] <;> rfl) | (simp [*, errW_none, errW_some] <;> rfl), by repeat (first | (with_reducible first | exact HB.out | apply ea | apply en | apply ed | refine es ?_ GE642.out | refine es ?_ GE643.out) | exact HB.out)⟩
end Go.Proofs.Ytnbdldpjiofafaa.PB
end
