/- What the row hangs on, part 5. -/
import Derived.Test.YtbbgpfjeobdogaaQHistActs4
section
namespace Go.Proofs.Ytbbgpfjeobdogaa.PB
open Go.RowKit Go.Proofs.YtbbgpfjeobdogaaW.PrintWords Go.Proofs.YtbbgpfjeobdogaaW.PrintLast Go.Proofs.YtbbgpfjeobdogaaW.PrintMore
attribute [local go_sem] max2_int min2_int max_two min_two max_three min_three max_four min_four   
set_option linter.unusedVariables false
set_option linter.unusedSimpArgs false
def bureauref08_Undo.f (k : Nat) (l0_0 : List (S76)) (a0_1 : Int) (a0_2 : Int) (a0_3 : Int) : Option ((List (S76)) × Int × Int × Int × Int × ByteArray × (List (S71)) × ByteArray × (List (S71)) × Int) := (bureauref08_find.f k l0_0 a0_1 a0_2 a0_3 a0_1).bind fun bt208 => (if bt208.2.1 < 0 then (some (l0_0, a0_1, a0_2, a0_3, 0, (⟨#[]⟩ : ByteArray), ([] : List (S71)), (⟨#[]⟩ : ByteArray), ([] : List (S71)), 6)) else ((bureauref07_Invert.f bt208.2.2.1 bt208.2.2.2.1 bt208.2.2.2.2.1 bt208.2.2.2.2.2.1 bt208.2.2.2.2.2.2.1).bind fun bt221 => (some (l0_0, bt208.2.1, a0_2, a0_3, bt221.1, bt221.2.1, bt221.2.2.1, bt221.2.2.2.1, bt221.2.2.2.2, 0))))
set_option maxHeartbeats 8000000 in
set_option maxRecDepth 100000 in
theorem bureauref08_Undo.calls (k : Nat) (P0_0_ : Nat → Prop) (A0_0 : Option Addr) (c0_0 : Nat) (l0_0 : List (S76)) (a0_1 : Int) (a0_2 : Int) (a0_3 : Int) (r1 : List (S76)) (r2 : Int) (r3 : Int) (r4 : Int) (r5 : Int) (r6 : ByteArray) (r7 : List (S71)) (r8 : ByteArray) (r9 : List (S71)) (r10 : Int) (w : World) (hs0_0 : Kd.V k76 76 w w.heap.size (fun k_ => P0_0_ k_) (.slice A0_0 l0_0.length c0_0) l0_0) (h : bureauref08_Undo.f k l0_0 a0_1 a0_2 a0_3 = some (r1, r2, r3, r4, r5, r6, r7, r8, r9, r10)) :
  Calls Try.prog 13 #[.agg #[.slice A0_0 l0_0.length c0_0, .int .i64 a0_1, .int .i64 a0_2, .int .i64 a0_3]] w fun e w' => ∃ v0_ v6_ v8_ : Value, e = .returned (.tuple #[.agg #[v0_, .int .i64 r2, .int .i64 r3, .int .i64 r4], .agg #[.int .i64 r5, .string r6, v6_, .string r8, v8_], .int .i64 r10]) ∧ Kd.V k76 76 w' w.heap.size (fun k_ => (P0_0_ k_ ∨ w.heap.size ≤ k_)) v0_ r1 ∧ Kd.V k71 71 w' w.heap.size (fun k_ => (P0_0_ k_ ∨ w.heap.size ≤ k_)) v6_ r7 ∧ Kd.V k71 71 w' w.heap.size (fun k_ => (P0_0_ k_ ∨ w.heap.size ≤ k_)) v8_ r9 ∧ Below w.heap.size w w' := by
 have hu28 := Try.underlying28
 have hu34 := Try.underlying34
 have hu76 := Try.underlying76
 have HO0_0 := aM (show Kd.V k76 76 w w.heap.size (fun k_ => (P0_0_ k_ ∨ w.heap.size ≤ k_)) (.slice A0_0 l0_0.length c0_0) l0_0 from Kd.V_mono hs0_0 (fun k_ hk => .inl hk))
 have HB := aM (Below.refl w.heap.size w)
 have H : ((bureauref08_find.f k l0_0 a0_1 a0_2 a0_3 a0_1).bind fun bt208 => (if bt208.2.1 < 0 then (some (l0_0, a0_1, a0_2, a0_3, 0, (⟨#[]⟩ : ByteArray), ([] : List (S71)), (⟨#[]⟩ : ByteArray), ([] : List (S71)), 6)) else ((bureauref07_Invert.f bt208.2.2.1 bt208.2.2.2.1 bt208.2.2.2.2.1 bt208.2.2.2.2.2.1 bt208.2.2.2.2.2.2.1).bind fun bt221 => (some (l0_0, bt208.2.1, a0_2, a0_3, bt221.1, bt221.2.1, bt221.2.2.1, bt221.2.2.2.1, bt221.2.2.2.2, 0))))) = some (r1, r2, r3, r4, r5, r6, r7, r8, r9, r10) := h
 clear h
 replace H := Option.bind_eq_some_iff.mp H
 obtain ⟨⟨t208, t209, t210, t211, t212, t215, t216, t219⟩, A20, H⟩ := H
 replace H : (if t209 < 0 then (some (l0_0, a0_1, a0_2, a0_3, 0, (⟨#[]⟩ : ByteArray), ([] : List (S71)), (⟨#[]⟩ : ByteArray), ([] : List (S71)), 6)) else ((bureauref07_Invert.f t210 t211 t212 t215 t216).bind fun bt221 => (some (l0_0, t209, a0_2, a0_3, bt221.1, bt221.2.1, bt221.2.2.1, bt221.2.2.2.1, bt221.2.2.2.2, 0)))) = some (r1, r2, r3, r4, r5, r6, r7, r8, r9, r10) := H
 have A2 := aM A20
 clear A20
 by_cases c3 : t209 < 0
 ·rw [if_pos c3] at H
  have c3b0 : decide (t209 < 0) = true := decide_eq_true c3
  clear c3
  simp only [Option.some.injEq, Prod.mk.injEq] at H
  obtain ⟨rfl, rfl, rfl, rfl, rfl, rfl, rfl, rfl, rfl, rfl⟩ := H
  go_enter Try.func13, Try.ntmps13
  go_wp2_with (first | ((with_reducible refine gate_dst (N := 1) rfl ?_); refine box_event ?hg (N := 1) ?hd (cs := #[.slice A0_0 l0_0.length c0_0, .int .i64 a0_1, .int .i64 a0_2, .int .i64 a0_3]) (t := 28) ?hr ?_; (case hd | hg => rfl); (case hr => first | (go_simp; done) | (go_simp; rfl)); intro gb205 hg w4 hbox hb; have n0_ := aM (Kd.V_below (Kd.V_elderB (by (with_reducible repeat (first | apply va | apply vn | apply vd)); exact HO0_0.out) gb205 (Nat.le_of_eq hg.symm)) hb); have n1_ := aM (bP (ey HB.out) hb); have n2_ := aM (hbox); have n3_ := aM ((by rw [hg]; exact (bZ (ey HB.out)) : w.heap.size ≤ gb205)); have n4_ := n3_; clear HO0_0 HB; have HO0_0 := n0_; have HB := n1_; have BK205 := n2_; have GW205 := n3_; have GE205 := n4_; clear n0_ n1_ n2_ n3_ n4_; clear hb hbox hg) | ((with_reducible refine gate_dst (N := 2) rfl ?_); refine box_event ?hg (N := 2) ?hd (cs := #[.slice none 0 0, .int .i64 0, .int .i64 0, .int .i64 0]) (t := 28) ?hr ?_; (case hd | hg => rfl); (case hr => first | (go_simp; done) | (go_simp; rfl)); intro gb206 hg w5 hbox hb; have n0_ := aM (Kd.V_below (Kd.V_elderB (by (with_reducible repeat (first | apply va | apply vn | apply vd)); exact HO0_0.out) gb206 (Nat.le_of_eq hg.symm)) hb); have n1_ := aM (bB (g := gb205) (qy BK205.out) hb); have n2_ := aM (bP (by repeat (first | (with_reducible first | exact HB.out | apply ea | apply en | apply ed | refine es ?_ GE205.out) | exact HB.out)) hb); have n3_ := aM (hbox); have n4_ := aM ((by rw [hg]; exact (bZ (by repeat (first | (with_reducible first | exact HB.out | apply ea | apply en | apply ed | refine es ?_ GE205.out) | exact HB.out))) : w.heap.size ≤ gb206)); have n5_ := n4_; have n6_ := aM ((by rw [hg]; exact Nat.ne_of_lt (blk_lt (g := gb205) (qy BK205.out)) : gb205 ≠ gb206)); have n7_ := aM ((by rw [hg]; exact Nat.ne_of_gt (blk_lt (g := gb205) (qy BK205.out)) : gb206 ≠ gb205)); clear HO0_0 BK205 HB; have HO0_0 := n0_; have BK205 := n1_; have HB := n2_; have BK206 := n3_; have GW206 := n4_; have GE206 := n5_; have NB205_206 := n6_; have NB206_205 := n7_; clear n0_ n1_ n2_ n3_ n4_ n5_ n6_ n7_; clear hb hbox hg) | ((with_reducible refine gate_dst (N := 3) rfl ?_); refine box_event ?hg (N := 3) ?hd (cs := #[.int .i64 0, .string (⟨#[]⟩ : ByteArray), .slice none 0 0, .string (⟨#[]⟩ : ByteArray), .slice none 0 0]) (t := 34) ?hr ?_; (case hd | hg => rfl); (case hr => first | (go_simp; done) | (go_simp; rfl)); intro gb207 hg w6 hbox hb; have n0_ := aM (Kd.V_below (Kd.V_elderB (by (with_reducible repeat (first | apply va | apply vn | apply vd)); exact HO0_0.out) gb207 (Nat.le_of_eq hg.symm)) hb); have n1_ := aM (bB (g := gb205) (qy BK205.out) hb); have n2_ := aM (bB (g := gb206) (qy BK206.out) hb); have n3_ := aM (bP (by repeat (first | (with_reducible first | exact HB.out | apply ea | apply en | apply ed | refine es ?_ GE205.out | refine es ?_ GE206.out) | exact HB.out)) hb); have n4_ := aM (hbox); have n5_ := aM ((by rw [hg]; exact (bZ (by repeat (first | (with_reducible first | exact HB.out | apply ea | apply en | apply ed | refine es ?_ GE205.out | refine es ?_ GE206.out) | exact HB.out))) : w.heap.size ≤ gb207)); have n6_ := n5_; have n7_ := aM ((by rw [hg]; exact Nat.ne_of_lt (blk_lt (g := gb205) (qy BK205.out)) : gb205 ≠ gb207)); have n8_ := aM ((by rw [hg]; exact Nat.ne_of_gt (blk_lt (g := gb205) (qy BK205.out)) : gb207 ≠ gb205)); have n9_ := aM ((by rw [hg]; exact Nat.ne_of_lt (blk_lt (g := gb206) (qy BK206.out)) : gb206 ≠ gb207)); have n10_ := aM ((by rw [hg]; exact Nat.ne_of_gt (blk_lt (g := gb206) (qy BK206.out)) : gb207 ≠ gb206)); clear HO0_0 BK205 BK206 HB; have HO0_0 := n0_; have BK205 := n1_; have BK206 := n2_; have HB := n3_; have BK207 := n4_; have GW207 := n5_; have GE207 := n6_; have NB205_207 := n7_; have NB207_205 := n8_; have NB206_207 := n9_; have NB207_206 := n10_; clear n0_ n1_ n2_ n3_ n4_ n5_ n6_ n7_ n8_ n9_ n10_; clear hb hbox hg; have hnb7 := NB205_206.out; have hnc7 := NB206_205.out; have hnb8 := NB205_207.out; have hnc8 := NB207_205.out; have hcz9_0 := zC BK205.out 0 (.slice A0_0 l0_0.length c0_0); have hcz9_1 := zC BK205.out 1 (.int .i64 a0_1); have hcz9_2 := zC BK205.out 2 (.int .i64 a0_2); have hcz9_3 := zC BK205.out 3 (.int .i64 a0_3); have hfz9_0 := bF BK205.out 0; have hfz9_1 := bF BK205.out 1; have hfz9_2 := bF BK205.out 2; have hfz9_3 := bF BK205.out 3) | ((with_reducible refine gate_callee (f := 33) rfl ?_); refine goesL_ (some 11) rfl rfl Try.func33 (by kernel_rfl) rfl #[.agg #[.slice A0_0 l0_0.length c0_0, .int .i64 a0_1, .int .i64 a0_2, .int .i64 a0_3], .int .i64 a0_1] rfl (by (try simp only [mT, mC, mN]); first | done | rfl | (simp only [lD, lT]; rfl)) ?_; (with_reducible refine (bureauref08_find.calls k (fun k_ => ((((P0_0_ k_ ∨ w.heap.size ≤ k_) ∧ k_ ≠ gb205) ∧ k_ ≠ gb206) ∧ k_ ≠ gb207)) _ _ l0_0 a0_1 a0_2 a0_3 a0_1 t208 t209 t210 t211 t212 t215 t216 t219 _ ?side1 A2.out).mono ?_); (case side1 => exact HO0_0.out); rintro e w10 ⟨v213, v217, rfl, ho0, ho1, hb⟩; refine ⟨_, rfl, ?_⟩; have n0_ := aM (Kd.V_below (by (with_reducible repeat (first | apply va | apply vn | apply vd)); exact HO0_0.out) hb); have n1_ := aM (Kd.V_lower (Kd.V_mono (ok' := fun k_ => (P0_0_ k_ ∨ w.heap.size ≤ k_) ∧ k_ ≠ gb205 ∧ k_ ≠ gb206 ∧ k_ ≠ gb207) ho0 (fun k_ hk_ => ⟨Or.elim hk_ (fun hs_ => hs_.1.1.1) (fun hn_ => (.inr (Nat.le_trans (bZ (by repeat (first | (with_reducible first | exact HB.out | apply ea | apply en | apply ed | refine es ?_ GE205.out | refine es ?_ GE206.out | refine es ?_ GE207.out) | exact HB.out))) hn_))), Or.elim hk_ (fun hs_ => hs_.1.1.2) (fun hn_ => (Kd.freshB (g := gb205) (qy BK205.out) k_ hn_)), Or.elim hk_ (fun hs_ => hs_.1.2) (fun hn_ => (Kd.freshB (g := gb206) (qy BK206.out) k_ hn_)), Or.elim hk_ (fun hs_ => hs_.2) (fun hn_ => (Kd.freshB (g := gb207) (qy BK207.out) k_ hn_))⟩)) (bZ (by repeat (first | (with_reducible first | exact HB.out | apply ea | apply en | apply ed | refine es ?_ GE205.out | refine es ?_ GE206.out | refine es ?_ GE207.out) | exact HB.out)))); have n2_ := aM (Kd.V_lower (Kd.V_mono (ok' := fun k_ => (P0_0_ k_ ∨ w.heap.size ≤ k_) ∧ k_ ≠ gb205 ∧ k_ ≠ gb206 ∧ k_ ≠ gb207) ho1 (fun k_ hk_ => ⟨Or.elim hk_ (fun hs_ => hs_.1.1.1) (fun hn_ => (.inr (Nat.le_trans (bZ (by repeat (first | (with_reducible first | exact HB.out | apply ea | apply en | apply ed | refine es ?_ GE205.out | refine es ?_ GE206.out | refine es ?_ GE207.out) | exact HB.out))) hn_))), Or.elim hk_ (fun hs_ => hs_.1.1.2) (fun hn_ => (Kd.freshB (g := gb205) (qy BK205.out) k_ hn_)), Or.elim hk_ (fun hs_ => hs_.1.2) (fun hn_ => (Kd.freshB (g := gb206) (qy BK206.out) k_ hn_)), Or.elim hk_ (fun hs_ => hs_.2) (fun hn_ => (Kd.freshB (g := gb207) (qy BK207.out) k_ hn_))⟩)) (bZ (by repeat (first | (with_reducible first | exact HB.out | apply ea | apply en | apply ed | refine es ?_ GE205.out | refine es ?_ GE206.out | refine es ?_ GE207.out) | exact HB.out)))); have n3_ := aM (bB (g := gb205) (qy BK205.out) hb); have n4_ := aM (bB (g := gb206) (qy BK206.out) hb); have n5_ := aM (bB (g := gb207) (qy BK207.out) hb); have n6_ := aM (bP (by repeat (first | (with_reducible first | exact HB.out | apply ea | apply en | apply ed | refine es ?_ GE205.out | refine es ?_ GE206.out | refine es ?_ GE207.out) | exact HB.out)) hb); clear HO0_0 BK205 BK206 BK207 HB; have HO0_0 := n0_; have HO214 := n1_; have HO218 := n2_; have BK205 := n3_; have BK206 := n4_; have BK207 := n5_; have HB := n6_; clear n0_ n1_ n2_ n3_ n4_ n5_ n6_; (try clear hb); (try clear hb2); (try clear hk); (try clear hi); (try clear ho0); (try clear ho1)) | ((with_reducible refine gate_dst (N := 5) rfl ?_); refine box_event ?hg (N := 5) ?hd (cs := #[.int .i64 0, .int .i64 0, .int .i64 0, .string (⟨#[]⟩ : ByteArray), .slice none 0 0, .string (⟨#[]⟩ : ByteArray), .slice none 0 0]) (t := 76) ?hr ?_; (case hd | hg => rfl); (case hr => first | (go_simp; done) | (go_simp; rfl)); intro gb220 hg w11 hbox hb; have n0_ := aM (Kd.V_below (Kd.V_elderB (by (with_reducible repeat (first | apply va | apply vn | apply vd)); exact HO0_0.out) gb220 (Nat.le_of_eq hg.symm)) hb); have n1_ := aM (Kd.V_below (Kd.V_elderB (by (with_reducible repeat (first | apply va | apply vn | apply vd)); exact HO214.out) gb220 (Nat.le_of_eq hg.symm)) hb); have n2_ := aM (Kd.V_below (Kd.V_elderB (by (with_reducible repeat (first | apply va | apply vn | apply vd)); exact HO218.out) gb220 (Nat.le_of_eq hg.symm)) hb); have n3_ := aM (bB (g := gb205) (qy BK205.out) hb); have n4_ := aM (bB (g := gb206) (qy BK206.out) hb); have n5_ := aM (bB (g := gb207) (qy BK207.out) hb); have n6_ := aM (bP (by repeat (first | (with_reducible first | exact HB.out | apply ea | apply en | apply ed | refine es ?_ GE205.out | refine es ?_ GE206.out | refine es ?_ GE207.out) | exact HB.out)) hb); have n7_ := aM (hbox); have n8_ := aM ((by rw [hg]; exact (bZ (by repeat (first | (with_reducible first | exact HB.out | apply ea | apply en | apply ed | refine es ?_ GE205.out | refine es ?_ GE206.out | refine es ?_ GE207.out) | exact HB.out))) : w.heap.size ≤ gb220)); have n9_ := n8_; have n10_ := aM ((by rw [hg]; exact Nat.ne_of_lt (blk_lt (g := gb205) (qy BK205.out)) : gb205 ≠ gb220)); have n11_ := aM ((by rw [hg]; exact Nat.ne_of_gt (blk_lt (g := gb205) (qy BK205.out)) : gb220 ≠ gb205)); have n12_ := aM ((by rw [hg]; exact Nat.ne_of_lt (blk_lt (g := gb206) (qy BK206.out)) : gb206 ≠ gb220)); have n13_ := aM ((by rw [hg]; exact Nat.ne_of_gt (blk_lt (g := gb206) (qy BK206.out)) : gb220 ≠ gb206)); have n14_ := aM ((by rw [hg]; exact Nat.ne_of_lt (blk_lt (g := gb207) (qy BK207.out)) : gb207 ≠ gb220)); have n15_ := aM ((by rw [hg]; exact Nat.ne_of_gt (blk_lt (g := gb207) (qy BK207.out)) : gb220 ≠ gb207)); clear HO0_0 HO214 HO218 BK205 BK206 BK207 HB; have HO0_0 := n0_; have HO214 := n1_; have HO218 := n2_; have BK205 := n3_; have BK206 := n4_; have BK207 := n5_; have HB := n6_; have BK220 := n7_; have GW220 := n8_; have GE220 := n9_; have NB205_220 := n10_; have NB220_205 := n11_; have NB206_220 := n12_; have NB220_206 := n13_; have NB207_220 := n14_; have NB220_207 := n15_; clear n0_ n1_ n2_ n3_ n4_ n5_ n6_ n7_ n8_ n9_ n10_ n11_ n12_ n13_ n14_ n15_; clear hb hbox hg; have hnb12 := NB220_205.out; have hnc12 := NB205_220.out; have hnb13 := NB220_206.out; have hnc13 := NB206_220.out; have hnb14 := NB220_207.out; have hnc14 := NB207_220.out; have hcz15_0 := zC BK220.out 0 (.int .i64 0); have hcz15_1 := zC BK220.out 1 (.int .i64 0); have hcz15_2 := zC BK220.out 2 (.int .i64 0); have hcz15_3 := zC BK220.out 3 (.string (⟨#[]⟩ : ByteArray)); have hcz15_4 := zC BK220.out 4 (.slice none 0 0); have hcz15_5 := zC BK220.out 5 (.string (⟨#[]⟩ : ByteArray)); have hcz15_6 := zC BK220.out 6 (.slice none 0 0); have hfz15_0 := bF BK220.out 0; have hfz15_1 := bF BK220.out 1; have hfz15_2 := bF BK220.out 2; have hfz15_3 := bF BK220.out 3; have hfz15_4 := bF BK220.out 4; have hfz15_5 := bF BK220.out 5; have hfz15_6 := bF BK220.out 6; obtain ⟨Ao16, co16, eo16⟩ := Kd.V_slice HO214.out; subst eo16; obtain ⟨Ao17, co17, eo17⟩ := Kd.V_slice HO218.out; subst eo17; have hcz18_0 := zC BK205.out 0 (.slice A0_0 l0_0.length c0_0); have hcz18_1 := zC BK205.out 1 (.int .i64 a0_1); have hcz18_2 := zC BK205.out 2 (.int .i64 a0_2); have hcz18_3 := zC BK205.out 3 (.int .i64 a0_3); have hfz18_0 := bF BK205.out 0; have hfz18_1 := bF BK205.out 1; have hfz18_2 := bF BK205.out 2; have hfz18_3 := bF BK205.out 3; have hnb19 := NB206_207.out; have hnc19 := NB207_206.out; have hcz20_0 := zC BK206.out 0 (.slice none 0 0); have hcz20_1 := zC BK206.out 1 (.int .i64 0); have hcz20_2 := zC BK206.out 2 (.int .i64 0); have hcz20_3 := zC BK206.out 3 (.int .i64 0); have hfz20_0 := bF BK206.out 0; have hfz20_1 := bF BK206.out 1; have hfz20_2 := bF BK206.out 2; have hfz20_3 := bF BK206.out 3; have hcz21_0 := zC BK207.out 0 (.int .i64 0); have hcz21_1 := zC BK207.out 1 (.string (⟨#[]⟩ : ByteArray)); have hcz21_2 := zC BK207.out 2 (.slice none 0 0); have hcz21_3 := zC BK207.out 3 (.string (⟨#[]⟩ : ByteArray)); have hcz21_4 := zC BK207.out 4 (.slice none 0 0); have hfz21_0 := bF BK207.out 0; have hfz21_1 := bF BK207.out 1; have hfz21_2 := bF BK207.out 2; have hfz21_3 := bF BK207.out 3; have hfz21_4 := bF BK207.out 4))
  refine bodyPost_ret (results_list (rs := [.cell 2 28, .cell 3 34, .tmp 4]) rfl (by simp) (.cell gb206 28 #[.slice A0_0 l0_0.length c0_0, .int .i64 a0_1, .int .i64 a0_2, .int .i64 a0_3] (0, 0) _ rfl (by (with_reducible repeat (first | apply qn | apply qd | apply qa)); refine bR ?_ NB206_207.out _; (with_reducible repeat (first | apply qn | apply qd | apply qa)); refine bR ?_ NB206_207.out _; (with_reducible repeat (first | apply qn | apply qd | apply qa)); refine bR ?_ NB206_207.out _; (with_reducible repeat (first | apply qn | apply qd | apply qa)); refine bR ?_ NB206_207.out _; (with_reducible repeat (first | apply qn | apply qd | apply qa)); refine bR ?_ NB206_207.out _; (with_reducible repeat (first | apply qn | apply qd | apply qa)); refine bU (cs := #[.slice A0_0 l0_0.length c0_0, .int .i64 a0_1, .int .i64 a0_2, .int .i64 0]) ?_ 3 _ rfl; (with_reducible repeat (first | apply qn | apply qd | apply qa)); refine bU (cs := #[.slice A0_0 l0_0.length c0_0, .int .i64 a0_1, .int .i64 0, .int .i64 0]) ?_ 2 _ rfl; (with_reducible repeat (first | apply qn | apply qd | apply qa)); refine bU (cs := #[.slice A0_0 l0_0.length c0_0, .int .i64 0, .int .i64 0, .int .i64 0]) ?_ 1 _ rfl; (with_reducible repeat (first | apply qn | apply qd | apply qa)); refine bU (cs := #[.slice none 0 0, .int .i64 0, .int .i64 0, .int .i64 0]) ?_ 0 _ rfl; (with_reducible repeat (first | apply qn | apply qd | apply qa)); refine bR ?_ NB206_220.out _; (with_reducible repeat (first | apply qn | apply qd | apply qa)); refine bR ?_ NB206_220.out _; (with_reducible repeat (first | apply qn | apply qd | apply qa)); refine bR ?_ NB206_220.out _; (with_reducible repeat (first | apply qn | apply qd | apply qa)); refine bR ?_ NB206_220.out _; (with_reducible repeat (first | apply qn | apply qd | apply qa)); refine bR ?_ NB206_220.out _; (with_reducible repeat (first | apply qn | apply qd | apply qa)); refine bR ?_ NB206_220.out _; (with_reducible repeat (first | apply qn | apply qd | apply qa)); refine bR ?_ NB206_220.out _; exact qy BK206.out) Try.underlying28 rfl (by kernel_rfl) (.cell gb207 34 #[.int .i64 0, .string (⟨#[]⟩ : ByteArray), .slice none 0 0, .string (⟨#[]⟩ : ByteArray), .slice none 0 0] (0, 0) _ rfl (by (with_reducible repeat (first | apply qn | apply qd | apply qa)); refine bU (cs := #[.int .i64 0, .string (⟨#[]⟩ : ByteArray), .slice none 0 0, .string (⟨#[]⟩ : ByteArray), .slice none 0 0]) ?_ 4 _ rfl; (with_reducible repeat (first | apply qn | apply qd | apply qa)); refine bU (cs := #[.int .i64 0, .string (⟨#[]⟩ : ByteArray), .slice none 0 0, .string (⟨#[]⟩ : ByteArray), .slice none 0 0]) ?_ 3 _ rfl; (with_reducible repeat (first | apply qn | apply qd | apply qa)); refine bU (cs := #[.int .i64 0, .string (⟨#[]⟩ : ByteArray), .slice none 0 0, .string (⟨#[]⟩ : ByteArray), .slice none 0 0]) ?_ 2 _ rfl; (with_reducible repeat (first | apply qn | apply qd | apply qa)); refine bU (cs := #[.int .i64 0, .string (⟨#[]⟩ : ByteArray), .slice none 0 0, .string (⟨#[]⟩ : ByteArray), .slice none 0 0]) ?_ 1 _ rfl; (with_reducible repeat (first | apply qn | apply qd | apply qa)); refine bU (cs := #[.int .i64 0, .string (⟨#[]⟩ : ByteArray), .slice none 0 0, .string (⟨#[]⟩ : ByteArray), .slice none 0 0]) ?_ 0 _ rfl; (with_reducible repeat (first | apply qn | apply qd | apply qa)); refine bR ?_ NB207_206.out _; (with_reducible repeat (first | apply qn | apply qd | apply qa)); refine bR ?_ NB207_206.out _; (with_reducible repeat (first | apply qn | apply qd | apply qa)); refine bR ?_ NB207_206.out _; (with_reducible repeat (first | apply qn | apply qd | apply qa)); refine bR ?_ NB207_206.out _; (with_reducible repeat (first | apply qn | apply qd | apply qa)); refine bR ?_ NB207_220.out _; (with_reducible repeat (first | apply qn | apply qd | apply qa)); refine bR ?_ NB207_220.out _; (with_reducible repeat (first | apply qn | apply qd | apply qa)); refine bR ?_ NB207_220.out _; (with_reducible repeat (first | apply qn | apply qd | apply qa)); refine bR ?_ NB207_220.out _; (with_reducible repeat (first | apply qn | apply qd | apply qa)); refine bR ?_ NB207_220.out _; (with_reducible repeat (first | apply qn | apply qd | apply qa)); refine bR ?_ NB207_220.out _; (with_reducible repeat (first | apply qn | apply qd | apply qa)); refine bR ?_ NB207_220.out _; exact qy BK207.out) Try.underlying34 rfl (by kernel_rfl) (.tmp .nil)))) rfl ?_
  exact ⟨_, _, _, by first | rfl | (simp [errW_none, errW_some] <;> rfl) | (simp [*, errW_none, errW_some] <;> rfl), by (with_reducible repeat (first | apply va | apply vn | apply vd)); exact Kd.V_mono (Kd.V_far (p := ⟨gb207, 4, none⟩) (Kd.V_far (p := ⟨gb207, 3, none⟩) (Kd.V_far (p := ⟨gb207, 2, none⟩) (Kd.V_far (p := ⟨gb207, 1, none⟩) (Kd.V_far (p := ⟨gb207, 0, none⟩) (Kd.V_far (p := ⟨gb206, 3, none⟩) (Kd.V_far (p := ⟨gb206, 2, none⟩) (Kd.V_far (p := ⟨gb206, 1, none⟩) (Kd.V_far (p := ⟨gb206, 0, none⟩) (Kd.V_far (p := ⟨gb220, 6, none⟩) (Kd.V_far (p := ⟨gb220, 5, none⟩) (Kd.V_far (p := ⟨gb220, 4, none⟩) (Kd.V_far (p := ⟨gb220, 3, none⟩) (Kd.V_far (p := ⟨gb220, 2, none⟩) (Kd.V_far (p := ⟨gb220, 1, none⟩) (Kd.V_far (p := ⟨gb220, 0, none⟩) (Kd.V_mono (Kd.V_mono (Kd.V_mono HO0_0.out (fun k_ hk => (⟨hk, hk.2⟩ : _ ∧ k_ ≠ gb220))) (fun k_ hk => (⟨hk, hk.1.1.1.2⟩ : _ ∧ k_ ≠ gb206))) (fun k_ hk => (⟨hk, hk.1.1.1.2⟩ : _ ∧ k_ ≠ gb207))) (fun _ hk => hk.1.1.2) (.int .i64 t208)) (fun _ hk => hk.1.1.2) (.int .i64 t209)) (fun _ hk => hk.1.1.2) (.int .i64 t210)) (fun _ hk => hk.1.1.2) (.string t211)) (fun _ hk => hk.1.1.2) (.slice Ao16 t212.length co16)) (fun _ hk => hk.1.1.2) (.string t215)) (fun _ hk => hk.1.1.2) (.slice Ao17 t216.length co17)) (fun _ hk => hk.1.2) (.slice A0_0 l0_0.length c0_0)) (fun _ hk => hk.1.2) (.int .i64 a0_1)) (fun _ hk => hk.1.2) (.int .i64 a0_2)) (fun _ hk => hk.1.2) (.int .i64 a0_3)) (fun _ hk => hk.2) (.int .i64 0)) (fun _ hk => hk.2) (.string (⟨#[]⟩ : ByteArray))) (fun _ hk => hk.2) (.slice none 0 0)) (fun _ hk => hk.2) (.string (⟨#[]⟩ : ByteArray))) (fun _ hk => hk.2) (.slice none 0 0)) (fun _ hk => hk.1.1.1.1.1.1.1), Kd.V_nil _ _ _ _ _, Kd.V_nil _ _ _ _ _, by repeat (first | (with_reducible first | exact HB.out | apply ea | apply en | apply ed | refine es ?_ GE205.out | refine es ?_ GE206.out | refine es ?_ GE207.out | refine es ?_ GE220.out) | exact HB.out)⟩
 ·rw [if_neg c3] at H
  have c3b0 : decide (t209 < 0) = false := decide_eq_false c3
  clear c3
  replace H := Option.bind_eq_some_iff.mp H
  obtain ⟨⟨t221, t222, t223, t226, t227⟩, A220, H⟩ := H
  replace H : (some (l0_0, t209, a0_2, a0_3, t221, t222, t223, t226, t227, 0)) = some (r1, r2, r3, r4, r5, r6, r7, r8, r9, r10) := H
  have A22 := aM A220
  clear A220
  simp only [Option.some.injEq, Prod.mk.injEq] at H
  obtain ⟨rfl, rfl, rfl, rfl, rfl, rfl, rfl, rfl, rfl, rfl⟩ := H
  go_enter Try.func13, Try.ntmps13
  try go_wp2_with (first | ((with_reducible refine gate_dst (N := 1) rfl ?_); refine box_event ?hg (N := 1) ?hd (cs := #[.slice A0_0 l0_0.length c0_0, .int .i64 a0_1, .int .i64 a0_2, .int .i64 a0_3]) (t := 28) ?hr ?_; (case hd | hg => rfl); (case hr => first | (go_simp; done) | (go_simp; rfl)); intro gb205 hg w23 hbox hb; have n0_ := aM (Kd.V_below (Kd.V_elderB (by (with_reducible repeat (first | apply va | apply vn | apply vd)); exact HO0_0.out) gb205 (Nat.le_of_eq hg.symm)) hb); have n1_ := aM (bP (ey HB.out) hb); have n2_ := aM (hbox); have n3_ := aM ((by rw [hg]; exact (bZ (ey HB.out)) : w.heap.size ≤ gb205)); have n4_ := n3_; clear HO0_0 HB; have HO0_0 := n0_; have HB := n1_; have BK205 := n2_; have GW205 := n3_; have GE205 := n4_; clear n0_ n1_ n2_ n3_ n4_; clear hb hbox hg) | ((with_reducible refine gate_dst (N := 2) rfl ?_); refine box_event ?hg (N := 2) ?hd (cs := #[.slice none 0 0, .int .i64 0, .int .i64 0, .int .i64 0]) (t := 28) ?hr ?_; (case hd | hg => rfl); (case hr => first | (go_simp; done) | (go_simp; rfl)); intro gb206 hg w24 hbox hb; have n0_ := aM (Kd.V_below (Kd.V_elderB (by (with_reducible repeat (first | apply va | apply vn | apply vd)); exact HO0_0.out) gb206 (Nat.le_of_eq hg.symm)) hb); have n1_ := aM (bB (g := gb205) (qy BK205.out) hb); have n2_ := aM (bP (by repeat (first | (with_reducible first | exact HB.out | apply ea | apply en | apply ed | refine es ?_ GE205.out) | exact HB.out)) hb); have n3_ := aM (hbox); have n4_ := aM ((by rw [hg]; exact (bZ (by repeat (first | (with_reducible first | exact HB.out | apply ea | apply en | apply ed | refine es ?_ GE205.out) | exact HB.out))) : w.heap.size ≤ gb206)); have n5_ := n4_; have n6_ := aM ((by rw [hg]; exact Nat.ne_of_lt (blk_lt (g := gb205) (qy BK205.out)) : gb205 ≠ gb206)); have n7_ := aM ((by rw [hg]; exact Nat.ne_of_gt (blk_lt (g := gb205) (qy BK205.out)) : gb206 ≠ gb205)); clear HO0_0 BK205 HB; have HO0_0 := n0_; have BK205 := n1_; have HB := n2_; have BK206 := n3_; have GW206 := n4_; have GE206 := n5_; have NB205_206 := n6_; have NB206_205 := n7_; clear n0_ n1_ n2_ n3_ n4_ n5_ n6_ n7_; clear hb hbox hg) | ((with_reducible refine gate_dst (N := 3) rfl ?_); refine box_event ?hg (N := 3) ?hd (cs := #[.int .i64 0, .string (⟨#[]⟩ : ByteArray), .slice none 0 0, .string (⟨#[]⟩ : ByteArray), .slice none 0 0]) (t := 34) ?hr ?_; (case hd | hg => rfl); (case hr => first | (go_simp; done) | (go_simp; rfl)); intro gb207 hg w25 hbox hb; have n0_ := aM (Kd.V_below (Kd.V_elderB (by (with_reducible repeat (first | apply va | apply vn | apply vd)); exact HO0_0.out) gb207 (Nat.le_of_eq hg.symm)) hb); have n1_ := aM (bB (g := gb205) (qy BK205.out) hb); have n2_ := aM (bB (g := gb206) (qy BK206.out) hb); have n3_ := aM (bP (by repeat (first | (with_reducible first | exact HB.out | apply ea | apply en | apply ed | refine es ?_ GE205.out | refine es ?_ GE206.out) | exact HB.out)) hb); have n4_ := aM (hbox); have n5_ := aM ((by rw [hg]; exact (bZ (by repeat (first | (with_reducible first | exact HB.out | apply ea | apply en | apply ed | refine es ?_ GE205.out | refine es ?_ GE206.out) | exact HB.out))) : w.heap.size ≤ gb207)); have n6_ := n5_; have n7_ := aM ((by rw [hg]; exact Nat.ne_of_lt (blk_lt (g := gb205) (qy BK205.out)) : gb205 ≠ gb207)); have n8_ := aM ((by rw [hg]; exact Nat.ne_of_gt (blk_lt (g := gb205) (qy BK205.out)) : gb207 ≠ gb205)); have n9_ := aM ((by rw [hg]; exact Nat.ne_of_lt (blk_lt (g := gb206) (qy BK206.out)) : gb206 ≠ gb207)); have n10_ := aM ((by rw [hg]; exact Nat.ne_of_gt (blk_lt (g := gb206) (qy BK206.out)) : gb207 ≠ gb206)); clear HO0_0 BK205 BK206 HB; have HO0_0 := n0_; have BK205 := n1_; have BK206 := n2_; have HB := n3_; have BK207 := n4_; have GW207 := n5_; have GE207 := n6_; have NB205_207 := n7_; have NB207_205 := n8_; have NB206_207 := n9_; have NB207_206 := n10_; clear n0_ n1_ n2_ n3_ n4_ n5_ n6_ n7_ n8_ n9_ n10_; clear hb hbox hg; have hnb26 := NB205_206.out; have hnc26 := NB206_205.out; have hnb27 := NB205_207.out; have hnc27 := NB207_205.out; have hcz28_0 := zC BK205.out 0 (.slice A0_0 l0_0.length c0_0); have hcz28_1 := zC BK205.out 1 (.int .i64 a0_1); have hcz28_2 := zC BK205.out 2 (.int .i64 a0_2); have hcz28_3 := zC BK205.out 3 (.int .i64 a0_3); have hfz28_0 := bF BK205.out 0; have hfz28_1 := bF BK205.out 1; have hfz28_2 := bF BK205.out 2; have hfz28_3 := bF BK205.out 3) | ((with_reducible refine gate_callee (f := 33) rfl ?_); refine goesL_ (some 11) rfl rfl Try.func33 (by kernel_rfl) rfl #[.agg #[.slice A0_0 l0_0.length c0_0, .int .i64 a0_1, .int .i64 a0_2, .int .i64 a0_3], .int .i64 a0_1] rfl (by (try simp only [mT, mC, mN]); first | done | rfl | (simp only [lD, lT]; rfl)) ?_; (with_reducible refine (bureauref08_find.calls k (fun k_ => ((((P0_0_ k_ ∨ w.heap.size ≤ k_) ∧ k_ ≠ gb205) ∧ k_ ≠ gb206) ∧ k_ ≠ gb207)) _ _ l0_0 a0_1 a0_2 a0_3 a0_1 t208 t209 t210 t211 t212 t215 t216 t219 _ ?side1 A2.out).mono ?_); (case side1 => exact HO0_0.out); rintro e w29 ⟨v213, v217, rfl, ho0, ho1, hb⟩; refine ⟨_, rfl, ?_⟩; have n0_ := aM (Kd.V_below (by (with_reducible repeat (first | apply va | apply vn | apply vd)); exact HO0_0.out) hb); have n1_ := aM (Kd.V_lower (Kd.V_mono (ok' := fun k_ => (P0_0_ k_ ∨ w.heap.size ≤ k_) ∧ k_ ≠ gb205 ∧ k_ ≠ gb206 ∧ k_ ≠ gb207) ho0 (fun k_ hk_ => ⟨Or.elim hk_ (fun hs_ => hs_.1.1.1) (fun hn_ => (.inr (Nat.le_trans (bZ (by repeat (first | (with_reducible first | exact HB.out | apply ea | apply en | apply ed | refine es ?_ GE205.out | refine es ?_ GE206.out | refine es ?_ GE207.out) | exact HB.out))) hn_))), Or.elim hk_ (fun hs_ => hs_.1.1.2) (fun hn_ => (Kd.freshB (g := gb205) (qy BK205.out) k_ hn_)), Or.elim hk_ (fun hs_ => hs_.1.2) (fun hn_ => (Kd.freshB (g := gb206) (qy BK206.out) k_ hn_)), Or.elim hk_ (fun hs_ => hs_.2) (fun hn_ => (Kd.freshB (g := gb207) (qy BK207.out) k_ hn_))⟩)) (bZ (by repeat (first | (with_reducible first | exact HB.out | apply ea | apply en | apply ed | refine es ?_ GE205.out | refine es ?_ GE206.out | refine es ?_ GE207.out) | exact HB.out)))); have n2_ := aM (Kd.V_lower (Kd.V_mono (ok' := fun k_ => (P0_0_ k_ ∨ w.heap.size ≤ k_) ∧ k_ ≠ gb205 ∧ k_ ≠ gb206 ∧ k_ ≠ gb207) ho1 (fun k_ hk_ => ⟨Or.elim hk_ (fun hs_ => hs_.1.1.1) (fun hn_ => (.inr (Nat.le_trans (bZ (by repeat (first | (with_reducible first | exact HB.out | apply ea | apply en | apply ed | refine es ?_ GE205.out | refine es ?_ GE206.out | refine es ?_ GE207.out) | exact HB.out))) hn_))), Or.elim hk_ (fun hs_ => hs_.1.1.2) (fun hn_ => (Kd.freshB (g := gb205) (qy BK205.out) k_ hn_)), Or.elim hk_ (fun hs_ => hs_.1.2) (fun hn_ => (Kd.freshB (g := gb206) (qy BK206.out) k_ hn_)), Or.elim hk_ (fun hs_ => hs_.2) (fun hn_ => (Kd.freshB (g := gb207) (qy BK207.out) k_ hn_))⟩)) (bZ (by repeat (first | (with_reducible first | exact HB.out | apply ea | apply en | apply ed | refine es ?_ GE205.out | refine es ?_ GE206.out | refine es ?_ GE207.out) | exact HB.out)))); have n3_ := aM (bB (g := gb205) (qy BK205.out) hb); have n4_ := aM (bB (g := gb206) (qy BK206.out) hb); have n5_ := aM (bB (g := gb207) (qy BK207.out) hb); have n6_ := aM (bP (by repeat (first | (with_reducible first | exact HB.out | apply ea | apply en | apply ed | refine es ?_ GE205.out | refine es ?_ GE206.out | refine es ?_ GE207.out) | exact HB.out)) hb); clear HO0_0 BK205 BK206 BK207 HB; have HO0_0 := n0_; have HO214 := n1_; have HO218 := n2_; have BK205 := n3_; have BK206 := n4_; have BK207 := n5_; have HB := n6_; clear n0_ n1_ n2_ n3_ n4_ n5_ n6_; (try clear hb); (try clear hb2); (try clear hk); (try clear hi); (try clear ho0); (try clear ho1)) | ((with_reducible refine gate_dst (N := 5) rfl ?_); refine box_event ?hg (N := 5) ?hd (cs := #[.int .i64 0, .int .i64 0, .int .i64 0, .string (⟨#[]⟩ : ByteArray), .slice none 0 0, .string (⟨#[]⟩ : ByteArray), .slice none 0 0]) (t := 76) ?hr ?_; (case hd | hg => rfl); (case hr => first | (go_simp; done) | (go_simp; rfl)); intro gb220 hg w30 hbox hb; have n0_ := aM (Kd.V_below (Kd.V_elderB (by (with_reducible repeat (first | apply va | apply vn | apply vd)); exact HO0_0.out) gb220 (Nat.le_of_eq hg.symm)) hb); have n1_ := aM (Kd.V_below (Kd.V_elderB (by (with_reducible repeat (first | apply va | apply vn | apply vd)); exact HO214.out) gb220 (Nat.le_of_eq hg.symm)) hb); have n2_ := aM (Kd.V_below (Kd.V_elderB (by (with_reducible repeat (first | apply va | apply vn | apply vd)); exact HO218.out) gb220 (Nat.le_of_eq hg.symm)) hb); have n3_ := aM (bB (g := gb205) (qy BK205.out) hb); have n4_ := aM (bB (g := gb206) (qy BK206.out) hb); have n5_ := aM (bB (g := gb207) (qy BK207.out) hb); have n6_ := aM (bP (by repeat (first | (with_reducible first | exact HB.out | apply ea | apply en | apply ed | refine es ?_ GE205.out | refine es ?_ GE206.out | refine es ?_ GE207.out) | exact HB.out)) hb); have n7_ := aM (hbox); have n8_ := aM ((by rw [hg]; exact (bZ (by repeat (first | (with_reducible first | exact HB.out | apply ea | apply en | apply ed | refine es ?_ GE205.out | refine es ?_ GE206.out | refine es ?_ GE207.out) | exact HB.out))) : w.heap.size ≤ gb220)); have n9_ := n8_; have n10_ := aM ((by rw [hg]; exact Nat.ne_of_lt (blk_lt (g := gb205) (qy BK205.out)) : gb205 ≠ gb220)); have n11_ := aM ((by rw [hg]; exact Nat.ne_of_gt (blk_lt (g := gb205) (qy BK205.out)) : gb220 ≠ gb205)); have n12_ := aM ((by rw [hg]; exact Nat.ne_of_lt (blk_lt (g := gb206) (qy BK206.out)) : gb206 ≠ gb220)); have n13_ := aM ((by rw [hg]; exact Nat.ne_of_gt (blk_lt (g := gb206) (qy BK206.out)) : gb220 ≠ gb206)); have n14_ := aM ((by rw [hg]; exact Nat.ne_of_lt (blk_lt (g := gb207) (qy BK207.out)) : gb207 ≠ gb220)); have n15_ := aM ((by rw [hg]; exact Nat.ne_of_gt (blk_lt (g := gb207) (qy BK207.out)) : gb220 ≠ gb207)); clear HO0_0 HO214 HO218 BK205 BK206 BK207 HB; have HO0_0 := n0_; have HO214 := n1_; have HO218 := n2_; have BK205 := n3_; have BK206 := n4_; have BK207 := n5_; have HB := n6_; have BK220 := n7_; have GW220 := n8_; have GE220 := n9_; have NB205_220 := n10_; have NB220_205 := n11_; have NB206_220 := n12_; have NB220_206 := n13_; have NB207_220 := n14_; have NB220_207 := n15_; clear n0_ n1_ n2_ n3_ n4_ n5_ n6_ n7_ n8_ n9_ n10_ n11_ n12_ n13_ n14_ n15_; clear hb hbox hg; have hnb31 := NB220_205.out; have hnc31 := NB205_220.out; have hnb32 := NB220_206.out; have hnc32 := NB206_220.out; have hnb33 := NB220_207.out; have hnc33 := NB207_220.out; have hcz34_0 := zC BK220.out 0 (.int .i64 0); have hcz34_1 := zC BK220.out 1 (.int .i64 0); have hcz34_2 := zC BK220.out 2 (.int .i64 0); have hcz34_3 := zC BK220.out 3 (.string (⟨#[]⟩ : ByteArray)); have hcz34_4 := zC BK220.out 4 (.slice none 0 0); have hcz34_5 := zC BK220.out 5 (.string (⟨#[]⟩ : ByteArray)); have hcz34_6 := zC BK220.out 6 (.slice none 0 0); have hfz34_0 := bF BK220.out 0; have hfz34_1 := bF BK220.out 1; have hfz34_2 := bF BK220.out 2; have hfz34_3 := bF BK220.out 3; have hfz34_4 := bF BK220.out 4; have hfz34_5 := bF BK220.out 5; have hfz34_6 := bF BK220.out 6; obtain ⟨Ao35, co35, eo35⟩ := Kd.V_slice HO214.out; subst eo35; obtain ⟨Ao36, co36, eo36⟩ := Kd.V_slice HO218.out; subst eo36; have hcz37_0 := zC BK205.out 0 (.slice A0_0 l0_0.length c0_0); have hcz37_1 := zC BK205.out 1 (.int .i64 a0_1); have hcz37_2 := zC BK205.out 2 (.int .i64 a0_2); have hcz37_3 := zC BK205.out 3 (.int .i64 a0_3); have hfz37_0 := bF BK205.out 0; have hfz37_1 := bF BK205.out 1; have hfz37_2 := bF BK205.out 2; have hfz37_3 := bF BK205.out 3))
  have n0_ : Aside0 (Kd.V k76 76 ((((((((w30.setCell ⟨gb220, 0, none⟩ (.int .i64 t208)).setCell ⟨gb220, 1, none⟩ (.int .i64 t209)).setCell ⟨gb220, 2, none⟩ (.int .i64 t210)).setCell ⟨gb220, 3, none⟩ (.string t211)).setCell ⟨gb220, 4, none⟩ (.slice Ao35 t212.length co35)).setCell ⟨gb220, 5, none⟩ (.string t215)).setCell ⟨gb220, 6, none⟩ (.slice Ao36 t216.length co36)).setCell ⟨gb205, 1, none⟩ (.int .i64 t209)) w.heap.size (fun k_ => (P0_0_ k_ ∨ w.heap.size ≤ k_) ∧ k_ ≠ gb205 ∧ k_ ≠ gb206 ∧ k_ ≠ gb207 ∧ k_ ≠ gb220) (.slice A0_0 l0_0.length c0_0) l0_0) := ⟨by (with_reducible repeat (first | apply va | apply vn | apply vd)); exact Kd.V_mono (Kd.V_far (p := ⟨gb205, 1, none⟩) (Kd.V_far (p := ⟨gb220, 6, none⟩) (Kd.V_far (p := ⟨gb220, 5, none⟩) (Kd.V_far (p := ⟨gb220, 4, none⟩) (Kd.V_far (p := ⟨gb220, 3, none⟩) (Kd.V_far (p := ⟨gb220, 2, none⟩) (Kd.V_far (p := ⟨gb220, 1, none⟩) (Kd.V_far (p := ⟨gb220, 0, none⟩) (Kd.V_mono (Kd.V_mono HO0_0.out (fun k_ hk => (⟨hk, hk.2⟩ : _ ∧ k_ ≠ gb220))) (fun k_ hk => (⟨hk, hk.1.1.1.1.2⟩ : _ ∧ k_ ≠ gb205))) (fun _ hk => hk.1.2) (.int .i64 t208)) (fun _ hk => hk.1.2) (.int .i64 t209)) (fun _ hk => hk.1.2) (.int .i64 t210)) (fun _ hk => hk.1.2) (.string t211)) (fun _ hk => hk.1.2) (.slice Ao35 t212.length co35)) (fun _ hk => hk.1.2) (.string t215)) (fun _ hk => hk.1.2) (.slice Ao36 t216.length co36)) (fun _ hk => hk.2) (.int .i64 t209)) (fun _ hk => ⟨hk.1.1.1.1.1.1, ⟨hk.1.1.1.1.1.2, ⟨hk.1.1.1.1.2, ⟨hk.1.1.1.2, hk.1.1.2⟩⟩⟩⟩)⟩
  have n1_ : Aside0 (Kd.V k71 71 ((((((((w30.setCell ⟨gb220, 0, none⟩ (.int .i64 t208)).setCell ⟨gb220, 1, none⟩ (.int .i64 t209)).setCell ⟨gb220, 2, none⟩ (.int .i64 t210)).setCell ⟨gb220, 3, none⟩ (.string t211)).setCell ⟨gb220, 4, none⟩ (.slice Ao35 t212.length co35)).setCell ⟨gb220, 5, none⟩ (.string t215)).setCell ⟨gb220, 6, none⟩ (.slice Ao36 t216.length co36)).setCell ⟨gb205, 1, none⟩ (.int .i64 t209)) w.heap.size (fun k_ => (P0_0_ k_ ∨ w.heap.size ≤ k_) ∧ k_ ≠ gb205 ∧ k_ ≠ gb206 ∧ k_ ≠ gb207 ∧ k_ ≠ gb220) (.slice Ao35 t212.length co35) t212) := ⟨by (with_reducible repeat (first | apply va | apply vn | apply vd)); exact Kd.V_mono (Kd.V_far (p := ⟨gb205, 1, none⟩) (Kd.V_far (p := ⟨gb220, 6, none⟩) (Kd.V_far (p := ⟨gb220, 5, none⟩) (Kd.V_far (p := ⟨gb220, 4, none⟩) (Kd.V_far (p := ⟨gb220, 3, none⟩) (Kd.V_far (p := ⟨gb220, 2, none⟩) (Kd.V_far (p := ⟨gb220, 1, none⟩) (Kd.V_far (p := ⟨gb220, 0, none⟩) (Kd.V_mono (Kd.V_mono HO214.out (fun k_ hk => (⟨hk, hk.2⟩ : _ ∧ k_ ≠ gb220))) (fun k_ hk => (⟨hk, hk.1.1.2.1⟩ : _ ∧ k_ ≠ gb205))) (fun _ hk => hk.1.2) (.int .i64 t208)) (fun _ hk => hk.1.2) (.int .i64 t209)) (fun _ hk => hk.1.2) (.int .i64 t210)) (fun _ hk => hk.1.2) (.string t211)) (fun _ hk => hk.1.2) (.slice Ao35 t212.length co35)) (fun _ hk => hk.1.2) (.string t215)) (fun _ hk => hk.1.2) (.slice Ao36 t216.length co36)) (fun _ hk => hk.2) (.int .i64 t209)) (fun _ hk => ⟨hk.1.1.1.1, ⟨hk.1.1.1.2.1, ⟨hk.1.1.1.2.2.1, ⟨hk.1.1.1.2.2.2, hk.1.1.2⟩⟩⟩⟩)⟩
  have n2_ : Aside0 (Kd.V k71 71 ((((((((w30.setCell ⟨gb220, 0, none⟩ (.int .i64 t208)).setCell ⟨gb220, 1, none⟩ (.int .i64 t209)).setCell ⟨gb220, 2, none⟩ (.int .i64 t210)).setCell ⟨gb220, 3, none⟩ (.string t211)).setCell ⟨gb220, 4, none⟩ (.slice Ao35 t212.length co35)).setCell ⟨gb220, 5, none⟩ (.string t215)).setCell ⟨gb220, 6, none⟩ (.slice Ao36 t216.length co36)).setCell ⟨gb205, 1, none⟩ (.int .i64 t209)) w.heap.size (fun k_ => (P0_0_ k_ ∨ w.heap.size ≤ k_) ∧ k_ ≠ gb205 ∧ k_ ≠ gb206 ∧ k_ ≠ gb207 ∧ k_ ≠ gb220) (.slice Ao36 t216.length co36) t216) := ⟨by (with_reducible repeat (first | apply va | apply vn | apply vd)); exact Kd.V_mono (Kd.V_far (p := ⟨gb205, 1, none⟩) (Kd.V_far (p := ⟨gb220, 6, none⟩) (Kd.V_far (p := ⟨gb220, 5, none⟩) (Kd.V_far (p := ⟨gb220, 4, none⟩) (Kd.V_far (p := ⟨gb220, 3, none⟩) (Kd.V_far (p := ⟨gb220, 2, none⟩) (Kd.V_far (p := ⟨gb220, 1, none⟩) (Kd.V_far (p := ⟨gb220, 0, none⟩) (Kd.V_mono (Kd.V_mono HO218.out (fun k_ hk => (⟨hk, hk.2⟩ : _ ∧ k_ ≠ gb220))) (fun k_ hk => (⟨hk, hk.1.1.2.1⟩ : _ ∧ k_ ≠ gb205))) (fun _ hk => hk.1.2) (.int .i64 t208)) (fun _ hk => hk.1.2) (.int .i64 t209)) (fun _ hk => hk.1.2) (.int .i64 t210)) (fun _ hk => hk.1.2) (.string t211)) (fun _ hk => hk.1.2) (.slice Ao35 t212.length co35)) (fun _ hk => hk.1.2) (.string t215)) (fun _ hk => hk.1.2) (.slice Ao36 t216.length co36)) (fun _ hk => hk.2) (.int .i64 t209)) (fun _ hk => ⟨hk.1.1.1.1, ⟨hk.1.1.1.2.1, ⟨hk.1.1.1.2.2.1, ⟨hk.1.1.1.2.2.2, hk.1.1.2⟩⟩⟩⟩)⟩
  have n3_ : Aside0 (((((((((w30.setCell ⟨gb220, 0, none⟩ (.int .i64 t208)).setCell ⟨gb220, 1, none⟩ (.int .i64 t209)).setCell ⟨gb220, 2, none⟩ (.int .i64 t210)).setCell ⟨gb220, 3, none⟩ (.string t211)).setCell ⟨gb220, 4, none⟩ (.slice Ao35 t212.length co35)).setCell ⟨gb220, 5, none⟩ (.string t215)).setCell ⟨gb220, 6, none⟩ (.slice Ao36 t216.length co36)).setCell ⟨gb205, 1, none⟩ (.int .i64 t209)).heap[gb205]? = some (.cells #[.slice A0_0 l0_0.length c0_0, .int .i64 t209, .int .i64 a0_2, .int .i64 a0_3] 28 (0, 0))) := ⟨by (with_reducible repeat (first | apply qn | apply qd | apply qa)); refine bU (cs := #[.slice A0_0 l0_0.length c0_0, .int .i64 a0_1, .int .i64 a0_2, .int .i64 a0_3]) ?_ 1 _ rfl; (with_reducible repeat (first | apply qn | apply qd | apply qa)); refine bR ?_ NB205_220.out _; (with_reducible repeat (first | apply qn | apply qd | apply qa)); refine bR ?_ NB205_220.out _; (with_reducible repeat (first | apply qn | apply qd | apply qa)); refine bR ?_ NB205_220.out _; (with_reducible repeat (first | apply qn | apply qd | apply qa)); refine bR ?_ NB205_220.out _; (with_reducible repeat (first | apply qn | apply qd | apply qa)); refine bR ?_ NB205_220.out _; (with_reducible repeat (first | apply qn | apply qd | apply qa)); refine bR ?_ NB205_220.out _; (with_reducible repeat (first | apply qn | apply qd | apply qa)); refine bR ?_ NB205_220.out _; exact qy BK205.out⟩
  have n4_ : Aside0 (((((((((w30.setCell ⟨gb220, 0, none⟩ (.int .i64 t208)).setCell ⟨gb220, 1, none⟩ (.int .i64 t209)).setCell ⟨gb220, 2, none⟩ (.int .i64 t210)).setCell ⟨gb220, 3, none⟩ (.string t211)).setCell ⟨gb220, 4, none⟩ (.slice Ao35 t212.length co35)).setCell ⟨gb220, 5, none⟩ (.string t215)).setCell ⟨gb220, 6, none⟩ (.slice Ao36 t216.length co36)).setCell ⟨gb205, 1, none⟩ (.int .i64 t209)).heap[gb206]? = some (.cells #[.slice none 0 0, .int .i64 0, .int .i64 0, .int .i64 0] 28 (0, 0))) := ⟨by (with_reducible repeat (first | apply qn | apply qd | apply qa)); refine bR ?_ NB206_205.out _; (with_reducible repeat (first | apply qn | apply qd | apply qa)); refine bR ?_ NB206_220.out _; (with_reducible repeat (first | apply qn | apply qd | apply qa)); refine bR ?_ NB206_220.out _; (with_reducible repeat (first | apply qn | apply qd | apply qa)); refine bR ?_ NB206_220.out _; (with_reducible repeat (first | apply qn | apply qd | apply qa)); refine bR ?_ NB206_220.out _; (with_reducible repeat (first | apply qn | apply qd | apply qa)); refine bR ?_ NB206_220.out _; (with_reducible repeat (first | apply qn | apply qd | apply qa)); refine bR ?_ NB206_220.out _; (with_reducible repeat (first | apply qn | apply qd | apply qa)); refine bR ?_ NB206_220.out _; exact qy BK206.out⟩
  have n5_ : Aside0 (((((((((w30.setCell ⟨gb220, 0, none⟩ (.int .i64 t208)).setCell ⟨gb220, 1, none⟩ (.int .i64 t209)).setCell ⟨gb220, 2, none⟩ (.int .i64 t210)).setCell ⟨gb220, 3, none⟩ (.string t211)).setCell ⟨gb220, 4, none⟩ (.slice Ao35 t212.length co35)).setCell ⟨gb220, 5, none⟩ (.string t215)).setCell ⟨gb220, 6, none⟩ (.slice Ao36 t216.length co36)).setCell ⟨gb205, 1, none⟩ (.int .i64 t209)).heap[gb207]? = some (.cells #[.int .i64 0, .string (⟨#[]⟩ : ByteArray), .slice none 0 0, .string (⟨#[]⟩ : ByteArray), .slice none 0 0] 34 (0, 0))) := ⟨by (with_reducible repeat (first | apply qn | apply qd | apply qa)); refine bR ?_ NB207_205.out _; (with_reducible repeat (first | apply qn | apply qd | apply qa)); refine bR ?_ NB207_220.out _; (with_reducible repeat (first | apply qn | apply qd | apply qa)); refine bR ?_ NB207_220.out _; (with_reducible repeat (first | apply qn | apply qd | apply qa)); refine bR ?_ NB207_220.out _; (with_reducible repeat (first | apply qn | apply qd | apply qa)); refine bR ?_ NB207_220.out _; (with_reducible repeat (first | apply qn | apply qd | apply qa)); refine bR ?_ NB207_220.out _; (with_reducible repeat (first | apply qn | apply qd | apply qa)); refine bR ?_ NB207_220.out _; (with_reducible repeat (first | apply qn | apply qd | apply qa)); refine bR ?_ NB207_220.out _; exact qy BK207.out⟩
  have n6_ : Aside0 (((((((((w30.setCell ⟨gb220, 0, none⟩ (.int .i64 t208)).setCell ⟨gb220, 1, none⟩ (.int .i64 t209)).setCell ⟨gb220, 2, none⟩ (.int .i64 t210)).setCell ⟨gb220, 3, none⟩ (.string t211)).setCell ⟨gb220, 4, none⟩ (.slice Ao35 t212.length co35)).setCell ⟨gb220, 5, none⟩ (.string t215)).setCell ⟨gb220, 6, none⟩ (.slice Ao36 t216.length co36)).setCell ⟨gb205, 1, none⟩ (.int .i64 t209)).heap[gb220]? = some (.cells #[.int .i64 t208, .int .i64 t209, .int .i64 t210, .string t211, .slice Ao35 t212.length co35, .string t215, .slice Ao36 t216.length co36] 76 (0, 0))) := ⟨by (with_reducible repeat (first | apply qn | apply qd | apply qa)); refine bR ?_ NB220_205.out _; (with_reducible repeat (first | apply qn | apply qd | apply qa)); refine bU (cs := #[.int .i64 t208, .int .i64 t209, .int .i64 t210, .string t211, .slice Ao35 t212.length co35, .string t215, .slice none 0 0]) ?_ 6 _ rfl; (with_reducible repeat (first | apply qn | apply qd | apply qa)); refine bU (cs := #[.int .i64 t208, .int .i64 t209, .int .i64 t210, .string t211, .slice Ao35 t212.length co35, .string (⟨#[]⟩ : ByteArray), .slice none 0 0]) ?_ 5 _ rfl; (with_reducible repeat (first | apply qn | apply qd | apply qa)); refine bU (cs := #[.int .i64 t208, .int .i64 t209, .int .i64 t210, .string t211, .slice none 0 0, .string (⟨#[]⟩ : ByteArray), .slice none 0 0]) ?_ 4 _ rfl; (with_reducible repeat (first | apply qn | apply qd | apply qa)); refine bU (cs := #[.int .i64 t208, .int .i64 t209, .int .i64 t210, .string (⟨#[]⟩ : ByteArray), .slice none 0 0, .string (⟨#[]⟩ : ByteArray), .slice none 0 0]) ?_ 3 _ rfl; (with_reducible repeat (first | apply qn | apply qd | apply qa)); refine bU (cs := #[.int .i64 t208, .int .i64 t209, .int .i64 0, .string (⟨#[]⟩ : ByteArray), .slice none 0 0, .string (⟨#[]⟩ : ByteArray), .slice none 0 0]) ?_ 2 _ rfl; (with_reducible repeat (first | apply qn | apply qd | apply qa)); refine bU (cs := #[.int .i64 t208, .int .i64 0, .int .i64 0, .string (⟨#[]⟩ : ByteArray), .slice none 0 0, .string (⟨#[]⟩ : ByteArray), .slice none 0 0]) ?_ 1 _ rfl; (with_reducible repeat (first | apply qn | apply qd | apply qa)); refine bU (cs := #[.int .i64 0, .int .i64 0, .int .i64 0, .string (⟨#[]⟩ : ByteArray), .slice none 0 0, .string (⟨#[]⟩ : ByteArray), .slice none 0 0]) ?_ 0 _ rfl; exact qy BK220.out⟩
  have n7_ : Aside0 (Below w.heap.size w ((((((((w30.setCell ⟨gb220, 0, none⟩ (.int .i64 t208)).setCell ⟨gb220, 1, none⟩ (.int .i64 t209)).setCell ⟨gb220, 2, none⟩ (.int .i64 t210)).setCell ⟨gb220, 3, none⟩ (.string t211)).setCell ⟨gb220, 4, none⟩ (.slice Ao35 t212.length co35)).setCell ⟨gb220, 5, none⟩ (.string t215)).setCell ⟨gb220, 6, none⟩ (.slice Ao36 t216.length co36)).setCell ⟨gb205, 1, none⟩ (.int .i64 t209))) := ⟨by repeat (first | (with_reducible first | exact HB.out | apply ea | apply en | apply ed | refine es ?_ GE205.out | refine es ?_ GE206.out | refine es ?_ GE207.out | refine es ?_ GE220.out) | exact HB.out)⟩
  (try clear HO0_0)
  (try clear HO214)
  (try clear HO218)
  (try clear BK205)
  (try clear BK206)
  (try clear BK207)
  (try clear BK220)
  (try clear HB)
  generalize ((((((((w30.setCell ⟨gb220, 0, none⟩ (.int .i64 t208)).setCell ⟨gb220, 1, none⟩ (.int .i64 t209)).setCell ⟨gb220, 2, none⟩ (.int .i64 t210)).setCell ⟨gb220, 3, none⟩ (.string t211)).setCell ⟨gb220, 4, none⟩ (.slice Ao35 t212.length co35)).setCell ⟨gb220, 5, none⟩ (.string t215)).setCell ⟨gb220, 6, none⟩ (.slice Ao36 t216.length co36)).setCell ⟨gb205, 1, none⟩ (.int .i64 t209)) = w38 at n0_ n1_ n2_ n3_ n4_ n5_ n6_ n7_ ⊢
  have HO0_0 := n0_
  have HO214 := n1_
  have HO218 := n2_
  have BK205 := n3_
  have BK206 := n4_
  have BK207 := n5_
  have BK220 := n6_
  have HB := n7_
  clear n0_ n1_ n2_ n3_ n4_ n5_ n6_ n7_
  have n0_ := aM (Kd.V_drew HO0_0.out)
  have n1_ := aM (Kd.V_drew HO214.out)
  have n2_ := aM (Kd.V_drew HO218.out)
  have n3_ := aM (blk_drew BK205.out)
  have n4_ := aM (blk_drew BK206.out)
  have n5_ := aM (blk_drew BK207.out)
  have n6_ := aM (blk_drew BK220.out)
  have n7_ := aM (below_drew1 HB.out)
  clear HO0_0
  clear HO214
  clear HO218
  clear BK205
  clear BK206
  clear BK207
  clear BK220
  clear HB
  have HO0_0 := n0_
  have HO214 := n1_
  have HO218 := n2_
  have BK205 := n3_
  have BK206 := n4_
  have BK207 := n5_
  have BK220 := n6_
  have HB := n7_
  clear n0_ n1_ n2_ n3_ n4_ n5_ n6_ n7_
  refine start_ (n := 7) (S := fun w' => w'.cell? ⟨gb205, 0, none⟩ = some (.slice A0_0 l0_0.length c0_0) ∧ w'.cell? ⟨gb205, 1, none⟩ = some (.int .i64 t209) ∧ w'.cell? ⟨gb205, 2, none⟩ = some (.int .i64 a0_2) ∧ w'.cell? ⟨gb205, 3, none⟩ = some (.int .i64 a0_3) ∧ w'.cell? ⟨gb220, 0, none⟩ = some (.int .i64 t208) ∧ w'.cell? ⟨gb220, 1, none⟩ = some (.int .i64 t209) ∧ w'.cell? ⟨gb220, 2, none⟩ = some (.int .i64 t210) ∧ w'.cell? ⟨gb220, 3, none⟩ = some (.string t211) ∧ w'.cell? ⟨gb220, 4, none⟩ = some (.slice Ao35 t212.length co35) ∧ w'.cell? ⟨gb220, 5, none⟩ = some (.string t215) ∧ w'.cell? ⟨gb220, 6, none⟩ = some (.slice Ao36 t216.length co36)) (ds := []) b57_ (by kernel_rfl) rfl rfl ⟨(bC BK205.out 0).trans rfl, (bC BK205.out 1).trans rfl, (bC BK205.out 2).trans rfl, (bC BK205.out 3).trans rfl, (bC BK220.out 0).trans rfl, (bC BK220.out 1).trans rfl, (bC BK220.out 2).trans rfl, (bC BK220.out 3).trans rfl, (bC BK220.out 4).trans rfl, (bC BK220.out 5).trans rfl, (bC BK220.out 6).trans rfl⟩ (fun hHeld => ?_)
  generalize w38.drew = w39 at HO0_0 HO214 HO218 BK205 BK206 BK207 BK220 HB hHeld ⊢
  refine pure_ (i := 1) (N := some 23) (v := ?_) (a' := ?_) b58_ rfl rfl (by kernel_rfl) (fun _ _ _ h => h) (Or.inl ⟨by rfl, ?_⟩) ?_ ?_
  rotate_left
  ·intro w'
   go_simp
   with_reducible rfl
  rotate_left
  ·simp only [Act.put, sA, sZ, sS, i64_w, i32_w]
   rfl
  refine take_ (i := 0) (N := some 22) (v := ?_) (a' := ?_) b59_ rfl rfl (by kernel_rfl) (fun _ _ _ h => h) (Or.inl ⟨by rfl, ?_⟩) hHeld ?_ ?_
  rotate_left
  ·rintro w' ⟨s0, s1, s2, s3, s4, s5, s6, s7, s8, s9, s10⟩
   go_simp
   with_reducible rfl
  rotate_left
  ·simp only [Act.put, sA, sZ, sS, i64_w, i32_w]
   rfl
  refine take_ (i := 2) (N := some 24) (v := ?_) (a' := ?_) b60_ rfl rfl (by kernel_rfl) (fun _ _ _ h => h) (Or.inl ⟨by rfl, ?_⟩) hHeld ?_ ?_
  rotate_left
  ·rintro w' ⟨s0, s1, s2, s3, s4, s5, s6, s7, s8, s9, s10⟩
   go_simp
   with_reducible rfl
  rotate_left
  ·simp only [Act.put, sA, sZ, sS, i64_w, i32_w]
   rfl
  refine one_ (i := 3) (N := some 25) b61_ rfl rfl (by kernel_rfl) (by decide) (fun K hK => ?_)
  refine goes_ Try.func34 (by kernel_rfl) rfl #[.agg #[.int .i64 t210, .string t211, .slice Ao35 t212.length co35, .string t215, .slice Ao36 t216.length co36]] (by rfl) rfl rfl (by (try simp only [mT, mC, mN]); first | done | rfl | (simp only [lD, lT]; rfl)) ?_
  with_reducible refine (bureauref07_Invert.calls t210 t211 (fun k_ => ((P0_0_ k_ ∨ w.heap.size ≤ k_) ∧ (k_ ≠ gb205 ∧ (k_ ≠ gb206 ∧ (k_ ≠ gb207 ∧ k_ ≠ gb220))))) _ _ t212 t215 (fun k_ => ((P0_0_ k_ ∨ w.heap.size ≤ k_) ∧ (k_ ≠ gb205 ∧ (k_ ≠ gb206 ∧ (k_ ≠ gb207 ∧ k_ ≠ gb220))))) _ _ t216 t221 t222 t223 t226 t227 _ ?side1 ?side2 A22.out).mono ?_
  (case side1 => exact HO214.out)
  (case side2 => exact HO218.out)
  rintro e w40 ⟨v224, v228, rfl, ho0, ho1, hb⟩
  refine ⟨_, rfl, ?_⟩
  have n0_ := aM (Kd.V_below (by (with_reducible repeat (first | apply va | apply vn | apply vd)); exact HO0_0.out) hb)
  have n1_ := aM (Kd.V_below (by (with_reducible repeat (first | apply va | apply vn | apply vd)); exact HO214.out) hb)
  have n2_ := aM (Kd.V_below (by (with_reducible repeat (first | apply va | apply vn | apply vd)); exact HO218.out) hb)
  have n3_ := aM (Kd.V_lower (Kd.V_mono (ok' := fun k_ => (P0_0_ k_ ∨ w.heap.size ≤ k_) ∧ k_ ≠ gb205 ∧ k_ ≠ gb206 ∧ k_ ≠ gb207 ∧ k_ ≠ gb220) ho0 (fun k_ hk_ => ⟨Or.elim hk_ (fun hs_ => Or.elim hs_ (fun hs_ => hs_.1) (fun hs_ => hs_.1)) (fun hn_ => (.inr (Nat.le_trans (bZ (by repeat (first | (with_reducible first | exact HB.out | apply ea | apply en | apply ed | refine es ?_ GE205.out | refine es ?_ GE206.out | refine es ?_ GE207.out | refine es ?_ GE220.out) | exact HB.out))) hn_))), Or.elim hk_ (fun hs_ => Or.elim hs_ (fun hs_ => hs_.2.1) (fun hs_ => hs_.2.1)) (fun hn_ => (Kd.freshB (g := gb205) (qy BK205.out) k_ hn_)), Or.elim hk_ (fun hs_ => Or.elim hs_ (fun hs_ => hs_.2.2.1) (fun hs_ => hs_.2.2.1)) (fun hn_ => (Kd.freshB (g := gb206) (qy BK206.out) k_ hn_)), Or.elim hk_ (fun hs_ => Or.elim hs_ (fun hs_ => hs_.2.2.2.1) (fun hs_ => hs_.2.2.2.1)) (fun hn_ => (Kd.freshB (g := gb207) (qy BK207.out) k_ hn_)), Or.elim hk_ (fun hs_ => Or.elim hs_ (fun hs_ => hs_.2.2.2.2) (fun hs_ => hs_.2.2.2.2)) (fun hn_ => (Kd.freshB (g := gb220) (qy BK220.out) k_ hn_))⟩)) (bZ (by repeat (first | (with_reducible first | exact HB.out | apply ea | apply en | apply ed | refine es ?_ GE205.out | refine es ?_ GE206.out | refine es ?_ GE207.out | refine es ?_ GE220.out) | exact HB.out))))
  have n4_ := aM (Kd.V_lower (Kd.V_mono (ok' := fun k_ => (P0_0_ k_ ∨ w.heap.size ≤ k_) ∧ k_ ≠ gb205 ∧ k_ ≠ gb206 ∧ k_ ≠ gb207 ∧ k_ ≠ gb220) ho1 (fun k_ hk_ => ⟨Or.elim hk_ (fun hs_ => Or.elim hs_ (fun hs_ => hs_.1) (fun hs_ => hs_.1)) (fun hn_ => (.inr (Nat.le_trans (bZ (by repeat (first | (with_reducible first | exact HB.out | apply ea | apply en | apply ed | refine es ?_ GE205.out | refine es ?_ GE206.out | refine es ?_ GE207.out | refine es ?_ GE220.out) | exact HB.out))) hn_))), Or.elim hk_ (fun hs_ => Or.elim hs_ (fun hs_ => hs_.2.1) (fun hs_ => hs_.2.1)) (fun hn_ => (Kd.freshB (g := gb205) (qy BK205.out) k_ hn_)), Or.elim hk_ (fun hs_ => Or.elim hs_ (fun hs_ => hs_.2.2.1) (fun hs_ => hs_.2.2.1)) (fun hn_ => (Kd.freshB (g := gb206) (qy BK206.out) k_ hn_)), Or.elim hk_ (fun hs_ => Or.elim hs_ (fun hs_ => hs_.2.2.2.1) (fun hs_ => hs_.2.2.2.1)) (fun hn_ => (Kd.freshB (g := gb207) (qy BK207.out) k_ hn_)), Or.elim hk_ (fun hs_ => Or.elim hs_ (fun hs_ => hs_.2.2.2.2) (fun hs_ => hs_.2.2.2.2)) (fun hn_ => (Kd.freshB (g := gb220) (qy BK220.out) k_ hn_))⟩)) (bZ (by repeat (first | (with_reducible first | exact HB.out | apply ea | apply en | apply ed | refine es ?_ GE205.out | refine es ?_ GE206.out | refine es ?_ GE207.out | refine es ?_ GE220.out) | exact HB.out))))
  have n5_ := aM (bB (g := gb205) (qy BK205.out) hb)
  have n6_ := aM (bB (g := gb206) (qy BK206.out) hb)
  have n7_ := aM (bB (g := gb207) (qy BK207.out) hb)
  have n8_ := aM (bB (g := gb220) (qy BK220.out) hb)
  have n9_ := aM (bP (by repeat (first | (with_reducible first | exact HB.out | apply ea | apply en | apply ed | refine es ?_ GE205.out | refine es ?_ GE206.out | refine es ?_ GE207.out | refine es ?_ GE220.out) | exact HB.out)) hb)
  clear HO0_0
  clear HO214
  clear HO218
  clear BK205
  clear BK206
  clear BK207
  clear BK220
  clear HB
  have HO0_0 := n0_
  have HO214 := n1_
  have HO218 := n2_
  have HO225 := n3_
  have HO229 := n4_
  have BK205 := n5_
  have BK206 := n6_
  have BK207 := n7_
  have BK220 := n8_
  have HB := n9_
  clear n0_ n1_ n2_ n3_ n4_ n5_ n6_ n7_ n8_ n9_
  (try clear hb)
  (try clear hb2)
  (try clear hk)
  (try clear hi)
  (try clear ho0)
  (try clear ho1)
  obtain ⟨Ao47, co47, eo47⟩ := Kd.V_slice HO225.out
  (first | subst eo47 | (injection eo47 with f1_ f2_ f3_; have f4_ := f1_.symm; have f5_ := f3_.symm; clear f1_ f2_ f3_; subst f4_; subst f5_))
  obtain ⟨Ao50, co50, eo50⟩ := Kd.V_slice HO229.out
  (first | subst eo50 | (injection eo50 with f1_ f2_ f3_; have f4_ := f1_.symm; have f5_ := f3_.symm; clear f1_ f2_ f3_; subst f4_; subst f5_))
  refine hK.out _ _ ⟨(bC BK205.out 0).trans rfl, (bC BK205.out 1).trans rfl, (bC BK205.out 2).trans rfl, (bC BK205.out 3).trans rfl, (bC BK220.out 0).trans rfl, (bC BK220.out 1).trans rfl, (bC BK220.out 2).trans rfl, (bC BK220.out 3).trans rfl, (bC BK220.out 4).trans rfl, (bC BK220.out 5).trans rfl, (bC BK220.out 6).trans rfl⟩ (fun hHeld => ?_)
  clear hK K
  refine norm_ (a' := ?_) ?_ ?_
  rotate_left
  ·show Act.put _ (some 25) _ = _
   simp only [Act.put, sA, sZ, sS, i64_w, i32_w]
   rfl
  refine one_ (i := 4) (N := none) b62_ rfl rfl (by kernel_rfl) (by decide) (fun K hK => ?_)
  have hs41 : w40.cell? ⟨gb206, 0, none⟩ = some (.slice none 0 0) := (bC BK206.out 0).trans rfl
  have hfs41 := bF BK206.out 0
  have hns41_0 := NB205_206.out
  have hns41_2 := NB207_206.out
  have hns41_3 := NB220_206.out
  have hms41_0 := NB206_205.out
  have hms41_2 := NB206_207.out
  have hms41_3 := NB206_220.out
  have hs42 : w40.cell? ⟨gb206, 1, none⟩ = some (.int .i64 0) := (bC BK206.out 1).trans rfl
  have hfs42 := bF BK206.out 1
  have hns42_0 := NB205_206.out
  have hns42_2 := NB207_206.out
  have hns42_3 := NB220_206.out
  have hms42_0 := NB206_205.out
  have hms42_2 := NB206_207.out
  have hms42_3 := NB206_220.out
  have hs43 : w40.cell? ⟨gb206, 2, none⟩ = some (.int .i64 0) := (bC BK206.out 2).trans rfl
  have hfs43 := bF BK206.out 2
  have hns43_0 := NB205_206.out
  have hns43_2 := NB207_206.out
  have hns43_3 := NB220_206.out
  have hms43_0 := NB206_205.out
  have hms43_2 := NB206_207.out
  have hms43_3 := NB206_220.out
  have hs44 : w40.cell? ⟨gb206, 3, none⟩ = some (.int .i64 0) := (bC BK206.out 3).trans rfl
  have hfs44 := bF BK206.out 3
  have hns44_0 := NB205_206.out
  have hns44_2 := NB207_206.out
  have hns44_3 := NB220_206.out
  have hms44_0 := NB206_205.out
  have hms44_2 := NB206_207.out
  have hms44_3 := NB206_220.out
  refine skip_ (w1 := ?_) (by rfl) rfl ?_ ?_
  rotate_left
  ·go_simp
   rfl
  refine hK.out _ _ ⟨((cell_far (p := ⟨gb206, _, none⟩) NB205_206.out _).trans (((cell_far (p := ⟨gb206, _, none⟩) NB205_206.out _).trans (((cell_far (p := ⟨gb206, _, none⟩) NB205_206.out _).trans (((cell_far (p := ⟨gb206, _, none⟩) NB205_206.out _).trans (hHeld.1)))))))), ((cell_far (p := ⟨gb206, _, none⟩) NB205_206.out _).trans (((cell_far (p := ⟨gb206, _, none⟩) NB205_206.out _).trans (((cell_far (p := ⟨gb206, _, none⟩) NB205_206.out _).trans (((cell_far (p := ⟨gb206, _, none⟩) NB205_206.out _).trans (hHeld.2.1)))))))), ((cell_far (p := ⟨gb206, _, none⟩) NB205_206.out _).trans (((cell_far (p := ⟨gb206, _, none⟩) NB205_206.out _).trans (((cell_far (p := ⟨gb206, _, none⟩) NB205_206.out _).trans (((cell_far (p := ⟨gb206, _, none⟩) NB205_206.out _).trans (hHeld.2.2.1)))))))), ((cell_far (p := ⟨gb206, _, none⟩) NB205_206.out _).trans (((cell_far (p := ⟨gb206, _, none⟩) NB205_206.out _).trans (((cell_far (p := ⟨gb206, _, none⟩) NB205_206.out _).trans (((cell_far (p := ⟨gb206, _, none⟩) NB205_206.out _).trans (hHeld.2.2.2.1)))))))), ((cell_far (p := ⟨gb206, _, none⟩) NB220_206.out _).trans (((cell_far (p := ⟨gb206, _, none⟩) NB220_206.out _).trans (((cell_far (p := ⟨gb206, _, none⟩) NB220_206.out _).trans (((cell_far (p := ⟨gb206, _, none⟩) NB220_206.out _).trans (hHeld.2.2.2.2.1)))))))), ((cell_far (p := ⟨gb206, _, none⟩) NB220_206.out _).trans (((cell_far (p := ⟨gb206, _, none⟩) NB220_206.out _).trans (((cell_far (p := ⟨gb206, _, none⟩) NB220_206.out _).trans (((cell_far (p := ⟨gb206, _, none⟩) NB220_206.out _).trans (hHeld.2.2.2.2.2.1)))))))), ((cell_far (p := ⟨gb206, _, none⟩) NB220_206.out _).trans (((cell_far (p := ⟨gb206, _, none⟩) NB220_206.out _).trans (((cell_far (p := ⟨gb206, _, none⟩) NB220_206.out _).trans (((cell_far (p := ⟨gb206, _, none⟩) NB220_206.out _).trans (hHeld.2.2.2.2.2.2.1)))))))), ((cell_far (p := ⟨gb206, _, none⟩) NB220_206.out _).trans (((cell_far (p := ⟨gb206, _, none⟩) NB220_206.out _).trans (((cell_far (p := ⟨gb206, _, none⟩) NB220_206.out _).trans (((cell_far (p := ⟨gb206, _, none⟩) NB220_206.out _).trans (hHeld.2.2.2.2.2.2.2.1)))))))), ((cell_far (p := ⟨gb206, _, none⟩) NB220_206.out _).trans (((cell_far (p := ⟨gb206, _, none⟩) NB220_206.out _).trans (((cell_far (p := ⟨gb206, _, none⟩) NB220_206.out _).trans (((cell_far (p := ⟨gb206, _, none⟩) NB220_206.out _).trans (hHeld.2.2.2.2.2.2.2.2.1)))))))), ((cell_far (p := ⟨gb206, _, none⟩) NB220_206.out _).trans (((cell_far (p := ⟨gb206, _, none⟩) NB220_206.out _).trans (((cell_far (p := ⟨gb206, _, none⟩) NB220_206.out _).trans (((cell_far (p := ⟨gb206, _, none⟩) NB220_206.out _).trans (hHeld.2.2.2.2.2.2.2.2.2.1)))))))), ((cell_far (p := ⟨gb206, _, none⟩) NB220_206.out _).trans (((cell_far (p := ⟨gb206, _, none⟩) NB220_206.out _).trans (((cell_far (p := ⟨gb206, _, none⟩) NB220_206.out _).trans (((cell_far (p := ⟨gb206, _, none⟩) NB220_206.out _).trans (hHeld.2.2.2.2.2.2.2.2.2.2))))))))⟩ (fun hHeld => ?_)
  clear hK K
  refine one_ (i := 5) (N := none) b63_ rfl rfl (by kernel_rfl) (by decide) (fun K hK => ?_)
  have hs45 : w40.cell? ⟨gb207, 0, none⟩ = some (.int .i64 0) := (bC BK207.out 0).trans rfl
  have hfs45 := bF BK207.out 0
  have hns45_0 := NB205_207.out
  have hns45_1 := NB206_207.out
  have hns45_3 := NB220_207.out
  have hms45_0 := NB207_205.out
  have hms45_1 := NB207_206.out
  have hms45_3 := NB207_220.out
  have hs46 : w40.cell? ⟨gb207, 1, none⟩ = some (.string (⟨#[]⟩ : ByteArray)) := (bC BK207.out 1).trans rfl
  have hfs46 := bF BK207.out 1
  have hns46_0 := NB205_207.out
  have hns46_1 := NB206_207.out
  have hns46_3 := NB220_207.out
  have hms46_0 := NB207_205.out
  have hms46_1 := NB207_206.out
  have hms46_3 := NB207_220.out
  have hs48 : w40.cell? ⟨gb207, 2, none⟩ = some (.slice none 0 0) := (bC BK207.out 2).trans rfl
  have hfs48 := bF BK207.out 2
  have hns48_0 := NB205_207.out
  have hns48_1 := NB206_207.out
  have hns48_3 := NB220_207.out
  have hms48_0 := NB207_205.out
  have hms48_1 := NB207_206.out
  have hms48_3 := NB207_220.out
  have hs49 : w40.cell? ⟨gb207, 3, none⟩ = some (.string (⟨#[]⟩ : ByteArray)) := (bC BK207.out 3).trans rfl
  have hfs49 := bF BK207.out 3
  have hns49_0 := NB205_207.out
  have hns49_1 := NB206_207.out
  have hns49_3 := NB220_207.out
  have hms49_0 := NB207_205.out
  have hms49_1 := NB207_206.out
  have hms49_3 := NB207_220.out
  have hs51 : w40.cell? ⟨gb207, 4, none⟩ = some (.slice none 0 0) := (bC BK207.out 4).trans rfl
  have hfs51 := bF BK207.out 4
  have hns51_0 := NB205_207.out
  have hns51_1 := NB206_207.out
  have hns51_3 := NB220_207.out
  have hms51_0 := NB207_205.out
  have hms51_1 := NB207_206.out
  have hms51_3 := NB207_220.out
  refine skip_ (w1 := ?_) (by rfl) rfl ?_ ?_
  rotate_left
  ·go_simp
   rfl
  refine hK.out _ _ ⟨((cell_far (p := ⟨gb207, _, none⟩) NB205_207.out _).trans (((cell_far (p := ⟨gb207, _, none⟩) NB205_207.out _).trans (((cell_far (p := ⟨gb207, _, none⟩) NB205_207.out _).trans (((cell_far (p := ⟨gb207, _, none⟩) NB205_207.out _).trans (((cell_far (p := ⟨gb207, _, none⟩) NB205_207.out _).trans (hHeld.1)))))))))), ((cell_far (p := ⟨gb207, _, none⟩) NB205_207.out _).trans (((cell_far (p := ⟨gb207, _, none⟩) NB205_207.out _).trans (((cell_far (p := ⟨gb207, _, none⟩) NB205_207.out _).trans (((cell_far (p := ⟨gb207, _, none⟩) NB205_207.out _).trans (((cell_far (p := ⟨gb207, _, none⟩) NB205_207.out _).trans (hHeld.2.1)))))))))), ((cell_far (p := ⟨gb207, _, none⟩) NB205_207.out _).trans (((cell_far (p := ⟨gb207, _, none⟩) NB205_207.out _).trans (((cell_far (p := ⟨gb207, _, none⟩) NB205_207.out _).trans (((cell_far (p := ⟨gb207, _, none⟩) NB205_207.out _).trans (((cell_far (p := ⟨gb207, _, none⟩) NB205_207.out _).trans (hHeld.2.2.1)))))))))), ((cell_far (p := ⟨gb207, _, none⟩) NB205_207.out _).trans (((cell_far (p := ⟨gb207, _, none⟩) NB205_207.out _).trans (((cell_far (p := ⟨gb207, _, none⟩) NB205_207.out _).trans (((cell_far (p := ⟨gb207, _, none⟩) NB205_207.out _).trans (((cell_far (p := ⟨gb207, _, none⟩) NB205_207.out _).trans (hHeld.2.2.2.1)))))))))), ((cell_far (p := ⟨gb207, _, none⟩) NB220_207.out _).trans (((cell_far (p := ⟨gb207, _, none⟩) NB220_207.out _).trans (((cell_far (p := ⟨gb207, _, none⟩) NB220_207.out _).trans (((cell_far (p := ⟨gb207, _, none⟩) NB220_207.out _).trans (((cell_far (p := ⟨gb207, _, none⟩) NB220_207.out _).trans (hHeld.2.2.2.2.1)))))))))), ((cell_far (p := ⟨gb207, _, none⟩) NB220_207.out _).trans (((cell_far (p := ⟨gb207, _, none⟩) NB220_207.out _).trans (((cell_far (p := ⟨gb207, _, none⟩) NB220_207.out _).trans (((cell_far (p := ⟨gb207, _, none⟩) NB220_207.out _).trans (((cell_far (p := ⟨gb207, _, none⟩) NB220_207.out _).trans (hHeld.2.2.2.2.2.1)))))))))), ((cell_far (p := ⟨gb207, _, none⟩) NB220_207.out _).trans (((cell_far (p := ⟨gb207, _, none⟩) NB220_207.out _).trans (((cell_far (p := ⟨gb207, _, none⟩) NB220_207.out _).trans (((cell_far (p := ⟨gb207, _, none⟩) NB220_207.out _).trans (((cell_far (p := ⟨gb207, _, none⟩) NB220_207.out _).trans (hHeld.2.2.2.2.2.2.1)))))))))), ((cell_far (p := ⟨gb207, _, none⟩) NB220_207.out _).trans (((cell_far (p := ⟨gb207, _, none⟩) NB220_207.out _).trans (((cell_far (p := ⟨gb207, _, none⟩) NB220_207.out _).trans (((cell_far (p := ⟨gb207, _, none⟩) NB220_207.out _).trans (((cell_far (p := ⟨gb207, _, none⟩) NB220_207.out _).trans (hHeld.2.2.2.2.2.2.2.1)))))))))), ((cell_far (p := ⟨gb207, _, none⟩) NB220_207.out _).trans (((cell_far (p := ⟨gb207, _, none⟩) NB220_207.out _).trans (((cell_far (p := ⟨gb207, _, none⟩) NB220_207.out _).trans (((cell_far (p := ⟨gb207, _, none⟩) NB220_207.out _).trans (((cell_far (p := ⟨gb207, _, none⟩) NB220_207.out _).trans (hHeld.2.2.2.2.2.2.2.2.1)))))))))), ((cell_far (p := ⟨gb207, _, none⟩) NB220_207.out _).trans (((cell_far (p := ⟨gb207, _, none⟩) NB220_207.out _).trans (((cell_far (p := ⟨gb207, _, none⟩) NB220_207.out _).trans (((cell_far (p := ⟨gb207, _, none⟩) NB220_207.out _).trans (((cell_far (p := ⟨gb207, _, none⟩) NB220_207.out _).trans (hHeld.2.2.2.2.2.2.2.2.2.1)))))))))), ((cell_far (p := ⟨gb207, _, none⟩) NB220_207.out _).trans (((cell_far (p := ⟨gb207, _, none⟩) NB220_207.out _).trans (((cell_far (p := ⟨gb207, _, none⟩) NB220_207.out _).trans (((cell_far (p := ⟨gb207, _, none⟩) NB220_207.out _).trans (((cell_far (p := ⟨gb207, _, none⟩) NB220_207.out _).trans (hHeld.2.2.2.2.2.2.2.2.2.2))))))))))⟩ (fun hHeld => ?_)
  clear hK K
  refine pure_ (i := 6) (N := some 4) (v := ?_) (a' := ?_) b64_ rfl rfl (by kernel_rfl) (fun _ _ _ h => h) (Or.inl ⟨by rfl, ?_⟩) ?_ ?_
  rotate_left
  ·intro w'
   go_simp
   with_reducible rfl
  rotate_left
  ·simp only [Act.put, sA, sZ, sS, i64_w, i32_w]
   rfl
  refine done_ (by kernel_rfl) ?_
  try go_wp2
  refine bodyPost_ret (results_list (rs := [.cell 2 28, .cell 3 34, .tmp 4]) rfl (by simp) (.cell gb206 28 #[.slice A0_0 l0_0.length c0_0, .int .i64 t209, .int .i64 a0_2, .int .i64 a0_3] (0, 0) _ rfl (by (with_reducible repeat (first | apply qn | apply qd | apply qa)); refine bR ?_ NB206_207.out _; (with_reducible repeat (first | apply qn | apply qd | apply qa)); refine bR ?_ NB206_207.out _; (with_reducible repeat (first | apply qn | apply qd | apply qa)); refine bR ?_ NB206_207.out _; (with_reducible repeat (first | apply qn | apply qd | apply qa)); refine bR ?_ NB206_207.out _; (with_reducible repeat (first | apply qn | apply qd | apply qa)); refine bR ?_ NB206_207.out _; (with_reducible repeat (first | apply qn | apply qd | apply qa)); refine bU (cs := #[.slice A0_0 l0_0.length c0_0, .int .i64 t209, .int .i64 a0_2, .int .i64 0]) ?_ 3 _ rfl; (with_reducible repeat (first | apply qn | apply qd | apply qa)); refine bU (cs := #[.slice A0_0 l0_0.length c0_0, .int .i64 t209, .int .i64 0, .int .i64 0]) ?_ 2 _ rfl; (with_reducible repeat (first | apply qn | apply qd | apply qa)); refine bU (cs := #[.slice A0_0 l0_0.length c0_0, .int .i64 0, .int .i64 0, .int .i64 0]) ?_ 1 _ rfl; (with_reducible repeat (first | apply qn | apply qd | apply qa)); refine bU (cs := #[.slice none 0 0, .int .i64 0, .int .i64 0, .int .i64 0]) ?_ 0 _ rfl; exact qy BK206.out) Try.underlying28 rfl (by kernel_rfl) (.cell gb207 34 #[.int .i64 t221, .string t222, .slice Ao47 t223.length co47, .string t226, .slice Ao50 t227.length co50] (0, 0) _ rfl (by (with_reducible repeat (first | apply qn | apply qd | apply qa)); refine bU (cs := #[.int .i64 t221, .string t222, .slice Ao47 t223.length co47, .string t226, .slice none 0 0]) ?_ 4 _ rfl; (with_reducible repeat (first | apply qn | apply qd | apply qa)); refine bU (cs := #[.int .i64 t221, .string t222, .slice Ao47 t223.length co47, .string (⟨#[]⟩ : ByteArray), .slice none 0 0]) ?_ 3 _ rfl; (with_reducible repeat (first | apply qn | apply qd | apply qa)); refine bU (cs := #[.int .i64 t221, .string t222, .slice none 0 0, .string (⟨#[]⟩ : ByteArray), .slice none 0 0]) ?_ 2 _ rfl; (with_reducible repeat (first | apply qn | apply qd | apply qa)); refine bU (cs := #[.int .i64 t221, .string (⟨#[]⟩ : ByteArray), .slice none 0 0, .string (⟨#[]⟩ : ByteArray), .slice none 0 0]) ?_ 1 _ rfl; (with_reducible repeat (first | apply qn | apply qd | apply qa)); refine bU (cs := #[.int .i64 0, .string (⟨#[]⟩ : ByteArray), .slice none 0 0, .string (⟨#[]⟩ : ByteArray), .slice none 0 0]) ?_ 0 _ rfl; (with_reducible repeat (first | apply qn | apply qd | apply qa)); refine bR ?_ NB207_206.out _; (with_reducible repeat (first | apply qn | apply qd | apply qa)); refine bR ?_ NB207_206.out _; (with_reducible repeat (first | apply qn | apply qd | apply qa)); refine bR ?_ NB207_206.out _; (with_reducible repeat (first | apply qn | apply qd | apply qa)); refine bR ?_ NB207_206.out _; exact qy BK207.out) Try.underlying34 rfl (by kernel_rfl) (.tmp .nil)))) rfl ?_
  exact ⟨_, _, _, by first | rfl | (simp [errW_none, errW_some] <;> rfl) | (simp [*, errW_none, errW_some] <;> rfl), by (with_reducible repeat (first | apply va | apply vn | apply vd)); exact Kd.V_mono (Kd.V_far (p := ⟨gb207, 4, none⟩) (Kd.V_far (p := ⟨gb207, 3, none⟩) (Kd.V_far (p := ⟨gb207, 2, none⟩) (Kd.V_far (p := ⟨gb207, 1, none⟩) (Kd.V_far (p := ⟨gb207, 0, none⟩) (Kd.V_far (p := ⟨gb206, 3, none⟩) (Kd.V_far (p := ⟨gb206, 2, none⟩) (Kd.V_far (p := ⟨gb206, 1, none⟩) (Kd.V_far (p := ⟨gb206, 0, none⟩) (Kd.V_mono (Kd.V_mono HO0_0.out (fun k_ hk => (⟨hk, hk.2.2.1⟩ : _ ∧ k_ ≠ gb206))) (fun k_ hk => (⟨hk, hk.1.2.2.2.1⟩ : _ ∧ k_ ≠ gb207))) (fun _ hk => hk.1.2) (.slice A0_0 l0_0.length c0_0)) (fun _ hk => hk.1.2) (.int .i64 t209)) (fun _ hk => hk.1.2) (.int .i64 a0_2)) (fun _ hk => hk.1.2) (.int .i64 a0_3)) (fun _ hk => hk.2) (.int .i64 t221)) (fun _ hk => hk.2) (.string t222)) (fun _ hk => hk.2) (.slice Ao47 t223.length co47)) (fun _ hk => hk.2) (.string t226)) (fun _ hk => hk.2) (.slice Ao50 t227.length co50)) (fun _ hk => hk.1.1.1), by (with_reducible repeat (first | apply va | apply vn | apply vd)); exact Kd.V_mono (Kd.V_far (p := ⟨gb207, 4, none⟩) (Kd.V_far (p := ⟨gb207, 3, none⟩) (Kd.V_far (p := ⟨gb207, 2, none⟩) (Kd.V_far (p := ⟨gb207, 1, none⟩) (Kd.V_far (p := ⟨gb207, 0, none⟩) (Kd.V_far (p := ⟨gb206, 3, none⟩) (Kd.V_far (p := ⟨gb206, 2, none⟩) (Kd.V_far (p := ⟨gb206, 1, none⟩) (Kd.V_far (p := ⟨gb206, 0, none⟩) (Kd.V_mono (Kd.V_mono HO225.out (fun k_ hk => (⟨hk, hk.2.2.1⟩ : _ ∧ k_ ≠ gb206))) (fun k_ hk => (⟨hk, hk.1.2.2.2.1⟩ : _ ∧ k_ ≠ gb207))) (fun _ hk => hk.1.2) (.slice A0_0 l0_0.length c0_0)) (fun _ hk => hk.1.2) (.int .i64 t209)) (fun _ hk => hk.1.2) (.int .i64 a0_2)) (fun _ hk => hk.1.2) (.int .i64 a0_3)) (fun _ hk => hk.2) (.int .i64 t221)) (fun _ hk => hk.2) (.string t222)) (fun _ hk => hk.2) (.slice Ao47 t223.length co47)) (fun _ hk => hk.2) (.string t226)) (fun _ hk => hk.2) (.slice Ao50 t227.length co50)) (fun _ hk => hk.1.1.1), by (with_reducible repeat (first | apply va | apply vn | apply vd)); exact Kd.V_mono (Kd.V_far (p := ⟨gb207, 4, none⟩) (Kd.V_far (p := ⟨gb207, 3, none⟩) (Kd.V_far (p := ⟨gb207, 2, none⟩) (Kd.V_far (p := ⟨gb207, 1, none⟩) (Kd.V_far (p := ⟨gb207, 0, none⟩) (Kd.V_far (p := ⟨gb206, 3, none⟩) (Kd.V_far (p := ⟨gb206, 2, none⟩) (Kd.V_far (p := ⟨gb206, 1, none⟩) (Kd.V_far (p := ⟨gb206, 0, none⟩) (Kd.V_mono (Kd.V_mono HO229.out (fun k_ hk => (⟨hk, hk.2.2.1⟩ : _ ∧ k_ ≠ gb206))) (fun k_ hk => (⟨hk, hk.1.2.2.2.1⟩ : _ ∧ k_ ≠ gb207))) (fun _ hk => hk.1.2) (.slice A0_0 l0_0.length c0_0)) (fun _ hk => hk.1.2) (.int .i64 t209)) (fun _ hk => hk.1.2) (.int .i64 a0_2)) (fun _ hk => hk.1.2) (.int .i64 a0_3)) (fun _ hk => hk.2) (.int .i64 t221)) (fun _ hk => hk.2) (.string t222)) (fun _ hk => hk.2) (.slice Ao47 t223.length co47)) (fun _ hk => hk.2) (.string t226)) (fun _ hk => hk.2) (.slice Ao50 t227.length co50)) (fun _ hk => hk.1.1.1), by repeat (first | (with_reducible first | exact HB.out | apply ea | apply en | apply ed | refine es ?_ GE205.out | refine es ?_ GE206.out | refine es ?_ GE207.out | refine es ?_ GE220.out) | exact HB.out)⟩
end Go.Proofs.Ytbbgpfjeobdogaa.PB
end

section
namespace Go.Proofs.Ytbbgpfjeobdogaa.PB
open Go.RowKit Go.Maps Go.Proofs.YtbbgpfjeobdogaaW.PrintWords
set_option linter.unusedVariables false
set_option linter.unusedSimpArgs false
theorem rdS {L : List St} {i : Nat} (hi : i < L.length) : rd_T76 L (i : Int) = L[i] := by
  unfold rd_T76
  rw [Int.toNat_natCast, List.getD_eq_getElem?_getD, List.getElem?_eq_getElem hi, Option.getD_some]
theorem rstates_ev (L : List St) (hl : L.length ≤ 1000) (a b c : Int) : Ev (fun k => bureauref08_States.f k L a b c) (statesL L) := by
  unfold bureauref08_States.f
  have loop : ∀ (d i : Nat), i + d = L.length → Ev (fun k => bureauref08_States.l0 k (statesL (L.take i)) (i : Int) L a b c) (statesL L) := by
    intro d
    induction d with
    | zero =>
      intro i hi
      refine Ev.step (fun k => by simp only [bureauref08_States.l0]; rfl) ?_
      refine Ev.neg (by omega) (ev_val (Ev.now _) ?_)
      rw [List.take_of_length_le (by omega)]
    | succ d ih =>
      intro i hi
      refine Ev.step (fun k => by simp only [bureauref08_States.l0]; rfl) ?_
      have hlen : (statesL (L.take i)).length = i := by unfold statesL; rw [List.length_map, List.length_take]; omega
      refine Ev.pos (by omega) (Ev.pos (by omega) (Ev.pos (by omega) ?_))
      rw [rdS (by omega), show wrap64 ((i : Int) + 1) = ((i + 1 : Nat) : Int) by unfold wrap64; omega]
      have := ih (i + 1) (by omega)
      rw [← List.take_append_getElem (show i < L.length by omega)] at this
      unfold statesL at this ⊢
      rw [List.map_append] at this
      exact this
  exact loop L.length 0 (by omega)
theorem rfind_ev {L : List St} {now next : Int} (h : Wf L now next) {x : St} (hx : x ∈ L) (a b c : Int) : Ev (fun k => bureauref08_find.f k L a b c x.f0) (x.f0, x.f1, x.f2.f0, x.f2.f1.f0, x.f2.f1.f1, x.f2.f2.f0, x.f2.f2.f1, true) := by
  unfold bureauref08_find.f
  obtain ⟨j, hj, e⟩ := List.mem_iff_getElem.1 hx
  have hlen := h.len
  have loop : ∀ (d i : Nat), i + d = j → Ev (fun k => bureauref08_find.l0 k x.f0 (i : Int) L a b c) (x.f0, x.f1, x.f2.f0, x.f2.f1.f0, x.f2.f1.f1, x.f2.f2.f0, x.f2.f2.f1, true) := by
    intro d
    induction d with
    | zero =>
      intro i hi
      obtain rfl : i = j := by omega
      refine Ev.step (fun k => by simp only [bureauref08_find.l0]; rfl) ?_
      refine Ev.pos (by omega) (Ev.pos (by omega) ?_)
      rw [rdS hj, e]
      exact Ev.pos rfl (Ev.now _)
    | succ d ih =>
      intro i hi
      refine Ev.step (fun k => by simp only [bureauref08_find.l0]; rfl) ?_
      refine Ev.pos (by omega) (Ev.pos (by omega) ?_)
      rw [rdS (by omega)]
      have hlt := List.pairwise_iff_getElem.1 h.inc i j (by omega) hj (by omega)
      rw [e] at hlt
      refine Ev.neg (by omega) ?_
      rw [show wrap64 ((i : Int) + 1) = ((i + 1 : Nat) : Int) by unfold wrap64; omega]
      exact ih (i + 1) (by omega)
  exact loop j 0 (by omega)
theorem rev1_ev (l : List Int) (hl : l.length ≤ 10000) : Ev (fun k => bureauref08_Path.j1 k l) l.reverse := by
  refine Ev.step (fun k => by simp only [bureauref08_Path.j1]; rfl) ?_
  have loop : ∀ (d : Nat), d ≤ l.length → Ev (fun k => bureauref08_Path.l1 k l (l.drop d).reverse ((d : Int) - 1)) l.reverse := by
    intro d
    induction d with
    | zero =>
      intro _
      refine Ev.step (fun k => by simp only [bureauref08_Path.l1]; rfl) ?_
      exact Ev.neg (by omega) (ev_val (Ev.now _) (by simp))
    | succ d ih =>
      intro hd
      refine Ev.step (fun k => by simp only [bureauref08_Path.l1]; rfl) ?_
      refine Ev.pos (by omega) (Ev.pos (by omega) (Ev.pos (by omega) (Ev.pos (by rw [List.length_reverse, List.length_drop]; omega) ?_)))
      have e1 : rd l (((d + 1 : Nat) : Int) - 1) = l[d] := by rw [show (((d + 1 : Nat) : Int) - 1) = (d : Int) by omega]; exact getD_eq l d (by omega)
      rw [e1, show wrap64 (((d + 1 : Nat) : Int) - 1 - 1) = (d : Int) - 1 by unfold wrap64; omega]
      have := ih (by omega)
      rw [List.drop_eq_getElem_cons (show d < l.length by omega), List.reverse_cons] at this
      exact this
  have h := loop l.length (Nat.le_refl _)
  rw [List.drop_length] at h
  rw [show wrap64 ((l.length : Int) - 1) = (l.length : Int) - 1 by unfold wrap64; omega]
  exact h
theorem up_take (L : List St) : ∀ (k m : Nat) (n : Int), k ≤ m → upL L k n = (upL L m n).take k
  | 0, m, n, _ => by simp [upL]
  | k + 1, 0, n, h => by omega
  | k + 1, m + 1, n, h => by
    unfold upL
    split
    · simp
    · rw [List.take_succ_cons, ← up_take L k m _ (by omega)]
theorem rpath_ev {L : List St} {now next : Int} (h : Wf L now next) (b c : Int) : Ev (fun k => bureauref08_Path.f k L now b c) (pathL L now) := by
  obtain ⟨x0, hx0, hn0⟩ := h.now
  have hlen := h.len
  obtain ⟨hs, hm⟩ := up_sorted h 1000 x0 hx0
  rw [hn0] at hs hm
  have hul : (upL L 1000 now).length ≤ L.length := by
    have := len_of_sub (upL L 1000 now) (statesL L) (hs.imp (fun h => Int.ne_of_gt h)) (fun y hy => by obtain ⟨_, z, hz, e⟩ := hm y hy; exact List.mem_map.2 ⟨z, hz, e⟩)
    rwa [show (statesL L).length = L.length from List.length_map _] at this
  have hup : upL L L.length now = upL L 1000 now := by rw [up_take L L.length 1000 now (by omega), List.take_of_length_le hul]
  have loop : ∀ (d i : Nat) (n : Int) (bk : List Int), i + d = L.length → bk.length = i → (0 ≤ n → ∃ x ∈ L, x.f0 = n) → bk ++ upL L d n = upL L L.length now → Ev (fun k => bureauref08_Path.l0 k bk n (i : Int) L now b c) (pathL L now) := by
    have hfin : ∀ bk : List Int, bk = upL L L.length now → Ev (fun k => bureauref08_Path.j1 k bk) (pathL L now) := by
      rintro bk rfl
      unfold pathL
      rw [← hup]
      exact rev1_ev _ (by have := upL_len L L.length now; omega)
    intro d
    induction d with
    | zero =>
      intro i n bk hi hb hx hu
      refine Ev.step (fun k => by simp only [bureauref08_Path.l0]; rfl) ?_
      refine Ev.neg (by omega) (hfin bk ?_)
      simpa [upL] using hu
    | succ d ih =>
      intro i n bk hi hb hx hu
      refine Ev.step (fun k => by simp only [bureauref08_Path.l0]; rfl) ?_
      refine Ev.pos (by omega) ?_
      by_cases hn : n ≥ 0
      · obtain ⟨x, hxL, rfl⟩ := hx hn
        refine Ev.pos hn (Ev.pos (by omega) (Ev.bind (rfind_ev h hxL now b c) ?_))
        rw [show wrap64 ((i : Int) + 1) = ((i + 1 : Nat) : Int) by unfold wrap64; omega]
        refine ih (i + 1) x.f1 (bk ++ [x.f0]) (by omega) (by simp; omega) (fun h1 => ?_) ?_
        · rcases h.up x hxL with h2 | h2
          · omega
          · exact h2
        · rw [up_step h hxL d] at hu
          rw [List.append_assoc]
          exact hu
      · refine Ev.neg hn (hfin bk ?_)
        rw [up_none L _ (by omega), List.append_nil] at hu
        exact hu
  unfold bureauref08_Path.f
  exact loop L.length 0 now [] (by omega) rfl (fun _ => ⟨x0, hx0, hn0⟩) (by simp)
theorem rundo_ev {L : List St} {now next : Int} (h : Wf L now next) {x : St} (hx : x ∈ L) (hn : x.f0 = now) (b c : Int) : Ev (fun k => bureauref08_Undo.f k L now b c)
    (L, undoNow L now, b, c, (if x.f1 < 0 then z34 else invE x.f2).f0, (if x.f1 < 0 then z34 else invE x.f2).f1.f0, (if x.f1 < 0 then z34 else invE x.f2).f1.f1, (if x.f1 < 0 then z34 else invE x.f2).f2.f0, (if x.f1 < 0 then z34 else invE x.f2).f2.f1, if x.f1 < 0 then 6 else 0) := by
  rw [undoNow_of h hx hn]
  unfold bureauref08_Undo.f
  subst hn
  refine Ev.bind (rfind_ev h hx x.f0 b c) ?_
  by_cases hup : x.f1 < 0
  · refine Ev.pos hup (ev_val (Ev.now _) ?_)
    simp only [hup, if_true]
    rfl
  · refine Ev.neg hup ?_
    simp only [hup, if_false]
    exact ev_val (Ev.now _) rfl
end Go.Proofs.Ytbbgpfjeobdogaa.PB
end

section
namespace Go.Proofs.Ytbbgpfjeobdogaa.PB
open Go.RowKit Go.Proofs.YtbbgpfjeobdogaaW.PrintWords Go.Proofs.YtbbgpfjeobdogaaW.PrintLast Go.Proofs.YtbbgpfjeobdogaaW.PrintMore
attribute [local go_sem] max2_int min2_int max_two min_two max_three min_three max_four min_four   
set_option linter.unusedVariables false
set_option linter.unusedSimpArgs false
def bureaulaw07_Fits.f (a0_0 : Int) (a0_1 : ByteArray) (l0_2 : List (S71)) (a0_3 : ByteArray) (l0_4 : List (S71)) : Option (Bool) := (bureaulaw04_Fits.f a0_1 l0_2).bind fun t197 => (if t197 = true then ((bureaulaw04_Fits.f a0_3 l0_4).bind fun t198 => (some t198)) else (some false))
set_option maxHeartbeats 8000000 in
set_option maxRecDepth 100000 in
theorem bureaulaw07_Fits.calls (a0_0 : Int) (a0_1 : ByteArray) (A0_2 : Option Addr) (c0_2 : Nat) (l0_2 : List (S71)) (a0_3 : ByteArray) (A0_4 : Option Addr) (c0_4 : Nat) (l0_4 : List (S71)) (r : Bool) (w : World) (hr0_2 : Kd.C k71 w A0_2 l0_2.length l0_2) (hc0_2 : l0_2.length ≤ c0_2) (hr0_4 : Kd.C k71 w A0_4 l0_4.length l0_4) (hc0_4 : l0_4.length ≤ c0_4) (h : bureaulaw07_Fits.f a0_0 a0_1 l0_2 a0_3 l0_4 = some r) :
  Calls Try.prog 11 #[.agg #[.int .i64 a0_0, .string a0_1, .slice A0_2 l0_2.length c0_2, .string a0_3, .slice A0_4 l0_4.length c0_4]] w fun e w' => e = .returned (.bool r) ∧ Below w.heap.size w w' := by
 have hu34 := Try.underlying34
 have hu32 := Try.underlying32
 have HR0_2 := aM hr0_2
 have HC0_2 := aM hc0_2
 clear hr0_2 hc0_2
 have HR0_4 := aM hr0_4
 have HC0_4 := aM hc0_4
 clear hr0_4 hc0_4
 have HB := aM (Below.refl w.heap.size w)
 have H : ((bureaulaw04_Fits.f a0_1 l0_2).bind fun t197 => (if t197 = true then ((bureaulaw04_Fits.f a0_3 l0_4).bind fun t198 => (some t198)) else (some false))) = some r := h
 clear h
 replace H := Option.bind_eq_some_iff.mp H
 obtain ⟨t197, A20, H⟩ := H
 replace H : (if t197 = true then ((bureaulaw04_Fits.f a0_3 l0_4).bind fun t198 => (some t198)) else (some false)) = some r := H
 have A2 := aM A20
 clear A20
 by_cases c3 : t197 = true
 ·subst c3
  have H1 : ((bureaulaw04_Fits.f a0_3 l0_4).bind fun t198 => (some t198)) = some r := by rw [if_pos rfl] at H; exact H
  clear H
  have H := H1
  clear H1
  replace H := Option.bind_eq_some_iff.mp H
  obtain ⟨t198, A40, H⟩ := H
  replace H : (some t198) = some r := H
  have A4 := aM A40
  clear A40
  obtain rfl := Option.some.inj H
  go_enter Try.func11, Try.ntmps11
  go_wp2_with (first | ((with_reducible refine gate_dst (N := 1) rfl ?_); refine box_event ?hg (N := 1) ?hd (cs := #[.int .i64 a0_0, .string a0_1, .slice A0_2 l0_2.length c0_2, .string a0_3, .slice A0_4 l0_4.length c0_4]) (t := 34) ?hr ?_; (case hd | hg => rfl); (case hr => first | (go_simp; done) | (go_simp; rfl)); intro gb196 hg w5 hbox hb; have n0_ := aM (bP (ey HB.out) hb); have n1_ := aM (hbox); have n2_ := aM ((by rw [hg]; exact (bZ (ey HB.out)) : w.heap.size ≤ gb196)); have n3_ := n2_; clear HB; have HB := n0_; have BK196 := n1_; have GW196 := n2_; have GE196 := n3_; clear n0_ n1_ n2_ n3_; clear hb hbox hg; have hcz6_0 := zC BK196.out 0 (.int .i64 a0_0); have hcz6_1 := zC BK196.out 1 (.string a0_1); have hcz6_2 := zC BK196.out 2 (.slice A0_2 l0_2.length c0_2); have hcz6_3 := zC BK196.out 3 (.string a0_3); have hcz6_4 := zC BK196.out 4 (.slice A0_4 l0_4.length c0_4); have hfz6_0 := bF BK196.out 0; have hfz6_1 := bF BK196.out 1; have hfz6_2 := bF BK196.out 2; have hfz6_3 := bF BK196.out 3; have hfz6_4 := bF BK196.out 4) | ((with_reducible refine gate_callee (f := 30) rfl ?_); refine goesL_ (some 5) rfl rfl Try.func30 (by kernel_rfl) rfl #[.agg #[.string a0_1, .slice A0_2 l0_2.length c0_2]] rfl (by (try simp only [mT, mC, mN]); first | done | rfl | (simp only [lD, lT]; rfl)) ?_; (with_reducible refine (bureaulaw04_Fits.calls a0_1 _ _ l0_2 true _ ?side1 ?side2 A2.out).mono ?_); (case side1 => repeat (first | exact (cB_ HR0_2.out HB.out) | (with_reducible refine Kd.C_alloc ?_ _) | (with_reducible refine Kd.C_drewN ?_ _) | (with_reducible refine Kd.C_drew ?_))); (case side2 => exact HC0_2.out); rintro e w7 ⟨rfl, hb⟩; refine ⟨_, rfl, ?_⟩; have n0_ := aM (bB (g := gb196) (qy BK196.out) hb); have n1_ := aM (bP (by repeat (first | (with_reducible first | exact HB.out | apply ea | apply en | apply ed | refine es ?_ GE196.out) | exact HB.out)) hb); clear BK196 HB; have BK196 := n0_; have HB := n1_; clear n0_ n1_; (try clear hb); (try clear hb2); (try clear hk); (try clear hi); have hcz8_0 := zC BK196.out 0 (.int .i64 a0_0); have hcz8_1 := zC BK196.out 1 (.string a0_1); have hcz8_2 := zC BK196.out 2 (.slice A0_2 l0_2.length c0_2); have hcz8_3 := zC BK196.out 3 (.string a0_3); have hcz8_4 := zC BK196.out 4 (.slice A0_4 l0_4.length c0_4); have hfz8_0 := bF BK196.out 0; have hfz8_1 := bF BK196.out 1; have hfz8_2 := bF BK196.out 2; have hfz8_3 := bF BK196.out 3; have hfz8_4 := bF BK196.out 4) | (go_at_call 30; (with_reducible refine (bureaulaw04_Fits.calls a0_3 _ _ l0_4 t198 _ ?side1 ?side2 A4.out).mono ?_); (case side1 => repeat (first | exact (cB_ HR0_4.out HB.out) | (with_reducible refine Kd.C_alloc ?_ _) | (with_reducible refine Kd.C_drewN ?_ _) | (with_reducible refine Kd.C_drew ?_))); (case side2 => exact HC0_4.out); rintro e w9 ⟨rfl, hb⟩; have n0_ := aM (bB (g := gb196) (qy BK196.out) hb); have n1_ := aM (bP (by repeat (first | (with_reducible first | exact HB.out | apply ea | apply en | apply ed | refine es ?_ GE196.out) | exact HB.out)) hb); clear BK196 HB; have BK196 := n0_; have HB := n1_; clear n0_ n1_; (try clear hb); (try clear hb2); (try clear hk); (try clear hi)))
  go_ret
  exact ⟨by first | rfl | (simp [errW_none, errW_some] <;> rfl) | (simp [*, errW_none, errW_some] <;> rfl), by repeat (first | (with_reducible first | exact HB.out | apply ea | apply en | apply ed | refine es ?_ GE196.out) | exact HB.out)⟩
 ·replace c3 := Bool.eq_false_iff.mpr c3
  subst c3
  have H1 : (some false) = some r := by rw [if_neg (show ¬ (false = true) by decide)] at H; exact H
  clear H
  have H := H1
  clear H1
  obtain rfl := Option.some.inj H
  go_enter Try.func11, Try.ntmps11
  go_wp2_with (first | ((with_reducible refine gate_dst (N := 1) rfl ?_); refine box_event ?hg (N := 1) ?hd (cs := #[.int .i64 a0_0, .string a0_1, .slice A0_2 l0_2.length c0_2, .string a0_3, .slice A0_4 l0_4.length c0_4]) (t := 34) ?hr ?_; (case hd | hg => rfl); (case hr => first | (go_simp; done) | (go_simp; rfl)); intro gb196 hg w10 hbox hb; have n0_ := aM (bP (ey HB.out) hb); have n1_ := aM (hbox); have n2_ := aM ((by rw [hg]; exact (bZ (ey HB.out)) : w.heap.size ≤ gb196)); have n3_ := n2_; clear HB; have HB := n0_; have BK196 := n1_; have GW196 := n2_; have GE196 := n3_; clear n0_ n1_ n2_ n3_; clear hb hbox hg; have hcz11_0 := zC BK196.out 0 (.int .i64 a0_0); have hcz11_1 := zC BK196.out 1 (.string a0_1); have hcz11_2 := zC BK196.out 2 (.slice A0_2 l0_2.length c0_2); have hcz11_3 := zC BK196.out 3 (.string a0_3); have hcz11_4 := zC BK196.out 4 (.slice A0_4 l0_4.length c0_4); have hfz11_0 := bF BK196.out 0; have hfz11_1 := bF BK196.out 1; have hfz11_2 := bF BK196.out 2; have hfz11_3 := bF BK196.out 3; have hfz11_4 := bF BK196.out 4) | ((with_reducible refine gate_callee (f := 30) rfl ?_); refine goesL_ (some 5) rfl rfl Try.func30 (by kernel_rfl) rfl #[.agg #[.string a0_1, .slice A0_2 l0_2.length c0_2]] rfl (by (try simp only [mT, mC, mN]); first | done | rfl | (simp only [lD, lT]; rfl)) ?_; (with_reducible refine (bureaulaw04_Fits.calls a0_1 _ _ l0_2 false _ ?side1 ?side2 A2.out).mono ?_); (case side1 => repeat (first | exact (cB_ HR0_2.out HB.out) | (with_reducible refine Kd.C_alloc ?_ _) | (with_reducible refine Kd.C_drewN ?_ _) | (with_reducible refine Kd.C_drew ?_))); (case side2 => exact HC0_2.out); rintro e w12 ⟨rfl, hb⟩; refine ⟨_, rfl, ?_⟩; have n0_ := aM (bB (g := gb196) (qy BK196.out) hb); have n1_ := aM (bP (by repeat (first | (with_reducible first | exact HB.out | apply ea | apply en | apply ed | refine es ?_ GE196.out) | exact HB.out)) hb); clear BK196 HB; have BK196 := n0_; have HB := n1_; clear n0_ n1_; (try clear hb); (try clear hb2); (try clear hk); (try clear hi)))
  go_ret
  exact ⟨by first | rfl | (simp [errW_none, errW_some] <;> rfl) | (simp [*, errW_none, errW_some] <;> rfl), by repeat (first | (with_reducible first | exact HB.out | apply ea | apply en | apply ed | refine es ?_ GE196.out) | exact HB.out)⟩
end Go.Proofs.Ytbbgpfjeobdogaa.PB
end

section
namespace Go.Proofs.Ytbbgpfjeobdogaa.PB
open Go.RowKit Go.Proofs.YtbbgpfjeobdogaaW.PrintWords
set_option linter.unusedVariables false
def fitE (o : ByteArray) (ol : List S71) (n : ByteArray) (nl : List S71) : Prop := (o.size ≤ 5000 ∧ ol.length ≤ 5000) ∧ (n.size ≤ 5000 ∧ nl.length ≤ 5000)
instance (o : ByteArray) (ol : List S71) (n : ByteArray) (nl : List S71) : Decidable (fitE o ol n nl) := inferInstanceAs (Decidable (_ ∧ _))
theorem fits7_eq (a : Int) (o : ByteArray) (ol : List S71) (n : ByteArray) (nl : List S71) : bureaulaw07_Fits.f a o ol n nl = some (decide (fitE o ol n nl)) := by
  unfold bureaulaw07_Fits.f
  rw [fits_eq, fits_eq]
  by_cases h : o.size ≤ 5000 ∧ ol.length ≤ 5000
  · rw [decide_eq_true h, Option.bind_some, if_pos rfl, Option.bind_some]
    congr 1
    rw [Bool.eq_iff_iff, decide_eq_true_iff, decide_eq_true_iff]
    exact ⟨fun h2 => ⟨h, h2⟩, fun h2 => h2.2⟩
  · rw [decide_eq_false h, Option.bind_some, if_neg (by simp)]
    rw [decide_eq_false (fun h2 : fitE o ol n nl => h h2.1)]
end Go.Proofs.Ytbbgpfjeobdogaa.PB
end

section
namespace Go.Proofs.Ytbbgpfjeobdogaa.PB
open Go.RowKit Go.Maps Go.Proofs.YtbbgpfjeobdogaaW.PrintWords Go.Proofs.YtbbgpfjeobdogaaW.PrintLast Go.Proofs.YtbbgpfjeobdogaaW.PrintMore
set_option maxRecDepth 100000
set_option linter.unusedVariables false
set_option linter.unusedSimpArgs false
abbrev Ac := S36
theorem act_at {w : World} {A : Option Addr} {n : Nat} {l : List Ac} (h : Kd.C k36 w A n l) {i : Nat} (hi : i < l.length) : ∃ ad A3 c3 A5 c5, A = some ad ∧ w.cell? (ad.add (i * 7)) = some (.int .u8 (l[i]).f0) ∧ w.cell? ⟨(ad.add (i * 7)).block, (ad.add (i * 7)).off + 1, none⟩ = some (.int .i64 (l[i]).f1.f0) ∧ w.cell? ⟨(ad.add (i * 7)).block, (ad.add (i * 7)).off + 2, none⟩ = some (.string (l[i]).f1.f1.f0) ∧ w.cell? ⟨(ad.add (i * 7)).block, (ad.add (i * 7)).off + 3, none⟩ = some (.slice A3 (l[i]).f1.f1.f1.length c3) ∧ w.cell? ⟨(ad.add (i * 7)).block, (ad.add (i * 7)).off + 4, none⟩ = some (.string (l[i]).f1.f2.f0) ∧ w.cell? ⟨(ad.add (i * 7)).block, (ad.add (i * 7)).off + 5, none⟩ = some (.slice A5 (l[i]).f1.f2.f1.length c5) ∧ w.cell? ⟨(ad.add (i * 7)).block, (ad.add (i * 7)).off + 6, none⟩ = some (.bool (l[i]).f2) ∧
    (((l[i]).f1.f1.f1.length ≤ 100000 ∧ (l[i]).f1.f2.f1.length ≤ 100000) → EdIn w (fun k => k < w.heap.size) (l[i]).f1 A3 c3 A5 c5) ∧ Kd.C k71 w A3 (l[i]).f1.f1.f1.length (l[i]).f1.f1.f1 ∧ (l[i]).f1.f1.f1.length ≤ c3 ∧ Kd.C k71 w A5 (l[i]).f1.f2.f1.length (l[i]).f1.f2.f1 ∧ (l[i]).f1.f2.f1.length ≤ c5 := by
  have hn := h.1
  obtain ⟨ad, A3, c3, A5, c5, e1, h0, h1, h2, h3, h4, h5, h6, g3, C3, g5, C5⟩ := at_T36 h (i : Int) (by omega) (by omega)
  have e : rd_T36 l (i : Int) = l[i] := by
    unfold rd_T36
    rw [Int.toNat_natCast, List.getD_eq_getElem?_getD, List.getElem?_eq_getElem hi, Option.getD_some]
  simp only [e, Int.toNat_natCast] at h0 h1 h2 h3 h4 h5 h6 g3 C3 g5 C5
  exact ⟨ad, A3, c3, A5, c5, e1, h0, h1, h2, h3, h4, h5, h6, fun hf => ⟨Kd.C_F k71_heap C3, g3, Kd.C_F k71_heap C5, g5, hf⟩, C3, g3, C5, g5⟩
theorem cellW {w W : World} (hb : Below w.heap.size w W) {p : Addr} {v : Value} (h : w.cell? p = some v) : W.cell? p = some v := (hb.cell (World.block_lt_of_cell? w _ h)).trans h
theorem row_at {w : World} {B : Nat} {ok : Nat → Prop} {A : Option Addr} {n c : Nat} {l : List Int} (h : Kd.R (Kd.int .i64) 3 w B ok (.slice A n c) l) (hl : 1 ≤ l.length) : ∃ ad, A = some ad ∧ ∀ i : Nat, i < l.length → w.cell? (ad.add i) = some (.int .i64 (rd l (i : Int))) := by
  obtain ⟨e, _, hC⟩ := rR h
  obtain ⟨ad, rfl, _⟩ := Kd.at_int hC 0 (by omega) (by omega)
  refine ⟨ad, rfl, fun i hi => ?_⟩
  obtain ⟨ad2, e2, h2⟩ := Kd.at_int hC (i : Int) (by omega) (by omega)
  cases e2
  rw [Int.toNat_natCast] at h2
  exact h2
theorem HistAt.lower {B B' : Nat} {S : Nat → Prop} {g bm : Nat} {w : World} {L : List St} {now next depth : Int} (h : HistAt B S g bm w L now next depth) (hb : B' ≤ B) : HistAt B' S g bm w L now next depth :=
  ⟨h.hg, h.hm, h.sg, h.sm, Nat.le_trans hb h.bg, Nat.le_trans hb h.bb⟩
theorem fit_le {o : ByteArray} {ol : List S71} {n : ByteArray} {nl : List S71} (h : fitE o ol n nl) : ol.length ≤ 100000 ∧ nl.length ≤ 100000 := by
  have h1 := h.1.2
  have h2 := h.2.2
  omega
theorem EdIn.old {S ok : Nat → Prop} {w W : World} {e : Ed} {A1 A2 : Option Addr} {c1 c2 : Nat} (h : EdIn w ok e A1 c1 A2 c2) (hb : Below w.heap.size w W) (hS : ∀ k, ok k → ¬ S k) : EdIn W (fun k => ¬ S k) e A1 c1 A2 c2 := by
  have := h.below hb
  exact ⟨Kd.F_mono this.f1 hS, this.g1, Kd.F_mono this.f2 hS, this.g2, this.fit⟩
structure Ck (B g bm : Nat) (w : World) (L : List St) (now next depth : Int) (ls ps : List Int) (A : Option Addr) (c : Nat) (A' : Option Addr) (c' : Nat) (W : World) : Prop where
  hist : HistAt B (hb g bm) g bm W L now next depth
  rs : Kd.R (Kd.int .i64) 3 W w.heap.size (fun _ => True) (.slice A ls.length c) ls
  rp : Kd.R (Kd.int .i64) 3 W w.heap.size (fun _ => True) (.slice A' ps.length c') ps
  below : Below w.heap.size w W
theorem Ck.later {B g bm : Nat} {w W W2 : World} {L : List St} {now next depth : Int} {ls ps : List Int} {A A' : Option Addr} {c c' : Nat} (h : Ck B g bm w L now next depth ls ps A c A' c' W) (hb : Below W.heap.size W W2) : Ck B g bm w L now next depth ls ps A c A' c' W2 :=
  ⟨h.hist.below hb, Kd.R_below h.rs hb, Kd.R_below h.rp hb, h.below.trans (hb.mono h.below.size)⟩
theorem Ck.ls {B g bm : Nat} {w W : World} {L : List St} {now next depth : Int} {ls ps : List Int} {lad : Addr} {A' : Option Addr} {c c' : Nat} (h : Ck B g bm w L now next depth ls ps (some lad) c A' c' W) {i : Nat} (hi : i < ls.length) : W.cell? (lad.add i) = some (.int .i64 (rd ls (i : Int))) := by
  obtain ⟨ad, e, hc⟩ := row_at h.rs (by omega)
  cases e
  exact hc i hi
theorem Ck.ps {B g bm : Nat} {w W : World} {L : List St} {now next depth : Int} {ls ps : List Int} {pad : Addr} {A : Option Addr} {c c' : Nat} (h : Ck B g bm w L now next depth ls ps A c (some pad) c' W) {i : Nat} (hi : i < ps.length) : W.cell? (pad.add i) = some (.int .i64 (rd ps (i : Int))) := by
  obtain ⟨ad, e, hc⟩ := row_at h.rp (by omega)
  cases e
  exact hc i hi
end Go.Proofs.Ytbbgpfjeobdogaa.PB
end

section
namespace Go.Proofs.Ytbbgpfjeobdogaa.PB
open Go.RowKit Go.Maps Go.Proofs.YtbbgpfjeobdogaaW.PrintWords Go.Proofs.YtbbgpfjeobdogaaW.PrintLast Go.Proofs.YtbbgpfjeobdogaaW.PrintMore
set_option maxRecDepth 100000
set_option linter.unusedVariables false
set_option linter.unusedSimpArgs false
theorem rgoodEd_ev (e : Ed) (h : e.f1.f1.length ≤ 100000 ∧ e.f2.f1.length ≤ 100000) : Ev (fun k => bureauref07_Good.f k e.f0 e.f1.f0 e.f1.f1 e.f2.f0 e.f2.f1) (goodEd e) := rgoodE_ev _ _ _ _ _ (Nat.le_trans h.1 (by decide)) (Nat.le_trans h.2 (by decide))
set_option maxHeartbeats 16000000 in
theorem radd_bad {P : Nat → Prop} {w : World} {A : Option Addr} {c : Nat} {L : List St} {now next depth : Int} {e : Ed} {A1 A2 : Option Addr} {c1 c2 : Nat} (he : EdIn w P e A1 c1 A2 c2) (hg : goodEd e = false) :
    Calls Try.prog 18 #[.agg #[.slice A L.length c, .int .i64 now, .int .i64 next, .int .i64 depth], edV e A1 c1 A2 c2] w fun r w' => r = .returned (.tuple #[.agg #[.slice A L.length c, .int .i64 now, .int .i64 next, .int .i64 depth], .int .i64 0, .int .i64 2]) ∧ Below w.heap.size w w' := by
  have hu28 := Try.underlying28
  have hu34 := Try.underlying34
  have HE := aM he
  obtain ⟨k, hk⟩ := (rgoodEd_ev e he.fit).rounds
  rw [hg] at hk
  have HK := aM hk
  clear he hg hk
  go_enter Try.func18, Try.ntmps18
  go_wp2_with (first
    | ((with_reducible refine gate_dst (N := 2) rfl ?_); refine box_event ?hg (N := 2) ?hd (cs := #[.slice A L.length c, .int .i64 now, .int .i64 next, .int .i64 depth]) (t := 28) ?hr ?_; (case hd => rfl); (case hg => rfl); (case hr => first | (go_simp; done) | (go_simp; rfl)); intro g2 hg w2 hbox hb; have HB2 := aM hb; have HX2 := aM hbox; have GE2 := aM (Nat.le_of_eq hg.symm); have HE2 := aM (HE.out.below hb); clear hb hbox hg)
    | ((with_reducible refine gate_dst (N := 3) rfl ?_); refine box_event ?hg (N := 3) ?hd (cs := edC e A1 c1 A2 c2) (t := 34) ?hr ?_; (case hd => rfl); (case hg => rfl); (case hr => first | (go_simp; done) | (go_simp; rfl)); intro g3 hg w3 hbox hb; have HB3 := aM (bP HB2.out hb); have HX3 := aM (bB HX2.out hb); have HY3 := aM hbox; have NE3 := aM (show g2 ≠ g3 from fun e => by have := blk_lt HX2.out; omega); have GE3 := aM (show w.heap.size ≤ g3 from by have := HB2.out.size; omega); have HE3 := aM (HE2.out.below hb); clear hb hbox hg)
    | ((with_reducible refine gate_dst (N := 4) rfl ?_); refine box_event ?hg (N := 4) ?hd (cs := #[.slice none 0 0, .int .i64 0, .int .i64 0, .int .i64 0]) (t := 28) ?hr ?_; (case hd => rfl); (case hg => rfl); (case hr => first | (go_simp; done) | (go_simp; rfl)); intro g4 hg w4 hbox hb; have HB4 := aM (bP HB3.out hb); have HX4 := aM (bB HX3.out hb); have HY4 := aM (bB HY3.out hb); have HZ4 := aM hbox; have NE4 := aM (show g2 ≠ g4 ∧ g3 ≠ g4 from ⟨fun e => by have := blk_lt HX3.out; omega, fun e => by have := blk_lt HY3.out; omega⟩); have GE4 := aM (show w.heap.size ≤ g4 from by have := HB3.out.size; omega); have HE4 := aM (HE3.out.below hb); clear hb hbox hg; have hy0 := (bC HY4.out 0).trans (rfl : _ = some (Value.int .i64 e.f0)); have hy1 := (bC HY4.out 1).trans (rfl : _ = some (Value.string e.f1.f0)); have hy2 := (bC HY4.out 2).trans (rfl : _ = some (Value.slice A1 e.f1.f1.length c1)); have hy3 := (bC HY4.out 3).trans (rfl : _ = some (Value.string e.f2.f0)); have hy4 := (bC HY4.out 4).trans (rfl : _ = some (Value.slice A2 e.f2.f1.length c2)); have hfy0 := bF HY4.out 0; have hfy1 := bF HY4.out 1; have hfy2 := bF HY4.out 2; have hfy3 := bF HY4.out 3; have hfy4 := bF HY4.out 4)
    | ((with_reducible refine gate_callee (f := 38) rfl ?_); refine goesL_ (some 12) rfl rfl Try.func38 (by kernel_rfl) rfl #[edV e A1 c1 A2 c2] rfl (by (try simp only [List.map_toArray, List.map_cons, List.map_nil]); first | done | rfl) ?_; (with_reducible refine (bureauref07_Good.calls k e.f0 e.f1.f0 A1 c1 e.f1.f1 e.f2.f0 A2 c2 e.f2.f1 false _ (Kd.F_now HE4.out.f1) HE4.out.g1 (Kd.F_now HE4.out.f2) HE4.out.g2 HK.out).mono ?_); rintro r5 w5 ⟨rfl, hb⟩; refine ⟨_, rfl, ?_⟩; have HB5 := aM (HB4.out.trans (hb.mono HB4.out.size)); have HX5 := aM (bB HX4.out hb); have HY5 := aM (bB HY4.out hb); have HZ5 := aM (bB HZ4.out hb); clear hb; clear hy0 hfy0 hy1 hfy1 hy2 hfy2 hy3 hfy3 hy4 hfy4; have hx0 := (bC HX5.out 0).trans (rfl : _ = some (Value.slice A L.length c)); have hx1 := (bC HX5.out 1).trans (rfl : _ = some (Value.int .i64 now)); have hx2 := (bC HX5.out 2).trans (rfl : _ = some (Value.int .i64 next)); have hx3 := (bC HX5.out 3).trans (rfl : _ = some (Value.int .i64 depth)); have hfx0 := bF HX5.out 0; have hfx1 := bF HX5.out 1; have hfx2 := bF HX5.out 2; have hfx3 := bF HX5.out 3; have hz0 := (bC HZ5.out 0).trans (rfl : _ = some (Value.slice none 0 0)); have hz1 := (bC HZ5.out 1).trans (rfl : _ = some (Value.int .i64 0)); have hz2 := (bC HZ5.out 2).trans (rfl : _ = some (Value.int .i64 0)); have hz3 := (bC HZ5.out 3).trans (rfl : _ = some (Value.int .i64 0)); have hfz0 := bF HZ5.out 0; have hfz1 := bF HZ5.out 1; have hfz2 := bF HZ5.out 2; have hfz3 := bF HZ5.out 3; have hne := NE4.out.1; have hne' : g4 ≠ g2 := fun e => NE4.out.1 e.symm)
    )
  refine bodyPost_ret (results_ctt rfl _ _ g4 28 #[.slice A L.length c, .int .i64 now, .int .i64 next, .int .i64 depth] (0, 0) _ rfl ((blk_set (blk_set (blk_set (blk_set HZ5.out 0 _) 1 _) 2 _) 3 _).trans rfl) Try.underlying28 rfl (by kernel_rfl)) rfl ?_
  exact ⟨rfl, below_set (below_set (below_set (below_set HB5.out GE4.out) GE4.out) GE4.out) GE4.out⟩
abbrev okA (P : Nat → Prop) (w : World) (g2 g4 : Nat) : Nat → Prop := fun k => okN P w k ∧ k ≠ g2 ∧ k ≠ g4
theorem okA_old {P : Nat → Prop} {w : World} {g2 g4 k : Nat} (h : P k) (hk : k < w.heap.size) (h2 : w.heap.size ≤ g2) (h4 : w.heap.size ≤ g4) : okA P w g2 g4 k := ⟨.inl h, by omega, by omega⟩
theorem okA_new {P : Nat → Prop} {w W : World} {g2 g4 k : Nat} (h : w.heap.size ≤ k) (hk : W.heap.size ≤ k) (hl : g2 < W.heap.size ∧ g4 < W.heap.size) : okA P w g2 g4 k := ⟨.inr h, by omega, by omega⟩
structure Bx (g2 g3 g4 : Nat) (w : World) (cs2 : Array Value) (e : Ed) (A1 : Option Addr) (c1 : Nat) (A2 : Option Addr) (c2 : Nat) (W : World) : Prop where
  b2 : W.heap[g2]? = some (.cells cs2 28 (0, 0))
  b3 : W.heap[g3]? = some (.cells (edC e A1 c1 A2 c2) 34 (0, 0))
  b4 : W.heap[g4]? = some (.cells #[.slice none 0 0, .int .i64 0, .int .i64 0, .int .i64 0] 28 (0, 0))
  below : Below w.heap.size w W
theorem Bx.later {g2 g3 g4 : Nat} {w W W2 : World} {cs2 : Array Value} {e : Ed} {A1 A2 : Option Addr} {c1 c2 : Nat} (h : Bx g2 g3 g4 w cs2 e A1 c1 A2 c2 W) (hb : Below W.heap.size W W2) : Bx g2 g3 g4 w cs2 e A1 c1 A2 c2 W2 :=
  ⟨bB h.b2 hb, bB h.b3 hb, bB h.b4 hb, h.below.trans (hb.mono h.below.size)⟩
theorem Bx.lt {g2 g3 g4 : Nat} {w W : World} {cs2 : Array Value} {e : Ed} {A1 A2 : Option Addr} {c1 c2 : Nat} (h : Bx g2 g3 g4 w cs2 e A1 c1 A2 c2 W) : g2 < W.heap.size ∧ g4 < W.heap.size := ⟨blk_lt h.b2, blk_lt h.b4⟩
theorem Bx.app {g2 g3 g4 : Nat} {w W W2 : World} {cs2 : Array Value} {e : Ed} {A1 A2 : Option Addr} {c1 c2 b : Nat} {ok : Nat → Prop} {v : Value} {xs : List St} (h : Bx g2 g3 g4 w cs2 e A1 c1 A2 c2 W) (hN : Kd.N kL 76 W b ok v xs) (hg : W.grownBy W2 v.ownBlock) (hb : Below w.heap.size w W2) : Bx g2 g3 g4 w cs2 e A1 c1 A2 c2 W2 :=
  ⟨(hg.block g2 (blk_lt h.b2) (N_notbox hN h.b2)).trans h.b2, (hg.block g3 (blk_lt h.b3) (fun e => by
      obtain ⟨cells, hc⟩ := N_typed hN e.symm
      rw [h.b3] at hc
      cases hc)).trans h.b3, (hg.block g4 (blk_lt h.b4) (N_notbox hN h.b4)).trans h.b4, hb⟩
theorem fk_new {W : World} {P : Nat → Prop} {n now : Int} {e : Ed} {A1 A2 : Option Addr} {c1 c2 : Nat} (h : EdIn W P e A1 c1 A2 c2) : Kd.FK kL W P ⟨n, now, e⟩ [.int .i64 n, .int .i64 now, .int .i64 e.f0, .string e.f1.f0, .slice A1 e.f1.f1.length c1, .string e.f2.f0, .slice A2 e.f2.f1.length c2] :=
  k76_mkF W P ⟨n, now, e⟩ h.g1 h.f1 h.g2 h.f2
set_option maxHeartbeats 16000000 in
theorem radd_good {P : Nat → Prop} {w : World} {A : Option Addr} {c : Nat} {L : List St} {now next depth : Int} (hv : Kd.V kL 76 w 0 P (.slice A L.length c) L) (hi : Inv L now next depth) (hn : next + 1 ≤ 1000) {e : Ed} {A1 A2 : Option Addr} {c1 c2 : Nat} (he : EdIn w P e A1 c1 A2 c2) (hg : goodEd e = true) :
    Calls Try.prog 18 #[.agg #[.slice A L.length c, .int .i64 now, .int .i64 next, .int .i64 depth], edV e A1 c1 A2 c2] w fun r w' => ∃ v, r = .returned (.tuple #[.agg #[v, .int .i64 next, .int .i64 (next + 1), .int .i64 depth], .int .i64 next, .int .i64 0]) ∧ Kd.V kL 76 w' 0 (okN P w) v (addL e L now next depth) ∧ Below w.heap.size w w' := by
  have hu28 := Try.underlying28
  have hu76 := Try.underlying76
  have hu34 := Try.underlying34
  have HE := aM he
  have HVB := aM (show Kd.V kL 76 w 0 (fun k => P k ∧ k < w.heap.size) (.slice A L.length c) L from Kd.V_map hv (fun _ hf => Kd.F_bound hf))
  have HEB := aM (show EdIn w (fun k => P k ∧ k < w.heap.size) e A1 c1 A2 c2 from ⟨Kd.F_bound he.f1, he.g1, Kd.F_bound he.f2, he.g2, he.fit⟩)
  have HI := aM hi
  have HN := aM hn
  obtain ⟨k, hk⟩ := (rgoodEd_ev e he.fit).rounds
  rw [hg] at hk
  have HK := aM hk
  have HNX := aM (show 0 ≤ now ∧ now < next ∧ L.length ≤ 65 from by
    obtain ⟨x0, hx0, hxn⟩ := hi.wf.now
    have := hi.wf.low x0 hx0
    have := hi.cap
    have := hi.d2
    omega)
  clear hv hi hn he hg hk
  go_enter Try.func18, Try.ntmps18
  go_wp2_with (first
    | ((with_reducible refine gate_dst (N := 2) rfl ?_); refine box_event ?hg (N := 2) ?hd (cs := #[.slice A L.length c, .int .i64 now, .int .i64 next, .int .i64 depth]) (t := 28) ?hr ?_; (case hd => rfl); (case hg => rfl); (case hr => first | (go_simp; done) | (go_simp; rfl)); intro g2 hg w2 hbox hb; have HB2 := aM hb; have HX2 := aM hbox; have GE2 := aM (Nat.le_of_eq hg.symm); have HE2 := aM (HE.out.below hb); clear hb hbox hg)
    | ((with_reducible refine gate_dst (N := 3) rfl ?_); refine box_event ?hg (N := 3) ?hd (cs := edC e A1 c1 A2 c2) (t := 34) ?hr ?_; (case hd => rfl); (case hg => rfl); (case hr => first | (go_simp; done) | (go_simp; rfl)); intro g3 hg w3 hbox hb; have HB3 := aM (bP HB2.out hb); have HX3 := aM (bB HX2.out hb); have HY3 := aM hbox; have NE3 := aM (show g2 ≠ g3 from fun e => by have := blk_lt HX2.out; omega); have GE3 := aM (show w.heap.size ≤ g3 from by have := HB2.out.size; omega); have HE3 := aM (HE2.out.below hb); clear hb hbox hg)
    | ((with_reducible refine gate_dst (N := 4) rfl ?_); refine box_event ?hg (N := 4) ?hd (cs := #[.slice none 0 0, .int .i64 0, .int .i64 0, .int .i64 0]) (t := 28) ?hr ?_; (case hd => rfl); (case hg => rfl); (case hr => first | (go_simp; done) | (go_simp; rfl)); intro g4 hg w4 hbox hb; have HB4 := aM (bP HB3.out hb); have HX4 := aM (bB HX3.out hb); have HY4 := aM (bB HY3.out hb); have HZ4 := aM hbox; have NE4 := aM (show g2 ≠ g4 ∧ g3 ≠ g4 from ⟨fun e => by have := blk_lt HX3.out; omega, fun e => by have := blk_lt HY3.out; omega⟩); have GE4 := aM (show w.heap.size ≤ g4 from by have := HB3.out.size; omega); have HE4 := aM (HE3.out.below hb); clear hb hbox hg; have hy0 := (bC HY4.out 0).trans (rfl : _ = some (Value.int .i64 e.f0)); have hy1 := (bC HY4.out 1).trans (rfl : _ = some (Value.string e.f1.f0)); have hy2 := (bC HY4.out 2).trans (rfl : _ = some (Value.slice A1 e.f1.f1.length c1)); have hy3 := (bC HY4.out 3).trans (rfl : _ = some (Value.string e.f2.f0)); have hy4 := (bC HY4.out 4).trans (rfl : _ = some (Value.slice A2 e.f2.f1.length c2)); have hfy0 := bF HY4.out 0; have hfy1 := bF HY4.out 1; have hfy2 := bF HY4.out 2; have hfy3 := bF HY4.out 3; have hfy4 := bF HY4.out 4)
    | ((with_reducible refine gate_callee (f := 38) rfl ?_); refine goesL_ (some 12) rfl rfl Try.func38 (by kernel_rfl) rfl #[edV e A1 c1 A2 c2] rfl (by (try simp only [List.map_toArray, List.map_cons, List.map_nil]); first | done | rfl) ?_; (with_reducible refine (bureauref07_Good.calls k e.f0 e.f1.f0 A1 c1 e.f1.f1 e.f2.f0 A2 c2 e.f2.f1 true _ (Kd.F_now HE4.out.f1) HE4.out.g1 (Kd.F_now HE4.out.f2) HE4.out.g2 HK.out).mono ?_); rintro r5 w5 ⟨rfl, hb⟩; refine ⟨_, rfl, ?_⟩; have HB5 := aM (show Bx g2 g3 g4 w #[.slice A L.length c, .int .i64 now, .int .i64 next, .int .i64 depth] e A1 c1 A2 c2 w5 from Bx.later ⟨HX4.out, HY4.out, HZ4.out, HB4.out⟩ hb); clear hb; clear hy0 hfy0 hy1 hfy1 hy2 hfy2 hy3 hfy3 hy4 hfy4; have hx0 := (bC HB5.out.b2 0).trans (rfl : _ = some (Value.slice A L.length c)); have hx1 := (bC HB5.out.b2 1).trans (rfl : _ = some (Value.int .i64 now)); have hx2 := (bC HB5.out.b2 2).trans (rfl : _ = some (Value.int .i64 next)); have hx3 := (bC HB5.out.b2 3).trans (rfl : _ = some (Value.int .i64 depth)); have hfx0 := bF HB5.out.b2 0; have hfx1 := bF HB5.out.b2 1; have hfx2 := bF HB5.out.b2 2; have hfx3 := bF HB5.out.b2 3)
    )
  go_loopg [8, 9] L.length (fun kq v8 v9 w' => ∃ i : Nat, v9 = .int .i64 (i : Int) ∧ Aside0 (i + kq = L.length) ∧ Aside0 (Kd.N kL 76 w' w.heap.size (okA P w g2 g4) v8 (L.take i)) ∧ Aside0 (Bx g2 g3 g4 w #[.slice A L.length c, .int .i64 now, .int .i64 next, .int .i64 depth] e A1 c1 A2 c2 w'))
  case atStart => exact ⟨0, rfl, ⟨by omega⟩, ⟨Kd.N_nil _ _ _ _ _⟩, HB5⟩
  case round =>
    clear HB5 hx0 hx1 hx2 hx3 hfx0 hfx1 hfx2 hfx3
    obtain ⟨i, rfl, HIQ, HO, HB⟩ := hrel
    have hx0 := (bC HB.out.b2 0).trans (rfl : _ = some (Value.slice A L.length c))
    have hx1 := (bC HB.out.b2 1).trans (rfl : _ = some (Value.int .i64 now))
    have hx2 := (bC HB.out.b2 2).trans (rfl : _ = some (Value.int .i64 next))
    have hx3 := (bC HB.out.b2 3).trans (rfl : _ = some (Value.int .i64 depth))
    have hfx0 := bF HB.out.b2 0
    have hfx1 := bF HB.out.b2 1
    have hfx2 := bF HB.out.b2 2
    have hfx3 := bF HB.out.b2 3
    by_cases c0 : i < L.length
    · cases gk with
      | zero => exact absurd HIQ.out (by omega)
      | succ k1 =>
        have d1 : decide ((i : Int) < (L.length : Int)) = true := decide_eq_true (by omega)
        have p1 : (0 ≤ (i : Int)) = True := eq_true (by omega)
        have q1 : ((i : Int) < (L.length : Int)) = True := eq_true (by omega)
        have q1n : (i < L.length) = True := eq_true c0
        have e1 : wrap64 ((i : Int) + 1) = ((i + 1 : Nat) : Int) := by have := HNX.out; unfold wrap64; omega
        obtain ⟨ad, A4, c4, A6, c6, eA, hfk, hc0, hc1, hc2, hc3, hc4, hc5, hc6⟩ := st_at (Kd.V_below HVB.out HB.out.below) c0
        cases eA
        have HXE := aM (show L.take (i + 1) = L.take i ++ [L[i]] from (List.take_append_getElem c0).symm)
        have HTL := aM (show (L.take i).length ≤ 65 from by rw [List.length_take]; have := HNX.out; omega)
        generalize L[i] = x at hfk hc0 hc1 hc2 hc3 hc4 hc5 hc6 HXE
        have HFK := aM hfk
        clear hfk c0
        go_wp2_with (first
          | ((with_reducible refine gate_builtin (b := .append) (xs := #[.tmp 24, .tmp 30]) rfl ?_); at_builtin; refine Kd.N_append kL (w0 := w) w.heap.size rfl (.tmp 24) (.tmp 30) 26 76 (.agg #[.int .i64 0, .int .i64 0, .int .i64 0, .string ⟨#[]⟩, .slice none 0 0, .string ⟨#[]⟩, .slice none 0 0]) 104 rfl Try.underlying26 info76 rfl (by decide) (by omega) u8 (L.take i) x [.int .i64 x.f0, .int .i64 x.f1, .int .i64 x.f2.f0, .string x.f2.f1.f0, .slice A4 x.f2.f1.f1.length c4, .string x.f2.f2.f0, .slice A6 x.f2.f2.f1.length c6] (okA P w g2 g4) (fun k => P k ∧ k < w.heap.size) rfl (by first | (go_simp; done) | (go_simp; rfl)) HFK.out (fun k hk => ⟨okA_old hk.1 hk.2 GE2.out GE4.out, fun e => by have := Kd.N_base HO.out k e.symm; have := hk.2; omega⟩) (fun k hk => okA_new (Nat.le_trans HB.out.below.size hk) hk HB.out.lt) HO.out HB.out.below HB.out.below.size (by have := HTL.out; omega) ?_; intro v1 w9 ho hb hg hat; have HO9 := aM ho; have HB9 := aM (HB.out.app HO.out hg hb); clear ho hb hg hat)
          )
        first | rw [e1] | rw [show ((i : Int) + 1) = ((i + 1 : Nat) : Int) by omega]
        go_roundg k1
        case measure => exact Nat.lt_succ_self _
        case rel => exact ⟨i + 1, rfl, ⟨by have := HIQ.out; omega⟩, by rw [HXE.out]; exact HO9, HB9⟩
    · have d1 : decide ((i : Int) < (L.length : Int)) = false := decide_eq_false (by omega)
      have q1 : ((i : Int) < (L.length : Int)) = False := eq_false (by omega)
      have q1n : (i < L.length) = False := eq_false c0
      have HE0 := aM (show L.take i = L from List.take_of_length_le (by omega))
      rw [HE0.out] at HO
      have HEr := aM (HEB.out.below HB.out.below)
      have hy0 := (bC HB.out.b3 0).trans (rfl : _ = some (Value.int .i64 e.f0))
      have hy1 := (bC HB.out.b3 1).trans (rfl : _ = some (Value.string e.f1.f0))
      have hy2 := (bC HB.out.b3 2).trans (rfl : _ = some (Value.slice A1 e.f1.f1.length c1))
      have hy3 := (bC HB.out.b3 3).trans (rfl : _ = some (Value.string e.f2.f0))
      have hy4 := (bC HB.out.b3 4).trans (rfl : _ = some (Value.slice A2 e.f2.f1.length c2))
      have hfy0 := bF HB.out.b3 0
      have hfy1 := bF HB.out.b3 1
      have hfy2 := bF HB.out.b3 2
      have hfy3 := bF HB.out.b3 3
      have hfy4 := bF HB.out.b3 4
      have e1 : wrap64 (next + 1) = next + 1 := by have := HN.out; have := HNX.out; unfold wrap64; omega
      go_wp2_with (first
        | ((with_reducible refine gate_builtin (b := .append) (xs := #[.tmp 32, .tmp 38]) rfl ?_); at_builtin; refine Kd.N_append kL (w0 := w) w.heap.size rfl (.tmp 32) (.tmp 38) 26 76 (.agg #[.int .i64 0, .int .i64 0, .int .i64 0, .string ⟨#[]⟩, .slice none 0 0, .string ⟨#[]⟩, .slice none 0 0]) 104 rfl Try.underlying26 info76 rfl (by decide) (by omega) u8 L ⟨next, now, e⟩ [.int .i64 next, .int .i64 now, .int .i64 e.f0, .string e.f1.f0, .slice A1 e.f1.f1.length c1, .string e.f2.f0, .slice A2 e.f2.f1.length c2] (okA P w g2 g4) (fun k => P k ∧ k < w.heap.size) rfl (by first | (go_simp; done) | (go_simp; rfl)) (fk_new HEr.out) (fun k hk => ⟨okA_old hk.1 hk.2 GE2.out GE4.out, fun e => by have := Kd.N_base HO.out k e.symm; have := hk.2; omega⟩) (fun k hk => okA_new (Nat.le_trans HB.out.below.size hk) hk HB.out.lt) HO.out HB.out.below HB.out.below.size (by have := HNX.out; omega) ?_; intro v1 w9 ho hb hg hat; obtain ⟨A9, c9, rfl⟩ := Kd.N_slice ho; have HO9 := aM ho; have HB9 := aM (HB.out.app HO.out hg hb); clear ho hb hg hat; clear hx0 hfx0 hx1 hfx1 hx2 hfx2 hx3 hfx3 hy0 hfy0 hy1 hfy1 hy2 hfy2 hy3 hfy3 hy4 hfy4; have hx0 := (bC HB9.out.b2 0).trans (rfl : _ = some (Value.slice A L.length c)); have hx1 := (bC HB9.out.b2 1).trans (rfl : _ = some (Value.int .i64 now)); have hx2 := (bC HB9.out.b2 2).trans (rfl : _ = some (Value.int .i64 next)); have hx3 := (bC HB9.out.b2 3).trans (rfl : _ = some (Value.int .i64 depth)); have hfx0 := bF HB9.out.b2 0; have hfx1 := bF HB9.out.b2 1; have hfx2 := bF HB9.out.b2 2; have hfx3 := bF HB9.out.b2 3)
        )
      generalize hw12 : World.setCell _ ⟨g2, 1, none⟩ _ = w12
      have HN12 := aM (show Kd.N kL 76 w12 w.heap.size (okA P w g2 g4) (.slice A9 (L ++ [(⟨next, now, e⟩ : St)]).length c9) (L ++ [(⟨next, now, e⟩ : St)]) from by subst hw12; exact Kd.N_far (Kd.N_far (Kd.N_far HO9.out (fun k hk => hk.2.1) _) (fun k hk => hk.2.1) _) (fun k hk => hk.2.1) _)
      have HB12 := aM (show Bx g2 g3 g4 w #[.slice A9 (L ++ [(⟨next, now, e⟩ : St)]).length c9, .int .i64 next, .int .i64 (next + 1), .int .i64 depth] e A1 c1 A2 c2 w12 from by
        subst hw12
        rw [show (L ++ [(⟨next, now, e⟩ : St)]).length = L.length + 1 from by simp]
        exact ⟨(blk_set (blk_set (blk_set HB9.out.b2 0 _) 2 _) 1 _).trans rfl, bR (bR (bR HB9.out.b3 (fun e => NE3.out e.symm) _) (fun e => NE3.out e.symm) _) (fun e => NE3.out e.symm) _, bR (bR (bR HB9.out.b4 (fun e => NE4.out.1 e.symm) _) (fun e => NE4.out.1 e.symm) _) (fun e => NE4.out.1 e.symm) _, below_set (below_set (below_set HB9.out.below GE2.out) GE2.out) GE2.out⟩)
      clear e1 hw12 HO9 HB9 HO HB HEr hx0 hx1 hx2 hx3 hfx0 hfx1 hfx2 hfx3 d1 q1 q1n
      have HW1 := aM (wf_add HI.out.wf HN.out (by have := HNX.out; omega) HE.out.fit)
      have HI2 := aM (add_inv HI.out HN.out HE.out.fit)
      have HLL := aM (show (L ++ [(⟨next, now, e⟩ : St)]).length = L.length + 1 from by simp)
      go_loopg [] 1 (fun kq w' => ∃ (v : Value) (Lc : List St), Aside0 (Kd.N kL 76 w' w.heap.size (okA P w g2 g4) v Lc) ∧ Aside0 (Bx g2 g3 g4 w #[v, .int .i64 next, .int .i64 (next + 1), .int .i64 depth] e A1 c1 A2 c2 w') ∧ Aside0 (Lc = addL e L now next depth ∨ Lc = L ++ [(⟨next, now, e⟩ : St)] ∧ kq = 1 ∧ ((L ++ [(⟨next, now, e⟩ : St)]).length : Int) - 1 > depth))
      case atStart =>
        refine ⟨_, _, HN12, HB12, ⟨?_⟩⟩
        by_cases hc : ((L ++ [(⟨next, now, e⟩ : St)]).length : Int) - 1 > depth
        · exact .inr ⟨rfl, rfl, hc⟩
        · exact .inl (by unfold addL; rw [if_neg hc])
      case round =>
        clear HN12 HB12
        obtain ⟨v, Lc, HNr, HBr, HC⟩ := hrel
        have HLC := aM (show Lc.length ≤ 66 from by
          rcases HC.out with h | ⟨h, _, _⟩
          · rw [h]; have := HI2.out.cap; have := HI2.out.d2; omega
          · rw [h]; have := HLL.out; have := HNX.out; omega)
        obtain ⟨Av, cv, rfl⟩ := Kd.N_slice HNr.out
        have hx0 := (bC HBr.out.b2 0).trans (rfl : _ = some (Value.slice Av Lc.length cv))
        have hx1 := (bC HBr.out.b2 1).trans (rfl : _ = some (Value.int .i64 next))
        have hx2 := (bC HBr.out.b2 2).trans (rfl : _ = some (Value.int .i64 (next + 1)))
        have hx3 := (bC HBr.out.b2 3).trans (rfl : _ = some (Value.int .i64 depth))
        have hfx0 := bF HBr.out.b2 0
        have hfx1 := bF HBr.out.b2 1
        have hfx2 := bF HBr.out.b2 2
        have hfx3 := bF HBr.out.b2 3
        have e2 : wrap64 ((Lc.length : Int) - 1) = (Lc.length : Int) - 1 := by have := HLC.out; unfold wrap64; omega
        rcases Classical.em (Lc = addL e L now next depth) with hLc | hLc
        · subst hLc
          have f1 : decide ((((addL e L now next depth).length : Nat) : Int) - 1 > depth) = false := decide_eq_false (by have := HI2.out.cap; omega)
          have f2 : (depth < (((addL e L now next depth).length : Nat) : Int) - 1) = False := eq_false (by have := HI2.out.cap; omega)
          have hz0 := (bC HBr.out.b4 0).trans (rfl : _ = some (Value.slice none 0 0))
          have hz1 := (bC HBr.out.b4 1).trans (rfl : _ = some (Value.int .i64 0))
          have hz2 := (bC HBr.out.b4 2).trans (rfl : _ = some (Value.int .i64 0))
          have hz3 := (bC HBr.out.b4 3).trans (rfl : _ = some (Value.int .i64 0))
          have hfz0 := bF HBr.out.b4 0
          have hfz1 := bF HBr.out.b4 1
          have hfz2 := bF HBr.out.b4 2
          have hfz3 := bF HBr.out.b4 3
          have hne := NE4.out.1
          have hne' : g4 ≠ g2 := fun e => NE4.out.1 e.symm
          go_wp2
          refine bodyPost_ret (results_ctt rfl _ _ g4 28 #[.slice Av (addL e L now next depth).length cv, .int .i64 next, .int .i64 (next + 1), .int .i64 depth] (0, 0) _ rfl ((blk_set (blk_set (blk_set (blk_set HBr.out.b4 0 _) 1 _) 2 _) 3 _).trans rfl) Try.underlying28 rfl (by kernel_rfl)) rfl ?_
          exact ⟨_, rfl, Kd.N_V (Kd.N_mono (Kd.N_far (Kd.N_far (Kd.N_far (Kd.N_far HNr.out (fun k hk => hk.2.2) _) (fun k hk => hk.2.2) _) (fun k hk => hk.2.2) _) (fun k hk => hk.2.2) _) (fun k hk => hk.1)), below_set (below_set (below_set (below_set HBr.out.below GE4.out) GE4.out) GE4.out) GE4.out⟩
        · obtain ⟨rfl, hkq, hcap⟩ := HC.out.resolve_left hLc
          generalize hL1 : L ++ [(⟨next, now, e⟩ : St)] = L1 at *
          have f1 : decide (((L1.length : Nat) : Int) - 1 > depth) = true := decide_eq_true hcap
          have f2 : (depth < ((L1.length : Nat) : Int) - 1) = True := eq_true hcap
          have hp2 := path_two HW1.out (x := ⟨next, now, e⟩) (by rw [← hL1]; exact List.mem_append.2 (.inr List.mem_cons_self)) rfl HNX.out.1
          obtain ⟨q, y0, hq, hl2, hy0, hyq, -, -⟩ := hp2
          have HQ := aM (And.intro hq (And.intro hl2 (And.intro hy0 hyq)))
          have HADD := aM (show addL e L now next depth = belowL q L1 from by unfold addL; rw [hL1, if_pos hcap, hq])
          have HKQ := aM hkq
          have q1 : ((1 : Int) < ((pathL L1 next).length : Int)) = True := eq_true (by omega)
          have q2 : (1 < (pathL L1 next).length) = True := eq_true (by omega)
          obtain ⟨kp, hkp⟩ := (rpath_ev HW1.out (next + 1) depth).rounds
          have HKP := aM hkp
          clear hkp hq hl2 hy0 hyq hkq hcap hLc HC hL1
          go_wp2_with (first
            | ((with_reducible refine gate_callee (f := 24) rfl ?_); refine goesL_ (some 55) rfl rfl Try.func24 (by kernel_rfl) rfl #[.agg #[.slice Av L1.length cv, .int .i64 next, .int .i64 (next + 1), .int .i64 depth]] rfl (by (try simp only [List.map_toArray, List.map_cons, List.map_nil]); first | done | rfl) ?_; (with_reducible refine (bureauref08_Path.calls kp Av cv L1 next (next + 1) depth (pathL L1 next) _ (Kd.N_reads' HNr.out).2.2 (Kd.N_reads' HNr.out).2.1 HKP.out).mono ?_); rintro r14 w14 ⟨v14, rfl, ho, hb⟩; obtain ⟨Ap, cp, rfl⟩ := Kd.R_slice ho; refine ⟨_, rfl, ?_⟩; have HN14 := aM (Kd.N_below HNr.out hb); have HB14 := aM (HBr.out.later hb); have HP14 := aM ho; clear ho hb; clear hx0 hfx0 hx1 hfx1 hx2 hfx2 hx3 hfx3)
            )
          obtain ⟨pad, ead, hcp⟩ := row_at HP14.out (by have := HQ.out.2.1; omega)
          subst ead
          have HLK := aM (show ∀ W : World, Below w14.heap.size w14 W → W.cell? ⟨g2, 0, none⟩ = some (.slice Av L1.length cv) ∧ W.cell? ⟨g2, 1, none⟩ = some (.int .i64 next) ∧ W.cell? ⟨g2, 2, none⟩ = some (.int .i64 (next + 1)) ∧ W.cell? ⟨g2, 3, none⟩ = some (.int .i64 depth) ∧ W.cell? { block := pad.block, off := pad.off + 1 } = some (.int .i64 q) from fun W hb => ⟨(bC (bB HB14.out.b2 hb) 0).trans rfl, (bC (bB HB14.out.b2 hb) 1).trans rfl, (bC (bB HB14.out.b2 hb) 2).trans rfl, (bC (bB HB14.out.b2 hb) 3).trans rfl, by
            have := hcp 1 (by have := HQ.out.2.1; omega)
            rw [← HQ.out.1]
            exact cellW hb this⟩)
          clear hcp
          refine start_ (n := 7) (S := fun W => W.cell? ⟨g2, 0, none⟩ = some (.slice Av L1.length cv) ∧ W.cell? ⟨g2, 1, none⟩ = some (.int .i64 next) ∧ W.cell? ⟨g2, 2, none⟩ = some (.int .i64 (next + 1)) ∧ W.cell? ⟨g2, 3, none⟩ = some (.int .i64 depth) ∧ W.cell? { block := pad.block, off := pad.off + 1 } = some (.int .i64 q)) (ds := [6]) #[tF,tF,tF,tF,tF,tF,tF] (by kernel_rfl) rfl rfl (HLK.out _ (below_drew1 (Below.refl _ _))) (fun hHeld => ?_)
          have HB15 := aM (below_drew1 (Below.refl w14.heap.size w14))
          generalize w14.drew = w15 at HB15 hHeld ⊢
          refine sv 1 57 #[tF,tT,tF,tF,tF,tF,tF] ?_
          refine st 0 56 #[tT,tT,tF,tF,tF,tF,tF] hHeld ?_
          refine sv 2 58 #[tT,tT,tT,tF,tF,tF,tF] ?_
          refine st 3 59 #[tT,tT,tT,tT,tF,tF,tF] hHeld ?_
          refine one_ (i := 4) (N := some 60) #[tT,tT,tT,tT,tT,tF,tF] rfl rfl (by kernel_rfl) (by decide) (fun K hK => ?_)
          refine goes_ Try.func39 (by kernel_rfl) rfl #[.agg #[.slice Av L1.length cv, .int .i64 next, .int .i64 (next + 1), .int .i64 depth], .int .i64 q] (by rfl) rfl rfl (by (try simp only [List.map_toArray, List.map_cons, List.map_nil]); first | done | rfl) ?_
          have HN15 := aM (Kd.N_below HN14.out HB15.out)
          have HX15 := aM (HB14.out.later HB15.out)
          (with_reducible refine (below_ok (P := okA P w g2 g4) (Kd.N_V HN15.out) (by have := HLC.out; omega) q).mono ?_)
          rintro r16 w16 ⟨v16, rfl, ho, hb⟩
          obtain ⟨A16, c16, rfl⟩ := Kd.N_slice ho
          have HX16 := aM (HX15.out.later hb)
          have HN16 := aM (Kd.N_lower (Kd.N_mono (ok' := okA P w g2 g4) ho (fun k hk => by
            rcases hk with hk | hk
            · exact hk
            · exact okA_new (Nat.le_trans HX15.out.below.size hk) hk HX15.out.lt)) HX15.out.below.size)
          refine ⟨_, rfl, hK.out _ _ (HLK.out _ (HB15.out.trans (hb.mono HB15.out.size))) (fun hHeld => ?_)⟩
          clear hK K HB15 ho hb hHeld HN15 HX15
          refine norm_ (a' := ?_) ?_ ?_
          rotate_left
          · simp only [Act.put, List.setIfInBounds_toArray, List.set_cons_zero, List.set_cons_succ, i64_w, i32_w]
            rfl
          refine sv 5 61 #[tT,tT,tT,tT,tT,tT,tF] ?_
          refine last_ (i := 6) (N := none) #[tT,tT,tT,tT,tT,tT,tT] rfl rfl (by kernel_rfl) (by decide) (fun K hK => ?_)
          have hc20 := (bC HX16.out.b2 0).trans (rfl : _ = some (Value.slice Av L1.length cv))
          have hf20 := bF HX16.out.b2 0
          refine skip_ (w1 := ?_) (by rfl) rfl ?_ ?_
          rotate_left
          · go_simp
            rfl
          refine hK.out _ _ (done_ (by kernel_rfl) ?_)
          clear hK K hc20 hf20
          generalize hw17 : World.setCell _ ⟨g2, 0, none⟩ _ = w17
          have HN17 := aM (show Kd.N kL 76 w17 w.heap.size (okA P w g2 g4) (.slice A16 (belowR q L1).length c16) (belowR q L1) from by subst hw17; exact Kd.N_far HN16.out (fun k hk => hk.2.1) _)
          have HB17 := aM (show Bx g2 g3 g4 w #[.slice A16 (belowR q L1).length c16, .int .i64 next, .int .i64 (next + 1), .int .i64 depth] e A1 c1 A2 c2 w17 from by
            subst hw17
            exact ⟨(blk_set HX16.out.b2 0 _).trans rfl, bR HX16.out.b3 (fun e => NE3.out e.symm) _, bR HX16.out.b4 (fun e => NE4.out.1 e.symm) _, below_set HX16.out.below GE2.out⟩)
          clear hw17 HX16 HN16
          go_wp2
          go_roundg 0
          case measure => have := HKQ.out; omega
          case rel => exact ⟨_, _, HN17, HB17, ⟨.inl (by rw [HADD.out, belowR_eq])⟩⟩
end Go.Proofs.Ytbbgpfjeobdogaa.PB
end

section
namespace Go.Proofs.Ytbbgpfjeobdogaa.PB
open Go.RowKit Go.Maps Go.Proofs.YtbbgpfjeobdogaaW.PrintWords Go.Proofs.YtbbgpfjeobdogaaW.PrintLast Go.Proofs.YtbbgpfjeobdogaaW.PrintMore
set_option maxRecDepth 100000
set_option linter.unusedVariables false
set_option linter.unusedSimpArgs false
structure Rx (g1 g2 g3 : Nat) (w : World) (cs1 : Array Value) (W : World) : Prop where
  b1 : W.heap[g1]? = some (.cells cs1 28 (0, 0))
  b2 : W.heap[g2]? = some (.cells #[.slice none 0 0, .int .i64 0, .int .i64 0, .int .i64 0] 28 (0, 0))
  b3 : W.heap[g3]? = some (.cells zs5 34 (0, 0))
  below : Below w.heap.size w W
theorem Rx.later {g1 g2 g3 : Nat} {w W W2 : World} {cs1 : Array Value} (h : Rx g1 g2 g3 w cs1 W) (hb : Below W.heap.size W W2) : Rx g1 g2 g3 w cs1 W2 :=
  ⟨bB h.b1 hb, bB h.b2 hb, bB h.b3 hb, h.below.trans (hb.mono h.below.size)⟩
set_option maxHeartbeats 16000000 in
theorem rredo_ok {P : Nat → Prop} {w : World} {A : Option Addr} {c : Nat} {L : List St} {now next depth : Int} (hv : Kd.V kL 76 w 0 P (.slice A L.length c) L) (hl : L.length ≤ 1000) :
    Calls Try.prog 16 #[.agg #[.slice A L.length c, .int .i64 now, .int .i64 next, .int .i64 depth]] w fun r w' => ∃ cs : List Value, r = .returned (.tuple #[.agg #[.slice A L.length c, .int .i64 (redoNow L now), .int .i64 next, .int .i64 depth], .agg cs.toArray, .int .i64 (redoCode L now)]) ∧ Kd.FK k34 w' P (redoEd L now) cs ∧ Below w.heap.size w w' := by
  have hu28 := Try.underlying28
  have hu76 := Try.underlying76
  have hu34 := Try.underlying34
  have HV := aM hv
  have HL := aM hl
  clear hv hl
  go_enter Try.func16, Try.ntmps16
  go_wp2_with (first
    | ((with_reducible refine gate_dst (N := 1) rfl ?_); refine box_event ?hg (N := 1) ?hd (cs := #[.slice A L.length c, .int .i64 now, .int .i64 next, .int .i64 depth]) (t := 28) ?hr ?_; (case hd => rfl); (case hg => rfl); (case hr => first | (go_simp; done) | (go_simp; rfl)); intro g1 hg w1 hbox hb; have HB1 := aM hb; have HX1 := aM hbox; have GE1 := aM (Nat.le_of_eq hg.symm); clear hb hbox hg)
    | ((with_reducible refine gate_dst (N := 2) rfl ?_); refine box_event ?hg (N := 2) ?hd (cs := #[.slice none 0 0, .int .i64 0, .int .i64 0, .int .i64 0]) (t := 28) ?hr ?_; (case hd => rfl); (case hg => rfl); (case hr => first | (go_simp; done) | (go_simp; rfl)); intro g2 hg w2 hbox hb; have HB2 := aM (bP HB1.out hb); have HX2 := aM (bB HX1.out hb); have HY2 := aM hbox; have NE2 := aM (show g1 ≠ g2 from fun e => by have := blk_lt HX1.out; omega); have GE2 := aM (show w.heap.size ≤ g2 from by have := HB1.out.size; omega); clear hb hbox hg)
    | ((with_reducible refine gate_dst (N := 3) rfl ?_); refine box_event ?hg (N := 3) ?hd (cs := zs5) (t := 34) ?hr ?_; (case hd => rfl); (case hg => rfl); (case hr => first | (go_simp; done) | (go_simp; rfl)); intro g3 hg w3 hbox hb; have HB3 := aM (show Rx g1 g2 g3 w #[.slice A L.length c, .int .i64 now, .int .i64 next, .int .i64 depth] w3 from ⟨bB HX2.out hb, bB HY2.out hb, hbox, bP HB2.out hb⟩); have NE3 := aM (show g1 ≠ g3 ∧ g2 ≠ g3 from ⟨fun e => by have := blk_lt HX2.out; omega, fun e => by have := blk_lt HY2.out; omega⟩); have GE3 := aM (show w.heap.size ≤ g3 from by have := HB2.out.size; omega); clear hb hbox hg; have hx0 := (bC HB3.out.b1 0).trans (rfl : _ = some (Value.slice A L.length c)); have hx1 := (bC HB3.out.b1 1).trans (rfl : _ = some (Value.int .i64 now)); have hx2 := (bC HB3.out.b1 2).trans (rfl : _ = some (Value.int .i64 next)); have hx3 := (bC HB3.out.b1 3).trans (rfl : _ = some (Value.int .i64 depth)); have hfx0 := bF HB3.out.b1 0; have hfx1 := bF HB3.out.b1 1; have hfx2 := bF HB3.out.b1 2; have hfx3 := bF HB3.out.b1 3)
    )
  go_loopg [5] L.length (fun kq v5 w' => ∃ z : Int, v5 = .int .i64 z ∧ Aside0 (z = (kq : Int) - 1) ∧ Aside0 (kq ≤ L.length) ∧ Aside0 (∀ j (hj : j < L.length), kq ≤ j → (L[j]).f1 ≠ now) ∧ Aside0 (Rx g1 g2 g3 w #[.slice A L.length c, .int .i64 now, .int .i64 next, .int .i64 depth] w'))
  case atStart => exact ⟨_, rfl, ⟨by have := HL.out; unfold wrap64; omega⟩, ⟨Nat.le_refl _⟩, ⟨fun j hj h => by omega⟩, HB3⟩
  case round =>
    clear HB3 hx0 hx1 hx2 hx3 hfx0 hfx1 hfx2 hfx3
    obtain ⟨z, rfl, HZ, HK, HM, HB⟩ := hrel
    have hx0 := (bC HB.out.b1 0).trans (rfl : _ = some (Value.slice A L.length c))
    have hx1 := (bC HB.out.b1 1).trans (rfl : _ = some (Value.int .i64 now))
    have hx2 := (bC HB.out.b1 2).trans (rfl : _ = some (Value.int .i64 next))
    have hx3 := (bC HB.out.b1 3).trans (rfl : _ = some (Value.int .i64 depth))
    have hfx0 := bF HB.out.b1 0
    have hfx1 := bF HB.out.b1 1
    have hfx2 := bF HB.out.b1 2
    have hfx3 := bF HB.out.b1 3
    cases gk with
    | zero =>
      obtain rfl : z = -1 := HZ.out
      have HNN := aM (redoL_none (fun j hj => HM.out j hj (Nat.zero_le _)))
      have q1 : ((-1 : Int) ≥ 0) = False := eq_false (by omega)
      have q2 : ((0 : Int) ≤ -1) = False := eq_false (by omega)
      have hy0 := (bC HB.out.b2 0).trans (rfl : _ = some (Value.slice none 0 0))
      have hy1 := (bC HB.out.b2 1).trans (rfl : _ = some (Value.int .i64 0))
      have hy2 := (bC HB.out.b2 2).trans (rfl : _ = some (Value.int .i64 0))
      have hy3 := (bC HB.out.b2 3).trans (rfl : _ = some (Value.int .i64 0))
      have hfy0 := bF HB.out.b2 0
      have hfy1 := bF HB.out.b2 1
      have hfy2 := bF HB.out.b2 2
      have hfy3 := bF HB.out.b2 3
      have hz0 := (bC HB.out.b3 0).trans (rfl : _ = some (Value.int .i64 0))
      have hz1 := (bC HB.out.b3 1).trans (rfl : _ = some (Value.string ⟨#[]⟩))
      have hz2 := (bC HB.out.b3 2).trans (rfl : _ = some (Value.slice none 0 0))
      have hz3 := (bC HB.out.b3 3).trans (rfl : _ = some (Value.string ⟨#[]⟩))
      have hz4 := (bC HB.out.b3 4).trans (rfl : _ = some (Value.slice none 0 0))
      have hfz0 := bF HB.out.b3 0
      have hfz1 := bF HB.out.b3 1
      have hfz2 := bF HB.out.b3 2
      have hfz3 := bF HB.out.b3 3
      have hfz4 := bF HB.out.b3 4
      have hn1 := NE2.out
      have hn1' : g2 ≠ g1 := fun e => NE2.out e.symm
      have hn2 := NE3.out.1
      have hn2' : g3 ≠ g1 := fun e => NE3.out.1 e.symm
      have hn3 := NE3.out.2
      have hn3' : g3 ≠ g2 := fun e => NE3.out.2 e.symm
      go_wp2
      refine bodyPost_ret (results_list (rs := [.cell 2 28, .cell 3 34, .tmp 4]) rfl (by simp) (.cell g2 28 #[.slice A L.length c, .int .i64 now, .int .i64 next, .int .i64 depth] (0, 0) _ rfl (bR (bR (bR (bR (bR ((blk_set (blk_set (blk_set (blk_set HB.out.b2 0 _) 1 _) 2 _) 3 _).trans rfl) NE3.out.2 _) NE3.out.2 _) NE3.out.2 _) NE3.out.2 _) NE3.out.2 _) Try.underlying28 rfl (by kernel_rfl) (.cell g3 34 zs5 (0, 0) _ rfl ((blk_set (blk_set (blk_set (blk_set (blk_set (bR (bR (bR (bR HB.out.b3 (fun e => NE3.out.2 e.symm) _) (fun e => NE3.out.2 e.symm) _) (fun e => NE3.out.2 e.symm) _) (fun e => NE3.out.2 e.symm) _) 0 _) 1 _) 2 _) 3 _) 4 _).trans rfl) Try.underlying34 rfl (by kernel_rfl) (.tmp .nil)))) rfl ?_
      have hrn : redoNow L now = now := by unfold redoNow; rw [HNN.out]; rfl
      have hre : redoEd L now = z34 := by unfold redoEd; rw [HNN.out]; rfl
      have hrc : redoCode L now = 6 := by unfold redoCode; rw [HNN.out]; rfl
      rw [hrn, hre, hrc]
      refine ⟨[.int .i64 0, .string ⟨#[]⟩, .slice none 0 0, .string ⟨#[]⟩, .slice none 0 0], rfl, fun W _ => k34_mk W z34 (Nat.le_refl _) (Kd.C_nil _ W) (Nat.le_refl _) (Kd.C_nil _ W), ?_⟩
      exact below_set (below_set (below_set (below_set (below_set (below_set (below_set (below_set (below_set HB.out.below GE2.out) GE2.out) GE2.out) GE2.out) GE3.out) GE3.out) GE3.out) GE3.out) GE3.out
    | succ i =>
      obtain rfl : z = (i : Int) := by have := HZ.out; omega
      have c0 : i < L.length := HK.out
      have p1 : (0 ≤ (i : Int)) = True := eq_true (by omega)
      have p2 : ((i : Int) ≥ 0) = True := eq_true (by omega)
      have q1 : ((i : Int) < (L.length : Int)) = True := eq_true (by omega)
      have q1n : (i < L.length) = True := eq_true c0
      have e1 : wrap64 ((i : Int) - 1) = (i : Int) - 1 := by have := HL.out; unfold wrap64; omega
      obtain ⟨ad, A4, c4, A6, c6, eA, hfk, hc0, hc1, hc2, hc3, hc4, hc5, hc6⟩ := st_at HV.out c0
      cases eA
      have HXE := aM (show ∃ x, x = L[i] from ⟨_, rfl⟩)
      generalize hxg : L[i] = x at hfk hc0 hc1 hc2 hc3 hc4 hc5 hc6
      have HXE := aM hxg.symm
      have HFK := aM hfk
      have HCS := aM (And.intro hc2 (And.intro hc3 (And.intro hc4 (And.intro hc5 hc6))))
      have HC0 := aM hc0
      clear hfk hxg hc2 hc3 hc4 hc5 hc6
      replace hc0 := cellW HB.out.below hc0
      replace hc1 := cellW HB.out.below hc1
      go_wp2
      go_quiet (fail)
      have HBq := aM (HB.out.later (pw_below_drewN (Below.refl _ _) nq))
      have HDq := aM (show Below wr.heap.size wr (wr.drewN nq) from pw_below_drewN (Below.refl _ _) nq)
      clear hx0 hx1 hx2 hx3 hfx0 hfx1 hfx2 hfx3 hc0 hc1
      generalize wr.drewN nq = w5 at HBq HDq ⊢
      by_cases hup : x.f1 = now
      · have b1 : (x.f1 == now) = true := by simpa using hup
        rw [b1]
        have HRD := aM (show redoL L now = some x from by rw [HXE.out]; exact redoL_hit c0 (by rw [← HXE.out]; exact hup) (fun j hj hij => HM.out j hj (by omega)))
        clear b1 hup
        have hx0 := (bC HBq.out.b1 0).trans (rfl : _ = some (Value.slice (some ad) L.length c))
        have hx1 := (bC HBq.out.b1 1).trans (rfl : _ = some (Value.int .i64 now))
        have hx2 := (bC HBq.out.b1 2).trans (rfl : _ = some (Value.int .i64 next))
        have hx3 := (bC HBq.out.b1 3).trans (rfl : _ = some (Value.int .i64 depth))
        have hfx0 := bF HBq.out.b1 0
        have hfx1 := bF HBq.out.b1 1
        have hfx2 := bF HBq.out.b1 2
        have hfx3 := bF HBq.out.b1 3
        have hc0 := cellW HBq.out.below HC0.out
        go_wp2
        generalize hw6 : World.setCell _ ⟨g1, 1, none⟩ _ = w6
        have HB6 := aM (show Rx g1 g2 g3 w #[.slice (some ad) L.length c, .int .i64 x.f0, .int .i64 next, .int .i64 depth] w6 from by
          subst hw6
          exact ⟨(blk_set HBq.out.b1 1 _).trans rfl, bR HBq.out.b2 (fun e => NE2.out e.symm) _, bR HBq.out.b3 (fun e => NE3.out.1 e.symm) _, below_set HBq.out.below GE1.out⟩)
        clear hw6 HBq HDq hx0 hfx0 hx1 hfx1 hx2 hfx2 hx3 hfx3 hc0
        have HLK := aM (show ∀ W : World, Below w.heap.size w W → W.heap[g1]? = some (.cells #[.slice (some ad) L.length c, .int .i64 x.f0, .int .i64 next, .int .i64 depth] 28 (0, 0)) → W.cell? ⟨g1, 0, none⟩ = some (.slice (some ad) L.length c) ∧ W.cell? ⟨g1, 1, none⟩ = some (.int .i64 x.f0) ∧ W.cell? ⟨g1, 2, none⟩ = some (.int .i64 next) ∧ W.cell? ⟨g1, 3, none⟩ = some (.int .i64 depth) ∧ W.cell? ⟨(ad.add (i * 7)).block, (ad.add (i * 7)).off + 2, none⟩ = some (.int .i64 x.f2.f0) ∧ W.cell? ⟨(ad.add (i * 7)).block, (ad.add (i * 7)).off + 3, none⟩ = some (.string x.f2.f1.f0) ∧ W.cell? ⟨(ad.add (i * 7)).block, (ad.add (i * 7)).off + 4, none⟩ = some (.slice A4 x.f2.f1.f1.length c4) ∧ W.cell? ⟨(ad.add (i * 7)).block, (ad.add (i * 7)).off + 5, none⟩ = some (.string x.f2.f2.f0) ∧ W.cell? ⟨(ad.add (i * 7)).block, (ad.add (i * 7)).off + 6, none⟩ = some (.slice A6 x.f2.f2.f1.length c6) from fun W hb h1 => ⟨(bC h1 0).trans rfl, (bC h1 1).trans rfl, (bC h1 2).trans rfl, (bC h1 3).trans rfl, cellW hb HCS.out.1, cellW hb HCS.out.2.1, cellW hb HCS.out.2.2.1, cellW hb HCS.out.2.2.2.1, cellW hb HCS.out.2.2.2.2⟩)
        refine start_ (n := 10) (S := fun W => W.cell? ⟨g1, 0, none⟩ = some (.slice (some ad) L.length c) ∧ W.cell? ⟨g1, 1, none⟩ = some (.int .i64 x.f0) ∧ W.cell? ⟨g1, 2, none⟩ = some (.int .i64 next) ∧ W.cell? ⟨g1, 3, none⟩ = some (.int .i64 depth) ∧ W.cell? ⟨(ad.add (i * 7)).block, (ad.add (i * 7)).off + 2, none⟩ = some (.int .i64 x.f2.f0) ∧ W.cell? ⟨(ad.add (i * 7)).block, (ad.add (i * 7)).off + 3, none⟩ = some (.string x.f2.f1.f0) ∧ W.cell? ⟨(ad.add (i * 7)).block, (ad.add (i * 7)).off + 4, none⟩ = some (.slice A4 x.f2.f1.f1.length c4) ∧ W.cell? ⟨(ad.add (i * 7)).block, (ad.add (i * 7)).off + 5, none⟩ = some (.string x.f2.f2.f0) ∧ W.cell? ⟨(ad.add (i * 7)).block, (ad.add (i * 7)).off + 6, none⟩ = some (.slice A6 x.f2.f2.f1.length c6)) (ds := [8]) #[tF,tF,tF,tF,tF,tF,tF,tF,tF,tF] (by kernel_rfl) rfl rfl (HLK.out _ ((HB6.out.later (below_drew1 (Below.refl _ _))).below) (blk_drew HB6.out.b1)) (fun hHeld => ?_)
        have HB7 := aM (HB6.out.later (below_drew1 (Below.refl _ _)))
        generalize w6.drew = w7 at HB7 hHeld ⊢
        clear HB6
        refine st 0 30 #[tT,tF,tF,tF,tF,tF,tF,tF,tF,tF] hHeld ?_
        refine sv 1 31 #[tT,tT,tF,tF,tF,tF,tF,tF,tF,tF] ?_
        refine st 2 32 #[tT,tT,tT,tF,tF,tF,tF,tF,tF,tF] hHeld ?_
        refine sv 3 33 #[tT,tT,tT,tT,tF,tF,tF,tF,tF,tF] ?_
        refine sv 4 34 #[tT,tT,tT,tT,tT,tF,tF,tF,tF,tF] ?_
        refine sv 5 35 #[tT,tT,tT,tT,tT,tT,tF,tF,tF,tF] ?_
        refine st 6 36 #[tT,tT,tT,tT,tT,tT,tT,tF,tF,tF] hHeld ?_
        refine one_ (i := 7) (N := none) #[tT,tT,tT,tT,tT,tT,tT,tT,tF,tF] rfl rfl (by kernel_rfl) (by decide) (fun K hK => ?_)
        have hy0 := (bC HB7.out.b2 0).trans (rfl : _ = some (Value.slice none 0 0))
        have hy1 := (bC HB7.out.b2 1).trans (rfl : _ = some (Value.int .i64 0))
        have hy2 := (bC HB7.out.b2 2).trans (rfl : _ = some (Value.int .i64 0))
        have hy3 := (bC HB7.out.b2 3).trans (rfl : _ = some (Value.int .i64 0))
        have hfy0 := bF HB7.out.b2 0
        have hfy1 := bF HB7.out.b2 1
        have hfy2 := bF HB7.out.b2 2
        have hfy3 := bF HB7.out.b2 3
        refine skip_ (w1 := ?_) (by rfl) rfl ?_ ?_
        rotate_left
        · go_simp
          rfl
        have HD8 := aM (show ∀ v0 v1 v2 v3 : Value, Below w.heap.size w ((((w7.setCell ⟨g2, 0, none⟩ v0).setCell ⟨g2, 1, none⟩ v1).setCell ⟨g2, 2, none⟩ v2).setCell ⟨g2, 3, none⟩ v3) from fun v0 v1 v2 v3 => below_set (below_set (below_set (below_set HB7.out.below GE2.out) GE2.out) GE2.out) GE2.out)
        have H18 := aM (show ∀ v0 v1 v2 v3 : Value, ((((w7.setCell ⟨g2, 0, none⟩ v0).setCell ⟨g2, 1, none⟩ v1).setCell ⟨g2, 2, none⟩ v2).setCell ⟨g2, 3, none⟩ v3).heap[g1]? = some (.cells #[.slice (some ad) L.length c, .int .i64 x.f0, .int .i64 next, .int .i64 depth] 28 (0, 0)) from fun v0 v1 v2 v3 => bR (bR (bR (bR HB7.out.b1 NE2.out _) NE2.out _) NE2.out _) NE2.out _)
        refine hK.out _ _ (HLK.out _ (HD8.out _ _ _ _) (H18.out _ _ _ _)) (fun hHeld => ?_)
        clear hK K HD8 H18 hy0 hfy0 hy1 hfy1 hy2 hfy2 hy3 hfy3
        generalize hw8 : World.setCell _ ⟨g2, 3, none⟩ _ = w8 at hHeld ⊢
        have H28 := aM (show w8.heap[g2]? = some (.cells #[.slice (some ad) L.length c, .int .i64 x.f0, .int .i64 next, .int .i64 depth] 28 (0, 0)) from by subst hw8; exact (blk_set (blk_set (blk_set (blk_set HB7.out.b2 0 _) 1 _) 2 _) 3 _).trans rfl)
        have H38 := aM (show w8.heap[g3]? = some (.cells zs5 34 (0, 0)) from by subst hw8; exact bR (bR (bR (bR HB7.out.b3 (fun e => NE3.out.2 e.symm) _) (fun e => NE3.out.2 e.symm) _) (fun e => NE3.out.2 e.symm) _) (fun e => NE3.out.2 e.symm) _)
        have HB8 := aM (show Below w.heap.size w w8 from by subst hw8; exact below_set (below_set (below_set (below_set HB7.out.below GE2.out) GE2.out) GE2.out) GE2.out)
        clear hw8 HB7 HLK
        refine last_ (i := 8) (N := none) #[tT,tT,tT,tT,tT,tT,tT,tT,tT,tF] rfl rfl (by kernel_rfl) (by decide) (fun K hK => ?_)
        have hz0 := (bC H38.out 0).trans (rfl : _ = some (Value.int .i64 0))
        have hz1 := (bC H38.out 1).trans (rfl : _ = some (Value.string ⟨#[]⟩))
        have hz2 := (bC H38.out 2).trans (rfl : _ = some (Value.slice none 0 0))
        have hz3 := (bC H38.out 3).trans (rfl : _ = some (Value.string ⟨#[]⟩))
        have hz4 := (bC H38.out 4).trans (rfl : _ = some (Value.slice none 0 0))
        have hfz0 := bF H38.out 0
        have hfz1 := bF H38.out 1
        have hfz2 := bF H38.out 2
        have hfz3 := bF H38.out 3
        have hfz4 := bF H38.out 4
        refine skip_ (w1 := ?_) (by rfl) rfl ?_ ?_
        rotate_left
        · go_simp
          rfl
        refine hK.out _ _ ?_
        clear hK K hHeld
        refine sv 9 4 #[tT,tT,tT,tT,tT,tT,tT,tT,tT,tT] ?_
        refine done_ (by kernel_rfl) ?_
        go_wp2
        refine bodyPost_ret (results_list (rs := [.cell 2 28, .cell 3 34, .tmp 4]) rfl (by simp) (.cell g2 28 #[.slice (some ad) L.length c, .int .i64 x.f0, .int .i64 next, .int .i64 depth] (0, 0) _ rfl (bR (bR (bR (bR (bR H28.out NE3.out.2 _) NE3.out.2 _) NE3.out.2 _) NE3.out.2 _) NE3.out.2 _) Try.underlying28 rfl (by kernel_rfl) (.cell g3 34 #[.int .i64 x.f2.f0, .string x.f2.f1.f0, .slice A4 x.f2.f1.f1.length c4, .string x.f2.f2.f0, .slice A6 x.f2.f2.f1.length c6] (0, 0) _ rfl ((blk_set (blk_set (blk_set (blk_set (blk_set H38.out 0 _) 1 _) 2 _) 3 _) 4 _).trans rfl) Try.underlying34 rfl (by kernel_rfl) (.tmp .nil)))) rfl ?_
        have hrn : redoNow L now = x.f0 := by unfold redoNow; rw [HRD.out]; rfl
        have hre : redoEd L now = x.f2 := by unfold redoEd; rw [HRD.out]; rfl
        have hrc : redoCode L now = 0 := by unfold redoCode; rw [HRD.out]; rfl
        rw [hrn, hre, hrc]
        have HBf : ∀ v0 v1 v2 v3 v4 : Value, Below w.heap.size w (((((w8.setCell ⟨g3, 0, none⟩ v0).setCell ⟨g3, 1, none⟩ v1).setCell ⟨g3, 2, none⟩ v2).setCell ⟨g3, 3, none⟩ v3).setCell ⟨g3, 4, none⟩ v4) := fun v0 v1 v2 v3 v4 => below_set (below_set (below_set (below_set (below_set HB8.out GE3.out) GE3.out) GE3.out) GE3.out) GE3.out
        obtain ⟨A4', c4', A6', c6', e', l4, F4, l6, F6⟩ := k76_openF HFK.out
        cases e'
        exact ⟨[.int .i64 x.f2.f0, .string x.f2.f1.f0, .slice A4 x.f2.f1.f1.length c4, .string x.f2.f2.f0, .slice A6 x.f2.f2.f1.length c6], rfl, Kd.FK_below (k34_mkF w P x.f2 l4 F4 l6 F6) (HBf _ _ _ _ _), HBf _ _ _ _ _⟩
      · have b1 : (x.f1 == now) = false := by simpa using hup
        rw [b1]
        clear b1
        go_wp2
        first | rw [e1] | skip
        go_roundg i
        case measure => exact Nat.lt_succ_self _
        case rel =>
          refine ⟨_, rfl, ⟨rfl⟩, ⟨by omega⟩, ⟨fun j hj hij => ?_⟩, HBq⟩
          by_cases hji : j = i
          · subst hji; rw [← HXE.out]; exact hup
          · exact HM.out j hj (by omega)
end Go.Proofs.Ytbbgpfjeobdogaa.PB
end

section
namespace Go.Proofs.Ytbbgpfjeobdogaa.PB
open Go.RowKit Go.Proofs.YtbbgpfjeobdogaaW.PrintWords Go.Proofs.YtbbgpfjeobdogaaW.PrintLast Go.Proofs.YtbbgpfjeobdogaaW.PrintMore
attribute [local go_sem] max2_int min2_int max_two min_two max_three min_three max_four min_four   
set_option linter.unusedVariables false
set_option linter.unusedSimpArgs false
def bureauref07_Same.f (k : Nat) (a0_0 : Int) (a0_1 : ByteArray) (l0_2 : List (S71)) (a0_3 : ByteArray) (l0_4 : List (S71)) (a1_0 : Int) (a1_1 : ByteArray) (l1_2 : List (S71)) (a1_3 : ByteArray) (l1_4 : List (S71)) : Option (Bool) := if a0_0 = a1_0 then ((bureauref04_Same.f k a0_1 l0_2 a1_1 l1_2).bind fun t237 => (if t237 = true then ((bureauref04_Same.f k a0_3 l0_4 a1_3 l1_4).bind fun t238 => (some t238)) else (some false))) else (some false)
set_option maxHeartbeats 8000000 in
set_option maxRecDepth 100000 in
theorem bureauref07_Same.calls (k : Nat) (a0_0 : Int) (a0_1 : ByteArray) (A0_2 : Option Addr) (c0_2 : Nat) (l0_2 : List (S71)) (a0_3 : ByteArray) (A0_4 : Option Addr) (c0_4 : Nat) (l0_4 : List (S71)) (a1_0 : Int) (a1_1 : ByteArray) (A1_2 : Option Addr) (c1_2 : Nat) (l1_2 : List (S71)) (a1_3 : ByteArray) (A1_4 : Option Addr) (c1_4 : Nat) (l1_4 : List (S71)) (r : Bool) (w : World) (hr0_2 : Kd.C k71 w A0_2 l0_2.length l0_2) (hc0_2 : l0_2.length ≤ c0_2) (hr0_4 : Kd.C k71 w A0_4 l0_4.length l0_4) (hc0_4 : l0_4.length ≤ c0_4) (hr1_2 : Kd.C k71 w A1_2 l1_2.length l1_2) (hc1_2 : l1_2.length ≤ c1_2) (hr1_4 : Kd.C k71 w A1_4 l1_4.length l1_4) (hc1_4 : l1_4.length ≤ c1_4) (h : bureauref07_Same.f k a0_0 a0_1 l0_2 a0_3 l0_4 a1_0 a1_1 l1_2 a1_3 l1_4 = some r) :
  Calls Try.prog 14 #[.agg #[.int .i64 a0_0, .string a0_1, .slice A0_2 l0_2.length c0_2, .string a0_3, .slice A0_4 l0_4.length c0_4], .agg #[.int .i64 a1_0, .string a1_1, .slice A1_2 l1_2.length c1_2, .string a1_3, .slice A1_4 l1_4.length c1_4]] w fun e w' => e = .returned (.bool r) ∧ Below w.heap.size w w' := by
 have hu34 := Try.underlying34
 have hu32 := Try.underlying32
 have HR0_2 := aM hr0_2
 have HC0_2 := aM hc0_2
 clear hr0_2 hc0_2
 have HR0_4 := aM hr0_4
 have HC0_4 := aM hc0_4
 clear hr0_4 hc0_4
 have HR1_2 := aM hr1_2
 have HC1_2 := aM hc1_2
 clear hr1_2 hc1_2
 have HR1_4 := aM hr1_4
 have HC1_4 := aM hc1_4
 clear hr1_4 hc1_4
 have HB := aM (Below.refl w.heap.size w)
 have H : (if a0_0 = a1_0 then ((bureauref04_Same.f k a0_1 l0_2 a1_1 l1_2).bind fun t237 => (if t237 = true then ((bureauref04_Same.f k a0_3 l0_4 a1_3 l1_4).bind fun t238 => (some t238)) else (some false))) else (some false)) = some r := h
 clear h
 by_cases c3 : a0_0 = a1_0
 ·rw [if_pos c3] at H
  have c3b0 : (a0_0 == a1_0) = true := beq_iff_eq.mpr c3
  have c3b1 : (a0_0 != a1_0) = false := bne_eq_false_iff_eq.mpr c3
  clear c3
  replace H := Option.bind_eq_some_iff.mp H
  obtain ⟨t237, A40, H⟩ := H
  replace H : (if t237 = true then ((bureauref04_Same.f k a0_3 l0_4 a1_3 l1_4).bind fun t238 => (some t238)) else (some false)) = some r := H
  have A4 := aM A40
  clear A40
  by_cases c5 : t237 = true
  ·subst c5
   have H1 : ((bureauref04_Same.f k a0_3 l0_4 a1_3 l1_4).bind fun t238 => (some t238)) = some r := by rw [if_pos rfl] at H; exact H
   clear H
   have H := H1
   clear H1
   replace H := Option.bind_eq_some_iff.mp H
   obtain ⟨t238, A60, H⟩ := H
   replace H : (some t238) = some r := H
   have A6 := aM A60
   clear A60
   obtain rfl := Option.some.inj H
   go_enter Try.func14, Try.ntmps14
   go_wp2_with (first | ((with_reducible refine gate_dst (N := 2) rfl ?_); refine box_event ?hg (N := 2) ?hd (cs := #[.int .i64 a0_0, .string a0_1, .slice A0_2 l0_2.length c0_2, .string a0_3, .slice A0_4 l0_4.length c0_4]) (t := 34) ?hr ?_; (case hd | hg => rfl); (case hr => first | (go_simp; done) | (go_simp; rfl)); intro gb235 hg w7 hbox hb; have n0_ := aM (bP (ey HB.out) hb); have n1_ := aM (hbox); have n2_ := aM ((by rw [hg]; exact (bZ (ey HB.out)) : w.heap.size ≤ gb235)); have n3_ := n2_; clear HB; have HB := n0_; have BK235 := n1_; have GW235 := n2_; have GE235 := n3_; clear n0_ n1_ n2_ n3_; clear hb hbox hg) | ((with_reducible refine gate_dst (N := 3) rfl ?_); refine box_event ?hg (N := 3) ?hd (cs := #[.int .i64 a1_0, .string a1_1, .slice A1_2 l1_2.length c1_2, .string a1_3, .slice A1_4 l1_4.length c1_4]) (t := 34) ?hr ?_; (case hd | hg => rfl); (case hr => first | (go_simp; done) | (go_simp; rfl)); intro gb236 hg w8 hbox hb; have n0_ := aM (bB (g := gb235) (qy BK235.out) hb); have n1_ := aM (bP (by repeat (first | (with_reducible first | exact HB.out | apply ea | apply en | apply ed | refine es ?_ GE235.out) | exact HB.out)) hb); have n2_ := aM (hbox); have n3_ := aM ((by rw [hg]; exact (bZ (by repeat (first | (with_reducible first | exact HB.out | apply ea | apply en | apply ed | refine es ?_ GE235.out) | exact HB.out))) : w.heap.size ≤ gb236)); have n4_ := n3_; have n5_ := aM ((by rw [hg]; exact Nat.ne_of_lt (blk_lt (g := gb235) (qy BK235.out)) : gb235 ≠ gb236)); have n6_ := aM ((by rw [hg]; exact Nat.ne_of_gt (blk_lt (g := gb235) (qy BK235.out)) : gb236 ≠ gb235)); clear BK235 HB; have BK235 := n0_; have HB := n1_; have BK236 := n2_; have GW236 := n3_; have GE236 := n4_; have NB235_236 := n5_; have NB236_235 := n6_; clear n0_ n1_ n2_ n3_ n4_ n5_ n6_; clear hb hbox hg; have hnb9 := NB235_236.out; have hnc9 := NB236_235.out; have hcz10_0 := zC BK235.out 0 (.int .i64 a0_0); have hcz10_1 := zC BK235.out 1 (.string a0_1); have hcz10_2 := zC BK235.out 2 (.slice A0_2 l0_2.length c0_2); have hcz10_3 := zC BK235.out 3 (.string a0_3); have hcz10_4 := zC BK235.out 4 (.slice A0_4 l0_4.length c0_4); have hfz10_0 := bF BK235.out 0; have hfz10_1 := bF BK235.out 1; have hfz10_2 := bF BK235.out 2; have hfz10_3 := bF BK235.out 3; have hfz10_4 := bF BK235.out 4; have hcz11_0 := zC BK236.out 0 (.int .i64 a1_0); have hcz11_1 := zC BK236.out 1 (.string a1_1); have hcz11_2 := zC BK236.out 2 (.slice A1_2 l1_2.length c1_2); have hcz11_3 := zC BK236.out 3 (.string a1_3); have hcz11_4 := zC BK236.out 4 (.slice A1_4 l1_4.length c1_4); have hfz11_0 := bF BK236.out 0; have hfz11_1 := bF BK236.out 1; have hfz11_2 := bF BK236.out 2; have hfz11_3 := bF BK236.out 3; have hfz11_4 := bF BK236.out 4) | (go_at_call 28; (with_reducible refine (bureauref04_Same.calls k a0_1 _ _ l0_2 a1_1 _ _ l1_2 true _ ?side1 ?side2 ?side3 ?side4 A4.out).mono ?_); (case side1 => repeat (first | exact (cB_ HR0_2.out HB.out) | (with_reducible refine Kd.C_alloc ?_ _) | (with_reducible refine Kd.C_drewN ?_ _) | (with_reducible refine Kd.C_drew ?_))); (case side2 => exact HC0_2.out); (case side3 => repeat (first | exact (cB_ HR1_2.out HB.out) | (with_reducible refine Kd.C_alloc ?_ _) | (with_reducible refine Kd.C_drewN ?_ _) | (with_reducible refine Kd.C_drew ?_))); (case side4 => exact HC1_2.out); rintro e w12 ⟨rfl, hb⟩; have n0_ := aM (bB (g := gb235) (qy BK235.out) hb); have n1_ := aM (bB (g := gb236) (qy BK236.out) hb); have n2_ := aM (bP (by repeat (first | (with_reducible first | exact HB.out | apply ea | apply en | apply ed | refine es ?_ GE235.out | refine es ?_ GE236.out) | exact HB.out)) hb); clear BK235 BK236 HB; have BK235 := n0_; have BK236 := n1_; have HB := n2_; clear n0_ n1_ n2_; (try clear hb); (try clear hb2); (try clear hk); (try clear hi); have hcz13_0 := zC BK235.out 0 (.int .i64 a0_0); have hcz13_1 := zC BK235.out 1 (.string a0_1); have hcz13_2 := zC BK235.out 2 (.slice A0_2 l0_2.length c0_2); have hcz13_3 := zC BK235.out 3 (.string a0_3); have hcz13_4 := zC BK235.out 4 (.slice A0_4 l0_4.length c0_4); have hfz13_0 := bF BK235.out 0; have hfz13_1 := bF BK235.out 1; have hfz13_2 := bF BK235.out 2; have hfz13_3 := bF BK235.out 3; have hfz13_4 := bF BK235.out 4; have hcz14_0 := zC BK236.out 0 (.int .i64 a1_0); have hcz14_1 := zC BK236.out 1 (.string a1_1); have hcz14_2 := zC BK236.out 2 (.slice A1_2 l1_2.length c1_2); have hcz14_3 := zC BK236.out 3 (.string a1_3); have hcz14_4 := zC BK236.out 4 (.slice A1_4 l1_4.length c1_4); have hfz14_0 := bF BK236.out 0; have hfz14_1 := bF BK236.out 1; have hfz14_2 := bF BK236.out 2; have hfz14_3 := bF BK236.out 3; have hfz14_4 := bF BK236.out 4) | (go_at_call 28; (with_reducible refine (bureauref04_Same.calls k a0_3 _ _ l0_4 a1_3 _ _ l1_4 t238 _ ?side1 ?side2 ?side3 ?side4 A6.out).mono ?_); (case side1 => repeat (first | exact (cB_ HR0_4.out HB.out) | (with_reducible refine Kd.C_alloc ?_ _) | (with_reducible refine Kd.C_drewN ?_ _) | (with_reducible refine Kd.C_drew ?_))); (case side2 => exact HC0_4.out); (case side3 => repeat (first | exact (cB_ HR1_4.out HB.out) | (with_reducible refine Kd.C_alloc ?_ _) | (with_reducible refine Kd.C_drewN ?_ _) | (with_reducible refine Kd.C_drew ?_))); (case side4 => exact HC1_4.out); rintro e w15 ⟨rfl, hb⟩; have n0_ := aM (bB (g := gb235) (qy BK235.out) hb); have n1_ := aM (bB (g := gb236) (qy BK236.out) hb); have n2_ := aM (bP (by repeat (first | (with_reducible first | exact HB.out | apply ea | apply en | apply ed | refine es ?_ GE235.out | refine es ?_ GE236.out) | exact HB.out)) hb); clear BK235 BK236 HB; have BK235 := n0_; have BK236 := n1_; have HB := n2_; clear n0_ n1_ n2_; (try clear hb); (try clear hb2); (try clear hk); (try clear hi)))
   go_ret
   exact ⟨by first | rfl | (simp [errW_none, errW_some] <;> rfl) | (simp [*, errW_none, errW_some] <;> rfl), by repeat (first | (with_reducible first | exact HB.out | apply ea | apply en | apply ed | refine es ?_ GE235.out | refine es ?_ GE236.out) | exact HB.out)⟩
  ·replace c5 := Bool.eq_false_iff.mpr c5
   subst c5
   have H1 : (some false) = some r := by rw [if_neg (show ¬ (false = true) by decide)] at H; exact H
   clear H
   have H := H1
   clear H1
   obtain rfl := Option.some.inj H
   go_enter Try.func14, Try.ntmps14
   go_wp2_with (first | ((with_reducible refine gate_dst (N := 2) rfl ?_); refine box_event ?hg (N := 2) ?hd (cs := #[.int .i64 a0_0, .string a0_1, .slice A0_2 l0_2.length c0_2, .string a0_3, .slice A0_4 l0_4.length c0_4]) (t := 34) ?hr ?_; (case hd | hg => rfl); (case hr => first | (go_simp; done) | (go_simp; rfl)); intro gb235 hg w16 hbox hb; have n0_ := aM (bP (ey HB.out) hb); have n1_ := aM (hbox); have n2_ := aM ((by rw [hg]; exact (bZ (ey HB.out)) : w.heap.size ≤ gb235)); have n3_ := n2_; clear HB; have HB := n0_; have BK235 := n1_; have GW235 := n2_; have GE235 := n3_; clear n0_ n1_ n2_ n3_; clear hb hbox hg) | ((with_reducible refine gate_dst (N := 3) rfl ?_); refine box_event ?hg (N := 3) ?hd (cs := #[.int .i64 a1_0, .string a1_1, .slice A1_2 l1_2.length c1_2, .string a1_3, .slice A1_4 l1_4.length c1_4]) (t := 34) ?hr ?_; (case hd | hg => rfl); (case hr => first | (go_simp; done) | (go_simp; rfl)); intro gb236 hg w17 hbox hb; have n0_ := aM (bB (g := gb235) (qy BK235.out) hb); have n1_ := aM (bP (by repeat (first | (with_reducible first | exact HB.out | apply ea | apply en | apply ed | refine es ?_ GE235.out) | exact HB.out)) hb); have n2_ := aM (hbox); have n3_ := aM ((by rw [hg]; exact (bZ (by repeat (first | (with_reducible first | exact HB.out | apply ea | apply en | apply ed | refine es ?_ GE235.out) | exact HB.out))) : w.heap.size ≤ gb236)); have n4_ := n3_; have n5_ := aM ((by rw [hg]; exact Nat.ne_of_lt (blk_lt (g := gb235) (qy BK235.out)) : gb235 ≠ gb236)); have n6_ := aM ((by rw [hg]; exact Nat.ne_of_gt (blk_lt (g := gb235) (qy BK235.out)) : gb236 ≠ gb235)); clear BK235 HB; have BK235 := n0_; have HB := n1_; have BK236 := n2_; have GW236 := n3_; have GE236 := n4_; have NB235_236 := n5_; have NB236_235 := n6_; clear n0_ n1_ n2_ n3_ n4_ n5_ n6_; clear hb hbox hg; have hnb18 := NB235_236.out; have hnc18 := NB236_235.out; have hcz19_0 := zC BK235.out 0 (.int .i64 a0_0); have hcz19_1 := zC BK235.out 1 (.string a0_1); have hcz19_2 := zC BK235.out 2 (.slice A0_2 l0_2.length c0_2); have hcz19_3 := zC BK235.out 3 (.string a0_3); have hcz19_4 := zC BK235.out 4 (.slice A0_4 l0_4.length c0_4); have hfz19_0 := bF BK235.out 0; have hfz19_1 := bF BK235.out 1; have hfz19_2 := bF BK235.out 2; have hfz19_3 := bF BK235.out 3; have hfz19_4 := bF BK235.out 4; have hcz20_0 := zC BK236.out 0 (.int .i64 a1_0); have hcz20_1 := zC BK236.out 1 (.string a1_1); have hcz20_2 := zC BK236.out 2 (.slice A1_2 l1_2.length c1_2); have hcz20_3 := zC BK236.out 3 (.string a1_3); have hcz20_4 := zC BK236.out 4 (.slice A1_4 l1_4.length c1_4); have hfz20_0 := bF BK236.out 0; have hfz20_1 := bF BK236.out 1; have hfz20_2 := bF BK236.out 2; have hfz20_3 := bF BK236.out 3; have hfz20_4 := bF BK236.out 4) | (go_at_call 28; (with_reducible refine (bureauref04_Same.calls k a0_1 _ _ l0_2 a1_1 _ _ l1_2 false _ ?side1 ?side2 ?side3 ?side4 A4.out).mono ?_); (case side1 => repeat (first | exact (cB_ HR0_2.out HB.out) | (with_reducible refine Kd.C_alloc ?_ _) | (with_reducible refine Kd.C_drewN ?_ _) | (with_reducible refine Kd.C_drew ?_))); (case side2 => exact HC0_2.out); (case side3 => repeat (first | exact (cB_ HR1_2.out HB.out) | (with_reducible refine Kd.C_alloc ?_ _) | (with_reducible refine Kd.C_drewN ?_ _) | (with_reducible refine Kd.C_drew ?_))); (case side4 => exact HC1_2.out); rintro e w21 ⟨rfl, hb⟩; have n0_ := aM (bB (g := gb235) (qy BK235.out) hb); have n1_ := aM (bB (g := gb236) (qy BK236.out) hb); have n2_ := aM (bP (by repeat (first | (with_reducible first | exact HB.out | apply ea | apply en | apply ed | refine es ?_ GE235.out | refine es ?_ GE236.out) | exact HB.out)) hb); clear BK235 BK236 HB; have BK235 := n0_; have BK236 := n1_; have HB := n2_; clear n0_ n1_ n2_; (try clear hb); (try clear hb2); (try clear hk); (try clear hi)))
   go_ret
   exact ⟨by first | rfl | (simp [errW_none, errW_some] <;> rfl) | (simp [*, errW_none, errW_some] <;> rfl), by repeat (first | (with_reducible first | exact HB.out | apply ea | apply en | apply ed | refine es ?_ GE235.out | refine es ?_ GE236.out) | exact HB.out)⟩
 ·rw [if_neg c3] at H
  have c3b0 : (a0_0 == a1_0) = false := beq_eq_false_iff_ne.mpr c3
  have c3b1 : (a0_0 != a1_0) = true := bne_iff_ne.mpr c3
  obtain rfl := Option.some.inj H
  go_enter Try.func14, Try.ntmps14
  go_wp2_with (first | ((with_reducible refine gate_dst (N := 2) rfl ?_); refine box_event ?hg (N := 2) ?hd (cs := #[.int .i64 a0_0, .string a0_1, .slice A0_2 l0_2.length c0_2, .string a0_3, .slice A0_4 l0_4.length c0_4]) (t := 34) ?hr ?_; (case hd | hg => rfl); (case hr => first | (go_simp; done) | (go_simp; rfl)); intro gb235 hg w22 hbox hb; have n0_ := aM (bP (ey HB.out) hb); have n1_ := aM (hbox); have n2_ := aM ((by rw [hg]; exact (bZ (ey HB.out)) : w.heap.size ≤ gb235)); have n3_ := n2_; clear HB; have HB := n0_; have BK235 := n1_; have GW235 := n2_; have GE235 := n3_; clear n0_ n1_ n2_ n3_; clear hb hbox hg) | ((with_reducible refine gate_dst (N := 3) rfl ?_); refine box_event ?hg (N := 3) ?hd (cs := #[.int .i64 a1_0, .string a1_1, .slice A1_2 l1_2.length c1_2, .string a1_3, .slice A1_4 l1_4.length c1_4]) (t := 34) ?hr ?_; (case hd | hg => rfl); (case hr => first | (go_simp; done) | (go_simp; rfl)); intro gb236 hg w23 hbox hb; have n0_ := aM (bB (g := gb235) (qy BK235.out) hb); have n1_ := aM (bP (by repeat (first | (with_reducible first | exact HB.out | apply ea | apply en | apply ed | refine es ?_ GE235.out) | exact HB.out)) hb); have n2_ := aM (hbox); have n3_ := aM ((by rw [hg]; exact (bZ (by repeat (first | (with_reducible first | exact HB.out | apply ea | apply en | apply ed | refine es ?_ GE235.out) | exact HB.out))) : w.heap.size ≤ gb236)); have n4_ := n3_; have n5_ := aM ((by rw [hg]; exact Nat.ne_of_lt (blk_lt (g := gb235) (qy BK235.out)) : gb235 ≠ gb236)); have n6_ := aM ((by rw [hg]; exact Nat.ne_of_gt (blk_lt (g := gb235) (qy BK235.out)) : gb236 ≠ gb235)); clear BK235 HB; have BK235 := n0_; have HB := n1_; have BK236 := n2_; have GW236 := n3_; have GE236 := n4_; have NB235_236 := n5_; have NB236_235 := n6_; clear n0_ n1_ n2_ n3_ n4_ n5_ n6_; clear hb hbox hg; have hnb24 := NB235_236.out; have hnc24 := NB236_235.out; have hcz25_0 := zC BK235.out 0 (.int .i64 a0_0); have hcz25_1 := zC BK235.out 1 (.string a0_1); have hcz25_2 := zC BK235.out 2 (.slice A0_2 l0_2.length c0_2); have hcz25_3 := zC BK235.out 3 (.string a0_3); have hcz25_4 := zC BK235.out 4 (.slice A0_4 l0_4.length c0_4); have hfz25_0 := bF BK235.out 0; have hfz25_1 := bF BK235.out 1; have hfz25_2 := bF BK235.out 2; have hfz25_3 := bF BK235.out 3; have hfz25_4 := bF BK235.out 4; have hcz26_0 := zC BK236.out 0 (.int .i64 a1_0); have hcz26_1 := zC BK236.out 1 (.string a1_1); have hcz26_2 := zC BK236.out 2 (.slice A1_2 l1_2.length c1_2); have hcz26_3 := zC BK236.out 3 (.string a1_3); have hcz26_4 := zC BK236.out 4 (.slice A1_4 l1_4.length c1_4); have hfz26_0 := bF BK236.out 0; have hfz26_1 := bF BK236.out 1; have hfz26_2 := bF BK236.out 2; have hfz26_3 := bF BK236.out 3; have hfz26_4 := bF BK236.out 4))
  go_ret
  exact ⟨by first | rfl | (simp [errW_none, errW_some] <;> rfl) | (simp [*, errW_none, errW_some] <;> rfl), by repeat (first | (with_reducible first | exact HB.out | apply ea | apply en | apply ed | refine es ?_ GE235.out | refine es ?_ GE236.out) | exact HB.out)⟩
end Go.Proofs.Ytbbgpfjeobdogaa.PB
end

section
namespace Go.Proofs.Ytbbgpfjeobdogaa.PB
open Go.RowKit Go.Proofs.YtbbgpfjeobdogaaW.PrintWords Go.Proofs.YtbbgpfjeobdogaaW.PrintLast Go.Proofs.YtbbgpfjeobdogaaW.PrintMore
attribute [local go_sem] max2_int min2_int max_two min_two max_three min_three max_four min_four   
set_option linter.unusedVariables false
set_option linter.unusedSimpArgs false
def bureauref08_New.f (a0 : Int) : Option ((List (S76)) × Int × Int × Int) := some ((([(⟨0, (-1), (⟨0, (⟨(⟨#[]⟩ : ByteArray), ([] : List (S71))⟩ : S32), (⟨(⟨#[]⟩ : ByteArray), ([] : List (S71))⟩ : S32)⟩ : S34)⟩ : S76)] : List (S76))), 0, 1, a0)
set_option maxHeartbeats 8000000 in
set_option maxRecDepth 100000 in
theorem bureauref08_New.calls (a0 : Int) (r1 : List (S76)) (r2 : Int) (r3 : Int) (r4 : Int) (w : World) (h : bureauref08_New.f a0 = some (r1, r2, r3, r4)) :
  Calls Try.prog 10 #[.int .i64 a0] w fun e w' => ∃ v0_ : Value, e = .returned (.agg #[v0_, .int .i64 r2, .int .i64 r3, .int .i64 r4]) ∧ Kd.S k76 76 w' w.heap.size (fun _ => True) v0_ r1 ∧ Below w.heap.size w w' := by
 have hu28 := Try.underlying28
 have hu76 := Try.underlying76
 have HB := aM (Below.refl w.heap.size w)
 have H : (some ((([(⟨0, (-1), (⟨0, (⟨(⟨#[]⟩ : ByteArray), ([] : List (S71))⟩ : S32), (⟨(⟨#[]⟩ : ByteArray), ([] : List (S71))⟩ : S32)⟩ : S34)⟩ : S76)] : List (S76))), 0, 1, a0)) = some (r1, r2, r3, r4) := h
 clear h
 obtain ⟨y192, hy192⟩ : ∃ y_ : List (S76), y_ = (([(⟨0, (-1), (⟨0, (⟨(⟨#[]⟩ : ByteArray), ([] : List (S71))⟩ : S32), (⟨(⟨#[]⟩ : ByteArray), ([] : List (S71))⟩ : S32)⟩ : S34)⟩ : S76)] : List (S76))) := ⟨_, rfl⟩
 replace H : (some (y192, 0, 1, a0)) = some (r1, r2, r3, r4) := by first | (rw [hy192]; with_reducible exact H) | (have H2_ := (Option.bind_some _ _).symm.trans H; rw [hy192]; with_reducible exact H2_) | (have H2_ := (Option.bind_some _ _).symm.trans H; with_reducible exact H2_) | with_reducible exact H | (rw [hy192]; exact H) | exact H
 have Ny192 := aM hy192
 clear hy192
 simp only [Option.some.injEq, Prod.mk.injEq] at H
 obtain ⟨rfl, rfl, rfl, rfl⟩ := H
 go_enter Try.func10, Try.ntmps10
 go_wp2_with (first | ((with_reducible refine gate_dst (N := 2) rfl ?_); refine box_event ?hg (N := 2) ?hd (cs := #[.slice none 0 0, .int .i64 0, .int .i64 0, .int .i64 0]) (t := 28) ?hr ?_; (case hd | hg => rfl); (case hr => first | (go_simp; done) | (go_simp; rfl)); intro gb191 hg w2 hbox hb; have n0_ := aM (bP (ey HB.out) hb); have n1_ := aM (hbox); have n2_ := aM ((by rw [hg]; exact (bZ (ey HB.out)) : w.heap.size ≤ gb191)); have n3_ := n2_; clear HB; have HB := n0_; have BK191 := n1_; have GW191 := n2_; have GE191 := n3_; clear n0_ n1_ n2_ n3_; clear hb hbox hg) | ((with_reducible refine gate_dst (N := 4) rfl ?_); refine Kd.S_lit k76 _ 76 ?hg (N := 4) ?hd (xs := ([(⟨0, (-1), (⟨0, (⟨(⟨#[]⟩ : ByteArray), ([] : List (S71))⟩ : S32), (⟨(⟨#[]⟩ : ByteArray), ([] : List (S71))⟩ : S32)⟩ : S34)⟩ : S76)] : List (S76))) (inner := [.int .i64 0, .int .i64 (-1), .int .i64 0, .string (⟨#[]⟩ : ByteArray), .slice none 0 0, .string (⟨#[]⟩ : ByteArray), .slice none 0 0]) (ok := fun _ => True) (okp := fun _ => True) ?hr ?hp (fun _ hk => hk) trivial (Below.refl _ _) (Nat.le_refl _) (by simp) ?_; (case hd | hg => rfl); (case hr => first | (go_simp; done) | (go_simp; rfl)); (case hp => exact (Reps.c7 (show Kd.M k76 _ _ _ (⟨0, (-1), (⟨0, (⟨(⟨#[]⟩ : ByteArray), ([] : List (S71))⟩ : S32), (⟨(⟨#[]⟩ : ByteArray), ([] : List (S71))⟩ : S32)⟩ : S34)⟩ : S76) [.int .i64 0, .int .i64 (-1), .int .i64 0, .string (⟨#[]⟩ : ByteArray), .slice none 0 0, .string (⟨#[]⟩ : ByteArray), .slice none 0 0] from (k76_mkM _ _ _ (⟨0, (-1), (⟨0, (⟨(⟨#[]⟩ : ByteArray), ([] : List (S71))⟩ : S32), (⟨(⟨#[]⟩ : ByteArray), ([] : List (S71))⟩ : S32)⟩ : S34)⟩ : S76) (Kd.R_nil _ _ _ _ _) (Kd.R_nil _ _ _ _ _))) (Reps.none _ _))); intro v193 w3 ho4 hb hg_ hnew_; clear hg_ hnew_; (first | rw [← Ny192.out] at ho4 | (simp only [Int.reduceToNat] at ho4; rw [← Ny192.out] at ho4)); have n0_ := aM (Kd.S_lower ho4 (bZ (by repeat (first | (with_reducible first | exact HB.out | apply ea | apply en | apply ed | refine es ?_ GE191.out) | exact HB.out)))); have n1_ := aM (bB (g := gb191) (qy BK191.out) hb); have n2_ := aM (bP (by repeat (first | (with_reducible first | exact HB.out | apply ea | apply en | apply ed | refine es ?_ GE191.out) | exact HB.out)) hb); clear BK191 HB; have HO194 := n0_; have BK191 := n1_; have HB := n2_; clear n0_ n1_ n2_; clear hb ho4; obtain ⟨Ao5, co5, eo5⟩ := Kd.S_slice HO194.out; subst eo5; have hcz6_0 := zC BK191.out 0 (.slice none 0 0); have hcz6_1 := zC BK191.out 1 (.int .i64 0); have hcz6_2 := zC BK191.out 2 (.int .i64 0); have hcz6_3 := zC BK191.out 3 (.int .i64 0); have hfz6_0 := bF BK191.out 0; have hfz6_1 := bF BK191.out 1; have hfz6_2 := bF BK191.out 2; have hfz6_3 := bF BK191.out 3))
 refine bodyPost_ret (results_cell_row rfl _ _ gb191 28 #[.slice Ao5 y192.length co5, .int .i64 0, .int .i64 1, .int .i64 a0] (0, 0) _ rfl (by (with_reducible repeat (first | apply qn | apply qd | apply qa)); refine bU (cs := #[.slice Ao5 y192.length co5, .int .i64 0, .int .i64 1, .int .i64 0]) ?_ 3 _ rfl; (with_reducible repeat (first | apply qn | apply qd | apply qa)); refine bU (cs := #[.slice Ao5 y192.length co5, .int .i64 0, .int .i64 0, .int .i64 0]) ?_ 2 _ rfl; (with_reducible repeat (first | apply qn | apply qd | apply qa)); refine bU (cs := #[.slice Ao5 y192.length co5, .int .i64 0, .int .i64 0, .int .i64 0]) ?_ 1 _ rfl; (with_reducible repeat (first | apply qn | apply qd | apply qa)); refine bU (cs := #[.slice none 0 0, .int .i64 0, .int .i64 0, .int .i64 0]) ?_ 0 _ rfl; exact qy BK191.out) Try.underlying28 rfl (by kernel_rfl)) rfl ?_
 exact ⟨_, by first | rfl | (simp [errW_none, errW_some] <;> rfl) | (simp [*, errW_none, errW_some] <;> rfl), by (with_reducible repeat (first | apply Kd.S_alloc | apply Kd.S_drewN | apply Kd.S_drew)); exact Kd.S_mono (Kd.S_far (p := ⟨gb191, 3, none⟩) (Kd.S_far (p := ⟨gb191, 2, none⟩) (Kd.S_far (p := ⟨gb191, 1, none⟩) (Kd.S_far (p := ⟨gb191, 0, none⟩) (Kd.S_types HO194.out BK191.out (by decide)) (fun _ hk => hk.2) (.slice Ao5 y192.length co5)) (fun _ hk => hk.2) (.int .i64 0)) (fun _ hk => hk.2) (.int .i64 1)) (fun _ hk => hk.2) (.int .i64 a0)) (fun _ hk => trivial), by repeat (first | (with_reducible first | exact HB.out | apply ea | apply en | apply ed | refine es ?_ GE191.out) | exact HB.out)⟩
end Go.Proofs.Ytbbgpfjeobdogaa.PB
end

section
namespace Go.Proofs.Ytbbgpfjeobdogaa.PB
open Go.RowKit Go.Maps Go.Proofs.YtbbgpfjeobdogaaW.PrintWords Go.Proofs.YtbbgpfjeobdogaaW.PrintLast Go.Proofs.YtbbgpfjeobdogaaW.PrintMore
set_option maxRecDepth 100000
set_option linter.unusedVariables false
set_option linter.unusedSimpArgs false
abbrev fitY (y : Ed) : Prop := y.f1.f1.length ≤ 100000 ∧ y.f2.f1.length ≤ 100000
theorem sameE_ev (y : Ed) (h : fitY y) : Ev (fun k => bureauref07_Same.f k y.f0 y.f1.f0 y.f1.f1 y.f2.f0 y.f2.f1 y.f0 y.f1.f0 y.f1.f1 y.f2.f0 y.f2.f1) true := by
  unfold bureauref07_Same.f
  have h1 := rsame4_ev y.f1.f0 y.f1.f1 y.f1.f0 y.f1.f1 (Nat.le_trans h.1 (by decide))
  have h2 := rsame4_ev y.f2.f0 y.f2.f1 y.f2.f0 y.f2.f1 (Nat.le_trans h.2 (by decide))
  rw [sameT_self] at h1 h2
  exact Ev.pos rfl (Ev.bind h1 (Ev.pos rfl (Ev.bind h2 (Ev.now _))))
theorem sameE_ok {w : World} {ok ok' : Nat → Prop} {y : Ed} {A2 A4 A2' A4' : Option Addr} {c2 c4 c2' c4' : Nat} (h : EdIn w ok y A2 c2 A4 c4) (h' : EdIn w ok' y A2' c2' A4' c4') :
    Calls Try.prog 14 #[edV y A2 c2 A4 c4, edV y A2' c2' A4' c4'] w fun e w' => e = .returned (.bool true) ∧ Below w.heap.size w w' := by
  obtain ⟨k, hk⟩ := (sameE_ev y h.fit).rounds
  exact bureauref07_Same.calls k y.f0 y.f1.f0 A2 c2 y.f1.f1 y.f2.f0 A4 c4 y.f2.f1 y.f0 y.f1.f0 A2' c2' y.f1.f1 y.f2.f0 A4' c4' y.f2.f1 true w (Kd.F_now h.f1) h.g1 (Kd.F_now h.f2) h.g2 (Kd.F_now h'.f1) h'.g1 (Kd.F_now h'.f2) h'.g2 hk
theorem ed_in {w : World} {ok : Nat → Prop} {y : Ed} {cs : List Value} (h : Kd.FK k34 w ok y cs) (hf : fitY y) : ∃ A2 c2 A4 c4, cs = [.int .i64 y.f0, .string y.f1.f0, .slice A2 y.f1.f1.length c2, .string y.f2.f0, .slice A4 y.f2.f1.length c4] ∧ EdIn w ok y A2 c2 A4 c4 := by
  obtain ⟨A2, c2, A4, c4, e, l2, F2, l4, F4⟩ := k34_openF h
  exact ⟨A2, c2, A4, c4, e, F2, l2, F4, l4, hf⟩
theorem undo_both {B : Nat} {S : Nat → Prop} {g bm : Nat} {w : World} {L : List St} {now next depth : Int} (h : HistAt B S g bm w L now next depth) (hw : Wf L now next) : ∃ (y : Ed) (code : Int), fitY y ∧
    (Calls Try.prog 12 #[.pointer (some ⟨g, 0, none⟩)] w fun e w' => ∃ A2 c2 A4 c4, e = .returned (.tuple #[edV y A2 c2 A4 c4, .int .i64 code]) ∧ EdIn w' (fun k => w.heap.size ≤ k) y A2 c2 A4 c4 ∧ HistAt B S g bm w' L (undoNow L now) next depth ∧ Turn B (hb g bm) w w') ∧
    Ev (fun k => bureauref08_Undo.f k L now next depth) (L, undoNow L now, next, depth, y.f0, y.f1.f0, y.f1.f1, y.f2.f0, y.f2.f1, code) := by
  obtain ⟨x, hx, hn⟩ := hw.now
  refine ⟨if x.f1 < 0 then z34 else invE x.f2, if x.f1 < 0 then 6 else 0, ?_, (undo_ok h hw hx hn).mono ?_, rundo_ev hw hx hn next depth⟩
  · split
    · exact ⟨Nat.zero_le _, Nat.zero_le _⟩
    · have := hw.fit x hx; exact ⟨this.2, this.1⟩
  · rintro e w' ⟨v, rfl, ⟨cs, rfl, hf⟩, hh, ht⟩
    obtain ⟨A2, c2, A4, c4, rfl, hE⟩ := ed_in hf (by
      split
      · exact ⟨Nat.zero_le _, Nat.zero_le _⟩
      · have := hw.fit x hx; exact ⟨this.2, this.1⟩)
    rw [undoNow_of hw hx hn]
    exact ⟨A2, c2, A4, c4, rfl, hE, hh, ht⟩
theorem redo_fit {L : List St} {now next : Int} (hw : Wf L now next) : fitY (redoEd L now) := by
  unfold redoEd
  cases hr : redoL L now with
  | none => exact ⟨Nat.zero_le _, Nat.zero_le _⟩
  | some x => exact hw.fit x (redoL_in hr).1
theorem redo_both {B : Nat} {S : Nat → Prop} {g bm : Nat} {w : World} {L : List St} {now next depth : Int} (h : HistAt B S g bm w L now next depth) (hw : Wf L now next) :
    Calls Try.prog 15 #[.pointer (some ⟨g, 0, none⟩)] w fun e w' => ∃ A2 c2 A4 c4, e = .returned (.tuple #[edV (redoEd L now) A2 c2 A4 c4, .int .i64 (redoCode L now)]) ∧ EdIn w' (fun k => w.heap.size ≤ k) (redoEd L now) A2 c2 A4 c4 ∧ HistAt B S g bm w' L (redoNow L now) next depth ∧ Turn B (hb g bm) w w' := by
  refine (redo_ok h hw).mono ?_
  rintro e w' ⟨v, rfl, ⟨cs, rfl, hf⟩, hh, ht⟩
  obtain ⟨A2, c2, A4, c4, rfl, hE⟩ := ed_in hf (redo_fit hw)
  exact ⟨A2, c2, A4, c4, rfl, hE, hh, ht⟩
theorem rundo_ok {P : Nat → Prop} {w : World} {A : Option Addr} {c : Nat} {L : List St} {now next depth now' : Int} {y : Ed} {code : Int} (hv : Kd.V kL 76 w 0 P (.slice A L.length c) L) (hf : fitY y) (hev : Ev (fun k => bureauref08_Undo.f k L now next depth) (L, now', next, depth, y.f0, y.f1.f0, y.f1.f1, y.f2.f0, y.f2.f1, code)) :
    Calls Try.prog 13 #[.agg #[.slice A L.length c, .int .i64 now, .int .i64 next, .int .i64 depth]] w fun r w' => ∃ A' c' A2 c2 A4 c4, r = .returned (.tuple #[.agg #[.slice A' L.length c', .int .i64 now', .int .i64 next, .int .i64 depth], edV y A2 c2 A4 c4, .int .i64 code]) ∧ Kd.V kL 76 w' 0 (okN P w) (.slice A' L.length c') L ∧ EdIn w' (okN P w) y A2 c2 A4 c4 ∧ Below w.heap.size w w' := by
  obtain ⟨k, hk⟩ := hev.rounds
  refine (bureauref08_Undo.calls k P A c L now next depth _ _ _ _ _ _ _ _ _ _ w hv hk).mono ?_
  rintro r w' ⟨v0, v6, v8, rfl, h0, h6, h8, hb⟩
  obtain ⟨A0, c0, rfl, hl0, hF0⟩ := h0
  obtain ⟨A6, c6, rfl, hl6, hF6⟩ := h6
  obtain ⟨A8, c8, rfl, hl8, hF8⟩ := h8
  exact ⟨A0, c0, A6, c6, A8, c8, rfl, ⟨A0, c0, rfl, hl0, hF0⟩, ⟨hF6, hl6, hF8, hl8, hf⟩, hb⟩
theorem rredo_in {P : Nat → Prop} {w : World} {A : Option Addr} {c : Nat} {L : List St} {now next depth : Int} (hv : Kd.V kL 76 w 0 P (.slice A L.length c) L) (hw : Wf L now next) :
    Calls Try.prog 16 #[.agg #[.slice A L.length c, .int .i64 now, .int .i64 next, .int .i64 depth]] w fun r w' => ∃ A' c' A2 c2 A4 c4, r = .returned (.tuple #[.agg #[.slice A' L.length c', .int .i64 (redoNow L now), .int .i64 next, .int .i64 depth], edV (redoEd L now) A2 c2 A4 c4, .int .i64 (redoCode L now)]) ∧ Kd.V kL 76 w' 0 (okN P w) (.slice A' L.length c') L ∧ EdIn w' (okN P w) (redoEd L now) A2 c2 A4 c4 ∧ Below w.heap.size w w' := by
  refine (rredo_ok hv (by have := hw.len; omega)).mono ?_
  rintro r w' ⟨cs, rfl, hf, hb⟩
  obtain ⟨A2, c2, A4, c4, rfl, hE⟩ := ed_in (Kd.FK_mono (ok' := okN P w) hf (fun k hk => .inl hk)) (redo_fit hw)
  exact ⟨A, c, A2, c2, A4, c4, rfl, Kd.V_mono (Kd.V_below hv hb) (fun k hk => .inl hk), hE, hb⟩
theorem intsL {A A' : Option Addr} {c c' : Nat} {w : World} {B B' : Nat} {ok ok' : Nat → Prop} {l : List Int} (hl : l.length ≤ 4096) (h : Kd.R (Kd.int .i64) 3 w B ok (.slice A l.length c) l) (h' : Kd.R (Kd.int .i64) 3 w B' ok' (.slice A' l.length c') l) :
    Calls Try.prog 20 #[.slice A l.length c, .slice A' l.length c'] w fun e w' => e = .returned (.bool true) ∧ Drawn0 w w' := by
  obtain ⟨k, hk⟩ := (ints_ev l hl).rounds
  exact bureauref01_Ints.calls k A c l A' c' l true w (rR h).2.2 (rR h).2.1 (rR h').2.2 (rR h').2.1 hk
theorem rstates_ok {P : Nat → Prop} {w : World} {A : Option Addr} {c : Nat} {L : List St} {now next depth : Int} (hv : Kd.V kL 76 w 0 P (.slice A L.length c) L) (hl : L.length ≤ 1000) :
    Calls Try.prog 22 #[.agg #[.slice A L.length c, .int .i64 now, .int .i64 next, .int .i64 depth]] w fun r w' => ∃ A' c', r = .returned (.slice A' (statesL L).length c') ∧ Kd.R (Kd.int .i64) 3 w' w.heap.size (fun _ => True) (.slice A' (statesL L).length c') (statesL L) ∧ Below w.heap.size w w' := by
  obtain ⟨k, hk⟩ := (rstates_ev L hl now next depth).rounds
  refine (bureauref08_States.calls k A c L now next depth _ w (Kd.V_reads' hv).2.2 (Kd.V_reads' hv).2.1 hk).mono ?_
  rintro r w' ⟨v, rfl, hr, hb⟩
  obtain ⟨A', c', rfl⟩ := Kd.R_slice hr
  exact ⟨A', c', rfl, hr, hb⟩
theorem rpath_ok {P : Nat → Prop} {w : World} {A : Option Addr} {c : Nat} {L : List St} {now next depth : Int} (hv : Kd.V kL 76 w 0 P (.slice A L.length c) L) (hw : Wf L now next) :
    Calls Try.prog 24 #[.agg #[.slice A L.length c, .int .i64 now, .int .i64 next, .int .i64 depth]] w fun r w' => ∃ A' c', r = .returned (.slice A' (pathL L now).length c') ∧ Kd.R (Kd.int .i64) 3 w' w.heap.size (fun _ => True) (.slice A' (pathL L now).length c') (pathL L now) ∧ Below w.heap.size w w' := by
  obtain ⟨k, hk⟩ := (rpath_ev hw next depth).rounds
  refine (bureauref08_Path.calls k A c L now next depth _ w (Kd.V_reads' hv).2.2 (Kd.V_reads' hv).2.1 hk).mono ?_
  rintro r w' ⟨v, rfl, hr, hb⟩
  obtain ⟨A', c', rfl⟩ := Kd.R_slice hr
  exact ⟨A', c', rfl, hr, hb⟩
theorem HistAt.turn {B : Nat} {S S' : Nat → Prop} {g bm : Nat} {w W : World} {L : List St} {now next depth : Int} (h : HistAt B S g bm w L now next depth) (ht : Turn 0 S' w W) (hg : ¬ S' g) (hbm : ¬ S' bm) (hS : ∀ k, S' k → S k) : HistAt B S g bm W L now next depth := by
  obtain ⟨⟨f, h1⟩, ⟨D, h2⟩, h3, h4, h5, h6⟩ := h
  exact ⟨⟨f, ht.blk h1 hg⟩, ⟨D, h2.turn ht hbm (fun k hk hs => hk (hS k hs))⟩, h3, h4, h5, h6⟩
theorem HistAt.grow {B : Nat} {S S' : Nat → Prop} {g bm : Nat} {w : World} {L : List St} {now next depth : Int} (h : HistAt B S g bm w L now next depth) (h1 : ∀ k, S k → S' k) (h2 : ∀ k, S' k → S k ∨ w.heap.size ≤ k) : HistAt B S' g bm w L now next depth := by
  obtain ⟨hg, ⟨D, hD⟩, h3, h4, h5, h6⟩ := h
  exact ⟨hg, ⟨D, hD.ok' (fun k hk hlt hs => by rcases h2 k hs with h | h; exact hk h; omega)⟩, h1 _ h3, h1 _ h4, h5, h6⟩
abbrev s6 (g bm g6 : Nat) : Nat → Prop := fun k => k = g ∨ k = bm ∨ k = g6
abbrev okQ (g bm g6 : Nat) : Nat → Prop := fun k => ¬ s6 g bm g6 k
structure Aq (g bm g6 : Nat) (w : World) (s : Hs) (depth : Int) (A : Option Addr) (c : Nat) (W : World) : Prop where
  hist : HistAt w.heap.size (s6 g bm g6) g bm W s.L s.now s.next depth
  inv : Inv s.L s.now s.next depth
  box : W.heap[g6]? = some (.cells #[.slice A s.L.length c, .int .i64 s.now, .int .i64 s.next, .int .i64 depth] 28 (0, 0))
  list : Kd.V kL 76 W 0 (okQ g bm g6) (.slice A s.L.length c) s.L
  below : Below w.heap.size w W
theorem Aq.later {g bm g6 : Nat} {w W W2 : World} {s : Hs} {depth : Int} {A : Option Addr} {c : Nat} (h : Aq g bm g6 w s depth A c W) (hb : Below W.heap.size W W2) : Aq g bm g6 w s depth A c W2 :=
  ⟨h.hist.below hb, h.inv, bB h.box hb, Kd.V_below h.list hb, h.below.trans (hb.mono h.below.size)⟩
theorem Aq.hS {g bm g6 : Nat} {w W : World} {s : Hs} {depth : Int} {A : Option Addr} {c : Nat} (h : Aq g bm g6 w s depth A c W) : ∀ k, s6 g bm g6 k → k < W.heap.size := by
  have h1 := h.hist.lt
  have h2 := blk_lt h.box
  rintro k (rfl | rfl | rfl) <;> omega
def bureaulaw08_HistActs.f (k : Nat) (depth : Int) (l : List Ac) : Option Bool := if (∀ x ∈ l, 0 ≤ x.f0 ∧ x.f0 < 256) then some true else none
end Go.Proofs.Ytbbgpfjeobdogaa.PB
end
