/- The row of a law out of its contract and its pure theorem. No condition. -/
import Derived.Test.YtbbgpfjeobdogaaRows
import Derived.ProofKit
import Derived.ShutString
import Derived.ChangeOld
import Derived.Carry
import Derived.Test.YtbbgpfjeobdogaaQHistTexts4
section
namespace Go.Proofs.Ytbbgpfjeobdogaa.PB
open Go.RowKit Go.Proofs.YtbbgpfjeobdogaaW.PrintWords Go.Proofs.YtbbgpfjeobdogaaW.PrintLast Go.Proofs.YtbbgpfjeobdogaaW.PrintMore
attribute [local go_sem] max2_int min2_int max_two min_two max_three min_three max_four min_four   
set_option linter.unusedVariables false
set_option linter.unusedSimpArgs false
def bureaulaw07_Fits.f (a0_0 : Int) (a0_1 : ByteArray) (l0_2 : List (S71)) (a0_3 : ByteArray) (l0_4 : List (S71)) : Option (Bool) := (bureaulaw04_Fits.f a0_1 l0_2).bind fun t197 => (if t197 = true then ((bureaulaw04_Fits.f a0_3 l0_4).bind fun t198 => (some t198)) else (some false))
set_option maxHeartbeats 8000000 in
set_option maxRecDepth 100000 in
theorem bureaulaw07_Fits.calls (a0_0 : Int) (a0_1 : ByteArray) (A0_2 : Option Addr) (c0_2 : Nat) (l0_2 : List (S71)) (a0_3 : ByteArray) (A0_4 : Option Addr) (c0_4 : Nat) (l0_4 : List (S71)) (r : Bool) (w : World) (hr0_2 : Kd.C k71 w A0_2 l0_2.length l0_2) (hc0_2 : l0_2.length ≤ c0_2) (hr0_4 : Kd.C k71 w A0_4 l0_4.length l0_4) (hc0_4 : l0_4.length ≤ c0_4) (h : bureaulaw07_Fits.f a0_0 a0_1 l0_2 a0_3 l0_4 = some r) :
  Calls Try.prog 11 #[.agg #[.int .i64 a0_0, .string a0_1, .slice A0_2 l0_2.length c0_2, .string a0_3, .slice A0_4 l0_4.length c0_4]] w fun e w' => e = .returned (.bool r) ∧ Below w.heap.size w w' := by
 have hu34 := Try.underlying34
 have hu32 := Try.underlying32
 have HR0_2 := aM hr0_2
 have HC0_2 := aM hc0_2
 clear hr0_2 hc0_2
 have HR0_4 := aM hr0_4
 have HC0_4 := aM hc0_4
 clear hr0_4 hc0_4
 have HB := aM (Below.refl w.heap.size w)
 have H : ((bureaulaw04_Fits.f a0_1 l0_2).bind fun t197 => (if t197 = true then ((bureaulaw04_Fits.f a0_3 l0_4).bind fun t198 => (some t198)) else (some false))) = some r := h
 clear h
 replace H := Option.bind_eq_some_iff.mp H
 obtain ⟨t197, A20, H⟩ := H
 replace H : (if t197 = true then ((bureaulaw04_Fits.f a0_3 l0_4).bind fun t198 => (some t198)) else (some false)) = some r := H
 have A2 := aM A20
 clear A20
 by_cases c3 : t197 = true
 ·subst c3
  have H1 : ((bureaulaw04_Fits.f a0_3 l0_4).bind fun t198 => (some t198)) = some r := by rw [if_pos rfl] at H; exact H
  clear H
  have H := H1
  clear H1
  replace H := Option.bind_eq_some_iff.mp H
  obtain ⟨t198, A40, H⟩ := H
  replace H : (some t198) = some r := H
  have A4 := aM A40
  clear A40
  obtain rfl := Option.some.inj H
  go_enter Try.func11, Try.ntmps11
  go_wp2_with (first | ((with_reducible refine gate_dst (N := 1) rfl ?_); refine box_event ?hg (N := 1) ?hd (cs := #[.int .i64 a0_0, .string a0_1, .slice A0_2 l0_2.length c0_2, .string a0_3, .slice A0_4 l0_4.length c0_4]) (t := 34) ?hr ?_; (case hd | hg => rfl); (case hr => first | (go_simp; done) | (go_simp; rfl)); intro gb196 hg w5 hbox hb; have n0_ := aM (bP (ey HB.out) hb); have n1_ := aM (hbox); have n2_ := aM ((by rw [hg]; exact (bZ (ey HB.out)) : w.heap.size ≤ gb196)); have n3_ := n2_; clear HB; have HB := n0_; have BK196 := n1_; have GW196 := n2_; have GE196 := n3_; clear n0_ n1_ n2_ n3_; clear hb hbox hg; have hcz6_0 := zC BK196.out 0 (.int .i64 a0_0); have hcz6_1 := zC BK196.out 1 (.string a0_1); have hcz6_2 := zC BK196.out 2 (.slice A0_2 l0_2.length c0_2); have hcz6_3 := zC BK196.out 3 (.string a0_3); have hcz6_4 := zC BK196.out 4 (.slice A0_4 l0_4.length c0_4); have hfz6_0 := bF BK196.out 0; have hfz6_1 := bF BK196.out 1; have hfz6_2 := bF BK196.out 2; have hfz6_3 := bF BK196.out 3; have hfz6_4 := bF BK196.out 4) | ((with_reducible refine gate_callee (f := 30) rfl ?_); refine goesL_ (some 5) rfl rfl Try.func30 (by kernel_rfl) rfl #[.agg #[.string a0_1, .slice A0_2 l0_2.length c0_2]] rfl (by (try simp only [mT, mC, mN]); first | done | rfl | (simp only [lD, lT]; rfl)) ?_; (with_reducible refine (bureaulaw04_Fits.calls a0_1 _ _ l0_2 true _ ?side1 ?side2 A2.out).mono ?_); (case side1 => repeat (first | exact (cB_ HR0_2.out HB.out) | (with_reducible refine Kd.C_alloc ?_ _) | (with_reducible refine Kd.C_drewN ?_ _) | (with_reducible refine Kd.C_drew ?_))); (case side2 => exact HC0_2.out); rintro e w7 ⟨rfl, hb⟩; refine ⟨_, rfl, ?_⟩; have n0_ := aM (bB (g := gb196) (qy BK196.out) hb); have n1_ := aM (bP (by repeat (first | (with_reducible first | exact HB.out | apply ea | apply en | apply ed | refine es ?_ GE196.out) | exact HB.out)) hb); clear BK196 HB; have BK196 := n0_; have HB := n1_; clear n0_ n1_; (try clear hb); (try clear hb2); (try clear hk); (try clear hi); have hcz8_0 := zC BK196.out 0 (.int .i64 a0_0); have hcz8_1 := zC BK196.out 1 (.string a0_1); have hcz8_2 := zC BK196.out 2 (.slice A0_2 l0_2.length c0_2); have hcz8_3 := zC BK196.out 3 (.string a0_3); have hcz8_4 := zC BK196.out 4 (.slice A0_4 l0_4.length c0_4); have hfz8_0 := bF BK196.out 0; have hfz8_1 := bF BK196.out 1; have hfz8_2 := bF BK196.out 2; have hfz8_3 := bF BK196.out 3; have hfz8_4 := bF BK196.out 4) | (go_at_call 30; (with_reducible refine (bureaulaw04_Fits.calls a0_3 _ _ l0_4 t198 _ ?side1 ?side2 A4.out).mono ?_); (case side1 => repeat (first | exact (cB_ HR0_4.out HB.out) | (with_reducible refine Kd.C_alloc ?_ _) | (with_reducible refine Kd.C_drewN ?_ _) | (with_reducible refine Kd.C_drew ?_))); (case side2 => exact HC0_4.out); rintro e w9 ⟨rfl, hb⟩; have n0_ := aM (bB (g := gb196) (qy BK196.out) hb); have n1_ := aM (bP (by repeat (first | (with_reducible first | exact HB.out | apply ea | apply en | apply ed | refine es ?_ GE196.out) | exact HB.out)) hb); clear BK196 HB; have BK196 := n0_; have HB := n1_; clear n0_ n1_; (try clear hb); (try clear hb2); (try clear hk); (try clear hi)))
  go_ret
  exact ⟨by first | rfl | (simp [errW_none, errW_some] <;> rfl) | (simp [*, errW_none, errW_some] <;> rfl), by repeat (first | (with_reducible first | exact HB.out | apply ea | apply en | apply ed | refine es ?_ GE196.out) | exact HB.out)⟩
 ·replace c3 := Bool.eq_false_iff.mpr c3
  subst c3
  have H1 : (some false) = some r := by rw [if_neg (show ¬ (false = true) by decide)] at H; exact H
  clear H
  have H := H1
  clear H1
  obtain rfl := Option.some.inj H
  go_enter Try.func11, Try.ntmps11
  go_wp2_with (first | ((with_reducible refine gate_dst (N := 1) rfl ?_); refine box_event ?hg (N := 1) ?hd (cs := #[.int .i64 a0_0, .string a0_1, .slice A0_2 l0_2.length c0_2, .string a0_3, .slice A0_4 l0_4.length c0_4]) (t := 34) ?hr ?_; (case hd | hg => rfl); (case hr => first | (go_simp; done) | (go_simp; rfl)); intro gb196 hg w10 hbox hb; have n0_ := aM (bP (ey HB.out) hb); have n1_ := aM (hbox); have n2_ := aM ((by rw [hg]; exact (bZ (ey HB.out)) : w.heap.size ≤ gb196)); have n3_ := n2_; clear HB; have HB := n0_; have BK196 := n1_; have GW196 := n2_; have GE196 := n3_; clear n0_ n1_ n2_ n3_; clear hb hbox hg; have hcz11_0 := zC BK196.out 0 (.int .i64 a0_0); have hcz11_1 := zC BK196.out 1 (.string a0_1); have hcz11_2 := zC BK196.out 2 (.slice A0_2 l0_2.length c0_2); have hcz11_3 := zC BK196.out 3 (.string a0_3); have hcz11_4 := zC BK196.out 4 (.slice A0_4 l0_4.length c0_4); have hfz11_0 := bF BK196.out 0; have hfz11_1 := bF BK196.out 1; have hfz11_2 := bF BK196.out 2; have hfz11_3 := bF BK196.out 3; have hfz11_4 := bF BK196.out 4) | ((with_reducible refine gate_callee (f := 30) rfl ?_); refine goesL_ (some 5) rfl rfl Try.func30 (by kernel_rfl) rfl #[.agg #[.string a0_1, .slice A0_2 l0_2.length c0_2]] rfl (by (try simp only [mT, mC, mN]); first | done | rfl | (simp only [lD, lT]; rfl)) ?_; (with_reducible refine (bureaulaw04_Fits.calls a0_1 _ _ l0_2 false _ ?side1 ?side2 A2.out).mono ?_); (case side1 => repeat (first | exact (cB_ HR0_2.out HB.out) | (with_reducible refine Kd.C_alloc ?_ _) | (with_reducible refine Kd.C_drewN ?_ _) | (with_reducible refine Kd.C_drew ?_))); (case side2 => exact HC0_2.out); rintro e w12 ⟨rfl, hb⟩; refine ⟨_, rfl, ?_⟩; have n0_ := aM (bB (g := gb196) (qy BK196.out) hb); have n1_ := aM (bP (by repeat (first | (with_reducible first | exact HB.out | apply ea | apply en | apply ed | refine es ?_ GE196.out) | exact HB.out)) hb); clear BK196 HB; have BK196 := n0_; have HB := n1_; clear n0_ n1_; (try clear hb); (try clear hb2); (try clear hk); (try clear hi)))
  go_ret
  exact ⟨by first | rfl | (simp [errW_none, errW_some] <;> rfl) | (simp [*, errW_none, errW_some] <;> rfl), by repeat (first | (with_reducible first | exact HB.out | apply ea | apply en | apply ed | refine es ?_ GE196.out) | exact HB.out)⟩
end Go.Proofs.Ytbbgpfjeobdogaa.PB
end

section
namespace Go.Proofs.Ytbbgpfjeobdogaa.PB
open Go.RowKit Go.Proofs.YtbbgpfjeobdogaaW.PrintWords
set_option linter.unusedVariables false
def fitE (o : ByteArray) (ol : List S71) (n : ByteArray) (nl : List S71) : Prop := (o.size ≤ 5000 ∧ ol.length ≤ 5000) ∧ (n.size ≤ 5000 ∧ nl.length ≤ 5000)
instance (o : ByteArray) (ol : List S71) (n : ByteArray) (nl : List S71) : Decidable (fitE o ol n nl) := inferInstanceAs (Decidable (_ ∧ _))
theorem fits7_eq (a : Int) (o : ByteArray) (ol : List S71) (n : ByteArray) (nl : List S71) : bureaulaw07_Fits.f a o ol n nl = some (decide (fitE o ol n nl)) := by
  unfold bureaulaw07_Fits.f
  rw [fits_eq, fits_eq]
  by_cases h : o.size ≤ 5000 ∧ ol.length ≤ 5000
  · rw [decide_eq_true h, Option.bind_some, if_pos rfl, Option.bind_some]
    congr 1
    rw [Bool.eq_iff_iff, decide_eq_true_iff, decide_eq_true_iff]
    exact ⟨fun h2 => ⟨h, h2⟩, fun h2 => h2.2⟩
  · rw [decide_eq_false h, Option.bind_some, if_neg (by simp)]
    rw [decide_eq_false (fun h2 : fitE o ol n nl => h h2.1)]
end Go.Proofs.Ytbbgpfjeobdogaa.PB
end

section
namespace Go.Proofs.Ytbbgpfjeobdogaa.PB
open Go.RowKit Go.Maps Go.Proofs.YtbbgpfjeobdogaaW.PrintWords Go.Proofs.YtbbgpfjeobdogaaW.PrintLast Go.Proofs.YtbbgpfjeobdogaaW.PrintMore
set_option maxRecDepth 100000
set_option linter.unusedVariables false
set_option linter.unusedSimpArgs false
abbrev Ac := S36
theorem act_at {w : World} {A : Option Addr} {n : Nat} {l : List Ac} (h : Kd.C k36 w A n l) {i : Nat} (hi : i < l.length) : ∃ ad A3 c3 A5 c5, A = some ad ∧ w.cell? (ad.add (i * 7)) = some (.int .u8 (l[i]).f0) ∧ w.cell? ⟨(ad.add (i * 7)).block, (ad.add (i * 7)).off + 1, none⟩ = some (.int .i64 (l[i]).f1.f0) ∧ w.cell? ⟨(ad.add (i * 7)).block, (ad.add (i * 7)).off + 2, none⟩ = some (.string (l[i]).f1.f1.f0) ∧ w.cell? ⟨(ad.add (i * 7)).block, (ad.add (i * 7)).off + 3, none⟩ = some (.slice A3 (l[i]).f1.f1.f1.length c3) ∧ w.cell? ⟨(ad.add (i * 7)).block, (ad.add (i * 7)).off + 4, none⟩ = some (.string (l[i]).f1.f2.f0) ∧ w.cell? ⟨(ad.add (i * 7)).block, (ad.add (i * 7)).off + 5, none⟩ = some (.slice A5 (l[i]).f1.f2.f1.length c5) ∧ w.cell? ⟨(ad.add (i * 7)).block, (ad.add (i * 7)).off + 6, none⟩ = some (.bool (l[i]).f2) ∧
    (((l[i]).f1.f1.f1.length ≤ 100000 ∧ (l[i]).f1.f2.f1.length ≤ 100000) → EdIn w (fun k => k < w.heap.size) (l[i]).f1 A3 c3 A5 c5) ∧ Kd.C k71 w A3 (l[i]).f1.f1.f1.length (l[i]).f1.f1.f1 ∧ (l[i]).f1.f1.f1.length ≤ c3 ∧ Kd.C k71 w A5 (l[i]).f1.f2.f1.length (l[i]).f1.f2.f1 ∧ (l[i]).f1.f2.f1.length ≤ c5 := by
  have hn := h.1
  obtain ⟨ad, A3, c3, A5, c5, e1, h0, h1, h2, h3, h4, h5, h6, g3, C3, g5, C5⟩ := at_T36 h (i : Int) (by omega) (by omega)
  have e : rd_T36 l (i : Int) = l[i] := by
    unfold rd_T36
    rw [Int.toNat_natCast, List.getD_eq_getElem?_getD, List.getElem?_eq_getElem hi, Option.getD_some]
  simp only [e, Int.toNat_natCast] at h0 h1 h2 h3 h4 h5 h6 g3 C3 g5 C5
  exact ⟨ad, A3, c3, A5, c5, e1, h0, h1, h2, h3, h4, h5, h6, fun hf => ⟨Kd.C_F k71_heap C3, g3, Kd.C_F k71_heap C5, g5, hf⟩, C3, g3, C5, g5⟩
theorem cellW {w W : World} (hb : Below w.heap.size w W) {p : Addr} {v : Value} (h : w.cell? p = some v) : W.cell? p = some v := (hb.cell (World.block_lt_of_cell? w _ h)).trans h
theorem row_at {w : World} {B : Nat} {ok : Nat → Prop} {A : Option Addr} {n c : Nat} {l : List Int} (h : Kd.R (Kd.int .i64) 3 w B ok (.slice A n c) l) (hl : 1 ≤ l.length) : ∃ ad, A = some ad ∧ ∀ i : Nat, i < l.length → w.cell? (ad.add i) = some (.int .i64 (rd l (i : Int))) := by
  obtain ⟨e, _, hC⟩ := rR h
  obtain ⟨ad, rfl, _⟩ := Kd.at_int hC 0 (by omega) (by omega)
  refine ⟨ad, rfl, fun i hi => ?_⟩
  obtain ⟨ad2, e2, h2⟩ := Kd.at_int hC (i : Int) (by omega) (by omega)
  cases e2
  rw [Int.toNat_natCast] at h2
  exact h2
theorem HistAt.lower {B B' : Nat} {S : Nat → Prop} {g bm : Nat} {w : World} {L : List St} {now next depth : Int} (h : HistAt B S g bm w L now next depth) (hb : B' ≤ B) : HistAt B' S g bm w L now next depth :=
  ⟨h.hg, h.hm, h.sg, h.sm, Nat.le_trans hb h.bg, Nat.le_trans hb h.bb⟩
theorem fit_le {o : ByteArray} {ol : List S71} {n : ByteArray} {nl : List S71} (h : fitE o ol n nl) : ol.length ≤ 100000 ∧ nl.length ≤ 100000 := by
  have h1 := h.1.2
  have h2 := h.2.2
  omega
theorem EdIn.old {S ok : Nat → Prop} {w W : World} {e : Ed} {A1 A2 : Option Addr} {c1 c2 : Nat} (h : EdIn w ok e A1 c1 A2 c2) (hb : Below w.heap.size w W) (hS : ∀ k, ok k → ¬ S k) : EdIn W (fun k => ¬ S k) e A1 c1 A2 c2 := by
  have := h.below hb
  exact ⟨Kd.F_mono this.f1 hS, this.g1, Kd.F_mono this.f2 hS, this.g2, this.fit⟩
structure Ck (B g bm : Nat) (w : World) (L : List St) (now next depth : Int) (ls ps : List Int) (A : Option Addr) (c : Nat) (A' : Option Addr) (c' : Nat) (W : World) : Prop where
  hist : HistAt B (hb g bm) g bm W L now next depth
  rs : Kd.R (Kd.int .i64) 3 W w.heap.size (fun _ => True) (.slice A ls.length c) ls
  rp : Kd.R (Kd.int .i64) 3 W w.heap.size (fun _ => True) (.slice A' ps.length c') ps
  below : Below w.heap.size w W
theorem Ck.later {B g bm : Nat} {w W W2 : World} {L : List St} {now next depth : Int} {ls ps : List Int} {A A' : Option Addr} {c c' : Nat} (h : Ck B g bm w L now next depth ls ps A c A' c' W) (hb : Below W.heap.size W W2) : Ck B g bm w L now next depth ls ps A c A' c' W2 :=
  ⟨h.hist.below hb, Kd.R_below h.rs hb, Kd.R_below h.rp hb, h.below.trans (hb.mono h.below.size)⟩
theorem Ck.ls {B g bm : Nat} {w W : World} {L : List St} {now next depth : Int} {ls ps : List Int} {lad : Addr} {A' : Option Addr} {c c' : Nat} (h : Ck B g bm w L now next depth ls ps (some lad) c A' c' W) {i : Nat} (hi : i < ls.length) : W.cell? (lad.add i) = some (.int .i64 (rd ls (i : Int))) := by
  obtain ⟨ad, e, hc⟩ := row_at h.rs (by omega)
  cases e
  exact hc i hi
theorem Ck.ps {B g bm : Nat} {w W : World} {L : List St} {now next depth : Int} {ls ps : List Int} {pad : Addr} {A : Option Addr} {c c' : Nat} (h : Ck B g bm w L now next depth ls ps A c (some pad) c' W) {i : Nat} (hi : i < ps.length) : W.cell? (pad.add i) = some (.int .i64 (rd ps (i : Int))) := by
  obtain ⟨ad, e, hc⟩ := row_at h.rp (by omega)
  cases e
  exact hc i hi
end Go.Proofs.Ytbbgpfjeobdogaa.PB
end

section
namespace Go.Proofs.Ytbbgpfjeobdogaa.PB
open Go.RowKit Go.Maps Go.Proofs.YtbbgpfjeobdogaaW.PrintWords Go.Proofs.YtbbgpfjeobdogaaW.PrintLast Go.Proofs.YtbbgpfjeobdogaaW.PrintMore
set_option maxRecDepth 100000
set_option linter.unusedVariables false
set_option linter.unusedSimpArgs false
structure Bx (g2 g3 g4 : Nat) (w : World) (cs2 : Array Value) (e : Ed) (A1 : Option Addr) (c1 : Nat) (A2 : Option Addr) (c2 : Nat) (W : World) : Prop where
  b2 : W.heap[g2]? = some (.cells cs2 28 (0, 0))
  b3 : W.heap[g3]? = some (.cells (edC e A1 c1 A2 c2) 34 (0, 0))
  b4 : W.heap[g4]? = some (.cells #[.slice none 0 0, .int .i64 0, .int .i64 0, .int .i64 0] 28 (0, 0))
  below : Below w.heap.size w W
theorem Bx.later {g2 g3 g4 : Nat} {w W W2 : World} {cs2 : Array Value} {e : Ed} {A1 A2 : Option Addr} {c1 c2 : Nat} (h : Bx g2 g3 g4 w cs2 e A1 c1 A2 c2 W) (hb : Below W.heap.size W W2) : Bx g2 g3 g4 w cs2 e A1 c1 A2 c2 W2 :=
  ⟨bB h.b2 hb, bB h.b3 hb, bB h.b4 hb, h.below.trans (hb.mono h.below.size)⟩
theorem Bx.lt {g2 g3 g4 : Nat} {w W : World} {cs2 : Array Value} {e : Ed} {A1 A2 : Option Addr} {c1 c2 : Nat} (h : Bx g2 g3 g4 w cs2 e A1 c1 A2 c2 W) : g2 < W.heap.size ∧ g4 < W.heap.size := ⟨blk_lt h.b2, blk_lt h.b4⟩
theorem Bx.app {g2 g3 g4 : Nat} {w W W2 : World} {cs2 : Array Value} {e : Ed} {A1 A2 : Option Addr} {c1 c2 b : Nat} {ok : Nat → Prop} {v : Value} {xs : List St} (h : Bx g2 g3 g4 w cs2 e A1 c1 A2 c2 W) (hN : Kd.N kL 76 W b ok v xs) (hg : W.grownBy W2 v.ownBlock) (hb : Below w.heap.size w W2) : Bx g2 g3 g4 w cs2 e A1 c1 A2 c2 W2 :=
  ⟨(hg.block g2 (blk_lt h.b2) (N_notbox hN h.b2)).trans h.b2, (hg.block g3 (blk_lt h.b3) (fun e => by
      obtain ⟨cells, hc⟩ := N_typed hN e.symm
      rw [h.b3] at hc
      cases hc)).trans h.b3, (hg.block g4 (blk_lt h.b4) (N_notbox hN h.b4)).trans h.b4, hb⟩
end Go.Proofs.Ytbbgpfjeobdogaa.PB
end

section
namespace Go.Proofs.Ytbbgpfjeobdogaa.PB
open Go.RowKit Go.Maps Go.Proofs.YtbbgpfjeobdogaaW.PrintWords Go.Proofs.YtbbgpfjeobdogaaW.PrintLast Go.Proofs.YtbbgpfjeobdogaaW.PrintMore
set_option maxRecDepth 100000
set_option linter.unusedVariables false
set_option linter.unusedSimpArgs false
structure Rx (g1 g2 g3 : Nat) (w : World) (cs1 : Array Value) (W : World) : Prop where
  b1 : W.heap[g1]? = some (.cells cs1 28 (0, 0))
  b2 : W.heap[g2]? = some (.cells #[.slice none 0 0, .int .i64 0, .int .i64 0, .int .i64 0] 28 (0, 0))
  b3 : W.heap[g3]? = some (.cells zs5 34 (0, 0))
  below : Below w.heap.size w W
theorem Rx.later {g1 g2 g3 : Nat} {w W W2 : World} {cs1 : Array Value} (h : Rx g1 g2 g3 w cs1 W) (hb : Below W.heap.size W W2) : Rx g1 g2 g3 w cs1 W2 :=
  ⟨bB h.b1 hb, bB h.b2 hb, bB h.b3 hb, h.below.trans (hb.mono h.below.size)⟩
end Go.Proofs.Ytbbgpfjeobdogaa.PB
end

section
namespace Go.Proofs.Ytbbgpfjeobdogaa.PB
open Go.RowKit Go.Maps Go.Proofs.YtbbgpfjeobdogaaW.PrintWords Go.Proofs.YtbbgpfjeobdogaaW.PrintLast Go.Proofs.YtbbgpfjeobdogaaW.PrintMore
set_option maxRecDepth 100000
set_option linter.unusedVariables false
set_option linter.unusedSimpArgs false
abbrev fitY (y : Ed) : Prop := y.f1.f1.length ≤ 100000 ∧ y.f2.f1.length ≤ 100000
theorem ed_in {w : World} {ok : Nat → Prop} {y : Ed} {cs : List Value} (h : Kd.FK k34 w ok y cs) (hf : fitY y) : ∃ A2 c2 A4 c4, cs = [.int .i64 y.f0, .string y.f1.f0, .slice A2 y.f1.f1.length c2, .string y.f2.f0, .slice A4 y.f2.f1.length c4] ∧ EdIn w ok y A2 c2 A4 c4 := by
  obtain ⟨A2, c2, A4, c4, e, l2, F2, l4, F4⟩ := k34_openF h
  exact ⟨A2, c2, A4, c4, e, F2, l2, F4, l4, hf⟩
theorem redo_fit {L : List St} {now next : Int} (hw : Wf L now next) : fitY (redoEd L now) := by
  unfold redoEd
  cases hr : redoL L now with
  | none => exact ⟨Nat.zero_le _, Nat.zero_le _⟩
  | some x => exact hw.fit x (redoL_in hr).1
theorem redo_both {B : Nat} {S : Nat → Prop} {g bm : Nat} {w : World} {L : List St} {now next depth : Int} (h : HistAt B S g bm w L now next depth) (hw : Wf L now next) :
    Calls Try.prog 15 #[.pointer (some ⟨g, 0, none⟩)] w fun e w' => ∃ A2 c2 A4 c4, e = .returned (.tuple #[edV (redoEd L now) A2 c2 A4 c4, .int .i64 (redoCode L now)]) ∧ EdIn w' (fun k => w.heap.size ≤ k) (redoEd L now) A2 c2 A4 c4 ∧ HistAt B S g bm w' L (redoNow L now) next depth ∧ Turn B (hb g bm) w w' := by
  refine (redo_ok h hw).mono ?_
  rintro e w' ⟨v, rfl, ⟨cs, rfl, hf⟩, hh, ht⟩
  obtain ⟨A2, c2, A4, c4, rfl, hE⟩ := ed_in hf (redo_fit hw)
  exact ⟨A2, c2, A4, c4, rfl, hE, hh, ht⟩
theorem HistAt.turn {B : Nat} {S S' : Nat → Prop} {g bm : Nat} {w W : World} {L : List St} {now next depth : Int} (h : HistAt B S g bm w L now next depth) (ht : Turn 0 S' w W) (hg : ¬ S' g) (hbm : ¬ S' bm) (hS : ∀ k, S' k → S k) : HistAt B S g bm W L now next depth := by
  obtain ⟨⟨f, h1⟩, ⟨D, h2⟩, h3, h4, h5, h6⟩ := h
  exact ⟨⟨f, ht.blk h1 hg⟩, ⟨D, h2.turn ht hbm (fun k hk hs => hk (hS k hs))⟩, h3, h4, h5, h6⟩
theorem HistAt.grow {B : Nat} {S S' : Nat → Prop} {g bm : Nat} {w : World} {L : List St} {now next depth : Int} (h : HistAt B S g bm w L now next depth) (h1 : ∀ k, S k → S' k) (h2 : ∀ k, S' k → S k ∨ w.heap.size ≤ k) : HistAt B S' g bm w L now next depth := by
  obtain ⟨hg, ⟨D, hD⟩, h3, h4, h5, h6⟩ := h
  exact ⟨hg, ⟨D, hD.ok' (fun k hk hlt hs => by rcases h2 k hs with h | h; exact hk h; omega)⟩, h1 _ h3, h1 _ h4, h5, h6⟩
abbrev s6 (g bm g6 : Nat) : Nat → Prop := fun k => k = g ∨ k = bm ∨ k = g6
abbrev okQ (g bm g6 : Nat) : Nat → Prop := fun k => ¬ s6 g bm g6 k
structure Aq (g bm g6 : Nat) (w : World) (s : Hs) (depth : Int) (A : Option Addr) (c : Nat) (W : World) : Prop where
  hist : HistAt w.heap.size (s6 g bm g6) g bm W s.L s.now s.next depth
  inv : Inv s.L s.now s.next depth
  box : W.heap[g6]? = some (.cells #[.slice A s.L.length c, .int .i64 s.now, .int .i64 s.next, .int .i64 depth] 28 (0, 0))
  list : Kd.V kL 76 W 0 (okQ g bm g6) (.slice A s.L.length c) s.L
  below : Below w.heap.size w W
theorem Aq.later {g bm g6 : Nat} {w W W2 : World} {s : Hs} {depth : Int} {A : Option Addr} {c : Nat} (h : Aq g bm g6 w s depth A c W) (hb : Below W.heap.size W W2) : Aq g bm g6 w s depth A c W2 :=
  ⟨h.hist.below hb, h.inv, bB h.box hb, Kd.V_below h.list hb, h.below.trans (hb.mono h.below.size)⟩
theorem Aq.hS {g bm g6 : Nat} {w W : World} {s : Hs} {depth : Int} {A : Option Addr} {c : Nat} (h : Aq g bm g6 w s depth A c W) : ∀ k, s6 g bm g6 k → k < W.heap.size := by
  have h1 := h.hist.lt
  have h2 := blk_lt h.box
  rintro k (rfl | rfl | rfl) <;> omega
end Go.Proofs.Ytbbgpfjeobdogaa.PB
end

section
namespace Go.Proofs.Ytbbgpfjeobdogaa.PB
open Go.RowKit Go.Proofs.YtbbgpfjeobdogaaW.PrintWords Go.Proofs.YtbbgpfjeobdogaaW.PrintLast Go.Proofs.YtbbgpfjeobdogaaW.PrintMore
attribute [local go_sem] max2_int min2_int max_two min_two max_three min_three max_four min_four   
set_option linter.unusedVariables false
set_option linter.unusedSimpArgs false
def bureauref07_Check.j0 : Nat → Bool → ByteArray → List (S71) → Int → ByteArray → List (S71) → ByteArray → List (S71) → Option (Int)
 | 0, _, _, _, _, _, _, _, _ => none
 | k + 1, x27, x340000, x340001, x341000, x341001, x341002, x341003, x341004 => if x27 = true then (some 2) else ((bureauref04_Cut.f k x340000 x340001 x341000 (wrap64 (x341000 + (x341001.size : Int)))).bind fun bt343 => ((bureauref04_Same.f k bt343.1 bt343.2.1 x341001 x341002).bind fun t349 => (if t349 = true then (if (wrap64 ((wrap64 ((x340000.size : Int) - (x341001.size : Int))) + (x341003.size : Int))) > 4096 then (some 3) else (some 0)) else (some 7))))
def bureauref07_Check.f (k : Nat) (a0_0 : ByteArray) (l0_1 : List (S71)) (a1_0 : Int) (a1_1 : ByteArray) (l1_2 : List (S71)) (a1_3 : ByteArray) (l1_4 : List (S71)) : Option (Int) := (bureauref04_Good.f k a0_0 l0_1).bind fun t341 => (if t341 = true then ((bureauref07_Good.f k a1_0 a1_1 l1_2 a1_3 l1_4).bind fun t342 => (if t342 = true then (bureauref07_Check.j0 k (decide ((wrap64 ((a0_0.size : Int) - a1_0)) < (a1_1.size : Int))) a0_0 l0_1 a1_0 a1_1 l1_2 a1_3 l1_4) else (bureauref07_Check.j0 k true a0_0 l0_1 a1_0 a1_1 l1_2 a1_3 l1_4))) else (bureauref07_Check.j0 k true a0_0 l0_1 a1_0 a1_1 l1_2 a1_3 l1_4))
set_option maxHeartbeats 8000000 in
set_option maxRecDepth 100000 in
theorem bureauref07_Check.calls (k : Nat) (a0_0 : ByteArray) (A0_1 : Option Addr) (c0_1 : Nat) (l0_1 : List (S71)) (a1_0 : Int) (a1_1 : ByteArray) (A1_2 : Option Addr) (c1_2 : Nat) (l1_2 : List (S71)) (a1_3 : ByteArray) (A1_4 : Option Addr) (c1_4 : Nat) (l1_4 : List (S71)) (r : Int) (w : World) (hr0_1 : Kd.C k71 w A0_1 l0_1.length l0_1) (hc0_1 : l0_1.length ≤ c0_1) (hr1_2 : Kd.C k71 w A1_2 l1_2.length l1_2) (hc1_2 : l1_2.length ≤ c1_2) (hr1_4 : Kd.C k71 w A1_4 l1_4.length l1_4) (hc1_4 : l1_4.length ≤ c1_4) (h : bureauref07_Check.f k a0_0 l0_1 a1_0 a1_1 l1_2 a1_3 l1_4 = some r) :
  Calls Try.prog 44 #[.agg #[.string a0_0, .slice A0_1 l0_1.length c0_1], .agg #[.int .i64 a1_0, .string a1_1, .slice A1_2 l1_2.length c1_2, .string a1_3, .slice A1_4 l1_4.length c1_4]] w fun e w' => e = .returned (.int .i64 r) ∧ Below w.heap.size w w' := by
 have hu32 := Try.underlying32
 have hu34 := Try.underlying34
 have HR0_1 := aM hr0_1
 have HC0_1 := aM hc0_1
 clear hr0_1 hc0_1
 have HR1_2 := aM hr1_2
 have HC1_2 := aM hc1_2
 clear hr1_2 hc1_2
 have HR1_4 := aM hr1_4
 have HC1_4 := aM hc1_4
 clear hr1_4 hc1_4
 have HB := aM (Below.refl w.heap.size w)
 have H : ((bureauref04_Good.f k a0_0 l0_1).bind fun t341 => (if t341 = true then ((bureauref07_Good.f k a1_0 a1_1 l1_2 a1_3 l1_4).bind fun t342 => (if t342 = true then (bureauref07_Check.j0 k (decide ((wrap64 ((a0_0.size : Int) - a1_0)) < (a1_1.size : Int))) a0_0 l0_1 a1_0 a1_1 l1_2 a1_3 l1_4) else (bureauref07_Check.j0 k true a0_0 l0_1 a1_0 a1_1 l1_2 a1_3 l1_4))) else (bureauref07_Check.j0 k true a0_0 l0_1 a1_0 a1_1 l1_2 a1_3 l1_4))) = some r := h
 clear h
 have HC3 := aM H
 clear H
 go_enter Try.func44, Try.ntmps44
 go_upto_region 1 with (first | ((with_reducible refine gate_dst (N := 2) rfl ?_); (try (refine gate_guard (by rfl) ?_; dsimp only)); refine box_event ?hg (N := 2) ?hd (cs := #[.string a0_0, .slice A0_1 l0_1.length c0_1]) (t := 32) ?hr ?_; (case hd | hg => rfl); (case hr => first | (go_simp; done) | (go_simp; rfl)); intro gb339 hg w4 hbox hb; have n0_ := aM (bP (ey HB.out) hb); have n1_ := aM (hbox); have n2_ := aM ((by rw [hg]; exact (bZ (ey HB.out)) : w.heap.size ≤ gb339)); have n3_ := n2_; clear HB; have HB := n0_; have BK339 := n1_; have GW339 := n2_; have GE339 := n3_; clear n0_ n1_ n2_ n3_; clear hb hbox hg) | ((with_reducible refine gate_dst (N := 3) rfl ?_); (try (refine gate_guard (by rfl) ?_; dsimp only)); refine box_event ?hg (N := 3) ?hd (cs := #[.int .i64 a1_0, .string a1_1, .slice A1_2 l1_2.length c1_2, .string a1_3, .slice A1_4 l1_4.length c1_4]) (t := 34) ?hr ?_; (case hd | hg => rfl); (case hr => first | (go_simp; done) | (go_simp; rfl)); intro gb340 hg w5 hbox hb; have n0_ := aM (bB (g := gb339) (qy BK339.out) hb); have n1_ := aM (bP (by repeat (first | (with_reducible first | exact HB.out | apply ea | apply en | apply ed | refine es ?_ GE339.out) | exact HB.out)) hb); have n2_ := aM (hbox); have n3_ := aM ((by rw [hg]; exact (bZ (by repeat (first | (with_reducible first | exact HB.out | apply ea | apply en | apply ed | refine es ?_ GE339.out) | exact HB.out))) : w.heap.size ≤ gb340)); have n4_ := n3_; have n5_ := aM ((by rw [hg]; exact Nat.ne_of_lt (blk_lt (g := gb339) (qy BK339.out)) : gb339 ≠ gb340)); have n6_ := aM ((by rw [hg]; exact Nat.ne_of_gt (blk_lt (g := gb339) (qy BK339.out)) : gb340 ≠ gb339)); clear BK339 HB; have BK339 := n0_; have HB := n1_; have BK340 := n2_; have GW340 := n3_; have GE340 := n4_; have NB339_340 := n5_; have NB340_339 := n6_; clear n0_ n1_ n2_ n3_ n4_ n5_ n6_; clear hb hbox hg))
 (try simp only [Act.put, sA, sZ, sS])
 go_cut [27] (fun v27 wc => ∃ (kq : Nat) (x27_2 : Bool), v27 = .bool x27_2 ∧ Aside0 (bureauref07_Check.j0 kq x27_2 a0_0 l0_1 a1_0 a1_1 l1_2 a1_3 l1_4 = some r) ∧ Aside0 (kq ≤ k) ∧ Aside0 (wc.heap[gb339]? = some (.cells #[.string a0_0, (.slice A0_1 l0_1.length c0_1)] 32 (0, 0))) ∧ Aside0 (wc.heap[gb340]? = some (.cells #[.int .i64 a1_0, .string a1_1, (.slice A1_2 l1_2.length c1_2), .string a1_3, (.slice A1_4 l1_4.length c1_4)] 34 (0, 0))) ∧ Aside0 (Below w.heap.size w wc))
 case first =>
  have H := HC3.out
  clear HC3
  replace H := Option.bind_eq_some_iff.mp H
  obtain ⟨t341, A60, H⟩ := H
  replace H : (if t341 = true then ((bureauref07_Good.f k a1_0 a1_1 l1_2 a1_3 l1_4).bind fun t342 => (if t342 = true then (bureauref07_Check.j0 k (decide ((wrap64 ((a0_0.size : Int) - a1_0)) < (a1_1.size : Int))) a0_0 l0_1 a1_0 a1_1 l1_2 a1_3 l1_4) else (bureauref07_Check.j0 k true a0_0 l0_1 a1_0 a1_1 l1_2 a1_3 l1_4))) else (bureauref07_Check.j0 k true a0_0 l0_1 a1_0 a1_1 l1_2 a1_3 l1_4)) = some r := H
  have A6 := aM A60
  clear A60
  by_cases c7 : t341 = true
  ·subst c7
   have H1 : ((bureauref07_Good.f k a1_0 a1_1 l1_2 a1_3 l1_4).bind fun t342 => (if t342 = true then (bureauref07_Check.j0 k (decide ((wrap64 ((a0_0.size : Int) - a1_0)) < (a1_1.size : Int))) a0_0 l0_1 a1_0 a1_1 l1_2 a1_3 l1_4) else (bureauref07_Check.j0 k true a0_0 l0_1 a1_0 a1_1 l1_2 a1_3 l1_4))) = some r := by rw [if_pos rfl] at H; exact H
   clear H
   have H := H1
   clear H1
   replace H := Option.bind_eq_some_iff.mp H
   obtain ⟨t342, A80, H⟩ := H
   replace H : (if t342 = true then (bureauref07_Check.j0 k (decide ((wrap64 ((a0_0.size : Int) - a1_0)) < (a1_1.size : Int))) a0_0 l0_1 a1_0 a1_1 l1_2 a1_3 l1_4) else (bureauref07_Check.j0 k true a0_0 l0_1 a1_0 a1_1 l1_2 a1_3 l1_4)) = some r := H
   have A8 := aM A80
   clear A80
   by_cases c9 : t342 = true
   ·subst c9
    have H1 : (bureauref07_Check.j0 k (decide ((wrap64 ((a0_0.size : Int) - a1_0)) < (a1_1.size : Int))) a0_0 l0_1 a1_0 a1_1 l1_2 a1_3 l1_4) = some r := by rw [if_pos rfl] at H; exact H
    clear H
    have H := H1
    clear H1
    have H' := aM H
    clear H
    have hnb10 := NB339_340.out
    have hnc10 := NB340_339.out
    have hcz11_0 := zC BK339.out 0 (.string a0_0)
    have hcz11_1 := zC BK339.out 1 (.slice A0_1 l0_1.length c0_1)
    have hfz11_0 := bF BK339.out 0
    have hfz11_1 := bF BK339.out 1
    go_wp2_with (first | ((with_reducible refine gate_callee (f := 26) rfl ?_); refine goesL_ (some 8) rfl rfl Try.func26 (by kernel_rfl) rfl #[.agg #[.string a0_0, .slice A0_1 l0_1.length c0_1]] rfl (by (try simp only [mT, mC, mN]); first | done | rfl | (simp only [lD, lT]; rfl)) ?_; (with_reducible refine (bureauref04_Good.calls k a0_0 _ _ l0_1 true _ ?side1 ?side2 A6.out).mono ?_); (case side1 => repeat (first | exact (cB_ HR0_1.out HB.out) | (with_reducible refine Kd.C_alloc ?_ _) | (with_reducible refine Kd.C_drewN ?_ _) | (with_reducible refine Kd.C_drew ?_))); (case side2 => exact HC0_1.out); rintro e w12 ⟨rfl, hb⟩; refine ⟨_, rfl, ?_⟩; have n0_ := aM (bB (g := gb339) (qy BK339.out) hb); have n1_ := aM (bB (g := gb340) (qy BK340.out) hb); have n2_ := aM (bP (by repeat (first | (with_reducible first | exact HB.out | apply ea | apply en | apply ed | refine es ?_ GE339.out | refine es ?_ GE340.out) | exact HB.out)) hb); clear BK339 BK340 HB; have BK339 := n0_; have BK340 := n1_; have HB := n2_; clear n0_ n1_ n2_; (try clear hb); (try clear hb2); (try clear hk); (try clear hi); have hcz13_0 := zC BK340.out 0 (.int .i64 a1_0); have hcz13_1 := zC BK340.out 1 (.string a1_1); have hcz13_2 := zC BK340.out 2 (.slice A1_2 l1_2.length c1_2); have hcz13_3 := zC BK340.out 3 (.string a1_3); have hcz13_4 := zC BK340.out 4 (.slice A1_4 l1_4.length c1_4); have hfz13_0 := bF BK340.out 0; have hfz13_1 := bF BK340.out 1; have hfz13_2 := bF BK340.out 2; have hfz13_3 := bF BK340.out 3; have hfz13_4 := bF BK340.out 4) | (go_at_call 38; (with_reducible refine (bureauref07_Good.calls k a1_0 a1_1 _ _ l1_2 a1_3 _ _ l1_4 true _ ?side1 ?side2 ?side3 ?side4 A8.out).mono ?_); (case side1 => repeat (first | exact (cB_ HR1_2.out HB.out) | (with_reducible refine Kd.C_alloc ?_ _) | (with_reducible refine Kd.C_drewN ?_ _) | (with_reducible refine Kd.C_drew ?_))); (case side2 => exact HC1_2.out); (case side3 => repeat (first | exact (cB_ HR1_4.out HB.out) | (with_reducible refine Kd.C_alloc ?_ _) | (with_reducible refine Kd.C_drewN ?_ _) | (with_reducible refine Kd.C_drew ?_))); (case side4 => exact HC1_4.out); rintro e w14 ⟨rfl, hb⟩; have n0_ := aM (bB (g := gb339) (qy BK339.out) hb); have n1_ := aM (bB (g := gb340) (qy BK340.out) hb); have n2_ := aM (bP (by repeat (first | (with_reducible first | exact HB.out | apply ea | apply en | apply ed | refine es ?_ GE339.out | refine es ?_ GE340.out) | exact HB.out)) hb); clear BK339 BK340 HB; have BK339 := n0_; have BK340 := n1_; have HB := n2_; clear n0_ n1_ n2_; (try clear hb); (try clear hb2); (try clear hk); (try clear hi); have hcz15_0 := zC BK339.out 0 (.string a0_0); have hcz15_1 := zC BK339.out 1 (.slice A0_1 l0_1.length c0_1); have hfz15_0 := bF BK339.out 0; have hfz15_1 := bF BK339.out 1; have hcz16_0 := zC BK340.out 0 (.int .i64 a1_0); have hcz16_1 := zC BK340.out 1 (.string a1_1); have hcz16_2 := zC BK340.out 2 (.slice A1_2 l1_2.length c1_2); have hcz16_3 := zC BK340.out 3 (.string a1_3); have hcz16_4 := zC BK340.out 4 (.slice A1_4 l1_4.length c1_4); have hfz16_0 := bF BK340.out 0; have hfz16_1 := bF BK340.out 1; have hfz16_2 := bF BK340.out 2; have hfz16_3 := bF BK340.out 3; have hfz16_4 := bF BK340.out 4))
    go_meet
    case rel => exact ⟨_, (decide ((wrap64 ((a0_0.size : Int) - a1_0)) < (a1_1.size : Int))), (by first | rfl | (simp; done) | (simp [*]; done)), H', ⟨by first | omega | exact Nat.le_refl _⟩, ⟨by exact qy BK339.out⟩, ⟨by exact qy BK340.out⟩, ⟨by repeat (first | (with_reducible first | exact HB.out | apply ea | apply en | apply ed | refine es ?_ GE339.out | refine es ?_ GE340.out) | exact HB.out)⟩⟩
   ·replace c9 := Bool.eq_false_iff.mpr c9
    subst c9
    have H1 : (bureauref07_Check.j0 k true a0_0 l0_1 a1_0 a1_1 l1_2 a1_3 l1_4) = some r := by rw [if_neg (show ¬ (false = true) by decide)] at H; exact H
    clear H
    have H := H1
    clear H1
    have H' := aM H
    clear H
    have hnb17 := NB339_340.out
    have hnc17 := NB340_339.out
    have hcz18_0 := zC BK339.out 0 (.string a0_0)
    have hcz18_1 := zC BK339.out 1 (.slice A0_1 l0_1.length c0_1)
    have hfz18_0 := bF BK339.out 0
    have hfz18_1 := bF BK339.out 1
    go_wp2_with (first | ((with_reducible refine gate_callee (f := 26) rfl ?_); refine goesL_ (some 8) rfl rfl Try.func26 (by kernel_rfl) rfl #[.agg #[.string a0_0, .slice A0_1 l0_1.length c0_1]] rfl (by (try simp only [mT, mC, mN]); first | done | rfl | (simp only [lD, lT]; rfl)) ?_; (with_reducible refine (bureauref04_Good.calls k a0_0 _ _ l0_1 true _ ?side1 ?side2 A6.out).mono ?_); (case side1 => repeat (first | exact (cB_ HR0_1.out HB.out) | (with_reducible refine Kd.C_alloc ?_ _) | (with_reducible refine Kd.C_drewN ?_ _) | (with_reducible refine Kd.C_drew ?_))); (case side2 => exact HC0_1.out); rintro e w19 ⟨rfl, hb⟩; refine ⟨_, rfl, ?_⟩; have n0_ := aM (bB (g := gb339) (qy BK339.out) hb); have n1_ := aM (bB (g := gb340) (qy BK340.out) hb); have n2_ := aM (bP (by repeat (first | (with_reducible first | exact HB.out | apply ea | apply en | apply ed | refine es ?_ GE339.out | refine es ?_ GE340.out) | exact HB.out)) hb); clear BK339 BK340 HB; have BK339 := n0_; have BK340 := n1_; have HB := n2_; clear n0_ n1_ n2_; (try clear hb); (try clear hb2); (try clear hk); (try clear hi); have hcz20_0 := zC BK340.out 0 (.int .i64 a1_0); have hcz20_1 := zC BK340.out 1 (.string a1_1); have hcz20_2 := zC BK340.out 2 (.slice A1_2 l1_2.length c1_2); have hcz20_3 := zC BK340.out 3 (.string a1_3); have hcz20_4 := zC BK340.out 4 (.slice A1_4 l1_4.length c1_4); have hfz20_0 := bF BK340.out 0; have hfz20_1 := bF BK340.out 1; have hfz20_2 := bF BK340.out 2; have hfz20_3 := bF BK340.out 3; have hfz20_4 := bF BK340.out 4) | (go_at_call 38; (with_reducible refine (bureauref07_Good.calls k a1_0 a1_1 _ _ l1_2 a1_3 _ _ l1_4 false _ ?side1 ?side2 ?side3 ?side4 A8.out).mono ?_); (case side1 => repeat (first | exact (cB_ HR1_2.out HB.out) | (with_reducible refine Kd.C_alloc ?_ _) | (with_reducible refine Kd.C_drewN ?_ _) | (with_reducible refine Kd.C_drew ?_))); (case side2 => exact HC1_2.out); (case side3 => repeat (first | exact (cB_ HR1_4.out HB.out) | (with_reducible refine Kd.C_alloc ?_ _) | (with_reducible refine Kd.C_drewN ?_ _) | (with_reducible refine Kd.C_drew ?_))); (case side4 => exact HC1_4.out); rintro e w21 ⟨rfl, hb⟩; have n0_ := aM (bB (g := gb339) (qy BK339.out) hb); have n1_ := aM (bB (g := gb340) (qy BK340.out) hb); have n2_ := aM (bP (by repeat (first | (with_reducible first | exact HB.out | apply ea | apply en | apply ed | refine es ?_ GE339.out | refine es ?_ GE340.out) | exact HB.out)) hb); clear BK339 BK340 HB; have BK339 := n0_; have BK340 := n1_; have HB := n2_; clear n0_ n1_ n2_; (try clear hb); (try clear hb2); (try clear hk); (try clear hi)))
    go_meet
    case rel => exact ⟨_, (true), (by first | rfl | (simp; done) | (simp [*]; done)), H', ⟨by first | omega | exact Nat.le_refl _⟩, ⟨by exact qy BK339.out⟩, ⟨by exact qy BK340.out⟩, ⟨by repeat (first | (with_reducible first | exact HB.out | apply ea | apply en | apply ed | refine es ?_ GE339.out | refine es ?_ GE340.out) | exact HB.out)⟩⟩
  ·replace c7 := Bool.eq_false_iff.mpr c7
   subst c7
   have H1 : (bureauref07_Check.j0 k true a0_0 l0_1 a1_0 a1_1 l1_2 a1_3 l1_4) = some r := by rw [if_neg (show ¬ (false = true) by decide)] at H; exact H
   clear H
   have H := H1
   clear H1
   have H' := aM H
   clear H
   have hnb22 := NB339_340.out
   have hnc22 := NB340_339.out
   have hcz23_0 := zC BK339.out 0 (.string a0_0)
   have hcz23_1 := zC BK339.out 1 (.slice A0_1 l0_1.length c0_1)
   have hfz23_0 := bF BK339.out 0
   have hfz23_1 := bF BK339.out 1
   go_wp2_with (first | ((with_reducible refine gate_callee (f := 26) rfl ?_); refine goesL_ (some 8) rfl rfl Try.func26 (by kernel_rfl) rfl #[.agg #[.string a0_0, .slice A0_1 l0_1.length c0_1]] rfl (by (try simp only [mT, mC, mN]); first | done | rfl | (simp only [lD, lT]; rfl)) ?_; (with_reducible refine (bureauref04_Good.calls k a0_0 _ _ l0_1 false _ ?side1 ?side2 A6.out).mono ?_); (case side1 => repeat (first | exact (cB_ HR0_1.out HB.out) | (with_reducible refine Kd.C_alloc ?_ _) | (with_reducible refine Kd.C_drewN ?_ _) | (with_reducible refine Kd.C_drew ?_))); (case side2 => exact HC0_1.out); rintro e w24 ⟨rfl, hb⟩; refine ⟨_, rfl, ?_⟩; have n0_ := aM (bB (g := gb339) (qy BK339.out) hb); have n1_ := aM (bB (g := gb340) (qy BK340.out) hb); have n2_ := aM (bP (by repeat (first | (with_reducible first | exact HB.out | apply ea | apply en | apply ed | refine es ?_ GE339.out | refine es ?_ GE340.out) | exact HB.out)) hb); clear BK339 BK340 HB; have BK339 := n0_; have BK340 := n1_; have HB := n2_; clear n0_ n1_ n2_; (try clear hb); (try clear hb2); (try clear hk); (try clear hi)))
   go_meet
   case rel => exact ⟨_, (true), (by first | rfl | (simp; done) | (simp [*]; done)), H', ⟨by first | omega | exact Nat.le_refl _⟩, ⟨by exact qy BK339.out⟩, ⟨by exact qy BK340.out⟩, ⟨by repeat (first | (with_reducible first | exact HB.out | apply ea | apply en | apply ed | refine es ?_ GE339.out | refine es ?_ GE340.out) | exact HB.out)⟩⟩
 case rest =>
  clear HC3
  try clear c1
  try clear c2
  try clear p2
  try clear c4
  try clear p6
  try clear c7
  try clear c9
  try clear c10
  try clear c17
  try clear c22
  try clear hcz11_0
  try clear hcz11_1
  try clear hcz13_0
  try clear hcz13_1
  try clear hcz13_2
  try clear hcz13_3
  try clear hcz13_4
  try clear hcz15_0
  try clear hcz15_1
  try clear hcz16_0
  try clear hcz16_1
  try clear hcz16_2
  try clear hcz16_3
  try clear hcz16_4
  try clear hcz18_0
  try clear hcz18_1
  try clear hcz20_0
  try clear hcz20_1
  try clear hcz20_2
  try clear hcz20_3
  try clear hcz20_4
  try clear hcz23_0
  try clear hcz23_1
  try clear hfz11_0
  try clear hfz11_1
  try clear hfz13_0
  try clear hfz13_1
  try clear hfz13_2
  try clear hfz13_3
  try clear hfz13_4
  try clear hfz15_0
  try clear hfz15_1
  try clear hfz16_0
  try clear hfz16_1
  try clear hfz16_2
  try clear hfz16_3
  try clear hfz16_4
  try clear hfz18_0
  try clear hfz18_1
  try clear hfz20_0
  try clear hfz20_1
  try clear hfz20_2
  try clear hfz20_3
  try clear hfz20_4
  try clear hfz23_0
  try clear hfz23_1
  obtain ⟨kq, x27_2, rfl, HA, HJ2, BK339, BK340, HB⟩ := hcut
  cases kq with
  | zero => exact absurd HA.out (by simp [bureauref07_Check.j0])
  | succ kj2 =>
   have H := HA.out
   clear HA
   simp only [bureauref07_Check.j0] at H
   by_cases c25 : x27_2 = true
   ·subst c25
    have H1 : (some 2) = some r := by rw [if_pos rfl] at H; exact H
    clear H
    have H := H1
    clear H1
    obtain rfl := Option.some.inj H
    go_wp2
    go_ret
    exact ⟨by first | rfl | (simp [errW_none, errW_some] <;> rfl) | (simp [*, errW_none, errW_some] <;> rfl), by repeat (first | (with_reducible first | exact HB.out | apply ea | apply en | apply ed | refine es ?_ GE339.out | refine es ?_ GE340.out) | exact HB.out)⟩
   ·replace c25 := Bool.eq_false_iff.mpr c25
    subst c25
    have H1 : ((bureauref04_Cut.f kj2 a0_0 l0_1 a1_0 (wrap64 (a1_0 + (a1_1.size : Int)))).bind fun bt343 => ((bureauref04_Same.f kj2 bt343.1 bt343.2.1 a1_1 l1_2).bind fun t349 => (if t349 = true then (if (wrap64 ((wrap64 ((a0_0.size : Int) - (a1_1.size : Int))) + (a1_3.size : Int))) > 4096 then (some 3) else (some 0)) else (some 7)))) = some r := by rw [if_neg (show ¬ (false = true) by decide)] at H; exact H
    clear H
    have H := H1
    clear H1
    replace H := Option.bind_eq_some_iff.mp H
    obtain ⟨⟨t343, t344, t347⟩, A260, H⟩ := H
    replace H : ((bureauref04_Same.f kj2 t343 t344 a1_1 l1_2).bind fun t349 => (if t349 = true then (if (wrap64 ((wrap64 ((a0_0.size : Int) - (a1_1.size : Int))) + (a1_3.size : Int))) > 4096 then (some 3) else (some 0)) else (some 7))) = some r := H
    have A26 := aM A260
    clear A260
    replace H := Option.bind_eq_some_iff.mp H
    obtain ⟨t349, A270, H⟩ := H
    replace H : (if t349 = true then (if (wrap64 ((wrap64 ((a0_0.size : Int) - (a1_1.size : Int))) + (a1_3.size : Int))) > 4096 then (some 3) else (some 0)) else (some 7)) = some r := H
    have A27 := aM A270
    clear A270
    by_cases c28 : t349 = true
    ·subst c28
     have H1 : (if (wrap64 ((wrap64 ((a0_0.size : Int) - (a1_1.size : Int))) + (a1_3.size : Int))) > 4096 then (some 3) else (some 0)) = some r := by rw [if_pos rfl] at H; exact H
     clear H
     have H := H1
     clear H1
     by_cases c29 : (wrap64 ((wrap64 ((a0_0.size : Int) - (a1_1.size : Int))) + (a1_3.size : Int))) > 4096
     ·rw [if_pos c29] at H
      have c29b0 : decide (4096 < (wrap64 ((wrap64 ((a0_0.size : Int) - (a1_1.size : Int))) + (a1_3.size : Int)))) = true := decide_eq_true c29
      clear c29
      obtain rfl := Option.some.inj H
      have hnb30 := NB339_340.out
      have hnc30 := NB340_339.out
      have hcz31_0 := zC BK339.out 0 (.string a0_0)
      have hcz31_1 := zC BK339.out 1 (.slice A0_1 l0_1.length c0_1)
      have hfz31_0 := bF BK339.out 0
      have hfz31_1 := bF BK339.out 1
      have hcz32_0 := zC BK340.out 0 (.int .i64 a1_0)
      have hcz32_1 := zC BK340.out 1 (.string a1_1)
      have hcz32_2 := zC BK340.out 2 (.slice A1_2 l1_2.length c1_2)
      have hcz32_3 := zC BK340.out 3 (.string a1_3)
      have hcz32_4 := zC BK340.out 4 (.slice A1_4 l1_4.length c1_4)
      have hfz32_0 := bF BK340.out 0
      have hfz32_1 := bF BK340.out 1
      have hfz32_2 := bF BK340.out 2
      have hfz32_3 := bF BK340.out 3
      have hfz32_4 := bF BK340.out 4
      go_wp2_with (first | ((with_reducible refine gate_callee (f := 56) rfl ?_); refine goesL_ (some 39) rfl rfl Try.func56 (by kernel_rfl) rfl #[.agg #[.string a0_0, .slice A0_1 l0_1.length c0_1], .int .i64 a1_0, .int .i64 (wrap64 (a1_0 + (a1_1.size : Int)))] rfl (by (try simp only [mT, mC, mN]); first | done | rfl | (simp only [lD, lT]; rfl)) ?_; (with_reducible refine (bureauref04_Cut.calls kj2 a0_0 _ _ l0_1 a1_0 (wrap64 (a1_0 + (a1_1.size : Int))) t343 t344 t347 _ ?side1 ?side2 A26.out).mono ?_); (case side1 => repeat (first | exact (cB_ HR0_1.out HB.out) | (with_reducible refine Kd.C_alloc ?_ _) | (with_reducible refine Kd.C_drewN ?_ _) | (with_reducible refine Kd.C_drew ?_))); (case side2 => exact HC0_1.out); rintro e w33 ⟨v345, rfl, ho0, hb⟩; refine ⟨_, rfl, ?_⟩; have n0_ := aM (rL ho0 (bZ (by repeat (first | (with_reducible first | exact HB.out | apply ea | apply en | apply ed | refine es ?_ GE339.out | refine es ?_ GE340.out) | exact HB.out)))); have n1_ := aM (bB (g := gb339) (qy BK339.out) hb); have n2_ := aM (bB (g := gb340) (qy BK340.out) hb); have n3_ := aM (bP (by repeat (first | (with_reducible first | exact HB.out | apply ea | apply en | apply ed | refine es ?_ GE339.out | refine es ?_ GE340.out) | exact HB.out)) hb); clear BK339 BK340 HB; have HO346 := n0_; have BK339 := n1_; have BK340 := n2_; have HB := n3_; clear n0_ n1_ n2_ n3_; (try clear hb); (try clear hb2); (try clear hk); (try clear hi); (try clear ho0)) | ((with_reducible refine gate_dst (N := 5) rfl ?_); (try (refine gate_guard (by rfl) ?_; dsimp only)); refine box_event ?hg (N := 5) ?hd (cs := #[.string (⟨#[]⟩ : ByteArray), .slice none 0 0]) (t := 32) ?hr ?_; (case hd | hg => rfl); (case hr => first | (go_simp; done) | (go_simp; rfl)); intro gb348 hg w34 hbox hb; have n0_ := aM (Kd.R_below (ry HO346.out) hb); have n1_ := aM (bB (g := gb339) (qy BK339.out) hb); have n2_ := aM (bB (g := gb340) (qy BK340.out) hb); have n3_ := aM (bP (by repeat (first | (with_reducible first | exact HB.out | apply ea | apply en | apply ed | refine es ?_ GE339.out | refine es ?_ GE340.out) | exact HB.out)) hb); have n4_ := aM (hbox); have n5_ := aM ((by rw [hg]; exact (bZ (by repeat (first | (with_reducible first | exact HB.out | apply ea | apply en | apply ed | refine es ?_ GE339.out | refine es ?_ GE340.out) | exact HB.out))) : w.heap.size ≤ gb348)); have n6_ := n5_; have n7_ := aM ((by rw [hg]; exact Nat.ne_of_lt (blk_lt (g := gb339) (qy BK339.out)) : gb339 ≠ gb348)); have n8_ := aM ((by rw [hg]; exact Nat.ne_of_gt (blk_lt (g := gb339) (qy BK339.out)) : gb348 ≠ gb339)); have n9_ := aM ((by rw [hg]; exact Nat.ne_of_lt (blk_lt (g := gb340) (qy BK340.out)) : gb340 ≠ gb348)); have n10_ := aM ((by rw [hg]; exact Nat.ne_of_gt (blk_lt (g := gb340) (qy BK340.out)) : gb348 ≠ gb340)); clear HO346 BK339 BK340 HB; have HO346 := n0_; have BK339 := n1_; have BK340 := n2_; have HB := n3_; have BK348 := n4_; have GW348 := n5_; have GE348 := n6_; have NB339_348 := n7_; have NB348_339 := n8_; have NB340_348 := n9_; have NB348_340 := n10_; clear n0_ n1_ n2_ n3_ n4_ n5_ n6_ n7_ n8_ n9_ n10_; clear hb hbox hg; have hnb35 := NB348_339.out; have hnc35 := NB339_348.out; have hnb36 := NB348_340.out; have hnc36 := NB340_348.out; have hcz37_0 := zC BK348.out 0 (.string (⟨#[]⟩ : ByteArray)); have hcz37_1 := zC BK348.out 1 (.slice none 0 0); have hfz37_0 := bF BK348.out 0; have hfz37_1 := bF BK348.out 1; obtain ⟨Ao38, co38, eo38⟩ := Kd.R_slice HO346.out; subst eo38; have hcz39_0 := zC BK340.out 0 (.int .i64 a1_0); have hcz39_1 := zC BK340.out 1 (.string a1_1); have hcz39_2 := zC BK340.out 2 (.slice A1_2 l1_2.length c1_2); have hcz39_3 := zC BK340.out 3 (.string a1_3); have hcz39_4 := zC BK340.out 4 (.slice A1_4 l1_4.length c1_4); have hfz39_0 := bF BK340.out 0; have hfz39_1 := bF BK340.out 1; have hfz39_2 := bF BK340.out 2; have hfz39_3 := bF BK340.out 3; have hfz39_4 := bF BK340.out 4) | ((with_reducible refine gate_callee (f := 28) rfl ?_); refine goesL_ (some 45) rfl rfl Try.func28 (by kernel_rfl) rfl #[.agg #[.string t343, .slice Ao38 t344.length co38], .agg #[.string a1_1, .slice A1_2 l1_2.length c1_2]] rfl (by (try simp only [mT, mC, mN]); first | done | rfl | (simp only [lD, lT]; rfl)) ?_; (with_reducible refine (bureauref04_Same.calls kj2 t343 _ _ t344 a1_1 _ _ l1_2 true _ ?side1 ?side2 ?side3 ?side4 A27.out).mono ?_); (case side1 => refine (rR (e := 71) (base := w.heap.size) (ok := fun k_ => True) (n := t344.length) (c := co38) ?_).2.2; exact (by (with_reducible repeat (first | apply ra | apply rn | apply rd_)); exact (rM (rF (p := ⟨gb348, 1, none⟩) (rF (p := ⟨gb348, 0, none⟩) (rT HO346.out BK348.out (by decide)) (fun _ hk => hk.2) (.string t343)) (fun _ hk => hk.2) (.slice Ao38 t344.length co38)) (fun _ h_ => h_.1)))); (case side2 => exact (rR HO346.out).2.1); (case side3 => exact cB_ HR1_2.out (by repeat (first | (with_reducible first | exact HB.out | apply ea | apply en | apply ed | refine es ?_ GE339.out | refine es ?_ GE340.out | refine es ?_ GE348.out) | exact HB.out))); (case side4 => exact HC1_2.out); rintro e w40 ⟨rfl, hb⟩; refine ⟨_, rfl, ?_⟩; have n0_ := aM (Kd.R_below (by (with_reducible repeat (first | apply ra | apply rn | apply rd_)); exact (rM (rF (p := ⟨gb348, 1, none⟩) (rF (p := ⟨gb348, 0, none⟩) (rT HO346.out BK348.out (by decide)) (fun _ hk => hk.2) (.string t343)) (fun _ hk => hk.2) (.slice Ao38 t344.length co38)) (fun _ h_ => h_.1))) hb); have n1_ := aM (bB (g := gb339) (o := .cells #[.string a0_0, .slice A0_1 l0_1.length c0_1] 32 (0, 0)) (by (with_reducible repeat (first | apply qn | apply qd | apply qa)); refine bR ?_ NB339_348.out _; (with_reducible repeat (first | apply qn | apply qd | apply qa)); refine bR ?_ NB339_348.out _; exact qy BK339.out) hb); have n2_ := aM (bB (g := gb340) (o := .cells #[.int .i64 a1_0, .string a1_1, .slice A1_2 l1_2.length c1_2, .string a1_3, .slice A1_4 l1_4.length c1_4] 34 (0, 0)) (by (with_reducible repeat (first | apply qn | apply qd | apply qa)); refine bR ?_ NB340_348.out _; (with_reducible repeat (first | apply qn | apply qd | apply qa)); refine bR ?_ NB340_348.out _; exact qy BK340.out) hb); have n3_ := aM (bB (g := gb348) (o := .cells #[.string t343, .slice Ao38 t344.length co38] 32 (0, 0)) (by (with_reducible repeat (first | apply qn | apply qd | apply qa)); refine bU (cs := #[.string t343, .slice none 0 0]) ?_ 1 _ rfl; (with_reducible repeat (first | apply qn | apply qd | apply qa)); refine bU (cs := #[.string (⟨#[]⟩ : ByteArray), .slice none 0 0]) ?_ 0 _ rfl; exact qy BK348.out) hb); have n4_ := aM (bP (by repeat (first | (with_reducible first | exact HB.out | apply ea | apply en | apply ed | refine es ?_ GE339.out | refine es ?_ GE340.out | refine es ?_ GE348.out) | exact HB.out)) hb); clear HO346 BK339 BK340 BK348 HB; have HO346 := n0_; have BK339 := n1_; have BK340 := n2_; have BK348 := n3_; have HB := n4_; clear n0_ n1_ n2_ n3_ n4_; (try clear hb); (try clear hb2); (try clear hk); (try clear hi); have hcz41_0 := zC BK339.out 0 (.string a0_0); have hcz41_1 := zC BK339.out 1 (.slice A0_1 l0_1.length c0_1); have hfz41_0 := bF BK339.out 0; have hfz41_1 := bF BK339.out 1; have hcz42_0 := zC BK340.out 0 (.int .i64 a1_0); have hcz42_1 := zC BK340.out 1 (.string a1_1); have hcz42_2 := zC BK340.out 2 (.slice A1_2 l1_2.length c1_2); have hcz42_3 := zC BK340.out 3 (.string a1_3); have hcz42_4 := zC BK340.out 4 (.slice A1_4 l1_4.length c1_4); have hfz42_0 := bF BK340.out 0; have hfz42_1 := bF BK340.out 1; have hfz42_2 := bF BK340.out 2; have hfz42_3 := bF BK340.out 3; have hfz42_4 := bF BK340.out 4))
      go_ret
      exact ⟨by first | rfl | (simp [errW_none, errW_some] <;> rfl) | (simp [*, errW_none, errW_some] <;> rfl), by repeat (first | (with_reducible first | exact HB.out | apply ea | apply en | apply ed | refine es ?_ GE339.out | refine es ?_ GE340.out | refine es ?_ GE348.out) | exact HB.out)⟩
     ·rw [if_neg c29] at H
      have c29b0 : decide (4096 < (wrap64 ((wrap64 ((a0_0.size : Int) - (a1_1.size : Int))) + (a1_3.size : Int)))) = false := decide_eq_false c29
      clear c29
      obtain rfl := Option.some.inj H
      have hnb43 := NB339_340.out
      have hnc43 := NB340_339.out
      have hcz44_0 := zC BK339.out 0 (.string a0_0)
      have hcz44_1 := zC BK339.out 1 (.slice A0_1 l0_1.length c0_1)
      have hfz44_0 := bF BK339.out 0
      have hfz44_1 := bF BK339.out 1
      have hcz45_0 := zC BK340.out 0 (.int .i64 a1_0)
      have hcz45_1 := zC BK340.out 1 (.string a1_1)
      have hcz45_2 := zC BK340.out 2 (.slice A1_2 l1_2.length c1_2)
      have hcz45_3 := zC BK340.out 3 (.string a1_3)
      have hcz45_4 := zC BK340.out 4 (.slice A1_4 l1_4.length c1_4)
      have hfz45_0 := bF BK340.out 0
      have hfz45_1 := bF BK340.out 1
      have hfz45_2 := bF BK340.out 2
      have hfz45_3 := bF BK340.out 3
      have hfz45_4 := bF BK340.out 4
      go_wp2_with (first | ((with_reducible refine gate_callee (f := 56) rfl ?_); refine goesL_ (some 39) rfl rfl Try.func56 (by kernel_rfl) rfl #[.agg #[.string a0_0, .slice A0_1 l0_1.length c0_1], .int .i64 a1_0, .int .i64 (wrap64 (a1_0 + (a1_1.size : Int)))] rfl (by (try simp only [mT, mC, mN]); first | done | rfl | (simp only [lD, lT]; rfl)) ?_; (with_reducible refine (bureauref04_Cut.calls kj2 a0_0 _ _ l0_1 a1_0 (wrap64 (a1_0 + (a1_1.size : Int))) t343 t344 t347 _ ?side1 ?side2 A26.out).mono ?_); (case side1 => repeat (first | exact (cB_ HR0_1.out HB.out) | (with_reducible refine Kd.C_alloc ?_ _) | (with_reducible refine Kd.C_drewN ?_ _) | (with_reducible refine Kd.C_drew ?_))); (case side2 => exact HC0_1.out); rintro e w46 ⟨v345, rfl, ho0, hb⟩; refine ⟨_, rfl, ?_⟩; have n0_ := aM (rL ho0 (bZ (by repeat (first | (with_reducible first | exact HB.out | apply ea | apply en | apply ed | refine es ?_ GE339.out | refine es ?_ GE340.out) | exact HB.out)))); have n1_ := aM (bB (g := gb339) (qy BK339.out) hb); have n2_ := aM (bB (g := gb340) (qy BK340.out) hb); have n3_ := aM (bP (by repeat (first | (with_reducible first | exact HB.out | apply ea | apply en | apply ed | refine es ?_ GE339.out | refine es ?_ GE340.out) | exact HB.out)) hb); clear BK339 BK340 HB; have HO346 := n0_; have BK339 := n1_; have BK340 := n2_; have HB := n3_; clear n0_ n1_ n2_ n3_; (try clear hb); (try clear hb2); (try clear hk); (try clear hi); (try clear ho0)) | ((with_reducible refine gate_dst (N := 5) rfl ?_); (try (refine gate_guard (by rfl) ?_; dsimp only)); refine box_event ?hg (N := 5) ?hd (cs := #[.string (⟨#[]⟩ : ByteArray), .slice none 0 0]) (t := 32) ?hr ?_; (case hd | hg => rfl); (case hr => first | (go_simp; done) | (go_simp; rfl)); intro gb348 hg w47 hbox hb; have n0_ := aM (Kd.R_below (ry HO346.out) hb); have n1_ := aM (bB (g := gb339) (qy BK339.out) hb); have n2_ := aM (bB (g := gb340) (qy BK340.out) hb); have n3_ := aM (bP (by repeat (first | (with_reducible first | exact HB.out | apply ea | apply en | apply ed | refine es ?_ GE339.out | refine es ?_ GE340.out) | exact HB.out)) hb); have n4_ := aM (hbox); have n5_ := aM ((by rw [hg]; exact (bZ (by repeat (first | (with_reducible first | exact HB.out | apply ea | apply en | apply ed | refine es ?_ GE339.out | refine es ?_ GE340.out) | exact HB.out))) : w.heap.size ≤ gb348)); have n6_ := n5_; have n7_ := aM ((by rw [hg]; exact Nat.ne_of_lt (blk_lt (g := gb339) (qy BK339.out)) : gb339 ≠ gb348)); have n8_ := aM ((by rw [hg]; exact Nat.ne_of_gt (blk_lt (g := gb339) (qy BK339.out)) : gb348 ≠ gb339)); have n9_ := aM ((by rw [hg]; exact Nat.ne_of_lt (blk_lt (g := gb340) (qy BK340.out)) : gb340 ≠ gb348)); have n10_ := aM ((by rw [hg]; exact Nat.ne_of_gt (blk_lt (g := gb340) (qy BK340.out)) : gb348 ≠ gb340)); clear HO346 BK339 BK340 HB; have HO346 := n0_; have BK339 := n1_; have BK340 := n2_; have HB := n3_; have BK348 := n4_; have GW348 := n5_; have GE348 := n6_; have NB339_348 := n7_; have NB348_339 := n8_; have NB340_348 := n9_; have NB348_340 := n10_; clear n0_ n1_ n2_ n3_ n4_ n5_ n6_ n7_ n8_ n9_ n10_; clear hb hbox hg; have hnb48 := NB348_339.out; have hnc48 := NB339_348.out; have hnb49 := NB348_340.out; have hnc49 := NB340_348.out; have hcz50_0 := zC BK348.out 0 (.string (⟨#[]⟩ : ByteArray)); have hcz50_1 := zC BK348.out 1 (.slice none 0 0); have hfz50_0 := bF BK348.out 0; have hfz50_1 := bF BK348.out 1; obtain ⟨Ao51, co51, eo51⟩ := Kd.R_slice HO346.out; subst eo51; have hcz52_0 := zC BK340.out 0 (.int .i64 a1_0); have hcz52_1 := zC BK340.out 1 (.string a1_1); have hcz52_2 := zC BK340.out 2 (.slice A1_2 l1_2.length c1_2); have hcz52_3 := zC BK340.out 3 (.string a1_3); have hcz52_4 := zC BK340.out 4 (.slice A1_4 l1_4.length c1_4); have hfz52_0 := bF BK340.out 0; have hfz52_1 := bF BK340.out 1; have hfz52_2 := bF BK340.out 2; have hfz52_3 := bF BK340.out 3; have hfz52_4 := bF BK340.out 4) | ((with_reducible refine gate_callee (f := 28) rfl ?_); refine goesL_ (some 45) rfl rfl Try.func28 (by kernel_rfl) rfl #[.agg #[.string t343, .slice Ao51 t344.length co51], .agg #[.string a1_1, .slice A1_2 l1_2.length c1_2]] rfl (by (try simp only [mT, mC, mN]); first | done | rfl | (simp only [lD, lT]; rfl)) ?_; (with_reducible refine (bureauref04_Same.calls kj2 t343 _ _ t344 a1_1 _ _ l1_2 true _ ?side1 ?side2 ?side3 ?side4 A27.out).mono ?_); (case side1 => refine (rR (e := 71) (base := w.heap.size) (ok := fun k_ => True) (n := t344.length) (c := co51) ?_).2.2; exact (by (with_reducible repeat (first | apply ra | apply rn | apply rd_)); exact (rM (rF (p := ⟨gb348, 1, none⟩) (rF (p := ⟨gb348, 0, none⟩) (rT HO346.out BK348.out (by decide)) (fun _ hk => hk.2) (.string t343)) (fun _ hk => hk.2) (.slice Ao51 t344.length co51)) (fun _ h_ => h_.1)))); (case side2 => exact (rR HO346.out).2.1); (case side3 => exact cB_ HR1_2.out (by repeat (first | (with_reducible first | exact HB.out | apply ea | apply en | apply ed | refine es ?_ GE339.out | refine es ?_ GE340.out | refine es ?_ GE348.out) | exact HB.out))); (case side4 => exact HC1_2.out); rintro e w53 ⟨rfl, hb⟩; refine ⟨_, rfl, ?_⟩; have n0_ := aM (Kd.R_below (by (with_reducible repeat (first | apply ra | apply rn | apply rd_)); exact (rM (rF (p := ⟨gb348, 1, none⟩) (rF (p := ⟨gb348, 0, none⟩) (rT HO346.out BK348.out (by decide)) (fun _ hk => hk.2) (.string t343)) (fun _ hk => hk.2) (.slice Ao51 t344.length co51)) (fun _ h_ => h_.1))) hb); have n1_ := aM (bB (g := gb339) (o := .cells #[.string a0_0, .slice A0_1 l0_1.length c0_1] 32 (0, 0)) (by (with_reducible repeat (first | apply qn | apply qd | apply qa)); refine bR ?_ NB339_348.out _; (with_reducible repeat (first | apply qn | apply qd | apply qa)); refine bR ?_ NB339_348.out _; exact qy BK339.out) hb); have n2_ := aM (bB (g := gb340) (o := .cells #[.int .i64 a1_0, .string a1_1, .slice A1_2 l1_2.length c1_2, .string a1_3, .slice A1_4 l1_4.length c1_4] 34 (0, 0)) (by (with_reducible repeat (first | apply qn | apply qd | apply qa)); refine bR ?_ NB340_348.out _; (with_reducible repeat (first | apply qn | apply qd | apply qa)); refine bR ?_ NB340_348.out _; exact qy BK340.out) hb); have n3_ := aM (bB (g := gb348) (o := .cells #[.string t343, .slice Ao51 t344.length co51] 32 (0, 0)) (by (with_reducible repeat (first | apply qn | apply qd | apply qa)); refine bU (cs := #[.string t343, .slice none 0 0]) ?_ 1 _ rfl; (with_reducible repeat (first | apply qn | apply qd | apply qa)); refine bU (cs := #[.string (⟨#[]⟩ : ByteArray), .slice none 0 0]) ?_ 0 _ rfl; exact qy BK348.out) hb); have n4_ := aM (bP (by repeat (first | (with_reducible first | exact HB.out | apply ea | apply en | apply ed | refine es ?_ GE339.out | refine es ?_ GE340.out | refine es ?_ GE348.out) | exact HB.out)) hb); clear HO346 BK339 BK340 BK348 HB; have HO346 := n0_; have BK339 := n1_; have BK340 := n2_; have BK348 := n3_; have HB := n4_; clear n0_ n1_ n2_ n3_ n4_; (try clear hb); (try clear hb2); (try clear hk); (try clear hi); have hcz54_0 := zC BK339.out 0 (.string a0_0); have hcz54_1 := zC BK339.out 1 (.slice A0_1 l0_1.length c0_1); have hfz54_0 := bF BK339.out 0; have hfz54_1 := bF BK339.out 1; have hcz55_0 := zC BK340.out 0 (.int .i64 a1_0); have hcz55_1 := zC BK340.out 1 (.string a1_1); have hcz55_2 := zC BK340.out 2 (.slice A1_2 l1_2.length c1_2); have hcz55_3 := zC BK340.out 3 (.string a1_3); have hcz55_4 := zC BK340.out 4 (.slice A1_4 l1_4.length c1_4); have hfz55_0 := bF BK340.out 0; have hfz55_1 := bF BK340.out 1; have hfz55_2 := bF BK340.out 2; have hfz55_3 := bF BK340.out 3; have hfz55_4 := bF BK340.out 4))
      go_ret
      exact ⟨by first | rfl | (simp [errW_none, errW_some] <;> rfl) | (simp [*, errW_none, errW_some] <;> rfl), by repeat (first | (with_reducible first | exact HB.out | apply ea | apply en | apply ed | refine es ?_ GE339.out | refine es ?_ GE340.out | refine es ?_ GE348.out) | exact HB.out)⟩
    ·replace c28 := Bool.eq_false_iff.mpr c28
     subst c28
     have H1 : (some 7) = some r := by rw [if_neg (show ¬ (false = true) by decide)] at H; exact H
     clear H
     have H := H1
     clear H1
     obtain rfl := Option.some.inj H
     have hnb56 := NB339_340.out
     have hnc56 := NB340_339.out
     have hcz57_0 := zC BK339.out 0 (.string a0_0)
     have hcz57_1 := zC BK339.out 1 (.slice A0_1 l0_1.length c0_1)
     have hfz57_0 := bF BK339.out 0
     have hfz57_1 := bF BK339.out 1
     have hcz58_0 := zC BK340.out 0 (.int .i64 a1_0)
     have hcz58_1 := zC BK340.out 1 (.string a1_1)
     have hcz58_2 := zC BK340.out 2 (.slice A1_2 l1_2.length c1_2)
     have hcz58_3 := zC BK340.out 3 (.string a1_3)
     have hcz58_4 := zC BK340.out 4 (.slice A1_4 l1_4.length c1_4)
     have hfz58_0 := bF BK340.out 0
     have hfz58_1 := bF BK340.out 1
     have hfz58_2 := bF BK340.out 2
     have hfz58_3 := bF BK340.out 3
     have hfz58_4 := bF BK340.out 4
     go_wp2_with (first | ((with_reducible refine gate_callee (f := 56) rfl ?_); refine goesL_ (some 39) rfl rfl Try.func56 (by kernel_rfl) rfl #[.agg #[.string a0_0, .slice A0_1 l0_1.length c0_1], .int .i64 a1_0, .int .i64 (wrap64 (a1_0 + (a1_1.size : Int)))] rfl (by (try simp only [mT, mC, mN]); first | done | rfl | (simp only [lD, lT]; rfl)) ?_; (with_reducible refine (bureauref04_Cut.calls kj2 a0_0 _ _ l0_1 a1_0 (wrap64 (a1_0 + (a1_1.size : Int))) t343 t344 t347 _ ?side1 ?side2 A26.out).mono ?_); (case side1 => repeat (first | exact (cB_ HR0_1.out HB.out) | (with_reducible refine Kd.C_alloc ?_ _) | (with_reducible refine Kd.C_drewN ?_ _) | (with_reducible refine Kd.C_drew ?_))); (case side2 => exact HC0_1.out); rintro e w59 ⟨v345, rfl, ho0, hb⟩; refine ⟨_, rfl, ?_⟩; have n0_ := aM (rL ho0 (bZ (by repeat (first | (with_reducible first | exact HB.out | apply ea | apply en | apply ed | refine es ?_ GE339.out | refine es ?_ GE340.out) | exact HB.out)))); have n1_ := aM (bB (g := gb339) (qy BK339.out) hb); have n2_ := aM (bB (g := gb340) (qy BK340.out) hb); have n3_ := aM (bP (by repeat (first | (with_reducible first | exact HB.out | apply ea | apply en | apply ed | refine es ?_ GE339.out | refine es ?_ GE340.out) | exact HB.out)) hb); clear BK339 BK340 HB; have HO346 := n0_; have BK339 := n1_; have BK340 := n2_; have HB := n3_; clear n0_ n1_ n2_ n3_; (try clear hb); (try clear hb2); (try clear hk); (try clear hi); (try clear ho0)) | ((with_reducible refine gate_dst (N := 5) rfl ?_); (try (refine gate_guard (by rfl) ?_; dsimp only)); refine box_event ?hg (N := 5) ?hd (cs := #[.string (⟨#[]⟩ : ByteArray), .slice none 0 0]) (t := 32) ?hr ?_; (case hd | hg => rfl); (case hr => first | (go_simp; done) | (go_simp; rfl)); intro gb348 hg w60 hbox hb; have n0_ := aM (Kd.R_below (ry HO346.out) hb); have n1_ := aM (bB (g := gb339) (qy BK339.out) hb); have n2_ := aM (bB (g := gb340) (qy BK340.out) hb); have n3_ := aM (bP (by repeat (first | (with_reducible first | exact HB.out | apply ea | apply en | apply ed | refine es ?_ GE339.out | refine es ?_ GE340.out) | exact HB.out)) hb); have n4_ := aM (hbox); have n5_ := aM ((by rw [hg]; exact (bZ (by repeat (first | (with_reducible first | exact HB.out | apply ea | apply en | apply ed | refine es ?_ GE339.out | refine es ?_ GE340.out) | exact HB.out))) : w.heap.size ≤ gb348)); have n6_ := n5_; have n7_ := aM ((by rw [hg]; exact Nat.ne_of_lt (blk_lt (g := gb339) (qy BK339.out)) : gb339 ≠ gb348)); have n8_ := aM ((by rw [hg]; exact Nat.ne_of_gt (blk_lt (g := gb339) (qy BK339.out)) : gb348 ≠ gb339)); have n9_ := aM ((by rw [hg]; exact Nat.ne_of_lt (blk_lt (g := gb340) (qy BK340.out)) : gb340 ≠ gb348)); have n10_ := aM ((by rw [hg]; exact Nat.ne_of_gt (blk_lt (g := gb340) (qy BK340.out)) : gb348 ≠ gb340)); clear HO346 BK339 BK340 HB; have HO346 := n0_; have BK339 := n1_; have BK340 := n2_; have HB := n3_; have BK348 := n4_; have GW348 := n5_; have GE348 := n6_; have NB339_348 := n7_; have NB348_339 := n8_; have NB340_348 := n9_; have NB348_340 := n10_; clear n0_ n1_ n2_ n3_ n4_ n5_ n6_ n7_ n8_ n9_ n10_; clear hb hbox hg; have hnb61 := NB348_339.out; have hnc61 := NB339_348.out; have hnb62 := NB348_340.out; have hnc62 := NB340_348.out; have hcz63_0 := zC BK348.out 0 (.string (⟨#[]⟩ : ByteArray)); have hcz63_1 := zC BK348.out 1 (.slice none 0 0); have hfz63_0 := bF BK348.out 0; have hfz63_1 := bF BK348.out 1; obtain ⟨Ao64, co64, eo64⟩ := Kd.R_slice HO346.out; subst eo64; have hcz65_0 := zC BK340.out 0 (.int .i64 a1_0); have hcz65_1 := zC BK340.out 1 (.string a1_1); have hcz65_2 := zC BK340.out 2 (.slice A1_2 l1_2.length c1_2); have hcz65_3 := zC BK340.out 3 (.string a1_3); have hcz65_4 := zC BK340.out 4 (.slice A1_4 l1_4.length c1_4); have hfz65_0 := bF BK340.out 0; have hfz65_1 := bF BK340.out 1; have hfz65_2 := bF BK340.out 2; have hfz65_3 := bF BK340.out 3; have hfz65_4 := bF BK340.out 4) | ((with_reducible refine gate_callee (f := 28) rfl ?_); refine goesL_ (some 45) rfl rfl Try.func28 (by kernel_rfl) rfl #[.agg #[.string t343, .slice Ao64 t344.length co64], .agg #[.string a1_1, .slice A1_2 l1_2.length c1_2]] rfl (by (try simp only [mT, mC, mN]); first | done | rfl | (simp only [lD, lT]; rfl)) ?_; (with_reducible refine (bureauref04_Same.calls kj2 t343 _ _ t344 a1_1 _ _ l1_2 false _ ?side1 ?side2 ?side3 ?side4 A27.out).mono ?_); (case side1 => refine (rR (e := 71) (base := w.heap.size) (ok := fun k_ => True) (n := t344.length) (c := co64) ?_).2.2; exact (by (with_reducible repeat (first | apply ra | apply rn | apply rd_)); exact (rM (rF (p := ⟨gb348, 1, none⟩) (rF (p := ⟨gb348, 0, none⟩) (rT HO346.out BK348.out (by decide)) (fun _ hk => hk.2) (.string t343)) (fun _ hk => hk.2) (.slice Ao64 t344.length co64)) (fun _ h_ => h_.1)))); (case side2 => exact (rR HO346.out).2.1); (case side3 => exact cB_ HR1_2.out (by repeat (first | (with_reducible first | exact HB.out | apply ea | apply en | apply ed | refine es ?_ GE339.out | refine es ?_ GE340.out | refine es ?_ GE348.out) | exact HB.out))); (case side4 => exact HC1_2.out); rintro e w66 ⟨rfl, hb⟩; refine ⟨_, rfl, ?_⟩; have n0_ := aM (Kd.R_below (by (with_reducible repeat (first | apply ra | apply rn | apply rd_)); exact (rM (rF (p := ⟨gb348, 1, none⟩) (rF (p := ⟨gb348, 0, none⟩) (rT HO346.out BK348.out (by decide)) (fun _ hk => hk.2) (.string t343)) (fun _ hk => hk.2) (.slice Ao64 t344.length co64)) (fun _ h_ => h_.1))) hb); have n1_ := aM (bB (g := gb339) (o := .cells #[.string a0_0, .slice A0_1 l0_1.length c0_1] 32 (0, 0)) (by (with_reducible repeat (first | apply qn | apply qd | apply qa)); refine bR ?_ NB339_348.out _; (with_reducible repeat (first | apply qn | apply qd | apply qa)); refine bR ?_ NB339_348.out _; exact qy BK339.out) hb); have n2_ := aM (bB (g := gb340) (o := .cells #[.int .i64 a1_0, .string a1_1, .slice A1_2 l1_2.length c1_2, .string a1_3, .slice A1_4 l1_4.length c1_4] 34 (0, 0)) (by (with_reducible repeat (first | apply qn | apply qd | apply qa)); refine bR ?_ NB340_348.out _; (with_reducible repeat (first | apply qn | apply qd | apply qa)); refine bR ?_ NB340_348.out _; exact qy BK340.out) hb); have n3_ := aM (bB (g := gb348) (o := .cells #[.string t343, .slice Ao64 t344.length co64] 32 (0, 0)) (by (with_reducible repeat (first | apply qn | apply qd | apply qa)); refine bU (cs := #[.string t343, .slice none 0 0]) ?_ 1 _ rfl; (with_reducible repeat (first | apply qn | apply qd | apply qa)); refine bU (cs := #[.string (⟨#[]⟩ : ByteArray), .slice none 0 0]) ?_ 0 _ rfl; exact qy BK348.out) hb); have n4_ := aM (bP (by repeat (first | (with_reducible first | exact HB.out | apply ea | apply en | apply ed | refine es ?_ GE339.out | refine es ?_ GE340.out | refine es ?_ GE348.out) | exact HB.out)) hb); clear HO346 BK339 BK340 BK348 HB; have HO346 := n0_; have BK339 := n1_; have BK340 := n2_; have BK348 := n3_; have HB := n4_; clear n0_ n1_ n2_ n3_ n4_; (try clear hb); (try clear hb2); (try clear hk); (try clear hi)))
     go_ret
     exact ⟨by first | rfl | (simp [errW_none, errW_some] <;> rfl) | (simp [*, errW_none, errW_some] <;> rfl), by repeat (first | (with_reducible first | exact HB.out | apply ea | apply en | apply ed | refine es ?_ GE339.out | refine es ?_ GE340.out | refine es ?_ GE348.out) | exact HB.out)⟩
end Go.Proofs.Ytbbgpfjeobdogaa.PB
end

section
namespace Go.Proofs.Ytbbgpfjeobdogaa.PB
open Go.RowKit Go.Proofs.YtbbgpfjeobdogaaW.PrintWords Go.Proofs.YtbbgpfjeobdogaaW.PrintLast Go.Proofs.YtbbgpfjeobdogaaW.PrintMore
attribute [local go_sem] max2_int min2_int max_two min_two max_three min_three max_four min_four   
set_option linter.unusedVariables false
set_option linter.unusedSimpArgs false
def bureauref07_Apply.f (k : Nat) (a0_0 : ByteArray) (l0_1 : List (S71)) (a1_0 : Int) (a1_1 : ByteArray) (l1_2 : List (S71)) (a1_3 : ByteArray) (l1_4 : List (S71)) : Option (ByteArray × (List (S71)) × Int) := (bureauref07_Check.f k a0_0 l0_1 a1_0 a1_1 l1_2 a1_3 l1_4).bind fun t379 => (if t379 = 0 then ((bureauref04_Splice.f k a0_0 l0_1 a1_0 (wrap64 (a1_0 + (a1_1.size : Int))) a1_3 l1_4).bind fun bt380 => (some (bt380.1, bt380.2.1, bt380.2.2))) else (some ((⟨#[]⟩ : ByteArray), ([] : List (S71)), t379)))
set_option maxHeartbeats 8000000 in
set_option maxRecDepth 100000 in
theorem bureauref07_Apply.calls (k : Nat) (a0_0 : ByteArray) (A0_1 : Option Addr) (c0_1 : Nat) (l0_1 : List (S71)) (a1_0 : Int) (a1_1 : ByteArray) (A1_2 : Option Addr) (c1_2 : Nat) (l1_2 : List (S71)) (a1_3 : ByteArray) (A1_4 : Option Addr) (c1_4 : Nat) (l1_4 : List (S71)) (r1 : ByteArray) (r2 : List (S71)) (r3 : Int) (w : World) (hr0_1 : Kd.C k71 w A0_1 l0_1.length l0_1) (hc0_1 : l0_1.length ≤ c0_1) (hr1_2 : Kd.C k71 w A1_2 l1_2.length l1_2) (hc1_2 : l1_2.length ≤ c1_2) (hr1_4 : Kd.C k71 w A1_4 l1_4.length l1_4) (hc1_4 : l1_4.length ≤ c1_4) (h : bureauref07_Apply.f k a0_0 l0_1 a1_0 a1_1 l1_2 a1_3 l1_4 = some (r1, r2, r3)) :
  Calls Try.prog 27 #[.agg #[.string a0_0, .slice A0_1 l0_1.length c0_1], .agg #[.int .i64 a1_0, .string a1_1, .slice A1_2 l1_2.length c1_2, .string a1_3, .slice A1_4 l1_4.length c1_4]] w fun e w' => ∃ v1_ : Value, e = .returned (.tuple #[.agg #[.string r1, v1_], .int .i64 r3]) ∧ Kd.R k71 71 w' w.heap.size (fun _ => True) v1_ r2 ∧ Below w.heap.size w w' := by
 have hu32 := Try.underlying32
 have hu34 := Try.underlying34
 have HR0_1 := aM hr0_1
 have HC0_1 := aM hc0_1
 clear hr0_1 hc0_1
 have HR1_2 := aM hr1_2
 have HC1_2 := aM hc1_2
 clear hr1_2 hc1_2
 have HR1_4 := aM hr1_4
 have HC1_4 := aM hc1_4
 clear hr1_4 hc1_4
 have HB := aM (Below.refl w.heap.size w)
 have H : ((bureauref07_Check.f k a0_0 l0_1 a1_0 a1_1 l1_2 a1_3 l1_4).bind fun t379 => (if t379 = 0 then ((bureauref04_Splice.f k a0_0 l0_1 a1_0 (wrap64 (a1_0 + (a1_1.size : Int))) a1_3 l1_4).bind fun bt380 => (some (bt380.1, bt380.2.1, bt380.2.2))) else (some ((⟨#[]⟩ : ByteArray), ([] : List (S71)), t379)))) = some (r1, r2, r3) := h
 clear h
 replace H := Option.bind_eq_some_iff.mp H
 obtain ⟨t379, A30, H⟩ := H
 replace H : (if t379 = 0 then ((bureauref04_Splice.f k a0_0 l0_1 a1_0 (wrap64 (a1_0 + (a1_1.size : Int))) a1_3 l1_4).bind fun bt380 => (some (bt380.1, bt380.2.1, bt380.2.2))) else (some ((⟨#[]⟩ : ByteArray), ([] : List (S71)), t379))) = some (r1, r2, r3) := H
 have A3 := aM A30
 clear A30
 by_cases c4 : t379 = 0
 ·rw [if_pos c4] at H
  have c4b0 : (t379 == 0) = true := beq_iff_eq.mpr c4
  have c4b1 : (t379 != 0) = false := bne_eq_false_iff_eq.mpr c4
  clear c4
  replace H := Option.bind_eq_some_iff.mp H
  obtain ⟨⟨t380, t381, t384⟩, A50, H⟩ := H
  replace H : (some (t380, t381, t384)) = some (r1, r2, r3) := H
  have A5 := aM A50
  clear A50
  simp only [Option.some.injEq, Prod.mk.injEq] at H
  obtain ⟨rfl, rfl, rfl⟩ := H
  go_enter Try.func27, Try.ntmps27
  go_wp2_with (first | ((with_reducible refine gate_dst (N := 2) rfl ?_); refine box_event ?hg (N := 2) ?hd (cs := #[.string a0_0, .slice A0_1 l0_1.length c0_1]) (t := 32) ?hr ?_; (case hd | hg => rfl); (case hr => first | (go_simp; done) | (go_simp; rfl)); intro gb376 hg w6 hbox hb; have n0_ := aM (bP (ey HB.out) hb); have n1_ := aM (hbox); have n2_ := aM ((by rw [hg]; exact (bZ (ey HB.out)) : w.heap.size ≤ gb376)); have n3_ := n2_; clear HB; have HB := n0_; have BK376 := n1_; have GW376 := n2_; have GE376 := n3_; clear n0_ n1_ n2_ n3_; clear hb hbox hg) | ((with_reducible refine gate_dst (N := 3) rfl ?_); refine box_event ?hg (N := 3) ?hd (cs := #[.int .i64 a1_0, .string a1_1, .slice A1_2 l1_2.length c1_2, .string a1_3, .slice A1_4 l1_4.length c1_4]) (t := 34) ?hr ?_; (case hd | hg => rfl); (case hr => first | (go_simp; done) | (go_simp; rfl)); intro gb377 hg w7 hbox hb; have n0_ := aM (bB (g := gb376) (qy BK376.out) hb); have n1_ := aM (bP (by repeat (first | (with_reducible first | exact HB.out | apply ea | apply en | apply ed | refine es ?_ GE376.out) | exact HB.out)) hb); have n2_ := aM (hbox); have n3_ := aM ((by rw [hg]; exact (bZ (by repeat (first | (with_reducible first | exact HB.out | apply ea | apply en | apply ed | refine es ?_ GE376.out) | exact HB.out))) : w.heap.size ≤ gb377)); have n4_ := n3_; have n5_ := aM ((by rw [hg]; exact Nat.ne_of_lt (blk_lt (g := gb376) (qy BK376.out)) : gb376 ≠ gb377)); have n6_ := aM ((by rw [hg]; exact Nat.ne_of_gt (blk_lt (g := gb376) (qy BK376.out)) : gb377 ≠ gb376)); clear BK376 HB; have BK376 := n0_; have HB := n1_; have BK377 := n2_; have GW377 := n3_; have GE377 := n4_; have NB376_377 := n5_; have NB377_376 := n6_; clear n0_ n1_ n2_ n3_ n4_ n5_ n6_; clear hb hbox hg) | ((with_reducible refine gate_dst (N := 4) rfl ?_); refine box_event ?hg (N := 4) ?hd (cs := #[.string (⟨#[]⟩ : ByteArray), .slice none 0 0]) (t := 32) ?hr ?_; (case hd | hg => rfl); (case hr => first | (go_simp; done) | (go_simp; rfl)); intro gb378 hg w8 hbox hb; have n0_ := aM (bB (g := gb376) (qy BK376.out) hb); have n1_ := aM (bB (g := gb377) (qy BK377.out) hb); have n2_ := aM (bP (by repeat (first | (with_reducible first | exact HB.out | apply ea | apply en | apply ed | refine es ?_ GE376.out | refine es ?_ GE377.out) | exact HB.out)) hb); have n3_ := aM (hbox); have n4_ := aM ((by rw [hg]; exact (bZ (by repeat (first | (with_reducible first | exact HB.out | apply ea | apply en | apply ed | refine es ?_ GE376.out | refine es ?_ GE377.out) | exact HB.out))) : w.heap.size ≤ gb378)); have n5_ := n4_; have n6_ := aM ((by rw [hg]; exact Nat.ne_of_lt (blk_lt (g := gb376) (qy BK376.out)) : gb376 ≠ gb378)); have n7_ := aM ((by rw [hg]; exact Nat.ne_of_gt (blk_lt (g := gb376) (qy BK376.out)) : gb378 ≠ gb376)); have n8_ := aM ((by rw [hg]; exact Nat.ne_of_lt (blk_lt (g := gb377) (qy BK377.out)) : gb377 ≠ gb378)); have n9_ := aM ((by rw [hg]; exact Nat.ne_of_gt (blk_lt (g := gb377) (qy BK377.out)) : gb378 ≠ gb377)); clear BK376 BK377 HB; have BK376 := n0_; have BK377 := n1_; have HB := n2_; have BK378 := n3_; have GW378 := n4_; have GE378 := n5_; have NB376_378 := n6_; have NB378_376 := n7_; have NB377_378 := n8_; have NB378_377 := n9_; clear n0_ n1_ n2_ n3_ n4_ n5_ n6_ n7_ n8_ n9_; clear hb hbox hg; have hnb9 := NB376_377.out; have hnc9 := NB377_376.out; have hnb10 := NB376_378.out; have hnc10 := NB378_376.out; have hcz11_0 := zC BK376.out 0 (.string a0_0); have hcz11_1 := zC BK376.out 1 (.slice A0_1 l0_1.length c0_1); have hfz11_0 := bF BK376.out 0; have hfz11_1 := bF BK376.out 1; have hnb12 := NB377_378.out; have hnc12 := NB378_377.out; have hcz13_0 := zC BK377.out 0 (.int .i64 a1_0); have hcz13_1 := zC BK377.out 1 (.string a1_1); have hcz13_2 := zC BK377.out 2 (.slice A1_2 l1_2.length c1_2); have hcz13_3 := zC BK377.out 3 (.string a1_3); have hcz13_4 := zC BK377.out 4 (.slice A1_4 l1_4.length c1_4); have hfz13_0 := bF BK377.out 0; have hfz13_1 := bF BK377.out 1; have hfz13_2 := bF BK377.out 2; have hfz13_3 := bF BK377.out 3; have hfz13_4 := bF BK377.out 4) | ((with_reducible refine gate_callee (f := 44) rfl ?_); refine goesL_ (some 9) rfl rfl Try.func44 (by kernel_rfl) rfl #[.agg #[.string a0_0, .slice A0_1 l0_1.length c0_1], .agg #[.int .i64 a1_0, .string a1_1, .slice A1_2 l1_2.length c1_2, .string a1_3, .slice A1_4 l1_4.length c1_4]] rfl (by (try simp only [mT, mC, mN]); first | done | rfl | (simp only [lD, lT]; rfl)) ?_; (with_reducible refine (bureauref07_Check.calls k a0_0 _ _ l0_1 a1_0 a1_1 _ _ l1_2 a1_3 _ _ l1_4 t379 _ ?side1 ?side2 ?side3 ?side4 ?side5 ?side6 A3.out).mono ?_); (case side1 => repeat (first | exact (cB_ HR0_1.out HB.out) | (with_reducible refine Kd.C_alloc ?_ _) | (with_reducible refine Kd.C_drewN ?_ _) | (with_reducible refine Kd.C_drew ?_))); (case side2 => exact HC0_1.out); (case side3 => repeat (first | exact (cB_ HR1_2.out HB.out) | (with_reducible refine Kd.C_alloc ?_ _) | (with_reducible refine Kd.C_drewN ?_ _) | (with_reducible refine Kd.C_drew ?_))); (case side4 => exact HC1_2.out); (case side5 => repeat (first | exact (cB_ HR1_4.out HB.out) | (with_reducible refine Kd.C_alloc ?_ _) | (with_reducible refine Kd.C_drewN ?_ _) | (with_reducible refine Kd.C_drew ?_))); (case side6 => exact HC1_4.out); rintro e w14 ⟨rfl, hb⟩; refine ⟨_, rfl, ?_⟩; have n0_ := aM (bB (g := gb376) (qy BK376.out) hb); have n1_ := aM (bB (g := gb377) (qy BK377.out) hb); have n2_ := aM (bB (g := gb378) (qy BK378.out) hb); have n3_ := aM (bP (by repeat (first | (with_reducible first | exact HB.out | apply ea | apply en | apply ed | refine es ?_ GE376.out | refine es ?_ GE377.out | refine es ?_ GE378.out) | exact HB.out)) hb); clear BK376 BK377 BK378 HB; have BK376 := n0_; have BK377 := n1_; have BK378 := n2_; have HB := n3_; clear n0_ n1_ n2_ n3_; (try clear hb); (try clear hb2); (try clear hk); (try clear hi); have hcz15_0 := zC BK376.out 0 (.string a0_0); have hcz15_1 := zC BK376.out 1 (.slice A0_1 l0_1.length c0_1); have hfz15_0 := bF BK376.out 0; have hfz15_1 := bF BK376.out 1; have hcz16_0 := zC BK377.out 0 (.int .i64 a1_0); have hcz16_1 := zC BK377.out 1 (.string a1_1); have hcz16_2 := zC BK377.out 2 (.slice A1_2 l1_2.length c1_2); have hcz16_3 := zC BK377.out 3 (.string a1_3); have hcz16_4 := zC BK377.out 4 (.slice A1_4 l1_4.length c1_4); have hfz16_0 := bF BK377.out 0; have hfz16_1 := bF BK377.out 1; have hfz16_2 := bF BK377.out 2; have hfz16_3 := bF BK377.out 3; have hfz16_4 := bF BK377.out 4) | ((with_reducible refine gate_callee (f := 45) rfl ?_); refine goesL_ (some 26) rfl rfl Try.func45 (by kernel_rfl) rfl #[.agg #[.string a0_0, .slice A0_1 l0_1.length c0_1], .int .i64 a1_0, .int .i64 (wrap64 (a1_0 + (a1_1.size : Int))), .agg #[.string a1_3, .slice A1_4 l1_4.length c1_4]] rfl (by (try simp only [mT, mC, mN]); first | done | rfl | (simp only [lD, lT]; rfl)) ?_; (with_reducible refine (bureauref04_Splice.calls k a0_0 _ _ l0_1 a1_0 (wrap64 (a1_0 + (a1_1.size : Int))) a1_3 _ _ l1_4 t380 t381 t384 _ ?side1 ?side2 ?side3 ?side4 A5.out).mono ?_); (case side1 => repeat (first | exact (cB_ HR0_1.out HB.out) | (with_reducible refine Kd.C_alloc ?_ _) | (with_reducible refine Kd.C_drewN ?_ _) | (with_reducible refine Kd.C_drew ?_))); (case side2 => exact HC0_1.out); (case side3 => repeat (first | exact (cB_ HR1_4.out HB.out) | (with_reducible refine Kd.C_alloc ?_ _) | (with_reducible refine Kd.C_drewN ?_ _) | (with_reducible refine Kd.C_drew ?_))); (case side4 => exact HC1_4.out); rintro e w17 ⟨v382, rfl, ho0, hb⟩; refine ⟨_, rfl, ?_⟩; have n0_ := aM (rL ho0 (bZ (by repeat (first | (with_reducible first | exact HB.out | apply ea | apply en | apply ed | refine es ?_ GE376.out | refine es ?_ GE377.out | refine es ?_ GE378.out) | exact HB.out)))); have n1_ := aM (bB (g := gb376) (qy BK376.out) hb); have n2_ := aM (bB (g := gb377) (qy BK377.out) hb); have n3_ := aM (bB (g := gb378) (qy BK378.out) hb); have n4_ := aM (bP (by repeat (first | (with_reducible first | exact HB.out | apply ea | apply en | apply ed | refine es ?_ GE376.out | refine es ?_ GE377.out | refine es ?_ GE378.out) | exact HB.out)) hb); clear BK376 BK377 BK378 HB; have HO383 := n0_; have BK376 := n1_; have BK377 := n2_; have BK378 := n3_; have HB := n4_; clear n0_ n1_ n2_ n3_ n4_; (try clear hb); (try clear hb2); (try clear hk); (try clear hi); (try clear ho0); have hcz18_0 := zC BK378.out 0 (.string (⟨#[]⟩ : ByteArray)); have hcz18_1 := zC BK378.out 1 (.slice none 0 0); have hfz18_0 := bF BK378.out 0; have hfz18_1 := bF BK378.out 1; obtain ⟨Ao19, co19, eo19⟩ := Kd.R_slice HO383.out; subst eo19))
  refine bodyPost_ret (results_ct rfl _ _ gb378 32 #[.string t380, .slice Ao19 t381.length co19] (0, 0) _ rfl (by (with_reducible repeat (first | apply qn | apply qd | apply qa)); refine bU (cs := #[.string t380, .slice none 0 0]) ?_ 1 _ rfl; (with_reducible repeat (first | apply qn | apply qd | apply qa)); refine bU (cs := #[.string (⟨#[]⟩ : ByteArray), .slice none 0 0]) ?_ 0 _ rfl; exact qy BK378.out) Try.underlying32 rfl (by kernel_rfl)) rfl ?_
  exact ⟨_, by first | rfl | (simp [errW_none, errW_some] <;> rfl) | (simp [*, errW_none, errW_some] <;> rfl), by (with_reducible repeat (first | apply ra | apply rn | apply rd_)); exact rM (rF (p := ⟨gb378, 1, none⟩) (rF (p := ⟨gb378, 0, none⟩) (rT HO383.out BK378.out (by decide)) (fun _ hk => hk.2) (.string t380)) (fun _ hk => hk.2) (.slice Ao19 t381.length co19)) (fun _ hk => trivial), by repeat (first | (with_reducible first | exact HB.out | apply ea | apply en | apply ed | refine es ?_ GE376.out | refine es ?_ GE377.out | refine es ?_ GE378.out) | exact HB.out)⟩
 ·rw [if_neg c4] at H
  have c4b0 : (t379 == 0) = false := beq_eq_false_iff_ne.mpr c4
  have c4b1 : (t379 != 0) = true := bne_iff_ne.mpr c4
  simp only [Option.some.injEq, Prod.mk.injEq] at H
  obtain ⟨rfl, rfl, rfl⟩ := H
  go_enter Try.func27, Try.ntmps27
  go_wp2_with (first | ((with_reducible refine gate_dst (N := 2) rfl ?_); refine box_event ?hg (N := 2) ?hd (cs := #[.string a0_0, .slice A0_1 l0_1.length c0_1]) (t := 32) ?hr ?_; (case hd | hg => rfl); (case hr => first | (go_simp; done) | (go_simp; rfl)); intro gb376 hg w20 hbox hb; have n0_ := aM (bP (ey HB.out) hb); have n1_ := aM (hbox); have n2_ := aM ((by rw [hg]; exact (bZ (ey HB.out)) : w.heap.size ≤ gb376)); have n3_ := n2_; clear HB; have HB := n0_; have BK376 := n1_; have GW376 := n2_; have GE376 := n3_; clear n0_ n1_ n2_ n3_; clear hb hbox hg) | ((with_reducible refine gate_dst (N := 3) rfl ?_); refine box_event ?hg (N := 3) ?hd (cs := #[.int .i64 a1_0, .string a1_1, .slice A1_2 l1_2.length c1_2, .string a1_3, .slice A1_4 l1_4.length c1_4]) (t := 34) ?hr ?_; (case hd | hg => rfl); (case hr => first | (go_simp; done) | (go_simp; rfl)); intro gb377 hg w21 hbox hb; have n0_ := aM (bB (g := gb376) (qy BK376.out) hb); have n1_ := aM (bP (by repeat (first | (with_reducible first | exact HB.out | apply ea | apply en | apply ed | refine es ?_ GE376.out) | exact HB.out)) hb); have n2_ := aM (hbox); have n3_ := aM ((by rw [hg]; exact (bZ (by repeat (first | (with_reducible first | exact HB.out | apply ea | apply en | apply ed | refine es ?_ GE376.out) | exact HB.out))) : w.heap.size ≤ gb377)); have n4_ := n3_; have n5_ := aM ((by rw [hg]; exact Nat.ne_of_lt (blk_lt (g := gb376) (qy BK376.out)) : gb376 ≠ gb377)); have n6_ := aM ((by rw [hg]; exact Nat.ne_of_gt (blk_lt (g := gb376) (qy BK376.out)) : gb377 ≠ gb376)); clear BK376 HB; have BK376 := n0_; have HB := n1_; have BK377 := n2_; have GW377 := n3_; have GE377 := n4_; have NB376_377 := n5_; have NB377_376 := n6_; clear n0_ n1_ n2_ n3_ n4_ n5_ n6_; clear hb hbox hg) | ((with_reducible refine gate_dst (N := 4) rfl ?_); refine box_event ?hg (N := 4) ?hd (cs := #[.string (⟨#[]⟩ : ByteArray), .slice none 0 0]) (t := 32) ?hr ?_; (case hd | hg => rfl); (case hr => first | (go_simp; done) | (go_simp; rfl)); intro gb378 hg w22 hbox hb; have n0_ := aM (bB (g := gb376) (qy BK376.out) hb); have n1_ := aM (bB (g := gb377) (qy BK377.out) hb); have n2_ := aM (bP (by repeat (first | (with_reducible first | exact HB.out | apply ea | apply en | apply ed | refine es ?_ GE376.out | refine es ?_ GE377.out) | exact HB.out)) hb); have n3_ := aM (hbox); have n4_ := aM ((by rw [hg]; exact (bZ (by repeat (first | (with_reducible first | exact HB.out | apply ea | apply en | apply ed | refine es ?_ GE376.out | refine es ?_ GE377.out) | exact HB.out))) : w.heap.size ≤ gb378)); have n5_ := n4_; have n6_ := aM ((by rw [hg]; exact Nat.ne_of_lt (blk_lt (g := gb376) (qy BK376.out)) : gb376 ≠ gb378)); have n7_ := aM ((by rw [hg]; exact Nat.ne_of_gt (blk_lt (g := gb376) (qy BK376.out)) : gb378 ≠ gb376)); have n8_ := aM ((by rw [hg]; exact Nat.ne_of_lt (blk_lt (g := gb377) (qy BK377.out)) : gb377 ≠ gb378)); have n9_ := aM ((by rw [hg]; exact Nat.ne_of_gt (blk_lt (g := gb377) (qy BK377.out)) : gb378 ≠ gb377)); clear BK376 BK377 HB; have BK376 := n0_; have BK377 := n1_; have HB := n2_; have BK378 := n3_; have GW378 := n4_; have GE378 := n5_; have NB376_378 := n6_; have NB378_376 := n7_; have NB377_378 := n8_; have NB378_377 := n9_; clear n0_ n1_ n2_ n3_ n4_ n5_ n6_ n7_ n8_ n9_; clear hb hbox hg; have hnb23 := NB376_377.out; have hnc23 := NB377_376.out; have hnb24 := NB376_378.out; have hnc24 := NB378_376.out; have hcz25_0 := zC BK376.out 0 (.string a0_0); have hcz25_1 := zC BK376.out 1 (.slice A0_1 l0_1.length c0_1); have hfz25_0 := bF BK376.out 0; have hfz25_1 := bF BK376.out 1; have hnb26 := NB377_378.out; have hnc26 := NB378_377.out; have hcz27_0 := zC BK377.out 0 (.int .i64 a1_0); have hcz27_1 := zC BK377.out 1 (.string a1_1); have hcz27_2 := zC BK377.out 2 (.slice A1_2 l1_2.length c1_2); have hcz27_3 := zC BK377.out 3 (.string a1_3); have hcz27_4 := zC BK377.out 4 (.slice A1_4 l1_4.length c1_4); have hfz27_0 := bF BK377.out 0; have hfz27_1 := bF BK377.out 1; have hfz27_2 := bF BK377.out 2; have hfz27_3 := bF BK377.out 3; have hfz27_4 := bF BK377.out 4) | ((with_reducible refine gate_callee (f := 44) rfl ?_); refine goesL_ (some 9) rfl rfl Try.func44 (by kernel_rfl) rfl #[.agg #[.string a0_0, .slice A0_1 l0_1.length c0_1], .agg #[.int .i64 a1_0, .string a1_1, .slice A1_2 l1_2.length c1_2, .string a1_3, .slice A1_4 l1_4.length c1_4]] rfl (by (try simp only [mT, mC, mN]); first | done | rfl | (simp only [lD, lT]; rfl)) ?_; (with_reducible refine (bureauref07_Check.calls k a0_0 _ _ l0_1 a1_0 a1_1 _ _ l1_2 a1_3 _ _ l1_4 t379 _ ?side1 ?side2 ?side3 ?side4 ?side5 ?side6 A3.out).mono ?_); (case side1 => repeat (first | exact (cB_ HR0_1.out HB.out) | (with_reducible refine Kd.C_alloc ?_ _) | (with_reducible refine Kd.C_drewN ?_ _) | (with_reducible refine Kd.C_drew ?_))); (case side2 => exact HC0_1.out); (case side3 => repeat (first | exact (cB_ HR1_2.out HB.out) | (with_reducible refine Kd.C_alloc ?_ _) | (with_reducible refine Kd.C_drewN ?_ _) | (with_reducible refine Kd.C_drew ?_))); (case side4 => exact HC1_2.out); (case side5 => repeat (first | exact (cB_ HR1_4.out HB.out) | (with_reducible refine Kd.C_alloc ?_ _) | (with_reducible refine Kd.C_drewN ?_ _) | (with_reducible refine Kd.C_drew ?_))); (case side6 => exact HC1_4.out); rintro e w28 ⟨rfl, hb⟩; refine ⟨_, rfl, ?_⟩; have n0_ := aM (bB (g := gb376) (qy BK376.out) hb); have n1_ := aM (bB (g := gb377) (qy BK377.out) hb); have n2_ := aM (bB (g := gb378) (qy BK378.out) hb); have n3_ := aM (bP (by repeat (first | (with_reducible first | exact HB.out | apply ea | apply en | apply ed | refine es ?_ GE376.out | refine es ?_ GE377.out | refine es ?_ GE378.out) | exact HB.out)) hb); clear BK376 BK377 BK378 HB; have BK376 := n0_; have BK377 := n1_; have BK378 := n2_; have HB := n3_; clear n0_ n1_ n2_ n3_; (try clear hb); (try clear hb2); (try clear hk); (try clear hi); have hcz29_0 := zC BK378.out 0 (.string (⟨#[]⟩ : ByteArray)); have hcz29_1 := zC BK378.out 1 (.slice none 0 0); have hfz29_0 := bF BK378.out 0; have hfz29_1 := bF BK378.out 1))
  refine bodyPost_ret (results_ct rfl _ _ gb378 32 #[.string (⟨#[]⟩ : ByteArray), .slice none 0 0] (0, 0) _ rfl (by (with_reducible repeat (first | apply qn | apply qd | apply qa)); refine bU (cs := #[.string (⟨#[]⟩ : ByteArray), .slice none 0 0]) ?_ 1 _ rfl; (with_reducible repeat (first | apply qn | apply qd | apply qa)); refine bU (cs := #[.string (⟨#[]⟩ : ByteArray), .slice none 0 0]) ?_ 0 _ rfl; exact qy BK378.out) Try.underlying32 rfl (by kernel_rfl)) rfl ?_
  exact ⟨_, by first | rfl | (simp [errW_none, errW_some] <;> rfl) | (simp [*, errW_none, errW_some] <;> rfl), by first | exact Kd.R_nil _ _ _ _ _ | exact Kd.N_nil _ _ _ _ _ | exact Kd.V_nil _ _ _ _ _ | exact Kd.Q_nil _ _ _ _ _ | exact Kd.S_nil _ _ _ _ _, by repeat (first | (with_reducible first | exact HB.out | apply ea | apply en | apply ed | refine es ?_ GE376.out | refine es ?_ GE377.out | refine es ?_ GE378.out) | exact HB.out)⟩
end Go.Proofs.Ytbbgpfjeobdogaa.PB
end

section
namespace Go.Proofs.Ytbbgpfjeobdogaa.PB
open Go.RowKit Go.Maps Go.Proofs.YtbbgpfjeobdogaaW.PrintWords
set_option linter.unusedVariables false
set_option linter.unusedSimpArgs false
abbrev Tt := S32
def apT (t : Tt) (e : Ed) : TX := applyT t.f0 t.f1 e.f0 e.f1.f0 e.f1.f1 e.f2.f0 e.f2.f1
def rapT (t : Tt) (e : Ed) : TX :=
  if goodEd e = true ∧ ¬ ((t.f0.size : Int) - e.f0 < (e.f1.f0.size : Int)) then
    (if sameT (cutS t.f0 t.f1 e.f0 (e.f0 + (e.f1.f0.size : Int))).1 (cutS t.f0 t.f1 e.f0 (e.f0 + (e.f1.f0.size : Int))).2.1 e.f1.f0 e.f1.f1 = true then
      (if (t.f0.size : Int) - (e.f1.f0.size : Int) + (e.f2.f0.size : Int) > 4096 then (⟨#[]⟩, [], 3) else spliceT t.f0 t.f1 e.f0 (e.f0 + (e.f1.f0.size : Int)) e.f2.f0 e.f2.f1)
    else (⟨#[]⟩, [], 7))
  else (⟨#[]⟩, [], 2)
theorem rapply_ev (t : Tt) (e : Ed) (ht : goodT t.f0 t.f1 = true) (htl : t.f1.length ≤ big) (he : e.f1.f1.length ≤ big ∧ e.f2.f1.length ≤ big) : Ev (fun k => bureauref07_Apply.f k t.f0 t.f1 e.f0 e.f1.f0 e.f1.f1 e.f2.f0 e.f2.f1) (rapT t e) := by
  have hck : Ev (fun k => bureauref07_Check.f k t.f0 t.f1 e.f0 e.f1.f0 e.f1.f1 e.f2.f0 e.f2.f1) (if goodEd e = true ∧ ¬ ((t.f0.size : Int) - e.f0 < (e.f1.f0.size : Int)) then (if sameT (cutS t.f0 t.f1 e.f0 (e.f0 + (e.f1.f0.size : Int))).1 (cutS t.f0 t.f1 e.f0 (e.f0 + (e.f1.f0.size : Int))).2.1 e.f1.f0 e.f1.f1 = true then (if (t.f0.size : Int) - (e.f1.f0.size : Int) + (e.f2.f0.size : Int) > 4096 then 3 else 0) else 7) else 2) := by
    obtain ⟨_, _, _, t4, _⟩ := goodT_facts ht
    unfold bureauref07_Check.f
    refine Ev.bind (rgoodT_ev _ _ htl) (Ev.pos ht ?_)
    refine Ev.bind (rgoodE_ev e.f0 e.f1.f0 e.f1.f1 e.f2.f0 e.f2.f1 he.1 he.2) ?_
    by_cases hg : goodEd e = true
    · obtain ⟨g1, g2, g3, g4⟩ := goodE_iff.1 hg
      obtain ⟨_, _, _, o4, _⟩ := goodT_facts g1
      obtain ⟨_, _, _, n4, _⟩ := goodT_facts g2
      refine Ev.pos hg ?_
      rw [show wrap64 ((t.f0.size : Int) - e.f0) = (t.f0.size : Int) - e.f0 by unfold wrap64; omega]
      refine Ev.step (fun k => by simp only [bureauref07_Check.j0]; rfl) ?_
      by_cases hs : (t.f0.size : Int) - e.f0 < (e.f1.f0.size : Int)
      · refine Ev.pos (decide_eq_true hs) (ev_val (Ev.now _) ?_)
        rw [if_neg (fun h => h.2 hs)]
      · refine Ev.neg (by simpa using hs) ?_
        rw [show wrap64 (e.f0 + (e.f1.f0.size : Int)) = e.f0 + (e.f1.f0.size : Int) by unfold wrap64; omega]
        refine Ev.bind (rcut_ev _ _ htl _ _) (Ev.bind (rsame4_ev _ _ _ _ (len_big (cutS_len _ _ _ _))) ?_)
        by_cases h : sameT (cutS t.f0 t.f1 e.f0 (e.f0 + (e.f1.f0.size : Int))).1 (cutS t.f0 t.f1 e.f0 (e.f0 + (e.f1.f0.size : Int))).2.1 e.f1.f0 e.f1.f1 = true
        · refine Ev.pos h ?_
          rw [show wrap64 (wrap64 ((t.f0.size : Int) - (e.f1.f0.size : Int)) + (e.f2.f0.size : Int)) = (t.f0.size : Int) - (e.f1.f0.size : Int) + (e.f2.f0.size : Int) by
            rw [show wrap64 ((t.f0.size : Int) - (e.f1.f0.size : Int)) = (t.f0.size : Int) - (e.f1.f0.size : Int) by unfold wrap64; omega]; unfold wrap64; omega]
          by_cases hb : (t.f0.size : Int) - (e.f1.f0.size : Int) + (e.f2.f0.size : Int) > 4096
          · refine Ev.pos hb (ev_val (Ev.now _) ?_)
            rw [if_pos ⟨hg, hs⟩, if_pos h, if_pos hb]
          · refine Ev.neg hb (ev_val (Ev.now _) ?_)
            rw [if_pos ⟨hg, hs⟩, if_pos h, if_neg hb]
        · refine Ev.neg h (ev_val (Ev.now _) ?_)
          rw [if_pos ⟨hg, hs⟩, if_neg h]
    · refine Ev.neg hg (Ev.step (fun k => by simp only [bureauref07_Check.j0]; rfl) (Ev.pos (show true = true from rfl) (ev_val (Ev.now _) ?_)))
      rw [if_neg (fun h => hg h.1)]
  unfold bureauref07_Apply.f rapT
  refine Ev.bind hck ?_
  by_cases hg : goodEd e = true ∧ ¬ ((t.f0.size : Int) - e.f0 < (e.f1.f0.size : Int))
  · rw [if_pos hg, if_pos hg]
    by_cases hs : sameT (cutS t.f0 t.f1 e.f0 (e.f0 + (e.f1.f0.size : Int))).1 (cutS t.f0 t.f1 e.f0 (e.f0 + (e.f1.f0.size : Int))).2.1 e.f1.f0 e.f1.f1 = true
    · rw [if_pos hs, if_pos hs]
      by_cases hb : (t.f0.size : Int) - (e.f1.f0.size : Int) + (e.f2.f0.size : Int) > 4096
      · rw [if_pos hb, if_pos hb]
        exact Ev.neg (by decide) (Ev.now _)
      · rw [if_neg hb, if_neg hb]
        obtain ⟨g1, g2, g3, g4⟩ := goodE_iff.1 hg.1
        obtain ⟨_, _, _, o4, _⟩ := goodT_facts g1
        rw [show wrap64 (e.f0 + (e.f1.f0.size : Int)) = e.f0 + (e.f1.f0.size : Int) by unfold wrap64; omega]
        exact Ev.pos rfl (Ev.bind (rsplice4_ev _ _ htl _ _ _ _ he.2) (Ev.now _))
    · rw [if_neg hs, if_neg hs]
      exact Ev.neg (by decide) (Ev.now _)
  · rw [if_neg hg, if_neg hg]
    exact Ev.neg (by decide) (Ev.now _)
theorem rap_of {t : Tt} {e : Ed} (h : (apT t e).2.2 = 0) : rapT t e = apT t e := by
  unfold apT at h ⊢
  obtain ⟨P, Q, X, Z, ha, hs, hl, hX, hZ, hg, h1, h2, hr⟩ := applyT_ok h
  obtain ⟨g1, g2, g3, g4⟩ := goodE_iff.1 hg
  obtain ⟨_, _, o3, _, _⟩ := goodT_facts g1
  obtain ⟨_, _, n3, _, _⟩ := goodT_facts g2
  rw [hr]
  unfold rapT
  have hsz : t.f0.size = P.size + e.f1.f0.size + Q.size := by rw [hs, ByteArray.size_append, ByteArray.size_append]
  have hc := cutS_mid P e.f1.f0 Q X (bytes e.f1.f1) Z hX o3 hZ h1
  have hsp := spliceT_mid P e.f1.f0 Q e.f2.f0 X (bytes e.f1.f1) Z (bytes e.f2.f1) hX o3 hZ n3 h1 h2
  rw [← good_pack_bytes g2] at hsp
  rw [if_pos ⟨hg, by omega⟩, ha, hs, hl, hc, ← good_pack_bytes g1, if_pos (sameT_self _ _), if_neg (by rw [← hs]; omega), hsp]
theorem ap_of_rap {t : Tt} {e : Ed} (ht : goodT t.f0 t.f1 = true) (h : (rapT t e).2.2 = 0) : (apT t e).2.2 = 0 := by
  unfold rapT at h
  by_cases hg : goodEd e = true ∧ ¬ ((t.f0.size : Int) - e.f0 < (e.f1.f0.size : Int))
  case neg => rw [if_neg hg] at h; exact absurd h (by decide)
  rw [if_pos hg] at h
  by_cases hs : sameT (cutS t.f0 t.f1 e.f0 (e.f0 + (e.f1.f0.size : Int))).1 (cutS t.f0 t.f1 e.f0 (e.f0 + (e.f1.f0.size : Int))).2.1 e.f1.f0 e.f1.f1 = true
  case neg => rw [if_neg hs] at h; exact absurd h (by decide)
  rw [if_pos hs] at h
  by_cases hb : (t.f0.size : Int) - (e.f1.f0.size : Int) + (e.f2.f0.size : Int) > 4096
  case pos => rw [if_pos hb] at h; exact absurd h (by decide)
  rw [if_neg hb] at h
  obtain ⟨g1, g2, g3, g4⟩ := goodE_iff.1 hg.1
  have hw : withinT t.f0 t.f1 e.f0 (e.f0 + (e.f1.f0.size : Int)) = true := withinT_iff.2 ⟨ht, g3, by omega, by have := hg.2; omega⟩
  have hg1 : goodE e.f0 e.f1.f0 e.f1.f1 e.f2.f0 e.f2.f1 = true := hg.1
  unfold apT applyT
  rw [if_pos hg1]
  have hcut : (cutS t.f0 t.f1 e.f0 (e.f0 + (e.f1.f0.size : Int))).2.2 = 0 := by unfold cutS; rw [if_pos hw]
  rw [if_pos hcut, if_pos hs]
  exact h
theorem ap_back {t u : Tt} {e : Ed} (h : apT t e = (u.f0, u.f1, 0)) : apT u (invE e) = (t.f0, t.f1, 0) := by
  have h0 : (applyT t.f0 t.f1 e.f0 e.f1.f0 e.f1.f1 e.f2.f0 e.f2.f1).2.2 = 0 := by
    show (apT t e).2.2 = 0
    rw [h]
  obtain ⟨P, Q, X, Z, ha, hs, hl, hX, hZ, hg, h1, h2, hr⟩ := applyT_ok h0
  obtain ⟨g1, g2, g3, g4⟩ := goodE_iff.1 hg
  obtain ⟨_, _, o3, _, _⟩ := goodT_facts g1
  obtain ⟨_, _, n3, _, _⟩ := goodT_facts g2
  have h' : (u.f0, u.f1, (0 : Int)) = (P ++ e.f2.f0 ++ Q, pack (X ++ bytes e.f2.f1 ++ Z), 0) := h.symm.trans hr
  have e1 : u.f0 = P ++ e.f2.f0 ++ Q := (Prod.mk.injEq _ _ _ _ ▸ h').1
  have e2 : u.f1 = pack (X ++ bytes e.f2.f1 ++ Z) := by injection h' with _ h'; injection h'
  have hm := applyT_mid P e.f2.f0 Q e.f1.f0 X (bytes e.f2.f1) Z (bytes e.f1.f1) hX n3 hZ o3 h2 h1
  rw [← good_pack_bytes g1, ← good_pack_bytes g2] at hm
  show applyT u.f0 u.f1 e.f0 e.f2.f0 e.f2.f1 e.f1.f0 e.f1.f1 = _
  rw [e1, e2, ha, hm, hs, hl]
theorem ap_good {t : Tt} {e : Ed} {u : Tt} (h : apT t e = (u.f0, u.f1, 0)) : goodEd e = true ∧ goodT t.f0 t.f1 = true ∧ goodT u.f0 u.f1 = true := by
  have h0 : (applyT t.f0 t.f1 e.f0 e.f1.f0 e.f1.f1 e.f2.f0 e.f2.f1).2.2 = 0 := by
    show (apT t e).2.2 = 0
    rw [h]
  obtain ⟨P, Q, X, Z, ha, hs, hl, hX, hZ, hg, h1, h2, hr⟩ := applyT_ok h0
  obtain ⟨g1, g2, g3, g4⟩ := goodE_iff.1 hg
  obtain ⟨_, _, o3, _, _⟩ := goodT_facts g1
  obtain ⟨_, _, n3, _, _⟩ := goodT_facts g2
  have h' : (u.f0, u.f1, (0 : Int)) = (P ++ e.f2.f0 ++ Q, pack (X ++ bytes e.f2.f1 ++ Z), 0) := h.symm.trans hr
  have e1 : u.f0 = P ++ e.f2.f0 ++ Q := by injection h'
  have e2 : u.f1 = pack (X ++ bytes e.f2.f1 ++ Z) := by injection h' with _ h'; injection h'
  refine ⟨hg, ?_, ?_⟩
  · rw [hs, hl]
    exact goodT_pack (by rw [ByteArray.size_append, ByteArray.size_append, List.length_append, List.length_append]; omega) (by rw [ByteArray.size_append, ByteArray.size_append]; omega)
  · rw [e1, e2]
    exact goodT_pack (by rw [ByteArray.size_append, ByteArray.size_append, List.length_append, List.length_append]; omega) (by rw [ByteArray.size_append, ByteArray.size_append]; omega)
end Go.Proofs.Ytbbgpfjeobdogaa.PB
end

section
namespace Go.Proofs.Ytbbgpfjeobdogaa.PB
open Go.RowKit Go.Maps Go.Proofs.YtbbgpfjeobdogaaW.PrintWords
set_option linter.unusedVariables false
set_option linter.unusedSimpArgs false
def tAt (T : List Tt) (n : Int) : Tt := T.getD n.toNat z32
theorem tAt_old {T : List Tt} {u : Tt} {n : Int} (h0 : 0 ≤ n) (h : n < T.length) : tAt (T ++ [u]) n = tAt T n := by
  unfold tAt
  rw [List.getD_eq_getElem?_getD, List.getD_eq_getElem?_getD, List.getElem?_append_left (by omega)]
theorem tAt_new {T : List Tt} {u : Tt} {n : Int} (h : n = T.length) : tAt (T ++ [u]) n = u := by
  unfold tAt
  subst h
  rw [Int.toNat_natCast, List.getD_eq_getElem?_getD, List.getElem?_append_right (Nat.le_refl _)]
  simp
def onWay (L : List St) (n q : Int) : Prop := ∃ k, q ∈ upL L k n
theorem onWay_self {L : List St} {n : Int} (h : 0 ≤ n) : onWay L n n := ⟨1, by unfold upL; rw [if_neg (by omega)]; exact List.mem_cons_self⟩
theorem onWay_up {L : List St} {now next : Int} (h : Wf L now next) {x : St} (hx : x ∈ L) {q : Int} : onWay L x.f0 q ↔ q = x.f0 ∨ onWay L x.f1 q := by
  constructor
  · rintro ⟨k, hk⟩
    cases k with
    | zero => simp [upL] at hk
    | succ k =>
      rw [up_step h hx k] at hk
      rcases List.mem_cons.1 hk with h | h
      · exact .inl h
      · exact .inr ⟨k, h⟩
  · rintro (rfl | ⟨k, hk⟩)
    · exact onWay_self (h.low x hx).1
    · exact ⟨k + 1, by rw [up_step h hx k]; exact List.mem_cons_of_mem _ hk⟩
theorem onWay_le {L : List St} {now next : Int} (h : Wf L now next) {x : St} (hx : x ∈ L) {q : Int} (hq : onWay L x.f0 q) : q ≤ x.f0 ∧ ∃ z ∈ L, z.f0 = q := by
  obtain ⟨k, hk⟩ := hq
  exact (up_sorted h k x hx).2 q hk
structure Txs (L : List St) (now next depth : Int) (T : List Tt) : Prop where
  inv : Inv L now next depth
  len : (T.length : Int) = next
  good : ∀ u ∈ T, goodT u.f0 u.f1 = true
  edge : ∀ x ∈ L, 0 ≤ x.f1 → apT (tAt T x.f1) x.f2 = ((tAt T x.f0).f0, (tAt T x.f0).f1, 0)
  young : ∀ q, onWay L now q → ∀ x ∈ L, x.f0 = q → 0 ≤ x.f1 → ∀ y ∈ L, y.f1 = x.f1 → y.f0 ≤ x.f0
section
variable {L : List St} {now next depth : Int} {T : List Tt}
theorem Txs.tgood (h : Txs L now next depth T) {n : Int} (h0 : 0 ≤ n) (h1 : n < next) : goodT (tAt T n).f0 (tAt T n).f1 = true := by
  have hl := h.len
  have : tAt T n ∈ T := by
    unfold tAt
    rw [List.getD_eq_getElem?_getD, List.getElem?_eq_getElem (by omega), Option.getD_some]
    exact List.getElem_mem _
  exact h.good _ this
theorem Txs.undo (h : Txs L now next depth T) {x : St} (hx : x ∈ L) (hn : x.f0 = now) (h1 : 0 ≤ x.f1) : Txs L x.f1 next depth T ∧ undoNow L now = x.f1 ∧ redoL L x.f1 = some x ∧ apT (tAt T now) (invE x.f2) = ((tAt T x.f1).f0, (tAt T x.f1).f1, 0) := by
  have hu : undoNow L now = x.f1 := by rw [undoNow_of h.inv.wf hx hn, if_neg (by omega)]
  refine ⟨⟨by have := h.inv.undo; rwa [hu] at this, h.len, h.good, h.edge, fun q hq => h.young q (by rw [← hn]; exact (onWay_up h.inv.wf hx).2 (.inr hq))⟩, hu, ?_, ?_⟩
  · obtain ⟨i, hi, he⟩ := List.mem_iff_getElem.1 hx
    have := redoL_hit (L := L) (now := x.f1) hi (by rw [he]) (fun j hj hij e => by
      have h2 := List.pairwise_iff_getElem.1 h.inv.wf.inc i j hi hj hij
      have h3 := h.young now (by rw [← hn]; exact onWay_self (h.inv.wf.low x hx).1) x hx hn h1 _ (List.getElem_mem hj) e
      rw [he] at h2
      omega)
    rw [he] at this
    exact this
  · rw [← hn]
    exact ap_back (h.edge x hx h1)
theorem redoL_max (hs : L.Pairwise (fun x y => x.f0 < y.f0)) {y : St} (h : redoL L now = some y) {z : St} (hz : z ∈ L) (he : z.f1 = now) : z.f0 ≤ y.f0 := by
  unfold redoL at h
  obtain ⟨_, as', bs, e, hno⟩ := List.find?_eq_some_iff_append.1 h
  have hz' : z ∈ as' ++ y :: bs := by rw [← e]; exact List.mem_reverse.2 hz
  have hp : (as' ++ y :: bs).Pairwise (fun x y => y.f0 < x.f0) := by rw [← e]; exact List.pairwise_reverse.2 hs
  rcases List.mem_append.1 hz' with h1 | h1
  · have := hno z h1
    simp [he] at this
  · rcases List.mem_cons.1 h1 with rfl | h1
    · exact Int.le_refl _
    · have := List.rel_of_pairwise_cons (List.pairwise_append.1 hp).2.1 h1
      omega
theorem Txs.redo (h : Txs L now next depth T) {y : St} (hr : redoL L now = some y) : Txs L y.f0 next depth T ∧ redoNow L now = y.f0 ∧ apT (tAt T now) y.f2 = ((tAt T y.f0).f0, (tAt T y.f0).f1, 0) ∧ 0 ≤ y.f0 ∧ y.f0 < next := by
  obtain ⟨hy, hy1⟩ := redoL_in hr
  have hrn : redoNow L now = y.f0 := by unfold redoNow; rw [hr]; rfl
  obtain ⟨x, hx, hn⟩ := h.inv.wf.now
  have hl := h.inv.wf.low x hx
  have hly := h.inv.wf.low y hy
  refine ⟨⟨by have := h.inv.redo; rwa [hrn] at this, h.len, h.good, h.edge, fun q hq z hz hzq h1 u hu he => ?_⟩, hrn, ?_, hly.1, hly.2.1⟩
  · rcases (onWay_up h.inv.wf hy).1 hq with rfl | hq
    · have := same_of h.inv.wf.inc hz hy hzq
      subst this
      exact redoL_max h.inv.wf.inc hr hu (by rw [he, hy1])
    · rw [hy1] at hq
      exact h.young q hq z hz hzq h1 u hu he
  · rw [← hy1]
    exact h.edge y hy (by omega)
theorem up_app {x : St} (h : Wf L now next) (hx : x.f0 = next) : ∀ (k : Nat) (y : St), y ∈ L → upL (L ++ [x]) k y.f0 = upL L k y.f0
  | 0, y, hy => rfl
  | k + 1, y, hy => by
    have hl := h.low y hy
    have hf : (L ++ [x]).find? (fun z => z.f0 == y.f0) = some y := by rw [List.find?_append, find_mem h.inc hy]; rfl
    have e1 : upL (L ++ [x]) (k + 1) y.f0 = y.f0 :: upL (L ++ [x]) k y.f1 := by
      rw [upL, if_neg (by omega), hf]
      rfl
    rw [up_step h hy k, e1]
    rcases h.up y hy with hn | ⟨z, hz, he⟩
    · rw [up_none _ _ hn, up_none _ _ hn]
    · rw [← he, up_app h hx k z hz]
theorem onWay_below {q : Int} (h : Wf L now next) {y0 : St} (hy0 : y0 ∈ L) (hq : y0.f0 = q) (hw : Wf (belowL q L) now next) : ∀ (k : Nat) (x : St), x ∈ belowL q L → ∀ p ∈ upL (belowL q L) k x.f0, onWay L x.f0 p
  | 0, x, hx, p, hp => by simp [upL] at hp
  | k + 1, x, hx, p, hp => by
    have hmem := (rootL_mem (h.inc.sublist (keepL_sub q L)) (keepL_root hy0 hq) hq x).1 hx
    rw [up_step hw hx k] at hp
    rcases List.mem_cons.1 hp with rfl | hp
    · exact onWay_self (hw.low x hx).1
    · rcases hmem with rfl | ⟨h1, h2⟩
      · rw [up_none _ _ (show (-1 : Int) < 0 by decide)] at hp
        cases hp
      · have hxL := (keepL_sub q L).subset h1
        rcases hw.up x hx with hn | ⟨y, hy, he⟩
        · rw [up_none _ _ hn] at hp; cases hp
        · rw [← he] at hp
          exact (onWay_up h hxL).2 (.inr (he ▸ onWay_below h hy0 hq hw k y hy p hp))
theorem Txs.add (h : Txs L now next depth T) (hn : next + 1 ≤ 1000) {e : Ed} (he : e.f1.f1.length ≤ 100000 ∧ e.f2.f1.length ≤ 100000) {u : Tt} (ha : apT (tAt T now) e = (u.f0, u.f1, 0)) : Txs (addL e L now next depth) next (next + 1) depth (T ++ [u]) := by
  have hi2 := add_inv h.inv hn he
  obtain ⟨x0, hx0, hn0⟩ := h.inv.wf.now
  have hl0 := h.inv.wf.low x0 hx0
  have hd1 := h.inv.d1
  have hd2 := h.inv.d2
  have hcap := h.inv.cap
  have hlen := h.len
  have hw := wf_add h.inv.wf hn (by omega) he
  have hedge : ∀ x ∈ L ++ [(⟨next, now, e⟩ : St)], 0 ≤ x.f1 → apT (tAt (T ++ [u]) x.f1) x.f2 = ((tAt (T ++ [u]) x.f0).f0, (tAt (T ++ [u]) x.f0).f1, 0) := by
    intro x hx h1
    rcases List.mem_append.1 hx with hx | hx
    · have hl := h.inv.wf.low x hx
      rw [tAt_old h1 (by omega), tAt_old hl.1 (by omega)]
      exact h.edge x hx h1
    · obtain rfl := List.mem_singleton.1 hx
      show apT (tAt (T ++ [u]) now) e = ((tAt (T ++ [u]) next).f0, (tAt (T ++ [u]) next).f1, 0)
      rw [tAt_old (by omega) (by omega), tAt_new hlen.symm]
      exact ha
  have hyoung : ∀ q, onWay (L ++ [(⟨next, now, e⟩ : St)]) next q → ∀ x ∈ L ++ [(⟨next, now, e⟩ : St)], x.f0 = q → 0 ≤ x.f1 → ∀ y ∈ L ++ [(⟨next, now, e⟩ : St)], y.f1 = x.f1 → y.f0 ≤ x.f0 := by
    intro q hq x hx hxq h1 y hy hyx
    have hnew : (⟨next, now, e⟩ : St) ∈ L ++ [(⟨next, now, e⟩ : St)] := List.mem_append.2 (.inr List.mem_cons_self)
    rcases (onWay_up hw hnew).1 hq with hqn | hq
    · rw [hxq, hqn]
      have := hw.low y hy
      show y.f0 ≤ next
      omega
    · have hq' : onWay L now q := by
        obtain ⟨k, hk⟩ := hq
        refine ⟨k, ?_⟩
        have := up_app (x := (⟨next, now, e⟩ : St)) h.inv.wf rfl k x0 hx0
        rw [hn0] at this
        rw [← this]
        exact hk
      have hqle := (onWay_le h.inv.wf hx0 (hn0 ▸ hq')).1
      rcases List.mem_append.1 hx with hx | hx
      · rcases List.mem_append.1 hy with hy | hy
        · exact h.young q hq' x hx hxq h1 y hy hyx
        · obtain rfl := List.mem_singleton.1 hy
          have hl := h.inv.wf.low x hx
          have : now = x.f1 := hyx
          omega
      · obtain rfl := List.mem_singleton.1 hx
        have : next = q := hxq
        omega
  have hgood : ∀ v ∈ T ++ [u], goodT v.f0 v.f1 = true := by
    intro v hv
    rcases List.mem_append.1 hv with hv | hv
    · exact h.good v hv
    · obtain rfl := List.mem_singleton.1 hv
      exact (ap_good ha).2.2
  refine ⟨hi2, by rw [List.length_append, List.length_singleton]; omega, hgood, ?_, ?_⟩
  · unfold addL
    split
    case isFalse => exact hedge
    case isTrue ht =>
      obtain ⟨q, y0, hq, _, hy0, hyq, hk, hlt⟩ := path_two hw (List.mem_append.2 (.inr List.mem_cons_self)) rfl (show 0 ≤ now by omega)
      rw [hq]
      intro x hx h1
      rcases (rootL_mem (hw.inc.sublist (keepL_sub q _)) (keepL_root hy0 hyq) hyq x).1 hx with rfl | ⟨h2, _⟩
      · exact absurd h1 (by show ¬ (0 : Int) ≤ -1; omega)
      · exact hedge x ((keepL_sub q _).subset h2) h1
  · have hi3 := hi2
    unfold addL at hi3 ⊢
    split
    case isFalse => exact hyoung
    case isTrue ht =>
      rw [if_pos ht] at hi3
      obtain ⟨q, y0, hq, _, hy0, hyq, hk, hlt⟩ := path_two hw (List.mem_append.2 (.inr List.mem_cons_self)) rfl (show 0 ≤ now by omega)
      rw [hq] at hi3 ⊢
      have hmem := fun x => rootL_mem (hw.inc.sublist (keepL_sub q _)) (keepL_root hy0 hyq) hyq x
      obtain ⟨z0, hz0, hzn⟩ := hi3.wf.now
      intro p hp x hx hxp h1 y hy hyx
      have hp' : onWay (L ++ [(⟨next, now, e⟩ : St)]) next p := by
        obtain ⟨k, hk⟩ := hp
        have h5 := onWay_below hw hy0 hyq hi3.wf k z0 hz0 p (by rw [hzn]; exact hk)
        rw [hzn] at h5
        exact h5
      have hx' : x ∈ L ++ [(⟨next, now, e⟩ : St)] := by
        rcases (hmem x).1 hx with rfl | ⟨h2, _⟩
        · exact absurd h1 (by show ¬ (0 : Int) ≤ -1; omega)
        · exact (keepL_sub q _).subset h2
      have hy' : y ∈ L ++ [(⟨next, now, e⟩ : St)] := by
        rcases (hmem y).1 hy with rfl | ⟨h2, _⟩
        · have : (-1 : Int) = x.f1 := hyx
          omega
        · exact (keepL_sub q _).subset h2
      exact hyoung p hp' x hx' hxp h1 y hy' hyx
end
end Go.Proofs.Ytbbgpfjeobdogaa.PB
end

section
namespace Go.Proofs.Ytbbgpfjeobdogaa.PB
open Go.RowKit Go.Maps Go.Proofs.YtbbgpfjeobdogaaW.PrintWords Go.Proofs.YtbbgpfjeobdogaaW.PrintLast Go.Proofs.YtbbgpfjeobdogaaW.PrintMore
set_option maxRecDepth 100000
set_option linter.unusedVariables false
set_option linter.unusedSimpArgs false
theorem good_len {s : ByteArray} {l : List S71} (h : goodT s l = true) : l.length ≤ 4096 := by
  obtain ⟨_, _, h3, h4, _⟩ := goodT_facts h
  have := pack_len (bytes l)
  rw [← good_pack_bytes h] at this
  omega
structure TxIn (w : World) (ok : Nat → Prop) (t : Tt) (A : Option Addr) (c : Nat) : Prop where
  f : Kd.F k71 w ok A t.f1.length t.f1
  g : t.f1.length ≤ c
theorem TxIn.turn {B : Nat} {S ok : Nat → Prop} {w W : World} {t : Tt} {A : Option Addr} {c : Nat} (h : TxIn w ok t A c) (ht : Turn B S w W) (hok : ∀ k, ok k → ¬ S k) : TxIn W ok t A c := ⟨ht.f h.f hok, h.g⟩
theorem TxIn.below {ok : Nat → Prop} {w W : World} {t : Tt} {A : Option Addr} {c : Nat} (h : TxIn w ok t A c) (hb : Below w.heap.size w W) : TxIn W ok t A c := ⟨Kd.F_below h.f hb, h.g⟩
theorem TxIn.mono {ok ok' : Nat → Prop} {w : World} {t : Tt} {A : Option Addr} {c : Nat} (h : TxIn w ok t A c) (hk : ∀ k, ok k → ok' k) : TxIn w ok' t A c := ⟨Kd.F_mono h.f hk, h.g⟩
abbrev txV (t : Tt) (A : Option Addr) (c : Nat) : Value := .agg #[.string t.f0, .slice A t.f1.length c]
def rapU (t : Tt) (e : Ed) : Tt := ⟨(rapT t e).1, (rapT t e).2.1⟩
theorem rapply_ok {w : World} {ok ok' : Nat → Prop} {t : Tt} {A : Option Addr} {c : Nat} {e : Ed} {A1 A2 : Option Addr} {c1 c2 : Nat} (ht : TxIn w ok t A c) (he : EdIn w ok' e A1 c1 A2 c2) (hg : goodT t.f0 t.f1 = true) :
    Calls Try.prog 27 #[txV t A c, edV e A1 c1 A2 c2] w fun r w' => ∃ A' c', r = .returned (.tuple #[txV (rapU t e) A' c', .int .i64 (rapT t e).2.2]) ∧ TxIn w' (fun k => w.heap.size ≤ k) (rapU t e) A' c' ∧ Below w.heap.size w w' := by
  obtain ⟨k, hk⟩ := (rapply_ev t e hg (Nat.le_trans (good_len hg) (by decide)) ⟨Nat.le_trans he.fit.1 (by decide), Nat.le_trans he.fit.2 (by decide)⟩).rounds
  refine (bureauref07_Apply.calls k t.f0 A c t.f1 e.f0 e.f1.f0 A1 c1 e.f1.f1 e.f2.f0 A2 c2 e.f2.f1 (rapT t e).1 (rapT t e).2.1 (rapT t e).2.2 w (Kd.F_now ht.f) ht.g (Kd.F_now he.f1) he.g1 (Kd.F_now he.f2) he.g2 hk).mono ?_
  rintro r w' ⟨v, rfl, ho, hb⟩
  obtain ⟨A', c', e', hl, hF⟩ := Kd.R_V (base' := 0) (rM (ok' := fun k => w.heap.size ≤ k) (Kd.R_bound ho) (fun k hk => hk.2.1))
  subst e'
  exact ⟨A', c', rfl, ⟨hF, hl⟩, hb⟩
theorem same4_ok {w : World} {ok ok' : Nat → Prop} {t : Tt} {A A' : Option Addr} {c c' : Nat} (h : TxIn w ok t A c) (h' : TxIn w ok' t A' c') (hg : goodT t.f0 t.f1 = true) :
    Calls Try.prog 28 #[txV t A c, txV t A' c'] w fun r w' => r = .returned (.bool true) ∧ Below w.heap.size w w' := by
  have h1 := rsame4_ev t.f0 t.f1 t.f0 t.f1 (Nat.le_trans (good_len hg) (by decide))
  rw [sameT_self] at h1
  obtain ⟨k, hk⟩ := h1.rounds
  exact bureauref04_Same.calls k t.f0 A c t.f1 t.f0 A' c' t.f1 true w (Kd.F_now h.f) h.g (Kd.F_now h'.f) h'.g hk
theorem good4_ok {w : World} {ok : Nat → Prop} {t : Tt} {A : Option Addr} {c : Nat} (h : TxIn w ok t A c) (hl : t.f1.length ≤ 5000) :
    Calls Try.prog 26 #[txV t A c] w fun r w' => r = .returned (.bool (goodT t.f0 t.f1)) ∧ Below w.heap.size w w' := by
  obtain ⟨k, hk⟩ := (rgoodT_ev t.f0 t.f1 (Nat.le_trans hl (by decide))).rounds
  exact bureauref04_Good.calls k t.f0 A c t.f1 _ w (Kd.F_now h.f) h.g hk
theorem undo_yes {B : Nat} {S : Nat → Prop} {g bm : Nat} {w : World} {L : List St} {now next depth : Int} (h : HistAt B S g bm w L now next depth) (hw : Wf L now next) {x : St} (hx : x ∈ L) (hn : x.f0 = now) (h1 : 0 ≤ x.f1) :
    Calls Try.prog 12 #[.pointer (some ⟨g, 0, none⟩)] w fun e w' => ∃ A2 c2 A4 c4, e = .returned (.tuple #[edV (invE x.f2) A2 c2 A4 c4, .int .i64 0]) ∧ EdIn w' (fun k => w.heap.size ≤ k) (invE x.f2) A2 c2 A4 c4 ∧ HistAt B S g bm w' L x.f1 next depth ∧ Turn B (hb g bm) w w' := by
  refine (undo_ok h hw hx hn).mono ?_
  have hng : ¬ x.f1 < 0 := by omega
  rintro e w' ⟨v, rfl, ⟨cs, rfl, hf⟩, hh, ht⟩
  rw [if_neg hng] at hh hf
  obtain ⟨A2, c2, A4, c4, rfl, hE⟩ := ed_in hf (by have := hw.fit x hx; exact ⟨this.2, this.1⟩)
  exact ⟨A2, c2, A4, c4, by rw [if_neg hng], hE, hh, ht⟩
theorem undo_no {B : Nat} {S : Nat → Prop} {g bm : Nat} {w : World} {L : List St} {now next depth : Int} (h : HistAt B S g bm w L now next depth) (hw : Wf L now next) {x : St} (hx : x ∈ L) (hn : x.f0 = now) (h1 : x.f1 < 0) :
    Calls Try.prog 12 #[.pointer (some ⟨g, 0, none⟩)] w fun e w' => ∃ A2 c2 A4 c4, e = .returned (.tuple #[edV z34 A2 c2 A4 c4, .int .i64 6]) ∧ HistAt B S g bm w' L now next depth ∧ Turn B (hb g bm) w w' := by
  refine (undo_ok h hw hx hn).mono ?_
  rintro e w' ⟨v, rfl, ⟨cs, rfl, hf⟩, hh, ht⟩
  rw [if_pos h1] at hh hf
  obtain ⟨A2, c2, A4, c4, rfl, hE⟩ := ed_in hf ⟨Nat.zero_le _, Nat.zero_le _⟩
  exact ⟨A2, c2, A4, c4, by rw [if_pos h1], hh, ht⟩
theorem redo_yes {B : Nat} {S : Nat → Prop} {g bm : Nat} {w : World} {L : List St} {now next depth : Int} (h : HistAt B S g bm w L now next depth) (hw : Wf L now next) {y : St} (hr : redoL L now = some y) :
    Calls Try.prog 15 #[.pointer (some ⟨g, 0, none⟩)] w fun e w' => ∃ A2 c2 A4 c4, e = .returned (.tuple #[edV y.f2 A2 c2 A4 c4, .int .i64 0]) ∧ EdIn w' (fun k => w.heap.size ≤ k) y.f2 A2 c2 A4 c4 ∧ HistAt B S g bm w' L y.f0 next depth ∧ Turn B (hb g bm) w w' := by
  have h1 : redoEd L now = y.f2 := by unfold redoEd; rw [hr]; rfl
  have h2 : redoNow L now = y.f0 := by unfold redoNow; rw [hr]; rfl
  have h3 : redoCode L now = 0 := by unfold redoCode; rw [hr]; rfl
  have := redo_both h hw
  rw [h1, h2, h3] at this
  exact this
theorem redo_no {B : Nat} {S : Nat → Prop} {g bm : Nat} {w : World} {L : List St} {now next depth : Int} (h : HistAt B S g bm w L now next depth) (hw : Wf L now next) (hr : redoL L now = none) :
    Calls Try.prog 15 #[.pointer (some ⟨g, 0, none⟩)] w fun e w' => ∃ A2 c2 A4 c4, e = .returned (.tuple #[edV z34 A2 c2 A4 c4, .int .i64 6]) ∧ HistAt B S g bm w' L now next depth ∧ Turn B (hb g bm) w w' := by
  have h1 : redoEd L now = z34 := by unfold redoEd; rw [hr]; rfl
  have h2 : redoNow L now = now := by unfold redoNow; rw [hr]; rfl
  have h3 : redoCode L now = 6 := by unfold redoCode; rw [hr]; rfl
  have := redo_both h hw
  rw [h1, h2, h3] at this
  refine this.mono ?_
  rintro e w' ⟨A2, c2, A4, c4, rfl, _, hh, ht⟩
  exact ⟨A2, c2, A4, c4, rfl, hh, ht⟩
abbrev kTx := k32
structure Bq (g bm g8 : Nat) (S : Nat → Prop) (w : World) (s : Hs) (depth : Int) (T : List Tt) (A : Option Addr) (c : Nat) (v : Value) (W : World) : Prop where
  hist : HistAt w.heap.size S g bm W s.L s.now s.next depth
  sub : ∀ k, s6 g bm g8 k → S k
  own : ∀ k, v.ownBlock = some k → S k
  lo : ∀ k, S k → w.heap.size ≤ k
  lt : ∀ k, S k → k < W.heap.size
  txs : Txs s.L s.now s.next depth T
  box : W.heap[g8]? = some (.cells #[.string (tAt T s.now).f0, .slice A (tAt T s.now).f1.length c] 32 (0, 0))
  text : TxIn W (fun k => ¬ S k) (tAt T s.now) A c
  row : Kd.N kTx 32 W w.heap.size (okQ g bm g8) v T
  below : Below w.heap.size w W
section
variable {g bm g8 : Nat} {S : Nat → Prop} {w W W2 : World} {s s' : Hs} {depth : Int} {T : List Tt} {A : Option Addr} {c : Nat} {v : Value}
theorem Bq.later (h : Bq g bm g8 S w s depth T A c v W) (hb : Below W.heap.size W W2) : Bq g bm g8 S w s depth T A c v W2 :=
  ⟨h.hist.below hb, h.sub, h.own, h.lo, fun k hk => Nat.lt_of_lt_of_le (h.lt k hk) hb.size, h.txs, bB h.box hb, h.text.below hb, Kd.N_below h.row hb, h.below.trans (hb.mono h.below.size)⟩
theorem hb_s6 {k : Nat} (h : hb g bm k) : s6 g bm g8 k := by rcases h with e | e; exact .inl e; exact .inr (.inl e)
theorem Bq.step (h : Bq g bm g8 S w s depth T A c v W) (hn : g8 ≠ g ∧ g8 ≠ bm) (hh : HistAt w.heap.size S g bm W2 s'.L s'.now s'.next depth) (ht : Turn w.heap.size (hb g bm) W W2) :
    W2.heap[g8]? = some (.cells #[.string (tAt T s.now).f0, .slice A (tAt T s.now).f1.length c] 32 (0, 0)) ∧ TxIn W2 (fun k => ¬ S k) (tAt T s.now) A c ∧ Kd.N kTx 32 W2 w.heap.size (okQ g bm g8) v T ∧ Below w.heap.size w W2 :=
  ⟨ht.blk h.box (fun e => by rcases e with e | e; exact hn.1 e; exact hn.2 e), h.text.turn ht (fun k hk e => hk (h.sub k (hb_s6 e))), Kd.N_kept h.row ht.kept (fun k hk e => hk (hb_s6 e)), h.below.trans ht.bel⟩
end
def bureaulaw08_HistTexts.f (k : Nat) (depth : Int) (a1_0 : ByteArray) (l1_1 : List S71) (l : List Ac) : Option Bool := if (∀ x ∈ l, 0 ≤ x.f0 ∧ x.f0 < 256) then some true else none
end Go.Proofs.Ytbbgpfjeobdogaa.PB
end

section
namespace Go.Proofs.Ytbbgpfjeobdogaa.PB
open Go.RowKit Go.Maps Go.Proofs.YtbbgpfjeobdogaaW.PrintWords Go.Proofs.YtbbgpfjeobdogaaW.PrintLast Go.Proofs.YtbbgpfjeobdogaaW.PrintMore
set_option maxRecDepth 100000
set_option linter.unusedVariables false
set_option linter.unusedSimpArgs false
theorem blks5 {g t : Nat} {w : World} {u0 u1 u2 u3 u4 : Value} (h : w.heap[g]? = some (.cells #[u0, u1, u2, u3, u4] t (0, 0))) (v0 v1 v2 v3 v4 : Value) : (((((w.setCell ⟨g, 0, none⟩ v0).setCell ⟨g, 1, none⟩ v1).setCell ⟨g, 2, none⟩ v2).setCell ⟨g, 3, none⟩ v3).setCell ⟨g, 4, none⟩ v4).heap[g]? = some (.cells #[v0, v1, v2, v3, v4] t (0, 0)) := (bU (cs' := #[v0, v1, v2, v3, v4]) (bU (cs' := #[v0, v1, v2, v3, u4]) (bU (cs' := #[v0, v1, v2, u3, u4]) (bU (cs' := #[v0, v1, u2, u3, u4]) (bU (cs' := #[v0, u1, u2, u3, u4]) h 0 v0 rfl) 1 v1 rfl) 2 v2 rfl) 3 v3 rfl) 4 v4 rfl)
theorem set7 {g : Nat} {w0 w : World} (h : Below w0.heap.size w0 w) (hg : w0.heap.size ≤ g) (v0 v1 v2 v3 v4 v5 v6 : Value) : Below w0.heap.size w0 (((((((w.setCell ⟨g, 0, none⟩ v0).setCell ⟨g, 1, none⟩ v1).setCell ⟨g, 2, none⟩ v2).setCell ⟨g, 3, none⟩ v3).setCell ⟨g, 4, none⟩ v4).setCell ⟨g, 5, none⟩ v5).setCell ⟨g, 6, none⟩ v6) := (below_set (below_set (below_set (below_set (below_set (below_set (below_set h hg) hg) hg) hg) hg) hg) hg)
theorem blks7 {g t : Nat} {w : World} {u0 u1 u2 u3 u4 u5 u6 : Value} (h : w.heap[g]? = some (.cells #[u0, u1, u2, u3, u4, u5, u6] t (0, 0))) (v0 v1 v2 v3 v4 v5 v6 : Value) : (((((((w.setCell ⟨g, 0, none⟩ v0).setCell ⟨g, 1, none⟩ v1).setCell ⟨g, 2, none⟩ v2).setCell ⟨g, 3, none⟩ v3).setCell ⟨g, 4, none⟩ v4).setCell ⟨g, 5, none⟩ v5).setCell ⟨g, 6, none⟩ v6).heap[g]? = some (.cells #[v0, v1, v2, v3, v4, v5, v6] t (0, 0)) := (bU (cs' := #[v0, v1, v2, v3, v4, v5, v6]) (bU (cs' := #[v0, v1, v2, v3, v4, v5, u6]) (bU (cs' := #[v0, v1, v2, v3, v4, u5, u6]) (bU (cs' := #[v0, v1, v2, v3, u4, u5, u6]) (bU (cs' := #[v0, v1, v2, u3, u4, u5, u6]) (bU (cs' := #[v0, v1, u2, u3, u4, u5, u6]) (bU (cs' := #[v0, u1, u2, u3, u4, u5, u6]) h 0 v0 rfl) 1 v1 rfl) 2 v2 rfl) 3 v3 rfl) 4 v4 rfl) 5 v5 rfl) 6 v6 rfl)
theorem okQ_new {g bm g6 N k : Nat} (h1 : g < N) (h2 : bm < N) (h3 : g6 < N) (hk : N ≤ k) : okQ g bm g6 k := fun e => by rcases e with rfl | rfl | rfl <;> omega
end Go.Proofs.Ytbbgpfjeobdogaa.PB
end

section
namespace Go.Proofs.Ytbbgpfjeobdogaa.PB
open Go.RowKit Go.Maps Go.Proofs.YtbbgpfjeobdogaaW.PrintWords Go.Proofs.YtbbgpfjeobdogaaW.PrintLast Go.Proofs.YtbbgpfjeobdogaaW.PrintMore
set_option maxRecDepth 100000
set_option linter.unusedVariables false
set_option linter.unusedSimpArgs false
theorem set2 {g : Nat} {w0 w : World} (h : Below w0.heap.size w0 w) (hg : w0.heap.size ≤ g) (v0 v1 : Value) : Below w0.heap.size w0 ((w.setCell ⟨g, 0, none⟩ v0).setCell ⟨g, 1, none⟩ v1) := (below_set (below_set h hg) hg)
theorem blks2 {g t : Nat} {w : World} {u0 u1 : Value} (h : w.heap[g]? = some (.cells #[u0, u1] t (0, 0))) (v0 v1 : Value) : ((w.setCell ⟨g, 0, none⟩ v0).setCell ⟨g, 1, none⟩ v1).heap[g]? = some (.cells #[v0, v1] t (0, 0)) := (bU (cs' := #[v0, v1]) (bU (cs' := #[v0, u1]) h 0 v0 rfl) 1 v1 rfl)
theorem turn2 (g8 : Nat) (w : World) (v0 v1 : Value) : Turn 0 (fun k => k = g8) w ((w.setCell ⟨g8, 0, none⟩ v0).setCell ⟨g8, 1, none⟩ v1) :=
  ((Turn.refl 0 (fun k => k = g8) w).set (p := ⟨g8, 0, none⟩) (.inl rfl) (Nat.zero_le _) v0).set (p := ⟨g8, 1, none⟩) (.inl rfl) (Nat.zero_le _) v1
theorem N_lit1 {α : Type} {d : Kd α} {e base : Nat} {x : α} {cs : List Value} {ok okp : Nat → Prop} {W w1 : World} {v1 : Value} (hR : (Kd.raw d.sz).R e w1 base ok v1 [cs]) (hg : W.grownBy w1 none) (hat : ∃ b, v1.ownBlock = some b ∧ W.heap.size ≤ b) (hf : Kd.FK d W okp x cs) (hok : ∀ k, okp k → ok k) : Kd.N d e w1 base ok v1 [x] := by
  obtain ⟨b, hb, hle⟩ := hat
  refine ⟨fun k hk => hR.1 k hk, [cs], rfl, Kd.raw_tight hR, fun j x' c hx hc => ?_⟩
  cases j with
  | succ j => simp at hx
  | zero =>
    simp only [List.getElem?_cons_zero, Option.some.injEq] at hx hc
    subst hx
    subst hc
    refine Kd.FK_mono (Kd.FK_step (Kd.FK_bound hf) (fun k hk hlt => hg.block k hlt (by simp))) (fun k hk => ⟨hok k hk.1, fun he => ?_⟩)
    rw [hb] at he
    injection he with he
    have := hk.2
    omega
theorem txs0 {f : Tt} {depth : Int} (hg : goodT f.f0 f.f1 = true) (hi : Inv [st0] 0 1 depth) : Txs [st0] 0 1 depth [f] :=
  ⟨hi, rfl, fun u hu => by obtain rfl := List.mem_singleton.1 hu; exact hg, fun x hx h => by obtain rfl := List.mem_singleton.1 hx; exact absurd h (by decide), fun q _ x hx _ h => by obtain rfl := List.mem_singleton.1 hx; exact absurd h (by decide)⟩
theorem Bq.start {g bm g8 : Nat} {w w3 W w5 : World} {depth : Int} {f : Tt} {Af : Option Addr} {cf : Nat} {v : Value} (hh : HistAt w.heap.size (fun k => k = g ∨ k = bm) g bm w3 [st0] 0 1 depth) (hs : Below w3.heap.size w3 W) (hx : W.heap[g8]? = some (.cells #[.string f.f0, .slice Af f.f1.length cf] 32 (0, 0))) (hbW : Below w.heap.size w W) (ht : TxIn w (fun k => k < w.heap.size) f Af cf) (hN : Kd.N kTx 32 w5 w.heap.size (okQ g bm g8) v [f]) (hg : W.grownBy w5 none) (hat : ∃ b, v.ownBlock = some b ∧ W.heap.size ≤ b) (hb : Below w.heap.size w w5) (hge : w3.heap.size ≤ g8) (hgf : goodT f.f0 f.f1 = true) (hi : Inv [st0] 0 1 depth) :
    Bq g bm g8 (fun k => s6 g bm g8 k ∨ some k = v.ownBlock) w ⟨[st0], 0, 1⟩ depth [f] Af cf v w5 := by
  obtain ⟨b, hvb, hle⟩ := hat
  have hT : Turn 0 (fun _ => False) W w5 := (Turn.refl 0 (fun _ => False) W).grown hg (fun k hk => by cases hk) (Nat.zero_le _)
  have hl := hh.lt
  have hg1 := hh.bg
  have hg2 := hh.bb
  have hsz := hs.size
  have hx8 := blk_lt hx
  have hw5 := hT.size
  have hwW := hbW.size
  have hbl := Kd.N_lt hN b hvb
  have hlo : ∀ k, (s6 g bm g8 k ∨ some k = v.ownBlock) → w.heap.size ≤ k ∧ k < w5.heap.size := by
    rintro k ((rfl | rfl | rfl) | e)
    · omega
    · omega
    · omega
    · rw [hvb] at e; injection e with e; omega
  refine ⟨((hh.grow (S' := fun k => s6 g bm g8 k ∨ some k = v.ownBlock) (fun k hk => .inl (hb_s6 hk)) (fun k hk => ?_)).below hs).turn hT (fun h => h) (fun h => h) (fun _ h => h.elim), fun k hk => .inl hk, fun k hk => .inr hk.symm, fun k hk => (hlo k hk).1, fun k hk => (hlo k hk).2, txs0 hgf hi, (hg.block g8 hx8 (by simp)).trans hx, ?_, hN, hb⟩
  · rcases hk with (rfl | rfl | rfl) | e
    · exact .inl (.inl rfl)
    · exact .inl (.inr rfl)
    · exact .inr hge
    · rw [hvb] at e; injection e with e; right; omega
  · exact ((ht.below hb).mono (fun k hk e => by have := (hlo k e).1; omega))
theorem rapply_to {w : World} {ok ok' : Nat → Prop} {t u : Tt} {A : Option Addr} {c : Nat} {e : Ed} {A1 A2 : Option Addr} {c1 c2 : Nat} (ht : TxIn w ok t A c) (he : EdIn w ok' e A1 c1 A2 c2) (hg : goodT t.f0 t.f1 = true) (ha : apT t e = (u.f0, u.f1, 0)) :
    Calls Try.prog 27 #[txV t A c, edV e A1 c1 A2 c2] w fun r w' => ∃ A' c', r = .returned (.tuple #[txV u A' c', .int .i64 0]) ∧ TxIn w' (fun k => w.heap.size ≤ k) u A' c' ∧ Below w.heap.size w w' := by
  have h := rapply_ok ht he hg
  have hr : rapT t e = (u.f0, u.f1, 0) := by rw [rap_of (by rw [ha]), ha]
  rw [show rapU t e = u from by unfold rapU; rw [hr], hr] at h
  exact h
theorem text_at {w : World} {B : Nat} {ok : Nat → Prop} {A : Option Addr} {n c : Nat} {T : List Tt} (h : Kd.N kTx 32 w B ok (.slice A n c) T) {m : Int} (h0 : 0 ≤ m) (h1 : m < T.length) : ∃ ad A1 c1, A = some ad ∧ w.cell? (ad.add (m.toNat * 2)) = some (.string (tAt T m).f0) ∧ w.cell? ⟨(ad.add (m.toNat * 2)).block, (ad.add (m.toNat * 2)).off + 1, none⟩ = some (.slice A1 (tAt T m).f1.length c1) ∧ TxIn w (fun k => k < w.heap.size) (tAt T m) A1 c1 := by
  obtain ⟨hn, hc, hC⟩ := Kd.N_reads' h
  obtain ⟨ad, A1, c1, rfl, g0, g1, g2, g3⟩ := at_T32 hC m h0 h1
  exact ⟨ad, A1, c1, rfl, g0, g1, ⟨Kd.C_F k71_heap g3, g2⟩⟩
theorem infoTx : (Try.prog.info? 32).map (fun i => (i.zero, i.size, i.bytes)) = some (some (.agg #[(.string ⟨#[]⟩), (.slice none 0 0)]), 2, 40) := by kernel_rfl
theorem Bq.app {g bm g8 N9 : Nat} {S : Nat → Prop} {w w13 w14 : World} {L : List St} {now next depth : Int} {v v14 : Value} {T : List Tt} {u : Tt} {A' : Option Addr} {c' : Nat} {cs : Array Value} (hh : HistAt w.heap.size S g bm w13 L now next depth) (hsub : ∀ k, s6 g bm g8 k → S k) (hown : ∀ k, v.ownBlock = some k → S k) (hlo : ∀ k, S k → w.heap.size ≤ k) (hlt : ∀ k, S k → k < N9) (hN9 : N9 ≤ w13.heap.size) (hx : w13.heap[g8]? = some (.cells cs 32 (0, 0))) (hrow : Kd.N kTx 32 w13 w.heap.size (okQ g bm g8) v T) (hu : TxIn w13 (fun k => N9 ≤ k) u A' c') (hO : Kd.N kTx 32 w14 w.heap.size (okQ g bm g8) v14 (T ++ [u])) (hg : w13.grownBy w14 v.ownBlock) (hat : v14.ownBlock = v.ownBlock ∨ ∃ b, v14.ownBlock = some b ∧ w13.heap.size ≤ b) (hb : Below w.heap.size w w14) :
    HistAt w.heap.size (fun k => S k ∨ some k = v14.ownBlock) g bm w14 L now next depth ∧ w14.heap[g8]? = some (.cells cs 32 (0, 0)) ∧ (∀ k, s6 g bm g8 k → S k ∨ some k = v14.ownBlock) ∧ (∀ k, v14.ownBlock = some k → S k ∨ some k = v14.ownBlock) ∧ (∀ k, (S k ∨ some k = v14.ownBlock) → w.heap.size ≤ k) ∧ (∀ k, (S k ∨ some k = v14.ownBlock) → k < w14.heap.size) ∧ TxIn w14 (fun k => ¬ (S k ∨ some k = v14.ownBlock)) u A' c' := by
  have hT : Turn 0 (fun k => v.ownBlock = some k) w13 w14 := (Turn.refl 0 _ w13).grown hg (fun k hk => ⟨.inl hk, Nat.zero_le _⟩) (Nat.zero_le _)
  have hs14 := hT.size
  have hne8 : some g8 ≠ v.ownBlock := fun e => hrow.1 g8 e.symm (.inr (.inr rfl))
  have hnew : ∀ k, some k = v14.ownBlock → S k ∨ w13.heap.size ≤ k := fun k hk => by
    rcases hat with h | ⟨b, h, hle⟩
    · exact .inl (hown k (by rw [← h]; exact hk.symm))
    · rw [h] at hk; injection hk with hk; right; omega
  refine ⟨(hh.grow (S' := fun k => S k ∨ some k = v14.ownBlock) (fun k hk => .inl hk) (fun k hk => by rcases hk with hk | hk; exact .inl hk; exact hnew k hk)).turn hT (fun e => hrow.1 g e (.inl rfl)) (fun e => hrow.1 bm e (.inr (.inl rfl))) (fun k hk => .inl (hown k hk)), (hg.block g8 (blk_lt hx) hne8).trans hx, fun k hk => .inl (hsub k hk), fun k hk => .inr hk.symm, fun k hk => ?_, fun k hk => ?_, ?_⟩
  · rcases hk with hk | hk
    · exact hlo k hk
    · exact Kd.N_base hO k hk.symm
  · rcases hk with hk | hk
    · have := hlt k hk; omega
    · exact Kd.N_lt hO k hk.symm
  · have h1 := (TxIn.mk (Kd.F_bound hu.f) hu.g : TxIn w13 (fun k => N9 ≤ k ∧ k < w13.heap.size) u A' c')
    refine (h1.turn hT (fun k hk e => by have := hlt k (hown k e); omega)).mono (fun k hk e => ?_)
    rcases e with e | e
    · have := hlt k e; omega
    · rcases hnew k e with h | h
      · have := hlt k h; omega
      · omega
theorem Bq.mk2 {g bm g8 : Nat} {w W : World} {s : Hs} {depth : Int} {T : List Tt} {A : Option Addr} {c : Nat} {v : Value} {S : Nat → Prop} {u0 u1 : Value} (hh : HistAt w.heap.size S g bm W s.L s.now s.next depth) (hsub : ∀ k, s6 g bm g8 k → S k) (hown : ∀ k, v.ownBlock = some k → S k) (hlo : ∀ k, S k → w.heap.size ≤ k) (hlt : ∀ k, S k → k < W.heap.size) (hx : Txs s.L s.now s.next depth T) (hb8 : W.heap[g8]? = some (.cells #[u0, u1] 32 (0, 0))) (ht : TxIn W (fun k => ¬ S k) (tAt T s.now) A c) (hr : Kd.N kTx 32 W w.heap.size (okQ g bm g8) v T) (hb : Below w.heap.size w W) (hg : w.heap.size ≤ g8) (hn : g8 ≠ g ∧ g8 ≠ bm) :
    Bq g bm g8 S w s depth T A c v ((W.setCell ⟨g8, 0, none⟩ (.string (tAt T s.now).f0)).setCell ⟨g8, 1, none⟩ (.slice A (tAt T s.now).f1.length c)) :=
  ⟨hh.turn (turn2 g8 W _ _) (fun e => hn.1 e.symm) (fun e => hn.2 e.symm) (fun k hk => hsub k (.inr (.inr hk))), hsub, hown, hlo, fun k hk => Nat.lt_of_lt_of_le (hlt k hk) (turn2 g8 W _ _).size, hx, blks2 hb8 _ _, ht.turn (turn2 g8 W _ _) (fun k hk e => hk (hsub k (.inr (.inr e)))), Kd.N_kept hr (turn2 g8 W _ _).kept (fun k hk e => hk (.inr (.inr e))), set2 hb hg _ _⟩
structure Rq (g bm g8 : Nat) (S ok : Nat → Prop) (w : World) (s : Hs) (depth : Int) (t : Tt) (T : List Tt) (A : Option Addr) (c : Nat) (v : Value) (W : World) : Prop where
  hist : HistAt w.heap.size S g bm W s.L s.now s.next depth
  sub : ∀ k, s6 g bm g8 k → S k
  own : ∀ k, v.ownBlock = some k → S k
  lo : ∀ k, S k → w.heap.size ≤ k
  lt : ∀ k, S k → k < W.heap.size
  box : W.heap[g8]? = some (.cells #[.string t.f0, .slice A t.f1.length c] 32 (0, 0))
  text : TxIn W (fun k => ¬ S k) t A c
  row : Kd.N kTx 32 W w.heap.size ok v T
  below : Below w.heap.size w W
structure Tq (g bm g8 g18 : Nat) (S : Nat → Prop) (w : World) (s : Hs) (depth : Int) (T : List Tt) (A : Option Addr) (c : Nat) (v u0 u1 : Value) (W : World) : Prop where
  hist : HistAt w.heap.size S g bm W s.L s.now s.next depth
  sub : ∀ k, s6 g bm g8 k → S k
  own : ∀ k, v.ownBlock = some k → S k
  lo : ∀ k, S k → w.heap.size ≤ k
  lt : ∀ k, S k → k < W.heap.size
  txs : Txs s.L s.now s.next depth T
  box : W.heap[g8]? = some (.cells #[u0, u1] 32 (0, 0))
  text : TxIn W (fun k => ¬ S k) (tAt T s.now) A c
  row : Kd.N kTx 32 W w.heap.size (okQ g bm g8) v T
  below : Below w.heap.size w W
  b18 : W.heap[g18]? = some (.cells #[.string (tAt T s.now).f0, .slice A (tAt T s.now).f1.length c] 32 (0, 0))
  ne : g8 ≠ g18
section
variable {g bm g8 g16 g18 : Nat} {S ok : Nat → Prop} {w W W1 W2 : World} {s s' : Hs} {depth : Int} {t : Tt} {T : List Tt} {A A' : Option Addr} {c c' : Nat} {v u0 u1 : Value}
theorem Bq.rq (h : Bq g bm g8 S w s depth T A c v W) : Rq g bm g8 S (okQ g bm g8) w s depth (tAt T s.now) T A c v W := ⟨h.hist, h.sub, h.own, h.lo, h.lt, h.box, h.text, h.row, h.below⟩
theorem Rq.later (h : Rq g bm g8 S ok w s depth t T A c v W) (hb : Below W.heap.size W W2) : Rq g bm g8 S ok w s depth t T A c v W2 :=
  ⟨h.hist.below hb, h.sub, h.own, h.lo, fun k hk => Nat.lt_of_lt_of_le (h.lt k hk) hb.size, bB h.box hb, h.text.below hb, Kd.N_below h.row hb, h.below.trans (hb.mono h.below.size)⟩
theorem Rq.call (h : Rq g bm g8 S ok w s depth t T A c v W) (hn : g8 ≠ g ∧ g8 ≠ bm) (hok : ∀ k, ok k → okQ g bm g8 k) (hh : HistAt w.heap.size S g bm W2 s'.L s'.now s'.next depth) (ht : Turn w.heap.size (hb g bm) W W2) : Rq g bm g8 S ok w s' depth t T A c v W2 :=
  ⟨hh, h.sub, h.own, h.lo, fun k hk => Nat.lt_of_lt_of_le (h.lt k hk) ht.size, ht.blk h.box (fun e => by rcases e with e | e; exact hn.1 e; exact hn.2 e), h.text.turn ht (fun k hk e => hk (h.sub k (hb_s6 e))), Kd.N_kept h.row ht.kept (fun k hk e => hok k hk (hb_s6 e)), h.below.trans ht.bel⟩
theorem Rq.mono {ok' : Nat → Prop} (h : Rq g bm g8 S ok w s depth t T A c v W) (hok : ∀ k, ok k → ok' k) : Rq g bm g8 S ok' w s depth t T A c v W := ⟨h.hist, h.sub, h.own, h.lo, h.lt, h.box, h.text, Kd.N_mono h.row hok, h.below⟩
theorem Rq.grow16 (h : Rq g bm g8 S ok w s depth t T A c v W) (hb : Below W.heap.size W W2) (h1 : W.heap.size ≤ g16) (h2 : g16 < W2.heap.size) : Rq g bm g8 (fun k => S k ∨ k = g16) (fun k => ok k ∧ k ≠ g16) w s depth t T A c v W2 := by
  have hwW := h.below.size
  refine ⟨(h.hist.grow (fun k hk => .inl hk) (fun k hk => ?_)).below hb, fun k hk => .inl (h.sub k hk), fun k hk => .inl (h.own k hk), fun k hk => ?_, fun k hk => ?_, bB h.box hb, ?_, ?_, h.below.trans (hb.mono h.below.size)⟩
  · rcases hk with hk | hk; exact .inl hk; right; omega
  · rcases hk with hk | hk; exact h.lo k hk; omega
  · rcases hk with hk | hk; exact Nat.lt_of_lt_of_le (h.lt k hk) hb.size; omega
  · have h3 : TxIn W (fun k => (¬ S k) ∧ k < W.heap.size) t A c := ⟨Kd.F_bound h.text.f, h.text.g⟩
    exact (h3.mono (ok' := fun k => ¬ (S k ∨ k = g16)) (fun k hk e => by rcases e with e | e; exact hk.1 e; have := hk.2; omega)).below hb
  · exact Kd.N_below (Kd.N_mono (Kd.N_bound h.row) (fun k hk => ⟨hk.1, fun e => by have := hk.2; omega⟩)) hb
theorem turn5 (b : Nat) (w : World) (v0 v1 v2 v3 v4 : Value) : Turn 0 (fun k => k = b) w (((((w.setCell ⟨b, 0, none⟩ v0).setCell ⟨b, 1, none⟩ v1).setCell ⟨b, 2, none⟩ v2).setCell ⟨b, 3, none⟩ v3).setCell ⟨b, 4, none⟩ v4) :=
  (((((Turn.refl 0 (fun k => k = b) w).set (p := ⟨b, 0, none⟩) (.inl rfl) (Nat.zero_le _) v0).set (p := ⟨b, 1, none⟩) (.inl rfl) (Nat.zero_le _) v1).set (p := ⟨b, 2, none⟩) (.inl rfl) (Nat.zero_le _) v2).set (p := ⟨b, 3, none⟩) (.inl rfl) (Nat.zero_le _) v3).set (p := ⟨b, 4, none⟩) (.inl rfl) (Nat.zero_le _) v4
theorem Rq.put16 (h : Rq g bm g8 S (fun k => ok k ∧ k ≠ g16) w s depth t T A c v W) (hS : S g16) (hn : g16 ≠ g ∧ g16 ≠ bm ∧ g8 ≠ g16) (v0 v1 v2 v3 v4 : Value) : Rq g bm g8 S ok w s depth t T A c v (((((W.setCell ⟨g16, 0, none⟩ v0).setCell ⟨g16, 1, none⟩ v1).setCell ⟨g16, 2, none⟩ v2).setCell ⟨g16, 3, none⟩ v3).setCell ⟨g16, 4, none⟩ v4) := by
  have ht := turn5 g16 W v0 v1 v2 v3 v4
  exact ⟨h.hist.turn ht (fun e => hn.1 e.symm) (fun e => hn.2.1 e.symm) (fun k hk => hk ▸ hS), h.sub, h.own, h.lo, fun k hk => Nat.lt_of_lt_of_le (h.lt k hk) ht.size, ht.blk h.box hn.2.2, h.text.turn ht (fun k hk e => hk (e ▸ hS)), Kd.N_mono (Kd.N_kept h.row ht.kept (fun k hk e => hk.2 e)) (fun k hk => hk.1), set5 h.below (h.lo _ hS) _ _ _ _ _⟩
theorem Rq.bq (h : Rq g bm g8 S (okQ g bm g8) w s depth (tAt T s.now) T A c v W) (hx : Txs s.L s.now s.next depth T) : Bq g bm g8 S w s depth T A c v W := ⟨h.hist, h.sub, h.own, h.lo, h.lt, hx, h.box, h.text, h.row, h.below⟩
theorem Rq.tq (h : Rq g bm g8 S (okQ g bm g8) w s depth t T A c v W1) (hx : Txs s.L s.now s.next depth T) (hb : Below W1.heap.size W1 W2) (ht : TxIn W2 (fun k => W1.heap.size ≤ k) (tAt T s.now) A' c') (h18 : W2.heap[g18]? = some (.cells #[.string (tAt T s.now).f0, .slice A' (tAt T s.now).f1.length c'] 32 (0, 0))) (hne : g8 ≠ g18) : Tq g bm g8 g18 S w s depth T A' c' v (.string t.f0) (.slice A t.f1.length c) W2 :=
  ⟨h.hist.below hb, h.sub, h.own, h.lo, fun k hk => Nat.lt_of_lt_of_le (h.lt k hk) hb.size, hx, bB h.box hb, ht.mono (fun k hk e => by have := h.lt k e; omega), Kd.N_below h.row hb, h.below.trans (hb.mono h.below.size), h18, hne⟩
theorem Tq.later (h : Tq g bm g8 g18 S w s depth T A c v u0 u1 W) (hb : Below W.heap.size W W2) : Tq g bm g8 g18 S w s depth T A c v u0 u1 W2 :=
  ⟨h.hist.below hb, h.sub, h.own, h.lo, fun k hk => Nat.lt_of_lt_of_le (h.lt k hk) hb.size, h.txs, bB h.box hb, h.text.below hb, Kd.N_below h.row hb, h.below.trans (hb.mono h.below.size), bB h.b18 hb, h.ne⟩
end
set_option maxHeartbeats 32000000 in
theorem bureaulaw08_HistTexts.calls (k : Nat) (depth : Int) (a1_0 : ByteArray) (A1_1 : Option Addr) (c1_1 : Nat) (l1_1 : List S71) (A2 : Option Addr) (c2 : Nat) (l : List Ac) (r : Bool) (w : World) (hr1 : Kd.C k71 w A1_1 l1_1.length l1_1) (hc1 : l1_1.length ≤ c1_1) (hr2 : Kd.C k36 w A2 l.length l) (hc2 : l.length ≤ c2) (h : bureaulaw08_HistTexts.f k depth a1_0 l1_1 l = some r) :
    Calls Try.prog 5 #[.int .i64 depth, .agg #[.string a1_0, .slice A1_1 l1_1.length c1_1], .slice A2 l.length c2] w fun e w' => e = .returned (.bool r) ∧ Below w.heap.size w w' := by
  unfold bureaulaw08_HistTexts.f at h
  by_cases hok : ∀ x ∈ l, 0 ≤ x.f0 ∧ x.f0 < 256
  case neg => rw [if_neg hok] at h; cases h
  rw [if_pos hok] at h
  obtain rfl : true = r := Option.some.inj h
  clear h
  have hu36 := Try.underlying36
  have hu34 := Try.underlying34
  have hu32 := Try.underlying32
  obtain ⟨f, hf0, hf1⟩ : ∃ f : Tt, f.f0 = a1_0 ∧ f.f1 = l1_1 := ⟨⟨a1_0, l1_1⟩, rfl, rfl⟩
  subst hf0
  subst hf1
  have HTX := aM (show TxIn w (fun k => k < w.heap.size) f A1_1 c1_1 from ⟨Kd.C_F k71_heap hr1, hc1⟩)
  generalize A1_1 = Af at *
  generalize c1_1 = cf at *
  have HR1 := aM hr2
  have HC1 := aM hc2
  have HOK := aM hok
  clear hr1 hc1 hr2 hc2 hok
  by_cases hd : 1 ≤ depth ∧ depth ≤ 64
  case neg =>
    by_cases hd1 : depth < 1
    · have d1 : decide (depth < 1) = true := decide_eq_true hd1
      go_enter Try.func5, Try.ntmps5
      go_wp2_with (first
        | ((with_reducible refine gate_dst (N := 4) rfl ?_); refine box_event ?hg (N := 4) ?hd (cs := #[.string f.f0, .slice Af f.f1.length cf]) (t := 32) ?hr ?_; (case hd => rfl); (case hg => rfl); (case hr => first | (go_simp; done) | (go_simp; rfl)); intro g4 hg w0 hbox hb; have HB0 := aM hb; have HX0 := aM hbox; have GE0 := aM (Nat.le_of_eq hg.symm); clear hb hbox hg; have hx0 := (bC HX0.out 0).trans (rfl : _ = some (Value.string f.f0)); have hx1 := (bC HX0.out 1).trans (rfl : _ = some (Value.slice Af f.f1.length cf)))
        | ((with_reducible refine gate_callee (f := 8) rfl ?_); refine goesL_ (some 20) rfl rfl Try.func8 (by kernel_rfl) rfl #[] rfl (by (try simp only [List.map_toArray, List.map_cons, List.map_nil]); first | done | rfl) ?_; (with_reducible refine (bureaulaw08_alive.calls true _ rfl).mono ?_); rintro r1 w1 ⟨rfl, hb⟩; refine ⟨_, rfl, ?_⟩; have HB1 := aM (HB0.out.trans (hb.mono HB0.out.size)); have HX1 := aM (bB HX0.out hb); clear hb; clear hx0 hx1; have hx0 := (bC HX1.out 0).trans (rfl : _ = some (Value.string f.f0)); have hx1 := (bC HX1.out 1).trans (rfl : _ = some (Value.slice Af f.f1.length cf)))
        | ((with_reducible refine gate_callee (f := 9) rfl ?_); refine goesL_ (some 23) rfl rfl Try.func9 (by kernel_rfl) rfl #[.int .i64 depth] rfl (by (try simp only [List.map_toArray, List.map_cons, List.map_nil]); first | done | rfl) ?_; (with_reducible refine (new_no depth hd _).mono ?_); rintro r2 w2 ⟨rfl, hw⟩; refine ⟨_, rfl, ?_⟩; subst hw)
        )
      go_ret
      exact ⟨rfl, HB1.out⟩
    · have d1 : decide (depth < 1) = false := decide_eq_false hd1
      have d2 : decide (depth > 64) = true := decide_eq_true (by omega)
      have d3 : decide (64 < depth) = true := decide_eq_true (by omega)
      go_enter Try.func5, Try.ntmps5
      go_wp2_with (first
        | ((with_reducible refine gate_dst (N := 4) rfl ?_); refine box_event ?hg (N := 4) ?hd (cs := #[.string f.f0, .slice Af f.f1.length cf]) (t := 32) ?hr ?_; (case hd => rfl); (case hg => rfl); (case hr => first | (go_simp; done) | (go_simp; rfl)); intro g4 hg w0 hbox hb; have HB0 := aM hb; have HX0 := aM hbox; have GE0 := aM (Nat.le_of_eq hg.symm); clear hb hbox hg; have hx0 := (bC HX0.out 0).trans (rfl : _ = some (Value.string f.f0)); have hx1 := (bC HX0.out 1).trans (rfl : _ = some (Value.slice Af f.f1.length cf)))
        | ((with_reducible refine gate_callee (f := 8) rfl ?_); refine goesL_ (some 20) rfl rfl Try.func8 (by kernel_rfl) rfl #[] rfl (by (try simp only [List.map_toArray, List.map_cons, List.map_nil]); first | done | rfl) ?_; (with_reducible refine (bureaulaw08_alive.calls true _ rfl).mono ?_); rintro r1 w1 ⟨rfl, hb⟩; refine ⟨_, rfl, ?_⟩; have HB1 := aM (HB0.out.trans (hb.mono HB0.out.size)); have HX1 := aM (bB HX0.out hb); clear hb; clear hx0 hx1; have hx0 := (bC HX1.out 0).trans (rfl : _ = some (Value.string f.f0)); have hx1 := (bC HX1.out 1).trans (rfl : _ = some (Value.slice Af f.f1.length cf)))
        | ((with_reducible refine gate_callee (f := 9) rfl ?_); refine goesL_ (some 23) rfl rfl Try.func9 (by kernel_rfl) rfl #[.int .i64 depth] rfl (by (try simp only [List.map_toArray, List.map_cons, List.map_nil]); first | done | rfl) ?_; (with_reducible refine (new_no depth hd _).mono ?_); rintro r2 w2 ⟨rfl, hw⟩; refine ⟨_, rfl, ?_⟩; subst hw)
        )
      go_ret
      exact ⟨rfl, HB1.out⟩
  case pos =>
  have HD := aM hd
  clear hd
  have NEW := aM (new_ok depth HD.out.1 HD.out.2)
  by_cases hs1 : f.f0.size > 5000
  case pos =>
    have d1 : decide ((f.f0.size : Int) > 5000) = true := decide_eq_true (by omega)
    go_enter Try.func5, Try.ntmps5
    go_wp2_with (first
      | ((with_reducible refine gate_dst (N := 4) rfl ?_); refine box_event ?hg (N := 4) ?hd (cs := #[.string f.f0, .slice Af f.f1.length cf]) (t := 32) ?hr ?_; (case hd => rfl); (case hg => rfl); (case hr => first | (go_simp; done) | (go_simp; rfl)); intro g4 hg w0 hbox hb; have HB0 := aM hb; have HX0 := aM hbox; have GE0 := aM (Nat.le_of_eq hg.symm); clear hb hbox hg; have hx0 := (bC HX0.out 0).trans (rfl : _ = some (Value.string f.f0)); have hx1 := (bC HX0.out 1).trans (rfl : _ = some (Value.slice Af f.f1.length cf)))
      | ((with_reducible refine gate_callee (f := 8) rfl ?_); refine goesL_ (some 20) rfl rfl Try.func8 (by kernel_rfl) rfl #[] rfl (by (try simp only [List.map_toArray, List.map_cons, List.map_nil]); first | done | rfl) ?_; (with_reducible refine (bureaulaw08_alive.calls true _ rfl).mono ?_); rintro r1 w1 ⟨rfl, hb⟩; refine ⟨_, rfl, ?_⟩; have HB1 := aM (HB0.out.trans (hb.mono HB0.out.size)); have HX1 := aM (bB HX0.out hb); clear hb; clear hx0 hx1; have hx0 := (bC HX1.out 0).trans (rfl : _ = some (Value.string f.f0)); have hx1 := (bC HX1.out 1).trans (rfl : _ = some (Value.slice Af f.f1.length cf)))
      | ((with_reducible refine gate_callee (f := 9) rfl ?_); refine goesL_ (some 23) rfl rfl Try.func9 (by kernel_rfl) rfl #[.int .i64 depth] rfl (by (try simp only [List.map_toArray, List.map_cons, List.map_nil]); first | done | rfl) ?_; (with_reducible refine (NEW.out _).mono ?_); rintro r2 w2 ⟨g, bm, rfl, hh, hb⟩; refine ⟨_, rfl, ?_⟩; have HB2 := aM (HB1.out.trans (hb.mono HB1.out.size)); have HX2 := aM (bB HX1.out hb); clear hh hb; clear hx0 hx1; have hx0 := (bC HX2.out 0).trans (rfl : _ = some (Value.string f.f0)); have hx1 := (bC HX2.out 1).trans (rfl : _ = some (Value.slice Af f.f1.length cf)))
      )
    go_ret
    exact ⟨rfl, HB2.out⟩
  have d1 : decide ((f.f0.size : Int) > 5000) = false := decide_eq_false (by omega)
  by_cases hs2 : f.f1.length > 5000
  case pos =>
    have d2 : decide ((f.f1.length : Int) > 5000) = true := decide_eq_true (by omega)
    go_enter Try.func5, Try.ntmps5
    go_wp2_with (first
      | ((with_reducible refine gate_dst (N := 4) rfl ?_); refine box_event ?hg (N := 4) ?hd (cs := #[.string f.f0, .slice Af f.f1.length cf]) (t := 32) ?hr ?_; (case hd => rfl); (case hg => rfl); (case hr => first | (go_simp; done) | (go_simp; rfl)); intro g4 hg w0 hbox hb; have HB0 := aM hb; have HX0 := aM hbox; have GE0 := aM (Nat.le_of_eq hg.symm); clear hb hbox hg; have hx0 := (bC HX0.out 0).trans (rfl : _ = some (Value.string f.f0)); have hx1 := (bC HX0.out 1).trans (rfl : _ = some (Value.slice Af f.f1.length cf)))
      | ((with_reducible refine gate_callee (f := 8) rfl ?_); refine goesL_ (some 20) rfl rfl Try.func8 (by kernel_rfl) rfl #[] rfl (by (try simp only [List.map_toArray, List.map_cons, List.map_nil]); first | done | rfl) ?_; (with_reducible refine (bureaulaw08_alive.calls true _ rfl).mono ?_); rintro r1 w1 ⟨rfl, hb⟩; refine ⟨_, rfl, ?_⟩; have HB1 := aM (HB0.out.trans (hb.mono HB0.out.size)); have HX1 := aM (bB HX0.out hb); clear hb; clear hx0 hx1; have hx0 := (bC HX1.out 0).trans (rfl : _ = some (Value.string f.f0)); have hx1 := (bC HX1.out 1).trans (rfl : _ = some (Value.slice Af f.f1.length cf)))
      | ((with_reducible refine gate_callee (f := 9) rfl ?_); refine goesL_ (some 23) rfl rfl Try.func9 (by kernel_rfl) rfl #[.int .i64 depth] rfl (by (try simp only [List.map_toArray, List.map_cons, List.map_nil]); first | done | rfl) ?_; (with_reducible refine (NEW.out _).mono ?_); rintro r2 w2 ⟨g, bm, rfl, hh, hb⟩; refine ⟨_, rfl, ?_⟩; have HB2 := aM (HB1.out.trans (hb.mono HB1.out.size)); have HX2 := aM (bB HX1.out hb); clear hh hb; clear hx0 hx1; have hx0 := (bC HX2.out 0).trans (rfl : _ = some (Value.string f.f0)); have hx1 := (bC HX2.out 1).trans (rfl : _ = some (Value.slice Af f.f1.length cf)))
      )
    go_ret
    exact ⟨rfl, HB2.out⟩
  have d2 : decide ((f.f1.length : Int) > 5000) = false := decide_eq_false (by omega)
  have HS2 := aM (show f.f1.length ≤ 5000 from by omega)
  clear hs1 hs2
  cases hgf : goodT f.f0 f.f1
  case false =>
    have HGF := aM hgf
    clear hgf
    go_enter Try.func5, Try.ntmps5
    go_wp2_with (first
      | ((with_reducible refine gate_dst (N := 4) rfl ?_); refine box_event ?hg (N := 4) ?hd (cs := #[.string f.f0, .slice Af f.f1.length cf]) (t := 32) ?hr ?_; (case hd => rfl); (case hg => rfl); (case hr => first | (go_simp; done) | (go_simp; rfl)); intro g4 hg w0 hbox hb; have HB0 := aM hb; have HX0 := aM hbox; have GE0 := aM (Nat.le_of_eq hg.symm); clear hb hbox hg; have hx0 := (bC HX0.out 0).trans (rfl : _ = some (Value.string f.f0)); have hx1 := (bC HX0.out 1).trans (rfl : _ = some (Value.slice Af f.f1.length cf)))
      | ((with_reducible refine gate_callee (f := 8) rfl ?_); refine goesL_ (some 20) rfl rfl Try.func8 (by kernel_rfl) rfl #[] rfl (by (try simp only [List.map_toArray, List.map_cons, List.map_nil]); first | done | rfl) ?_; (with_reducible refine (bureaulaw08_alive.calls true _ rfl).mono ?_); rintro r1 w1 ⟨rfl, hb⟩; refine ⟨_, rfl, ?_⟩; have HB1 := aM (HB0.out.trans (hb.mono HB0.out.size)); have HX1 := aM (bB HX0.out hb); clear hb; clear hx0 hx1; have hx0 := (bC HX1.out 0).trans (rfl : _ = some (Value.string f.f0)); have hx1 := (bC HX1.out 1).trans (rfl : _ = some (Value.slice Af f.f1.length cf)))
      | ((with_reducible refine gate_callee (f := 9) rfl ?_); refine goesL_ (some 23) rfl rfl Try.func9 (by kernel_rfl) rfl #[.int .i64 depth] rfl (by (try simp only [List.map_toArray, List.map_cons, List.map_nil]); first | done | rfl) ?_; (with_reducible refine (NEW.out _).mono ?_); rintro r2 w2 ⟨g, bm, rfl, hh, hb⟩; refine ⟨_, rfl, ?_⟩; have HB2 := aM (HB1.out.trans (hb.mono HB1.out.size)); have HX2 := aM (bB HX1.out hb); clear hh hb; clear hx0 hx1; have hx0 := (bC HX2.out 0).trans (rfl : _ = some (Value.string f.f0)); have hx1 := (bC HX2.out 1).trans (rfl : _ = some (Value.slice Af f.f1.length cf)))
      | ((with_reducible refine gate_callee (f := 26) rfl ?_); (try (refine gate_guard (by rfl) ?_; dsimp only)); refine goesL_ (some 44) rfl rfl Try.func26 (by kernel_rfl) rfl #[txV f Af cf] rfl (by (try simp only [List.map_toArray, List.map_cons, List.map_nil]); first | done | rfl) ?_; (with_reducible refine (good4_ok (HTX.out.below HB2.out) HS2.out).mono ?_); rw [HGF.out]; rintro r3 w3 ⟨rfl, hb⟩; refine ⟨_, rfl, ?_⟩; have HB3 := aM (HB2.out.trans (hb.mono HB2.out.size)); clear hb)
      )
    go_ret
    exact ⟨rfl, HB3.out⟩
  case true =>
  have HGF := aM hgf
  clear hgf
  go_enter Try.func5, Try.ntmps5
  go_wp2_with (first
    | ((with_reducible refine gate_dst (N := 4) rfl ?_); refine box_event ?hg (N := 4) ?hd (cs := #[.string f.f0, .slice Af f.f1.length cf]) (t := 32) ?hr ?_; (case hd => rfl); (case hg => rfl); (case hr => first | (go_simp; done) | (go_simp; rfl)); intro g4 hg w0 hbox hb; have HB0 := aM hb; have HX0 := aM hbox; have GE0 := aM (Nat.le_of_eq hg.symm); clear hb hbox hg; have hx0 := (bC HX0.out 0).trans (rfl : _ = some (Value.string f.f0)); have hx1 := (bC HX0.out 1).trans (rfl : _ = some (Value.slice Af f.f1.length cf)))
    | ((with_reducible refine gate_callee (f := 8) rfl ?_); refine goesL_ (some 20) rfl rfl Try.func8 (by kernel_rfl) rfl #[] rfl (by (try simp only [List.map_toArray, List.map_cons, List.map_nil]); first | done | rfl) ?_; (with_reducible refine (bureaulaw08_alive.calls true _ rfl).mono ?_); rintro r1 w1 ⟨rfl, hb⟩; refine ⟨_, rfl, ?_⟩; have HB1 := aM (HB0.out.trans (hb.mono HB0.out.size)); have HX1 := aM (bB HX0.out hb); clear hb; clear hx0 hx1; have hx0 := (bC HX1.out 0).trans (rfl : _ = some (Value.string f.f0)); have hx1 := (bC HX1.out 1).trans (rfl : _ = some (Value.slice Af f.f1.length cf)))
    | ((with_reducible refine gate_callee (f := 9) rfl ?_); refine goesL_ (some 23) rfl rfl Try.func9 (by kernel_rfl) rfl #[.int .i64 depth] rfl (by (try simp only [List.map_toArray, List.map_cons, List.map_nil]); first | done | rfl) ?_; (with_reducible refine (NEW.out _).mono ?_); rintro r2 w2 ⟨g, bm, rfl, hh, hb⟩; refine ⟨_, rfl, ?_⟩; have HH2 := aM (show HistAt w.heap.size (fun k => k = g ∨ k = bm) g bm w2 [st0] 0 1 depth from hh.lower HB1.out.size); have HB2 := aM (HB1.out.trans (hb.mono HB1.out.size)); have HX2 := aM (bB HX1.out hb); clear hh hb; clear hx0 hx1; have hx0 := (bC HX2.out 0).trans (rfl : _ = some (Value.string f.f0)); have hx1 := (bC HX2.out 1).trans (rfl : _ = some (Value.slice Af f.f1.length cf)))
    | ((with_reducible refine gate_callee (f := 26) rfl ?_); (try (refine gate_guard (by rfl) ?_; dsimp only)); refine goesL_ (some 44) rfl rfl Try.func26 (by kernel_rfl) rfl #[txV f Af cf] rfl (by (try simp only [List.map_toArray, List.map_cons, List.map_nil]); first | done | rfl) ?_; (with_reducible refine (good4_ok (HTX.out.below HB2.out) HS2.out).mono ?_); rw [HGF.out]; rintro r3 w3 ⟨rfl, hb⟩; refine ⟨_, rfl, ?_⟩; have HB3 := aM (HB2.out.trans (hb.mono HB2.out.size)); have HH3 := aM (HH2.out.below hb); have HX3 := aM (bB HX2.out hb); clear hb; clear hx0 hx1; have hx0 := (bC HX3.out 0).trans (rfl : _ = some (Value.string f.f0)); have hx1 := (bC HX3.out 1).trans (rfl : _ = some (Value.slice Af f.f1.length cf)))
    | ((with_reducible refine gate_dst (N := 8) rfl ?_); refine box_event ?hg (N := 8) ?hd (cs := #[.string ⟨#[]⟩, .slice none 0 0]) (t := 32) ?hr ?_; (case hd => rfl); (case hg => rfl); (case hr => first | (go_simp; done) | (go_simp; rfl)); intro g8 hg w4 hbox hb; have HD4 := aM hb; have HX4 := aM hbox; have GE4 := aM (Nat.le_of_eq hg.symm); have NE4 := aM (show g4 ≠ g8 from fun e => by have := blk_lt HX3.out; omega); have HX34 := aM (bB HX3.out hb); clear hb hbox hg; clear hx0 hx1; have hx0 := (bC HX34.out 0).trans (rfl : _ = some (Value.string f.f0)); have hx1 := (bC HX34.out 1).trans (rfl : _ = some (Value.slice Af f.f1.length cf)); have hz0 := (bC HX4.out 0).trans (rfl : _ = some (Value.string ⟨#[]⟩)); have hz1 := (bC HX4.out 1).trans (rfl : _ = some (Value.slice none 0 0)); have hfz0 := bF HX4.out 0; have hfz1 := bF HX4.out 1; have hne := NE4.out; have hne' : g8 ≠ g4 := fun e => NE4.out e.symm)
    | ((with_reducible refine gate_dst (N := 49) rfl ?_); have HS5 := aM (set2 HD4.out GE4.out (.string f.f0) (.slice Af f.f1.length cf)); have HBX5 := aM (blks2 HX4.out (.string f.f0) (.slice Af f.f1.length cf)); have HH5 := aM (HH3.out.below HS5.out); have HBB5 := aM (HB3.out.trans (HS5.out.mono HB3.out.size)); have HT5 := aM (TxIn.mono (ok' := okQ g bm g8) (HTX.out.below HBB5.out) (fun k hk e => by have h1 := HH2.out.bg; have h2 := HH2.out.bb; have h3 := GE4.out; have h4 := HB3.out.size; rcases e with rfl | rfl | rfl <;> omega)); have HFK5 := aM (k32_mkF _ _ f HT5.out.g HT5.out.f); refine Kd.R_lit (Kd.raw kTx.sz) w.heap.size 32 ?hg (N := 49) ?hd (w0 := w) (xs := [[.string f.f0, .slice Af f.f1.length cf]]) (inner := [.string f.f0, .slice Af f.f1.length cf]) (ok := okQ g bm g8) (okp := fun _ => False) ?hr ?hp (fun _ hk => hk.elim) (okQ_new HH5.out.lt.2.1 HH5.out.lt.2.2.1 (blk_lt HBX5.out) (Nat.le_refl _)) HBB5.out HBB5.out.size (by simp) ?_; (case hd => rfl); (case hg => rfl); (case hr => first | (go_simp; done) | (go_simp; rfl)); (case hp => exact Reps.c2 (show Kd.M (Kd.raw kTx.sz) _ _ _ [.string f.f0, .slice Af f.f1.length cf] [.string f.f0, .slice Af f.f1.length cf] from Kd.FK_raw HFK5.out) (Reps.none _ _)); intro v5 w5 ho hb hg hat; have NG8 := aM (show g8 ≠ g ∧ g8 ≠ bm ∧ w.heap.size ≤ g8 from by have h1 := HH3.out.lt; have h2 := GE4.out; have h3 := HB3.out.size; exact ⟨fun e => by omega, fun e => by omega, by omega⟩); have HN5 := aM (N_lit1 ho hg hat HFK5.out (fun k hk => hk)); have HQ5 := aM (Bq.start HH3.out HS5.out HBX5.out HBB5.out HTX.out HN5.out hg hat hb GE4.out HGF.out (inv0 HD.out.1 HD.out.2)); clear ho hb hg hat; clear hx0 hx1 hz0 hz1 hfz0 hfz1 hne hne')
    )
  go_loopg [9, 10] l.length (fun kq v9 v10 w' => ∃ (i : Nat) (s : Hs) (T : List Tt) (A : Option Addr) (c : Nat) (S : Nat → Prop), v10 = .int .i64 (i : Int) ∧ Aside0 (i + kq = l.length) ∧ Aside0 (i ≤ 80 ∧ s.next ≤ (i : Int) + 1) ∧ Aside0 (Bq g bm g8 S w s depth T A c v9 w'))
  case atStart => exact ⟨0, ⟨[st0], 0, 1⟩, [f], Af, cf, _, rfl, ⟨by omega⟩, ⟨by decide⟩, HQ5⟩
  case round =>
    clear HQ5
    obtain ⟨i, s, T, A, c, S, rfl, HI, HN, HQ⟩ := hrel
    obtain ⟨Av, cv, rfl⟩ := Kd.N_slice HQ.out.row
    by_cases b1 : i < l.length
    · by_cases b2 : i < 80
      · cases gk with
        | zero => exact absurd HI.out (by omega)
        | succ k1 =>
          have d1 : decide ((i : Int) < (l.length : Int)) = true := decide_eq_true (by omega)
          have d2 : decide ((i : Int) < 80) = true := decide_eq_true (by omega)
          have p1 : (0 ≤ (i : Int)) = True := eq_true (by omega)
          have q1 : ((i : Int) < (l.length : Int)) = True := eq_true (by omega)
          have HI80 := aM b2
          obtain ⟨ad, A3, c3, A5, c5, eA, hc0, hc1, hc2, hc3, hc4, hc5, hc6, hE, C3, g3, C5, g5⟩ := act_at HR1.out b1
          cases eA
          have HK := aM (HOK.out _ (List.getElem_mem b1))
          generalize l[i] = x at hc0 hc1 hc2 hc3 hc4 hc5 hc6 hE C3 g3 C5 g5 HK
          have HEC := aM (And.intro C3 (And.intro g3 (And.intro C5 g5)))
          have HE := aM hE
          replace hc0 := cellW HQ.out.below hc0
          replace hc1 := cellW HQ.out.below hc1
          replace hc2 := cellW HQ.out.below hc2
          replace hc3 := cellW HQ.out.below hc3
          replace hc4 := cellW HQ.out.below hc4
          replace hc5 := cellW HQ.out.below hc5
          replace hc6 := cellW HQ.out.below hc6
          clear hE C3 g3 C5 g5 b1 b2
          by_cases hf : fitE x.f1.f1.f0 x.f1.f1.f1 x.f1.f2.f0 x.f1.f2.f1
          case neg =>
            have hft : decide (fitE x.f1.f1.f0 x.f1.f1.f1 x.f1.f2.f0 x.f1.f2.f1) = false := decide_eq_false hf
            have HFT := aM (fits7_eq x.f1.f0 x.f1.f1.f0 x.f1.f1.f1 x.f1.f2.f0 x.f1.f2.f1)
            rw [hft] at HFT
            clear hf hft
            have e1 : wrap64 ((i : Int) + 1) = ((i + 1 : Nat) : Int) := by have := HI80.out; unfold wrap64; omega
            go_wp2_with (first
              | ((with_reducible refine gate_dst (N := 11) rfl ?_); refine box_event ?hg (N := 11) ?hd (cs := #[.int .u8 0, .int .i64 0, .string ⟨#[]⟩, .slice none 0 0, .string ⟨#[]⟩, .slice none 0 0, .bool false]) (t := 36) ?hr ?_; (case hd => rfl); (case hg => rfl); (case hr => first | (go_simp; done) | (go_simp; rfl)); intro g11 hg w8 hbox hb; have HD8 := aM hb; have HY8 := aM hbox; have GD8 := aM (Nat.le_of_eq hg.symm); clear hb hbox hg; clear hc0 hc1 hc2 hc3 hc4 hc5 hc6; have hy0 := (bC HY8.out 0).trans (rfl : _ = some (Value.int .u8 0)); have hy1 := (bC HY8.out 1).trans (rfl : _ = some (Value.int .i64 0)); have hy2 := (bC HY8.out 2).trans (rfl : _ = some (Value.string ⟨#[]⟩)); have hy3 := (bC HY8.out 3).trans (rfl : _ = some (Value.slice none 0 0)); have hy4 := (bC HY8.out 4).trans (rfl : _ = some (Value.string ⟨#[]⟩)); have hy5 := (bC HY8.out 5).trans (rfl : _ = some (Value.slice none 0 0)); have hy6 := (bC HY8.out 6).trans (rfl : _ = some (Value.bool false)); have hfy0 := bF HY8.out 0; have hfy1 := bF HY8.out 1; have hfy2 := bF HY8.out 2; have hfy3 := bF HY8.out 3; have hfy4 := bF HY8.out 4; have hfy5 := bF HY8.out 5; have hfy6 := bF HY8.out 6)
              | ((with_reducible refine gate_callee (f := 11) rfl ?_); refine goesL_ (some 66) rfl rfl Try.func11 (by kernel_rfl) rfl #[.agg #[.int .i64 x.f1.f0, .string x.f1.f1.f0, .slice A3 x.f1.f1.f1.length c3, .string x.f1.f2.f0, .slice A5 x.f1.f2.f1.length c5]] rfl (by (try simp only [List.map_toArray, List.map_cons, List.map_nil]); first | done | rfl) ?_; have HD9 := aM (set7 HD8.out GD8.out (.int .u8 x.f0) (.int .i64 x.f1.f0) (.string x.f1.f1.f0) (.slice A3 x.f1.f1.f1.length c3) (.string x.f1.f2.f0) (.slice A5 x.f1.f2.f1.length c5) (.bool x.f2)); have HQ9 := aM (HQ.out.later HD9.out); have HY9 := aM (blks7 HY8.out (.int .u8 x.f0) (.int .i64 x.f1.f0) (.string x.f1.f1.f0) (.slice A3 x.f1.f1.f1.length c3) (.string x.f1.f2.f0) (.slice A5 x.f1.f2.f1.length c5) (.bool x.f2)); (with_reducible refine (bureaulaw07_Fits.calls x.f1.f0 x.f1.f1.f0 A3 c3 x.f1.f1.f1 x.f1.f2.f0 A5 c5 x.f1.f2.f1 false _ (cB_ HEC.out.1 HQ9.out.below) HEC.out.2.1 (cB_ HEC.out.2.2.1 HQ9.out.below) HEC.out.2.2.2 HFT.out).mono ?_); rintro r9 w9 ⟨rfl, hb⟩; refine ⟨_, rfl, ?_⟩; have HQ10 := aM (HQ9.out.later hb); have HY10 := aM (bB HY9.out hb); clear hb; clear hy0 hfy0 hy1 hfy1 hy2 hfy2 hy3 hfy3 hy4 hfy4 hy5 hfy5 hy6 hfy6 HD9 HQ9 HY9 HD8 HY8; have hy0 := (bC HY10.out 0).trans (rfl : _ = some (Value.int .u8 x.f0)); have hy1 := (bC HY10.out 1).trans (rfl : _ = some (Value.int .i64 x.f1.f0)); have hy2 := (bC HY10.out 2).trans (rfl : _ = some (Value.string x.f1.f1.f0)); have hy3 := (bC HY10.out 3).trans (rfl : _ = some (Value.slice A3 x.f1.f1.f1.length c3)); have hy4 := (bC HY10.out 4).trans (rfl : _ = some (Value.string x.f1.f2.f0)); have hy5 := (bC HY10.out 5).trans (rfl : _ = some (Value.slice A5 x.f1.f2.f1.length c5)); have hy6 := (bC HY10.out 6).trans (rfl : _ = some (Value.bool x.f2)); have hq0 := (bC HQ10.out.box 0).trans (rfl : _ = some (Value.string (tAt T s.now).f0)); have hq1 := (bC HQ10.out.box 1).trans (rfl : _ = some (Value.slice A (tAt T s.now).f1.length c)))
              )
            first | rw [e1] | rw [show ((i : Int) + 1) = ((i + 1 : Nat) : Int) by omega]
            go_roundg k1
            case measure => exact Nat.lt_succ_self _
            case rel => exact ⟨i + 1, s, T, A, c, S, rfl, ⟨by have := HI.out; omega⟩, ⟨by have := HN.out; have := HI80.out; omega⟩, HQ10⟩
          case pos =>
          have hft : decide (fitE x.f1.f1.f0 x.f1.f1.f1 x.f1.f2.f0 x.f1.f2.f1) = true := decide_eq_true hf
          have HFT := aM (fits7_eq x.f1.f0 x.f1.f1.f0 x.f1.f1.f1 x.f1.f2.f0 x.f1.f2.f1)
          rw [hft] at HFT
          have HF := aM hf
          have hm : Int.tmod x.f0 4 = x.f0 % 4 := Int.tmod_eq_emod_of_nonneg HK.out.1
          have HTG := aM (show 0 ≤ s.now ∧ s.now < s.next from by obtain ⟨x0, hx0, hn0⟩ := HQ.out.txs.inv.wf.now; have := HQ.out.txs.inv.wf.low x0 hx0; omega)
          clear hf hft
          by_cases hk : x.f0 % 4 < 2
          case pos =>
            have k1b : decide (x.f0 % 4 < 2) = true := decide_eq_true hk
            have HED := aM (HE.out (fit_le HF.out))
            by_cases hcd : (rapT (tAt T s.now) x.f1).2.2 = 0
            case neg =>
              have d0 : decide ((rapT (tAt T s.now) x.f1).2.2 = 0) = false := decide_eq_false hcd
              have d0b : ((rapT (tAt T s.now) x.f1).2.2 != 0) = true := by simpa using hcd
              have d0p : ((rapT (tAt T s.now) x.f1).2.2 = 0) = False := eq_false hcd
              have e1 : wrap64 ((i : Int) + 1) = ((i + 1 : Nat) : Int) := by have := HI80.out; unfold wrap64; omega
              clear hcd hk
              go_wp2_with (first
                | ((with_reducible refine gate_dst (N := 11) rfl ?_); refine box_event ?hg (N := 11) ?hd (cs := #[.int .u8 0, .int .i64 0, .string ⟨#[]⟩, .slice none 0 0, .string ⟨#[]⟩, .slice none 0 0, .bool false]) (t := 36) ?hr ?_; (case hd => rfl); (case hg => rfl); (case hr => first | (go_simp; done) | (go_simp; rfl)); intro g11 hg w8 hbox hb; have HD8 := aM hb; have HY8 := aM hbox; have GD8 := aM (Nat.le_of_eq hg.symm); clear hb hbox hg; clear hc0 hc1 hc2 hc3 hc4 hc5 hc6; have hy0 := (bC HY8.out 0).trans (rfl : _ = some (Value.int .u8 0)); have hy1 := (bC HY8.out 1).trans (rfl : _ = some (Value.int .i64 0)); have hy2 := (bC HY8.out 2).trans (rfl : _ = some (Value.string ⟨#[]⟩)); have hy3 := (bC HY8.out 3).trans (rfl : _ = some (Value.slice none 0 0)); have hy4 := (bC HY8.out 4).trans (rfl : _ = some (Value.string ⟨#[]⟩)); have hy5 := (bC HY8.out 5).trans (rfl : _ = some (Value.slice none 0 0)); have hy6 := (bC HY8.out 6).trans (rfl : _ = some (Value.bool false)); have hfy0 := bF HY8.out 0; have hfy1 := bF HY8.out 1; have hfy2 := bF HY8.out 2; have hfy3 := bF HY8.out 3; have hfy4 := bF HY8.out 4; have hfy5 := bF HY8.out 5; have hfy6 := bF HY8.out 6)
                | ((with_reducible refine gate_callee (f := 11) rfl ?_); refine goesL_ (some 66) rfl rfl Try.func11 (by kernel_rfl) rfl #[.agg #[.int .i64 x.f1.f0, .string x.f1.f1.f0, .slice A3 x.f1.f1.f1.length c3, .string x.f1.f2.f0, .slice A5 x.f1.f2.f1.length c5]] rfl (by (try simp only [List.map_toArray, List.map_cons, List.map_nil]); first | done | rfl) ?_; have HD9 := aM (set7 HD8.out GD8.out (.int .u8 x.f0) (.int .i64 x.f1.f0) (.string x.f1.f1.f0) (.slice A3 x.f1.f1.f1.length c3) (.string x.f1.f2.f0) (.slice A5 x.f1.f2.f1.length c5) (.bool x.f2)); have HQ9 := aM (HQ.out.later HD9.out); have HY9 := aM (blks7 HY8.out (.int .u8 x.f0) (.int .i64 x.f1.f0) (.string x.f1.f1.f0) (.slice A3 x.f1.f1.f1.length c3) (.string x.f1.f2.f0) (.slice A5 x.f1.f2.f1.length c5) (.bool x.f2)); (with_reducible refine (bureaulaw07_Fits.calls x.f1.f0 x.f1.f1.f0 A3 c3 x.f1.f1.f1 x.f1.f2.f0 A5 c5 x.f1.f2.f1 true _ (cB_ HEC.out.1 HQ9.out.below) HEC.out.2.1 (cB_ HEC.out.2.2.1 HQ9.out.below) HEC.out.2.2.2 HFT.out).mono ?_); rintro r9 w9 ⟨rfl, hb⟩; refine ⟨_, rfl, ?_⟩; have HQ10 := aM (HQ9.out.later hb); have HY10 := aM (bB HY9.out hb); clear hb; clear hy0 hfy0 hy1 hfy1 hy2 hfy2 hy3 hfy3 hy4 hfy4 hy5 hfy5 hy6 hfy6 HD9 HQ9 HY9 HD8 HY8; have hy0 := (bC HY10.out 0).trans (rfl : _ = some (Value.int .u8 x.f0)); have hy1 := (bC HY10.out 1).trans (rfl : _ = some (Value.int .i64 x.f1.f0)); have hy2 := (bC HY10.out 2).trans (rfl : _ = some (Value.string x.f1.f1.f0)); have hy3 := (bC HY10.out 3).trans (rfl : _ = some (Value.slice A3 x.f1.f1.f1.length c3)); have hy4 := (bC HY10.out 4).trans (rfl : _ = some (Value.string x.f1.f2.f0)); have hy5 := (bC HY10.out 5).trans (rfl : _ = some (Value.slice A5 x.f1.f2.f1.length c5)); have hy6 := (bC HY10.out 6).trans (rfl : _ = some (Value.bool x.f2)); have hq0 := (bC HQ10.out.box 0).trans (rfl : _ = some (Value.string (tAt T s.now).f0)); have hq1 := (bC HQ10.out.box 1).trans (rfl : _ = some (Value.slice A (tAt T s.now).f1.length c)))
                | ((with_reducible refine gate_callee (f := 27) rfl ?_); refine goesL_ (some 76) rfl rfl Try.func27 (by kernel_rfl) rfl #[txV (tAt T s.now) A c, edV x.f1 A3 c3 A5 c5] rfl (by (try simp only [List.map_toArray, List.map_cons, List.map_nil]); first | done | rfl) ?_; (with_reducible refine (rapply_ok HQ10.out.text (HED.out.below HQ10.out.below) (HQ10.out.txs.tgood HTG.out.1 HTG.out.2)).mono ?_); rintro r11 w11 ⟨A', c', rfl, ht, hb⟩; refine ⟨_, rfl, ?_⟩; have HT11 := aM ht; have HQ11 := aM (HQ10.out.later hb); have HY11 := aM (bB HY10.out hb); clear ht hb; clear hq0 hq1 hy0 hy1 hy2 hy3 hy4 hy5 hy6)
                | ((with_reducible refine gate_dst (N := 12) rfl ?_); refine box_event ?hg (N := 12) ?hd (cs := #[.string ⟨#[]⟩, .slice none 0 0]) (t := 32) ?hr ?_; (case hd => rfl); (case hg => rfl); (case hr => first | (go_simp; done) | (go_simp; rfl)); intro g12 hg w12 hbox hb; have HD12 := aM hb; have HY12 := aM hbox; have G12 := aM (Nat.le_of_eq hg.symm); have N1112 := aM (show g11 ≠ g12 ∧ g8 ≠ g12 from ⟨fun e => by have := blk_lt HY11.out; omega, fun e => by have := blk_lt HQ11.out.box; omega⟩); have HYA := aM (bB HY11.out hb); clear hb hbox hg; have hz0 := (bC HY12.out 0).trans (rfl : _ = some (Value.string ⟨#[]⟩)); have hz1 := (bC HY12.out 1).trans (rfl : _ = some (Value.slice none 0 0)); have hfz0 := bF HY12.out 0; have hfz1 := bF HY12.out 1; have hy0 := (bC HYA.out 0).trans (rfl : _ = some (Value.int .u8 x.f0)); have hy1 := (bC HYA.out 1).trans (rfl : _ = some (Value.int .i64 x.f1.f0)); have hy2 := (bC HYA.out 2).trans (rfl : _ = some (Value.string x.f1.f1.f0)); have hy3 := (bC HYA.out 3).trans (rfl : _ = some (Value.slice A3 x.f1.f1.f1.length c3)); have hy4 := (bC HYA.out 4).trans (rfl : _ = some (Value.string x.f1.f2.f0)); have hy5 := (bC HYA.out 5).trans (rfl : _ = some (Value.slice A5 x.f1.f2.f1.length c5)); have hy6 := (bC HYA.out 6).trans (rfl : _ = some (Value.bool x.f2)); have hne := N1112.out.1; have hne' : g12 ≠ g11 := fun e => N1112.out.1 e.symm)
                )
              have HS12 := aM (set2 HD12.out G12.out (.string (rapU (tAt T s.now) x.f1).f0) (.slice A' (rapU (tAt T s.now) x.f1).f1.length c'))
              first | rw [e1] | rw [show ((i : Int) + 1) = ((i + 1 : Nat) : Int) by omega]
              go_roundg k1
              case measure => exact Nat.lt_succ_self _
              case rel => exact ⟨i + 1, s, T, A, c, S, rfl, ⟨by have := HI.out; omega⟩, ⟨by have := HN.out; have := HI80.out; omega⟩, ⟨HQ11.out.later HS12.out⟩⟩
            case pos =>
              have HRP := aM (ap_of_rap (HQ.out.txs.tgood HTG.out.1 HTG.out.2) hcd)
              have HAP := aM (show apT (tAt T s.now) x.f1 = ((rapU (tAt T s.now) x.f1).f0, (rapU (tAt T s.now) x.f1).f1, 0) from by rw [← rap_of HRP.out]; unfold rapU; rw [← hcd])
              have HGE := aM (ap_good HAP.out).1
              have d0 : decide ((rapT (tAt T s.now) x.f1).2.2 = 0) = true := decide_eq_true hcd
              have d0b : ((rapT (tAt T s.now) x.f1).2.2 != 0) = false := by simpa using hcd
              have HTL := aM (show T.length ≤ 1000 ∧ s.next = (T.length : Int) from by have h1 := HQ.out.txs.len; have h2 := HQ.out.txs.inv.wf.top; omega)
              have d4 : decide (s.next = (T.length : Int)) = true := decide_eq_true HTL.out.2
              have d4b : (s.next != (T.length : Int)) = false := by simpa using HTL.out.2
              have e1 : wrap64 ((i : Int) + 1) = ((i + 1 : Nat) : Int) := by have := HI80.out; unfold wrap64; omega
              clear hcd hk
              go_wp2_with (first
                | ((with_reducible refine gate_dst (N := 11) rfl ?_); refine box_event ?hg (N := 11) ?hd (cs := #[.int .u8 0, .int .i64 0, .string ⟨#[]⟩, .slice none 0 0, .string ⟨#[]⟩, .slice none 0 0, .bool false]) (t := 36) ?hr ?_; (case hd => rfl); (case hg => rfl); (case hr => first | (go_simp; done) | (go_simp; rfl)); intro g11 hg w8 hbox hb; have HD8 := aM hb; have HY8 := aM hbox; have GD8 := aM (Nat.le_of_eq hg.symm); clear hb hbox hg; clear hc0 hc1 hc2 hc3 hc4 hc5 hc6; have hy0 := (bC HY8.out 0).trans (rfl : _ = some (Value.int .u8 0)); have hy1 := (bC HY8.out 1).trans (rfl : _ = some (Value.int .i64 0)); have hy2 := (bC HY8.out 2).trans (rfl : _ = some (Value.string ⟨#[]⟩)); have hy3 := (bC HY8.out 3).trans (rfl : _ = some (Value.slice none 0 0)); have hy4 := (bC HY8.out 4).trans (rfl : _ = some (Value.string ⟨#[]⟩)); have hy5 := (bC HY8.out 5).trans (rfl : _ = some (Value.slice none 0 0)); have hy6 := (bC HY8.out 6).trans (rfl : _ = some (Value.bool false)); have hfy0 := bF HY8.out 0; have hfy1 := bF HY8.out 1; have hfy2 := bF HY8.out 2; have hfy3 := bF HY8.out 3; have hfy4 := bF HY8.out 4; have hfy5 := bF HY8.out 5; have hfy6 := bF HY8.out 6)
                | ((with_reducible refine gate_callee (f := 11) rfl ?_); refine goesL_ (some 66) rfl rfl Try.func11 (by kernel_rfl) rfl #[.agg #[.int .i64 x.f1.f0, .string x.f1.f1.f0, .slice A3 x.f1.f1.f1.length c3, .string x.f1.f2.f0, .slice A5 x.f1.f2.f1.length c5]] rfl (by (try simp only [List.map_toArray, List.map_cons, List.map_nil]); first | done | rfl) ?_; have HD9 := aM (set7 HD8.out GD8.out (.int .u8 x.f0) (.int .i64 x.f1.f0) (.string x.f1.f1.f0) (.slice A3 x.f1.f1.f1.length c3) (.string x.f1.f2.f0) (.slice A5 x.f1.f2.f1.length c5) (.bool x.f2)); have HQ9 := aM (HQ.out.later HD9.out); have HY9 := aM (blks7 HY8.out (.int .u8 x.f0) (.int .i64 x.f1.f0) (.string x.f1.f1.f0) (.slice A3 x.f1.f1.f1.length c3) (.string x.f1.f2.f0) (.slice A5 x.f1.f2.f1.length c5) (.bool x.f2)); (with_reducible refine (bureaulaw07_Fits.calls x.f1.f0 x.f1.f1.f0 A3 c3 x.f1.f1.f1 x.f1.f2.f0 A5 c5 x.f1.f2.f1 true _ (cB_ HEC.out.1 HQ9.out.below) HEC.out.2.1 (cB_ HEC.out.2.2.1 HQ9.out.below) HEC.out.2.2.2 HFT.out).mono ?_); rintro r9 w9 ⟨rfl, hb⟩; refine ⟨_, rfl, ?_⟩; have HQ10 := aM (HQ9.out.later hb); have HY10 := aM (bB HY9.out hb); clear hb; clear hy0 hfy0 hy1 hfy1 hy2 hfy2 hy3 hfy3 hy4 hfy4 hy5 hfy5 hy6 hfy6 HD9 HQ9 HY9 HD8 HY8; have hy0 := (bC HY10.out 0).trans (rfl : _ = some (Value.int .u8 x.f0)); have hy1 := (bC HY10.out 1).trans (rfl : _ = some (Value.int .i64 x.f1.f0)); have hy2 := (bC HY10.out 2).trans (rfl : _ = some (Value.string x.f1.f1.f0)); have hy3 := (bC HY10.out 3).trans (rfl : _ = some (Value.slice A3 x.f1.f1.f1.length c3)); have hy4 := (bC HY10.out 4).trans (rfl : _ = some (Value.string x.f1.f2.f0)); have hy5 := (bC HY10.out 5).trans (rfl : _ = some (Value.slice A5 x.f1.f2.f1.length c5)); have hy6 := (bC HY10.out 6).trans (rfl : _ = some (Value.bool x.f2)); have hq0 := (bC HQ10.out.box 0).trans (rfl : _ = some (Value.string (tAt T s.now).f0)); have hq1 := (bC HQ10.out.box 1).trans (rfl : _ = some (Value.slice A (tAt T s.now).f1.length c)))
                | ((with_reducible refine gate_callee (f := 27) rfl ?_); refine goesL_ (some 76) rfl rfl Try.func27 (by kernel_rfl) rfl #[txV (tAt T s.now) A c, edV x.f1 A3 c3 A5 c5] rfl (by (try simp only [List.map_toArray, List.map_cons, List.map_nil]); first | done | rfl) ?_; (with_reducible refine (rapply_ok HQ10.out.text (HED.out.below HQ10.out.below) (HQ10.out.txs.tgood HTG.out.1 HTG.out.2)).mono ?_); rintro r11 w11 ⟨A', c', rfl, ht, hb⟩; refine ⟨_, rfl, ?_⟩; have HT11 := aM ht; have HQ11 := aM (HQ10.out.later hb); have HY11 := aM (bB HY10.out hb); have HT119 := aM hb.size; clear ht hb; clear hq0 hq1 hy0 hy1 hy2 hy3 hy4 hy5 hy6)
                | ((with_reducible refine gate_dst (N := 12) rfl ?_); refine box_event ?hg (N := 12) ?hd (cs := #[.string ⟨#[]⟩, .slice none 0 0]) (t := 32) ?hr ?_; (case hd => rfl); (case hg => rfl); (case hr => first | (go_simp; done) | (go_simp; rfl)); intro g12 hg w12 hbox hb; have HD12 := aM hb; have HY12 := aM hbox; have G12 := aM (Nat.le_of_eq hg.symm); have N1112 := aM (show g11 ≠ g12 ∧ g8 ≠ g12 from ⟨fun e => by have := blk_lt HY11.out; omega, fun e => by have := blk_lt HQ11.out.box; omega⟩); have HYA := aM (bB HY11.out hb); clear hb hbox hg; have hz0 := (bC HY12.out 0).trans (rfl : _ = some (Value.string ⟨#[]⟩)); have hz1 := (bC HY12.out 1).trans (rfl : _ = some (Value.slice none 0 0)); have hfz0 := bF HY12.out 0; have hfz1 := bF HY12.out 1; have hy0 := (bC HYA.out 0).trans (rfl : _ = some (Value.int .u8 x.f0)); have hy1 := (bC HYA.out 1).trans (rfl : _ = some (Value.int .i64 x.f1.f0)); have hy2 := (bC HYA.out 2).trans (rfl : _ = some (Value.string x.f1.f1.f0)); have hy3 := (bC HYA.out 3).trans (rfl : _ = some (Value.slice A3 x.f1.f1.f1.length c3)); have hy4 := (bC HYA.out 4).trans (rfl : _ = some (Value.string x.f1.f2.f0)); have hy5 := (bC HYA.out 5).trans (rfl : _ = some (Value.slice A5 x.f1.f2.f1.length c5)); have hy6 := (bC HYA.out 6).trans (rfl : _ = some (Value.bool x.f2)); have hne := N1112.out.1; have hne' : g12 ≠ g11 := fun e => N1112.out.1 e.symm)
                | ((with_reducible refine gate_callee (f := 17) rfl ?_); refine goesL_ (some 85) rfl rfl Try.func17 (by kernel_rfl) rfl #[.pointer (some ⟨g, 0, none⟩), edV x.f1 A3 c3 A5 c5] rfl (by (try simp only [List.map_toArray, List.map_cons, List.map_nil]); first | done | rfl) ?_; have HS12 := aM (set2 HD12.out G12.out (.string (rapU (tAt T s.now) x.f1).f0) (.slice A' (rapU (tAt T s.now) x.f1).f1.length c')); have HQ12 := aM (HQ11.out.later HS12.out); have HYB := aM (blks2 HY12.out (.string (rapU (tAt T s.now) x.f1).f0) (.slice A' (rapU (tAt T s.now) x.f1).f1.length c')); have HT12 := aM (HT11.out.below HS12.out); have hEd := EdIn.old (S := S) HED.out HQ12.out.below (fun k hk hs => absurd hk (Nat.not_lt.2 (HQ12.out.lo k hs))); (with_reducible refine (add_good HQ12.out.hist hEd HQ12.out.txs.inv (by have := HN.out; have := HI80.out; omega) HQ12.out.lt HGE.out).mono ?_); rintro r13 w13 ⟨rfl, hh, ht⟩; refine ⟨_, rfl, ?_⟩; have HH13 := aM hh; have HST := aM (HQ12.out.step (s' := ⟨addL x.f1 s.L s.now s.next depth, s.next, s.next + 1⟩) ⟨NG8.out.1, NG8.out.2.1⟩ hh ht); have HT13 := aM (HT12.out.turn ht (fun k hk e => by have h0 : w9.heap.size ≤ k := hk; have h1 := HQ10.out.lt k (HQ10.out.sub k (hb_s6 e)); omega)); have HSZ := aM (show w9.heap.size ≤ w13.heap.size from Nat.le_trans (Nat.le_trans HT119.out HS12.out.size) ht.size); have HY13 := aM (ht.blk HYB.out (fun e => by have h1 := HQ11.out.hist.lt; have h2 := G12.out; rcases e with e | e <;> omega)); clear hh ht hEd; clear hy0 hy1 hy2 hy3 hy4 hy5 hy6 hz0 hz1 hfz0 hfz1 hne hne'; have hz0 := (bC HY13.out 0).trans (rfl : _ = some (Value.string (rapU (tAt T s.now) x.f1).f0)); have hz1 := (bC HY13.out 1).trans (rfl : _ = some (Value.slice A' (rapU (tAt T s.now) x.f1).f1.length c')))
                | ((with_reducible refine gate_builtin (b := .append) (xs := #[.tmp 96, .tmp 98]) rfl ?_); at_builtin; refine Kd.N_append kTx (w0 := w) w.heap.size rfl (.tmp 96) (.tmp 98) 56 32 (.agg #[.string ⟨#[]⟩, .slice none 0 0]) 40 rfl Try.underlying56 infoTx rfl (by decide) (by omega) (.slice Av T.length cv) T (rapU (tAt T s.now) x.f1) [.string (rapU (tAt T s.now) x.f1).f0, .slice A' (rapU (tAt T s.now) x.f1).f1.length c'] (okQ g bm g8) (fun k => w9.heap.size ≤ k) rfl (by first | (go_simp; done) | (go_simp; rfl)) (k32_mkF _ _ _ HT13.out.g HT13.out.f) (fun k hk => ⟨okQ_new HQ10.out.hist.lt.2.1 HQ10.out.hist.lt.2.2.1 (blk_lt HQ10.out.box) hk, fun e => by have h1 := Kd.N_lt HQ10.out.row k e.symm; omega⟩) (fun k hk => okQ_new HH13.out.lt.2.1 HH13.out.lt.2.2.1 (blk_lt HST.out.1) hk) HST.out.2.2.1 HST.out.2.2.2 HST.out.2.2.2.size (by have := HTL.out; omega) ?_; intro v14 w14 ho hb hg hat; have HB14 := aM (Bq.app HH13.out HQ10.out.sub HQ10.out.own HQ10.out.lo HQ10.out.lt HSZ.out HST.out.1 HST.out.2.2.1 HT13.out ho hg hat hb); have HY14 := aM ((hg.block g12 (blk_lt HY13.out) (fun e => by have h1 := Kd.N_lt HQ11.out.row g12 e.symm; have h2 := G12.out; omega)).trans HY13.out); obtain ⟨A14, c14, rfl⟩ := Kd.N_slice ho; have HO14 := aM ho; have HBB14 := aM hb; clear ho hb hg hat; clear hz0 hz1; have hz0 := (bC HY14.out 0).trans (rfl : _ = some (Value.string (rapU (tAt T s.now) x.f1).f0)); have hz1 := (bC HY14.out 1).trans (rfl : _ = some (Value.slice A' (rapU (tAt T s.now) x.f1).f1.length c')); have hq0 := (bC HB14.out.2.1 0).trans (rfl : _ = some (Value.string (tAt T s.now).f0)); have hq1 := (bC HB14.out.2.1 1).trans (rfl : _ = some (Value.slice A (tAt T s.now).f1.length c)); have hfq0 := bF HB14.out.2.1 0; have hfq1 := bF HB14.out.2.1 1; have hn8 := N1112.out.2; have hn8' : g12 ≠ g8 := fun e => N1112.out.2 e.symm)
                )
              generalize hw15 : World.setCell _ ⟨g8, 1, none⟩ _ = w15
              have HQ15 := aM (show Bq g bm g8 (fun k => S k ∨ some k = (Value.slice A14 (T ++ [(rapU (tAt T s.now) x.f1)]).length c14).ownBlock) w ⟨addL x.f1 s.L s.now s.next depth, s.next, s.next + 1⟩ depth (T ++ [(rapU (tAt T s.now) x.f1)]) A' c' (.slice A14 (T ++ [(rapU (tAt T s.now) x.f1)]).length c14) w15 from by
                have e2 : tAt (T ++ [(rapU (tAt T s.now) x.f1)]) s.next = rapU (tAt T s.now) x.f1 := tAt_new HTL.out.2
                have h := Bq.mk2 (s := ⟨addL x.f1 s.L s.now s.next depth, s.next, s.next + 1⟩) (T := T ++ [(rapU (tAt T s.now) x.f1)]) (A := A') (c := c') HB14.out.1 HB14.out.2.2.1 HB14.out.2.2.2.1 HB14.out.2.2.2.2.1 HB14.out.2.2.2.2.2.1 (HQ10.out.txs.add (by have := HN.out; have := HI80.out; omega) (fit_le HF.out) HAP.out) HB14.out.2.1 (by show TxIn _ _ (tAt (T ++ [(rapU (tAt T s.now) x.f1)]) s.next) A' c'; rw [e2]; exact HB14.out.2.2.2.2.2.2) HO14.out HBB14.out NG8.out.2.2 ⟨NG8.out.1, NG8.out.2.1⟩
                subst hw15
                rw [show (Hs.now ⟨addL x.f1 s.L s.now s.next depth, s.next, s.next + 1⟩) = s.next from rfl, e2] at h
                exact h)
              clear hw15
              have hll : (T ++ [(rapU (tAt T s.now) x.f1)]).length = T.length + 1 := by rw [List.length_append, List.length_singleton]
              first | rw [hll] at HQ15 | skip
              first | rw [e1] | rw [show ((i : Int) + 1) = ((i + 1 : Nat) : Int) by omega]
              go_roundg k1
              case measure => exact Nat.lt_succ_self _
              case rel => exact ⟨i + 1, ⟨addL x.f1 s.L s.now s.next depth, s.next, s.next + 1⟩, T ++ [(rapU (tAt T s.now) x.f1)], A', c', _, rfl, ⟨by have := HI.out; omega⟩, ⟨by have := HN.out; have := HI80.out; show i + 1 ≤ 80 ∧ s.next + 1 ≤ ((i + 1 : Nat) : Int) + 1; omega⟩, HQ15⟩
          case neg =>
            have k1b : decide (x.f0 % 4 < 2) = false := decide_eq_false hk
            obtain ⟨x0, hx0, hn0⟩ := HQ.out.txs.inv.wf.now
            have e1 : wrap64 ((i : Int) + 1) = ((i + 1 : Nat) : Int) := by have := HI80.out; unfold wrap64; omega
            by_cases hup : x0.f1 < 0
            case pos =>
              by_cases k3 : x.f0 % 4 = 3
              case neg =>
                have k3b : (x.f0 % 4 == 3) = false := by simpa using k3
                have k3d : decide (x.f0 % 4 = 3) = false := decide_eq_false k3
                clear k3 hk
                go_wp2_with (first
                  | ((with_reducible refine gate_dst (N := 11) rfl ?_); refine box_event ?hg (N := 11) ?hd (cs := #[.int .u8 0, .int .i64 0, .string ⟨#[]⟩, .slice none 0 0, .string ⟨#[]⟩, .slice none 0 0, .bool false]) (t := 36) ?hr ?_; (case hd => rfl); (case hg => rfl); (case hr => first | (go_simp; done) | (go_simp; rfl)); intro g11 hg w8 hbox hb; have HD8 := aM hb; have HY8 := aM hbox; have GD8 := aM (Nat.le_of_eq hg.symm); clear hb hbox hg; clear hc0 hc1 hc2 hc3 hc4 hc5 hc6; have hy0 := (bC HY8.out 0).trans (rfl : _ = some (Value.int .u8 0)); have hy1 := (bC HY8.out 1).trans (rfl : _ = some (Value.int .i64 0)); have hy2 := (bC HY8.out 2).trans (rfl : _ = some (Value.string ⟨#[]⟩)); have hy3 := (bC HY8.out 3).trans (rfl : _ = some (Value.slice none 0 0)); have hy4 := (bC HY8.out 4).trans (rfl : _ = some (Value.string ⟨#[]⟩)); have hy5 := (bC HY8.out 5).trans (rfl : _ = some (Value.slice none 0 0)); have hy6 := (bC HY8.out 6).trans (rfl : _ = some (Value.bool false)); have hfy0 := bF HY8.out 0; have hfy1 := bF HY8.out 1; have hfy2 := bF HY8.out 2; have hfy3 := bF HY8.out 3; have hfy4 := bF HY8.out 4; have hfy5 := bF HY8.out 5; have hfy6 := bF HY8.out 6)
                  | ((with_reducible refine gate_callee (f := 11) rfl ?_); refine goesL_ (some 66) rfl rfl Try.func11 (by kernel_rfl) rfl #[.agg #[.int .i64 x.f1.f0, .string x.f1.f1.f0, .slice A3 x.f1.f1.f1.length c3, .string x.f1.f2.f0, .slice A5 x.f1.f2.f1.length c5]] rfl (by (try simp only [List.map_toArray, List.map_cons, List.map_nil]); first | done | rfl) ?_; have HD9 := aM (set7 HD8.out GD8.out (.int .u8 x.f0) (.int .i64 x.f1.f0) (.string x.f1.f1.f0) (.slice A3 x.f1.f1.f1.length c3) (.string x.f1.f2.f0) (.slice A5 x.f1.f2.f1.length c5) (.bool x.f2)); have HQ9 := aM (HQ.out.later HD9.out); have HY9 := aM (blks7 HY8.out (.int .u8 x.f0) (.int .i64 x.f1.f0) (.string x.f1.f1.f0) (.slice A3 x.f1.f1.f1.length c3) (.string x.f1.f2.f0) (.slice A5 x.f1.f2.f1.length c5) (.bool x.f2)); (with_reducible refine (bureaulaw07_Fits.calls x.f1.f0 x.f1.f1.f0 A3 c3 x.f1.f1.f1 x.f1.f2.f0 A5 c5 x.f1.f2.f1 true _ (cB_ HEC.out.1 HQ9.out.below) HEC.out.2.1 (cB_ HEC.out.2.2.1 HQ9.out.below) HEC.out.2.2.2 HFT.out).mono ?_); rintro r9 w9 ⟨rfl, hb⟩; refine ⟨_, rfl, ?_⟩; have HQ10 := aM (HQ9.out.later hb); have HY10 := aM (bB HY9.out hb); clear hb; clear hy0 hfy0 hy1 hfy1 hy2 hfy2 hy3 hfy3 hy4 hfy4 hy5 hfy5 hy6 hfy6 HD9 HQ9 HY9 HD8 HY8; have hy0 := (bC HY10.out 0).trans (rfl : _ = some (Value.int .u8 x.f0)); have hy1 := (bC HY10.out 1).trans (rfl : _ = some (Value.int .i64 x.f1.f0)); have hy2 := (bC HY10.out 2).trans (rfl : _ = some (Value.string x.f1.f1.f0)); have hy3 := (bC HY10.out 3).trans (rfl : _ = some (Value.slice A3 x.f1.f1.f1.length c3)); have hy4 := (bC HY10.out 4).trans (rfl : _ = some (Value.string x.f1.f2.f0)); have hy5 := (bC HY10.out 5).trans (rfl : _ = some (Value.slice A5 x.f1.f2.f1.length c5)); have hy6 := (bC HY10.out 6).trans (rfl : _ = some (Value.bool x.f2)); have hq0 := (bC HQ10.out.box 0).trans (rfl : _ = some (Value.string (tAt T s.now).f0)); have hq1 := (bC HQ10.out.box 1).trans (rfl : _ = some (Value.slice A (tAt T s.now).f1.length c)))
                  | ((with_reducible refine gate_callee (f := 12) rfl ?_); refine goesL_ (some 103) rfl rfl Try.func12 (by kernel_rfl) rfl #[.pointer (some ⟨g, 0, none⟩)] rfl (by (try simp only [List.map_toArray, List.map_cons, List.map_nil]); first | done | rfl) ?_; (with_reducible refine (undo_no HQ10.out.hist HQ10.out.txs.inv.wf hx0 hn0 hup).mono ?_); rintro r11 w11 ⟨A7, c7, A8, c8, rfl, hh, ht⟩; refine ⟨_, rfl, ?_⟩; have HR11 := aM (HQ10.out.rq.call (s' := s) ⟨NG8.out.1, NG8.out.2.1⟩ (fun k hk => hk) hh ht); have HY11 := aM (ht.blk HY10.out (fun e => by have h1 := HQ.out.hist.lt; have h2 := GD8.out; rcases e with e | e <;> omega)); clear hh ht; clear hq0 hq1; clear hy0 hy1 hy2 hy3 hy4 hy5 hy6; have hq0 := (bC HR11.out.box 0).trans (rfl : _ = some (Value.string (tAt T s.now).f0)); have hq1 := (bC HR11.out.box 1).trans (rfl : _ = some (Value.slice A (tAt T s.now).f1.length c)); have hy0 := (bC HY11.out 0).trans (rfl : _ = some (Value.int .u8 x.f0)); have hy1 := (bC HY11.out 1).trans (rfl : _ = some (Value.int .i64 x.f1.f0)); have hy2 := (bC HY11.out 2).trans (rfl : _ = some (Value.string x.f1.f1.f0)); have hy3 := (bC HY11.out 3).trans (rfl : _ = some (Value.slice A3 x.f1.f1.f1.length c3)); have hy4 := (bC HY11.out 4).trans (rfl : _ = some (Value.string x.f1.f2.f0)); have hy5 := (bC HY11.out 5).trans (rfl : _ = some (Value.slice A5 x.f1.f2.f1.length c5)); have hy6 := (bC HY11.out 6).trans (rfl : _ = some (Value.bool x.f2)))
                  | ((with_reducible refine gate_dst (N := 16) rfl ?_); refine box_event ?hg (N := 16) ?hd (cs := zs5) (t := 34) ?hr ?_; (case hd => rfl); (case hg => rfl); (case hr => first | (go_simp; done) | (go_simp; rfl)); intro g16 hg w12 hbox hb; have HD12 := aM hb; have HY12 := aM hbox; have G12 := aM (Nat.le_of_eq hg.symm); have N16 := aM (show g11 ≠ g16 ∧ g8 ≠ g16 ∧ g16 ≠ g ∧ g16 ≠ bm from ⟨fun e => by have := blk_lt HY11.out; omega, fun e => by have := blk_lt HR11.out.box; omega, fun e => by have := HR11.out.hist.lt.2.1; omega, fun e => by have := HR11.out.hist.lt.2.2.1; omega⟩); have HYA := aM (bB HY11.out hb); have HQA := aM (bB HR11.out.box hb); clear hb hbox hg; clear hy0 hy1 hy2 hy3 hy4 hy5 hy6; clear hq0 hq1; have hz0 := (bC HY12.out 0).trans (rfl : _ = some (Value.int .i64 0)); have hz1 := (bC HY12.out 1).trans (rfl : _ = some (Value.string ⟨#[]⟩)); have hz2 := (bC HY12.out 2).trans (rfl : _ = some (Value.slice none 0 0)); have hz3 := (bC HY12.out 3).trans (rfl : _ = some (Value.string ⟨#[]⟩)); have hz4 := (bC HY12.out 4).trans (rfl : _ = some (Value.slice none 0 0)); have hfz0 := bF HY12.out 0; have hfz1 := bF HY12.out 1; have hfz2 := bF HY12.out 2; have hfz3 := bF HY12.out 3; have hfz4 := bF HY12.out 4; have hq0 := (bC HQA.out 0).trans (rfl : _ = some (Value.string (tAt T s.now).f0)); have hq1 := (bC HQA.out 1).trans (rfl : _ = some (Value.slice A (tAt T s.now).f1.length c)); have hy0 := (bC HYA.out 0).trans (rfl : _ = some (Value.int .u8 x.f0)); have hy1 := (bC HYA.out 1).trans (rfl : _ = some (Value.int .i64 x.f1.f0)); have hy2 := (bC HYA.out 2).trans (rfl : _ = some (Value.string x.f1.f1.f0)); have hy3 := (bC HYA.out 3).trans (rfl : _ = some (Value.slice A3 x.f1.f1.f1.length c3)); have hy4 := (bC HYA.out 4).trans (rfl : _ = some (Value.string x.f1.f2.f0)); have hy5 := (bC HYA.out 5).trans (rfl : _ = some (Value.slice A5 x.f1.f2.f1.length c5)); have hy6 := (bC HYA.out 6).trans (rfl : _ = some (Value.bool x.f2)); have hne := N16.out.1; have hne' : g16 ≠ g11 := fun e => N16.out.1 e.symm; have hne8 := N16.out.2.1; have hne8' : g16 ≠ g8 := fun e => N16.out.2.1 e.symm)
                  )
                have HQB := aM (HR11.out.bq HQ10.out.txs)
                have HQC := aM (HQB.out.later (set5 HD12.out G12.out (.int .i64 (z34).f0) (.string (z34).f1.f0) (.slice A7 (z34).f1.f1.length c7) (.string (z34).f2.f0) (.slice A8 (z34).f2.f1.length c8)))
                first | rw [e1] | rw [show ((i : Int) + 1) = ((i + 1 : Nat) : Int) by omega]
                go_roundg k1
                case measure => exact Nat.lt_succ_self _
                case rel => exact ⟨i + 1, s, T, A, c, S, rfl, ⟨by have := HI.out; omega⟩, ⟨by have := HN.out; have := HI80.out; omega⟩, HQC⟩
              case pos =>
                have k3b : (x.f0 % 4 == 3) = true := by simpa using k3
                have k3d : decide (x.f0 % 4 = 3) = true := decide_eq_true k3
                clear k3 hk
                cases hrd : redoL s.L s.now
                case none =>
                  go_wp2_with (first
                    | ((with_reducible refine gate_dst (N := 11) rfl ?_); refine box_event ?hg (N := 11) ?hd (cs := #[.int .u8 0, .int .i64 0, .string ⟨#[]⟩, .slice none 0 0, .string ⟨#[]⟩, .slice none 0 0, .bool false]) (t := 36) ?hr ?_; (case hd => rfl); (case hg => rfl); (case hr => first | (go_simp; done) | (go_simp; rfl)); intro g11 hg w8 hbox hb; have HD8 := aM hb; have HY8 := aM hbox; have GD8 := aM (Nat.le_of_eq hg.symm); clear hb hbox hg; clear hc0 hc1 hc2 hc3 hc4 hc5 hc6; have hy0 := (bC HY8.out 0).trans (rfl : _ = some (Value.int .u8 0)); have hy1 := (bC HY8.out 1).trans (rfl : _ = some (Value.int .i64 0)); have hy2 := (bC HY8.out 2).trans (rfl : _ = some (Value.string ⟨#[]⟩)); have hy3 := (bC HY8.out 3).trans (rfl : _ = some (Value.slice none 0 0)); have hy4 := (bC HY8.out 4).trans (rfl : _ = some (Value.string ⟨#[]⟩)); have hy5 := (bC HY8.out 5).trans (rfl : _ = some (Value.slice none 0 0)); have hy6 := (bC HY8.out 6).trans (rfl : _ = some (Value.bool false)); have hfy0 := bF HY8.out 0; have hfy1 := bF HY8.out 1; have hfy2 := bF HY8.out 2; have hfy3 := bF HY8.out 3; have hfy4 := bF HY8.out 4; have hfy5 := bF HY8.out 5; have hfy6 := bF HY8.out 6)
                    | ((with_reducible refine gate_callee (f := 11) rfl ?_); refine goesL_ (some 66) rfl rfl Try.func11 (by kernel_rfl) rfl #[.agg #[.int .i64 x.f1.f0, .string x.f1.f1.f0, .slice A3 x.f1.f1.f1.length c3, .string x.f1.f2.f0, .slice A5 x.f1.f2.f1.length c5]] rfl (by (try simp only [List.map_toArray, List.map_cons, List.map_nil]); first | done | rfl) ?_; have HD9 := aM (set7 HD8.out GD8.out (.int .u8 x.f0) (.int .i64 x.f1.f0) (.string x.f1.f1.f0) (.slice A3 x.f1.f1.f1.length c3) (.string x.f1.f2.f0) (.slice A5 x.f1.f2.f1.length c5) (.bool x.f2)); have HQ9 := aM (HQ.out.later HD9.out); have HY9 := aM (blks7 HY8.out (.int .u8 x.f0) (.int .i64 x.f1.f0) (.string x.f1.f1.f0) (.slice A3 x.f1.f1.f1.length c3) (.string x.f1.f2.f0) (.slice A5 x.f1.f2.f1.length c5) (.bool x.f2)); (with_reducible refine (bureaulaw07_Fits.calls x.f1.f0 x.f1.f1.f0 A3 c3 x.f1.f1.f1 x.f1.f2.f0 A5 c5 x.f1.f2.f1 true _ (cB_ HEC.out.1 HQ9.out.below) HEC.out.2.1 (cB_ HEC.out.2.2.1 HQ9.out.below) HEC.out.2.2.2 HFT.out).mono ?_); rintro r9 w9 ⟨rfl, hb⟩; refine ⟨_, rfl, ?_⟩; have HQ10 := aM (HQ9.out.later hb); have HY10 := aM (bB HY9.out hb); clear hb; clear hy0 hfy0 hy1 hfy1 hy2 hfy2 hy3 hfy3 hy4 hfy4 hy5 hfy5 hy6 hfy6 HD9 HQ9 HY9 HD8 HY8; have hy0 := (bC HY10.out 0).trans (rfl : _ = some (Value.int .u8 x.f0)); have hy1 := (bC HY10.out 1).trans (rfl : _ = some (Value.int .i64 x.f1.f0)); have hy2 := (bC HY10.out 2).trans (rfl : _ = some (Value.string x.f1.f1.f0)); have hy3 := (bC HY10.out 3).trans (rfl : _ = some (Value.slice A3 x.f1.f1.f1.length c3)); have hy4 := (bC HY10.out 4).trans (rfl : _ = some (Value.string x.f1.f2.f0)); have hy5 := (bC HY10.out 5).trans (rfl : _ = some (Value.slice A5 x.f1.f2.f1.length c5)); have hy6 := (bC HY10.out 6).trans (rfl : _ = some (Value.bool x.f2)); have hq0 := (bC HQ10.out.box 0).trans (rfl : _ = some (Value.string (tAt T s.now).f0)); have hq1 := (bC HQ10.out.box 1).trans (rfl : _ = some (Value.slice A (tAt T s.now).f1.length c)))
                    | ((with_reducible refine gate_callee (f := 12) rfl ?_); refine goesL_ (some 103) rfl rfl Try.func12 (by kernel_rfl) rfl #[.pointer (some ⟨g, 0, none⟩)] rfl (by (try simp only [List.map_toArray, List.map_cons, List.map_nil]); first | done | rfl) ?_; (with_reducible refine (undo_no HQ10.out.hist HQ10.out.txs.inv.wf hx0 hn0 hup).mono ?_); rintro r11 w11 ⟨A7, c7, A8, c8, rfl, hh, ht⟩; refine ⟨_, rfl, ?_⟩; have HR11 := aM (HQ10.out.rq.call (s' := s) ⟨NG8.out.1, NG8.out.2.1⟩ (fun k hk => hk) hh ht); have HY11 := aM (ht.blk HY10.out (fun e => by have h1 := HQ.out.hist.lt; have h2 := GD8.out; rcases e with e | e <;> omega)); clear hh ht; clear hq0 hq1; clear hy0 hy1 hy2 hy3 hy4 hy5 hy6; have hq0 := (bC HR11.out.box 0).trans (rfl : _ = some (Value.string (tAt T s.now).f0)); have hq1 := (bC HR11.out.box 1).trans (rfl : _ = some (Value.slice A (tAt T s.now).f1.length c)); have hy0 := (bC HY11.out 0).trans (rfl : _ = some (Value.int .u8 x.f0)); have hy1 := (bC HY11.out 1).trans (rfl : _ = some (Value.int .i64 x.f1.f0)); have hy2 := (bC HY11.out 2).trans (rfl : _ = some (Value.string x.f1.f1.f0)); have hy3 := (bC HY11.out 3).trans (rfl : _ = some (Value.slice A3 x.f1.f1.f1.length c3)); have hy4 := (bC HY11.out 4).trans (rfl : _ = some (Value.string x.f1.f2.f0)); have hy5 := (bC HY11.out 5).trans (rfl : _ = some (Value.slice A5 x.f1.f2.f1.length c5)); have hy6 := (bC HY11.out 6).trans (rfl : _ = some (Value.bool x.f2)))
                    | ((with_reducible refine gate_dst (N := 16) rfl ?_); refine box_event ?hg (N := 16) ?hd (cs := zs5) (t := 34) ?hr ?_; (case hd => rfl); (case hg => rfl); (case hr => first | (go_simp; done) | (go_simp; rfl)); intro g16 hg w12 hbox hb; have HD12 := aM hb; have HY12 := aM hbox; have G12 := aM (Nat.le_of_eq hg.symm); have N16 := aM (show g11 ≠ g16 ∧ g8 ≠ g16 ∧ g16 ≠ g ∧ g16 ≠ bm from ⟨fun e => by have := blk_lt HY11.out; omega, fun e => by have := blk_lt HR11.out.box; omega, fun e => by have := HR11.out.hist.lt.2.1; omega, fun e => by have := HR11.out.hist.lt.2.2.1; omega⟩); have HYA := aM (bB HY11.out hb); have HQA := aM (bB HR11.out.box hb); clear hb hbox hg; clear hy0 hy1 hy2 hy3 hy4 hy5 hy6; clear hq0 hq1; have hz0 := (bC HY12.out 0).trans (rfl : _ = some (Value.int .i64 0)); have hz1 := (bC HY12.out 1).trans (rfl : _ = some (Value.string ⟨#[]⟩)); have hz2 := (bC HY12.out 2).trans (rfl : _ = some (Value.slice none 0 0)); have hz3 := (bC HY12.out 3).trans (rfl : _ = some (Value.string ⟨#[]⟩)); have hz4 := (bC HY12.out 4).trans (rfl : _ = some (Value.slice none 0 0)); have hfz0 := bF HY12.out 0; have hfz1 := bF HY12.out 1; have hfz2 := bF HY12.out 2; have hfz3 := bF HY12.out 3; have hfz4 := bF HY12.out 4; have hq0 := (bC HQA.out 0).trans (rfl : _ = some (Value.string (tAt T s.now).f0)); have hq1 := (bC HQA.out 1).trans (rfl : _ = some (Value.slice A (tAt T s.now).f1.length c)); have hy0 := (bC HYA.out 0).trans (rfl : _ = some (Value.int .u8 x.f0)); have hy1 := (bC HYA.out 1).trans (rfl : _ = some (Value.int .i64 x.f1.f0)); have hy2 := (bC HYA.out 2).trans (rfl : _ = some (Value.string x.f1.f1.f0)); have hy3 := (bC HYA.out 3).trans (rfl : _ = some (Value.slice A3 x.f1.f1.f1.length c3)); have hy4 := (bC HYA.out 4).trans (rfl : _ = some (Value.string x.f1.f2.f0)); have hy5 := (bC HYA.out 5).trans (rfl : _ = some (Value.slice A5 x.f1.f2.f1.length c5)); have hy6 := (bC HYA.out 6).trans (rfl : _ = some (Value.bool x.f2)); have hne := N16.out.1; have hne' : g16 ≠ g11 := fun e => N16.out.1 e.symm; have hne8 := N16.out.2.1; have hne8' : g16 ≠ g8 := fun e => N16.out.2.1 e.symm)
                    | ((with_reducible refine gate_callee (f := 15) rfl ?_); refine goesL_ (some 121) rfl rfl Try.func15 (by kernel_rfl) rfl #[.pointer (some ⟨g, 0, none⟩)] rfl (by (try simp only [List.map_toArray, List.map_cons, List.map_nil]); first | done | rfl) ?_; have HS12 := aM (set5 HD12.out G12.out (.int .i64 (z34).f0) (.string (z34).f1.f0) (.slice A7 (z34).f1.f1.length c7) (.string (z34).f2.f0) (.slice A8 (z34).f2.f1.length c8)); have HY12B := aM (blks5 HY12.out (.int .i64 (z34).f0) (.string (z34).f1.f0) (.slice A7 (z34).f1.f1.length c7) (.string (z34).f2.f0) (.slice A8 (z34).f2.f1.length c8)); have HR12 := aM (HR11.out.grow16 HS12.out G12.out (blk_lt HY12B.out)); (with_reducible refine (redo_no HR12.out.hist HQ10.out.txs.inv.wf hrd).mono ?_); rintro r13 w13 ⟨A9, c9, A10, c10, rfl, hh, ht⟩; refine ⟨_, rfl, ?_⟩; have HR13 := aM (HR12.out.call (s' := s) ⟨NG8.out.1, NG8.out.2.1⟩ (fun k hk => hk.1) hh ht); have HY13 := aM (ht.blk HY12B.out (fun e => by rcases e with e | e; exact N16.out.2.2.1 e; exact N16.out.2.2.2 e)); have HR13B := aM HR13.out.box; clear hh ht ; clear hy0 hy1 hy2 hy3 hy4 hy5 hy6; clear hq0 hq1; clear hz0 hfz0 hz1 hfz1 hz2 hfz2 hz3 hfz3 hz4 hfz4; have hz0 := (bC HY13.out 0).trans (rfl : _ = some (Value.int .i64 (z34).f0)); have hz1 := (bC HY13.out 1).trans (rfl : _ = some (Value.string (z34).f1.f0)); have hz2 := (bC HY13.out 2).trans (rfl : _ = some (Value.slice A7 (z34).f1.f1.length c7)); have hz3 := (bC HY13.out 3).trans (rfl : _ = some (Value.string (z34).f2.f0)); have hz4 := (bC HY13.out 4).trans (rfl : _ = some (Value.slice A8 (z34).f2.f1.length c8)); have hfz0 := bF HY13.out 0; have hfz1 := bF HY13.out 1; have hfz2 := bF HY13.out 2; have hfz3 := bF HY13.out 3; have hfz4 := bF HY13.out 4; have hq0 := (bC HR13B.out 0).trans (rfl : _ = some (Value.string (tAt T s.now).f0)); have hq1 := (bC HR13B.out 1).trans (rfl : _ = some (Value.slice A (tAt T s.now).f1.length c)); clear hne hne')
                    )
                  have HRZ := aM (HR13.out.put16 (.inr rfl) ⟨N16.out.2.2.1, N16.out.2.2.2, N16.out.2.1⟩ (.int .i64 (z34).f0) (.string (z34).f1.f0) (.slice A9 (z34).f1.f1.length c9) (.string (z34).f2.f0) (.slice A10 (z34).f2.f1.length c10))
                  have HQZ := aM (HRZ.out.bq HQ10.out.txs)
                  first | rw [e1] | rw [show ((i : Int) + 1) = ((i + 1 : Nat) : Int) by omega]
                  go_roundg k1
                  case measure => exact Nat.lt_succ_self _
                  case rel => exact ⟨i + 1, s, T, A, c, _, rfl, ⟨by have := HI.out; omega⟩, ⟨by have := HN.out; have := HI80.out; omega⟩, HQZ⟩
                case some y =>
                  have HU := aM (HQ.out.txs.redo hrd)
                  obtain ⟨e7, he7⟩ : ∃ e, y.f2 = e := ⟨_, rfl⟩
                  obtain ⟨n7, hn7⟩ : ∃ n, y.f0 = n := ⟨_, rfl⟩
                  rw [he7, hn7] at HU
                  have HAP := aM HU.out.2.2.1
                  have HTS := aM HU.out.1
                  have HN7 := aM HU.out.2.2.2
                  go_wp2_with (first
                    | ((with_reducible refine gate_dst (N := 11) rfl ?_); refine box_event ?hg (N := 11) ?hd (cs := #[.int .u8 0, .int .i64 0, .string ⟨#[]⟩, .slice none 0 0, .string ⟨#[]⟩, .slice none 0 0, .bool false]) (t := 36) ?hr ?_; (case hd => rfl); (case hg => rfl); (case hr => first | (go_simp; done) | (go_simp; rfl)); intro g11 hg w8 hbox hb; have HD8 := aM hb; have HY8 := aM hbox; have GD8 := aM (Nat.le_of_eq hg.symm); clear hb hbox hg; clear hc0 hc1 hc2 hc3 hc4 hc5 hc6; have hy0 := (bC HY8.out 0).trans (rfl : _ = some (Value.int .u8 0)); have hy1 := (bC HY8.out 1).trans (rfl : _ = some (Value.int .i64 0)); have hy2 := (bC HY8.out 2).trans (rfl : _ = some (Value.string ⟨#[]⟩)); have hy3 := (bC HY8.out 3).trans (rfl : _ = some (Value.slice none 0 0)); have hy4 := (bC HY8.out 4).trans (rfl : _ = some (Value.string ⟨#[]⟩)); have hy5 := (bC HY8.out 5).trans (rfl : _ = some (Value.slice none 0 0)); have hy6 := (bC HY8.out 6).trans (rfl : _ = some (Value.bool false)); have hfy0 := bF HY8.out 0; have hfy1 := bF HY8.out 1; have hfy2 := bF HY8.out 2; have hfy3 := bF HY8.out 3; have hfy4 := bF HY8.out 4; have hfy5 := bF HY8.out 5; have hfy6 := bF HY8.out 6)
                    | ((with_reducible refine gate_callee (f := 11) rfl ?_); refine goesL_ (some 66) rfl rfl Try.func11 (by kernel_rfl) rfl #[.agg #[.int .i64 x.f1.f0, .string x.f1.f1.f0, .slice A3 x.f1.f1.f1.length c3, .string x.f1.f2.f0, .slice A5 x.f1.f2.f1.length c5]] rfl (by (try simp only [List.map_toArray, List.map_cons, List.map_nil]); first | done | rfl) ?_; have HD9 := aM (set7 HD8.out GD8.out (.int .u8 x.f0) (.int .i64 x.f1.f0) (.string x.f1.f1.f0) (.slice A3 x.f1.f1.f1.length c3) (.string x.f1.f2.f0) (.slice A5 x.f1.f2.f1.length c5) (.bool x.f2)); have HQ9 := aM (HQ.out.later HD9.out); have HY9 := aM (blks7 HY8.out (.int .u8 x.f0) (.int .i64 x.f1.f0) (.string x.f1.f1.f0) (.slice A3 x.f1.f1.f1.length c3) (.string x.f1.f2.f0) (.slice A5 x.f1.f2.f1.length c5) (.bool x.f2)); (with_reducible refine (bureaulaw07_Fits.calls x.f1.f0 x.f1.f1.f0 A3 c3 x.f1.f1.f1 x.f1.f2.f0 A5 c5 x.f1.f2.f1 true _ (cB_ HEC.out.1 HQ9.out.below) HEC.out.2.1 (cB_ HEC.out.2.2.1 HQ9.out.below) HEC.out.2.2.2 HFT.out).mono ?_); rintro r9 w9 ⟨rfl, hb⟩; refine ⟨_, rfl, ?_⟩; have HQ10 := aM (HQ9.out.later hb); have HY10 := aM (bB HY9.out hb); clear hb; clear hy0 hfy0 hy1 hfy1 hy2 hfy2 hy3 hfy3 hy4 hfy4 hy5 hfy5 hy6 hfy6 HD9 HQ9 HY9 HD8 HY8; have hy0 := (bC HY10.out 0).trans (rfl : _ = some (Value.int .u8 x.f0)); have hy1 := (bC HY10.out 1).trans (rfl : _ = some (Value.int .i64 x.f1.f0)); have hy2 := (bC HY10.out 2).trans (rfl : _ = some (Value.string x.f1.f1.f0)); have hy3 := (bC HY10.out 3).trans (rfl : _ = some (Value.slice A3 x.f1.f1.f1.length c3)); have hy4 := (bC HY10.out 4).trans (rfl : _ = some (Value.string x.f1.f2.f0)); have hy5 := (bC HY10.out 5).trans (rfl : _ = some (Value.slice A5 x.f1.f2.f1.length c5)); have hy6 := (bC HY10.out 6).trans (rfl : _ = some (Value.bool x.f2)); have hq0 := (bC HQ10.out.box 0).trans (rfl : _ = some (Value.string (tAt T s.now).f0)); have hq1 := (bC HQ10.out.box 1).trans (rfl : _ = some (Value.slice A (tAt T s.now).f1.length c)))
                    | ((with_reducible refine gate_callee (f := 12) rfl ?_); refine goesL_ (some 103) rfl rfl Try.func12 (by kernel_rfl) rfl #[.pointer (some ⟨g, 0, none⟩)] rfl (by (try simp only [List.map_toArray, List.map_cons, List.map_nil]); first | done | rfl) ?_; (with_reducible refine (undo_no HQ10.out.hist HQ10.out.txs.inv.wf hx0 hn0 hup).mono ?_); rintro r11 w11 ⟨A7, c7, A8, c8, rfl, hh, ht⟩; refine ⟨_, rfl, ?_⟩; have HR11 := aM (HQ10.out.rq.call (s' := s) ⟨NG8.out.1, NG8.out.2.1⟩ (fun k hk => hk) hh ht); have HY11 := aM (ht.blk HY10.out (fun e => by have h1 := HQ.out.hist.lt; have h2 := GD8.out; rcases e with e | e <;> omega)); clear hh ht; clear hq0 hq1; clear hy0 hy1 hy2 hy3 hy4 hy5 hy6; have hq0 := (bC HR11.out.box 0).trans (rfl : _ = some (Value.string (tAt T s.now).f0)); have hq1 := (bC HR11.out.box 1).trans (rfl : _ = some (Value.slice A (tAt T s.now).f1.length c)); have hy0 := (bC HY11.out 0).trans (rfl : _ = some (Value.int .u8 x.f0)); have hy1 := (bC HY11.out 1).trans (rfl : _ = some (Value.int .i64 x.f1.f0)); have hy2 := (bC HY11.out 2).trans (rfl : _ = some (Value.string x.f1.f1.f0)); have hy3 := (bC HY11.out 3).trans (rfl : _ = some (Value.slice A3 x.f1.f1.f1.length c3)); have hy4 := (bC HY11.out 4).trans (rfl : _ = some (Value.string x.f1.f2.f0)); have hy5 := (bC HY11.out 5).trans (rfl : _ = some (Value.slice A5 x.f1.f2.f1.length c5)); have hy6 := (bC HY11.out 6).trans (rfl : _ = some (Value.bool x.f2)))
                    | ((with_reducible refine gate_dst (N := 16) rfl ?_); refine box_event ?hg (N := 16) ?hd (cs := zs5) (t := 34) ?hr ?_; (case hd => rfl); (case hg => rfl); (case hr => first | (go_simp; done) | (go_simp; rfl)); intro g16 hg w12 hbox hb; have HD12 := aM hb; have HY12 := aM hbox; have G12 := aM (Nat.le_of_eq hg.symm); have N16 := aM (show g11 ≠ g16 ∧ g8 ≠ g16 ∧ g16 ≠ g ∧ g16 ≠ bm from ⟨fun e => by have := blk_lt HY11.out; omega, fun e => by have := blk_lt HR11.out.box; omega, fun e => by have := HR11.out.hist.lt.2.1; omega, fun e => by have := HR11.out.hist.lt.2.2.1; omega⟩); have HYA := aM (bB HY11.out hb); have HQA := aM (bB HR11.out.box hb); clear hb hbox hg; clear hy0 hy1 hy2 hy3 hy4 hy5 hy6; clear hq0 hq1; have hz0 := (bC HY12.out 0).trans (rfl : _ = some (Value.int .i64 0)); have hz1 := (bC HY12.out 1).trans (rfl : _ = some (Value.string ⟨#[]⟩)); have hz2 := (bC HY12.out 2).trans (rfl : _ = some (Value.slice none 0 0)); have hz3 := (bC HY12.out 3).trans (rfl : _ = some (Value.string ⟨#[]⟩)); have hz4 := (bC HY12.out 4).trans (rfl : _ = some (Value.slice none 0 0)); have hfz0 := bF HY12.out 0; have hfz1 := bF HY12.out 1; have hfz2 := bF HY12.out 2; have hfz3 := bF HY12.out 3; have hfz4 := bF HY12.out 4; have hq0 := (bC HQA.out 0).trans (rfl : _ = some (Value.string (tAt T s.now).f0)); have hq1 := (bC HQA.out 1).trans (rfl : _ = some (Value.slice A (tAt T s.now).f1.length c)); have hy0 := (bC HYA.out 0).trans (rfl : _ = some (Value.int .u8 x.f0)); have hy1 := (bC HYA.out 1).trans (rfl : _ = some (Value.int .i64 x.f1.f0)); have hy2 := (bC HYA.out 2).trans (rfl : _ = some (Value.string x.f1.f1.f0)); have hy3 := (bC HYA.out 3).trans (rfl : _ = some (Value.slice A3 x.f1.f1.f1.length c3)); have hy4 := (bC HYA.out 4).trans (rfl : _ = some (Value.string x.f1.f2.f0)); have hy5 := (bC HYA.out 5).trans (rfl : _ = some (Value.slice A5 x.f1.f2.f1.length c5)); have hy6 := (bC HYA.out 6).trans (rfl : _ = some (Value.bool x.f2)); have hne := N16.out.1; have hne' : g16 ≠ g11 := fun e => N16.out.1 e.symm; have hne8 := N16.out.2.1; have hne8' : g16 ≠ g8 := fun e => N16.out.2.1 e.symm)
                    | ((with_reducible refine gate_callee (f := 15) rfl ?_); refine goesL_ (some 121) rfl rfl Try.func15 (by kernel_rfl) rfl #[.pointer (some ⟨g, 0, none⟩)] rfl (by (try simp only [List.map_toArray, List.map_cons, List.map_nil]); first | done | rfl) ?_; have HS12 := aM (set5 HD12.out G12.out (.int .i64 (z34).f0) (.string (z34).f1.f0) (.slice A7 (z34).f1.f1.length c7) (.string (z34).f2.f0) (.slice A8 (z34).f2.f1.length c8)); have HY12B := aM (blks5 HY12.out (.int .i64 (z34).f0) (.string (z34).f1.f0) (.slice A7 (z34).f1.f1.length c7) (.string (z34).f2.f0) (.slice A8 (z34).f2.f1.length c8)); have HR12 := aM (HR11.out.grow16 HS12.out G12.out (blk_lt HY12B.out)); have HRY := redo_yes HR12.out.hist HQ10.out.txs.inv.wf hrd; rw [he7, hn7] at HRY; (with_reducible refine (HRY).mono ?_); rintro r13 w13 ⟨A9, c9, A10, c10, rfl, he, hh, ht⟩; refine ⟨_, rfl, ?_⟩; have HR13 := aM (HR12.out.call (s' := ⟨s.L, n7, s.next⟩) ⟨NG8.out.1, NG8.out.2.1⟩ (fun k hk => hk.1) hh ht); have HY13 := aM (ht.blk HY12B.out (fun e => by rcases e with e | e; exact N16.out.2.2.1 e; exact N16.out.2.2.2 e)); have HR13B := aM HR13.out.box; have HE13 := aM he; clear HRY; have HL12 := aM (blk_lt HY12B.out); clear hh ht he; clear hy0 hy1 hy2 hy3 hy4 hy5 hy6; clear hq0 hq1; clear hz0 hfz0 hz1 hfz1 hz2 hfz2 hz3 hfz3 hz4 hfz4; have hz0 := (bC HY13.out 0).trans (rfl : _ = some (Value.int .i64 (z34).f0)); have hz1 := (bC HY13.out 1).trans (rfl : _ = some (Value.string (z34).f1.f0)); have hz2 := (bC HY13.out 2).trans (rfl : _ = some (Value.slice A7 (z34).f1.f1.length c7)); have hz3 := (bC HY13.out 3).trans (rfl : _ = some (Value.string (z34).f2.f0)); have hz4 := (bC HY13.out 4).trans (rfl : _ = some (Value.slice A8 (z34).f2.f1.length c8)); have hfz0 := bF HY13.out 0; have hfz1 := bF HY13.out 1; have hfz2 := bF HY13.out 2; have hfz3 := bF HY13.out 3; have hfz4 := bF HY13.out 4; have hq0 := (bC HR13B.out 0).trans (rfl : _ = some (Value.string (tAt T s.now).f0)); have hq1 := (bC HR13B.out 1).trans (rfl : _ = some (Value.slice A (tAt T s.now).f1.length c)); clear hne hne')
                    | ((with_reducible refine gate_callee (f := 27) rfl ?_); refine goesL_ (some 129) rfl rfl Try.func27 (by kernel_rfl) rfl #[txV (tAt T s.now) A c, edV e7 A9 c9 A10 c10] rfl (by (try simp only [List.map_toArray, List.map_cons, List.map_nil]); first | done | rfl) ?_; have HRA := aM (HR13.out.put16 (.inr rfl) ⟨N16.out.2.2.1, N16.out.2.2.2, N16.out.2.1⟩ (.int .i64 (e7).f0) (.string (e7).f1.f0) (.slice A9 (e7).f1.f1.length c9) (.string (e7).f2.f0) (.slice A10 (e7).f2.f1.length c10)); have HEA := aM (HE13.out.turn (turn5 g16 _ (.int .i64 (e7).f0) (.string (e7).f1.f0) (.slice A9 (e7).f1.f1.length c9) (.string (e7).f2.f0) (.slice A10 (e7).f2.f1.length c10)) (fun k hk e => by have h1 := HL12.out; have h2 : _ ≤ k := hk; subst e; exact absurd h1 (Nat.not_lt.2 h2))); (with_reducible refine (rapply_to HRA.out.text HEA.out (HQ10.out.txs.tgood HTG.out.1 HTG.out.2) HAP.out).mono ?_); rintro r14 w14 ⟨A', c', rfl, ht, hb⟩; refine ⟨_, rfl, ?_⟩; have HT14 := aM ht; have HB14 := aM hb; clear ht hb)
                    | ((with_reducible refine gate_dst (N := 18) rfl ?_); refine box_event ?hg (N := 18) ?hd (cs := #[.string ⟨#[]⟩, .slice none 0 0]) (t := 32) ?hr ?_; (case hd => rfl); (case hg => rfl); (case hr => first | (go_simp; done) | (go_simp; rfl)); intro g18 hg w15 hbox hb; have HD15 := aM hb; have HY15 := aM hbox; have G15 := aM (Nat.le_of_eq hg.symm); have N18 := aM (show g8 ≠ g18 from fun e => by have := blk_lt HRA.out.box; have := HB14.out.size; omega); clear hb hbox hg; have hu0 := (bC HY15.out 0).trans (rfl : _ = some (Value.string ⟨#[]⟩)); have hu1 := (bC HY15.out 1).trans (rfl : _ = some (Value.slice none 0 0)); have hfu0 := bF HY15.out 0; have hfu1 := bF HY15.out 1)
                    )
                  generalize hw20 : World.setCell _ ⟨g18, 1, none⟩ _ = w20
                  have HT20 := aM (show Tq g bm g8 g18 _ w ⟨s.L, n7, s.next⟩ depth T A' c' (.slice Av T.length cv) (.string (tAt T s.now).f0) (.slice A (tAt T s.now).f1.length c) w20 from by
                    subst hw20
                    have HS15 := set2 HD15.out G15.out (.string (tAt T n7).f0) (.slice A' (tAt T n7).f1.length c')
                    exact HRA.out.tq HTS.out (HB14.out.trans (HS15.mono HB14.out.size)) (HT14.out.below HS15) (blks2 HY15.out (.string (tAt T n7).f0) (.slice A' (tAt T n7).f1.length c')) N18.out)
                  clear hw20
                  obtain ⟨ad9, A9, c9, eA9, hr0, hr1, hT9⟩ := text_at HT20.out.row HN7.out.1 (by have := HTS.out.len; have := HN7.out.2; omega)
                  cases eA9
                  have HT9 := aM hT9
                  have HRW := aM (And.intro (cellW (below_drew1 (Below.refl _ _)) hr0) (cellW (below_drew1 (Below.refl _ _)) hr1))
                  clear hr0 hr1 hT9
                  have d7 : decide (n7 < 0) = false := decide_eq_false (by have := HN7.out.1; omega)
                  have d8 : decide (n7 ≥ (T.length : Int)) = false := decide_eq_false (by have := HTS.out.len; have := HN7.out.2; omega)
                  have d9 : (0 ≤ n7) = True := eq_true HN7.out.1
                  have d10 : (n7 < (T.length : Int)) = True := eq_true (by have := HTS.out.len; have := HN7.out.2; omega)
                  refine start_ (n := 24) (S := fun W => W.cell? ⟨g18, 0, none⟩ = some (.string (tAt T n7).f0) ∧ W.cell? ⟨g18, 1, none⟩ = some (.slice A' (tAt T n7).f1.length c') ∧ W.cell? (ad9.add (n7.toNat * 2)) = some (.string (tAt T n7).f0) ∧ W.cell? ⟨(ad9.add (n7.toNat * 2)).block, (ad9.add (n7.toNat * 2)).off + 1, none⟩ = some (.slice A9 (tAt T n7).f1.length c9)) (ds := []) #[tF,tF,tF,tF,tF,tF,tF,tF,tF,tF,tF,tF,tF,tF,tF,tF,tF,tF,tF,tF,tF,tF,tF,tF] (by kernel_rfl) rfl rfl ⟨(bC (blk_drew HT20.out.b18) 0).trans rfl, (bC (blk_drew HT20.out.b18) 1).trans rfl, HRW.out.1, HRW.out.2⟩ (fun hHeld => ?_)
                  have HT21 := aM (HT20.out.later (below_drew1 (Below.refl _ _)))
                  have HT9 := aM (HT9.out.below (below_drew1 (Below.refl _ _)))
                  generalize w20.drew = w21 at HT21 HT9 HRW hHeld ⊢
                  refine sv 0 132 #[tT,tF,tF,tF,tF,tF,tF,tF,tF,tF,tF,tF,tF,tF,tF,tF,tF,tF,tF,tF,tF,tF,tF,tF] ?_
                  refine sv 1 133 #[tT,tT,tF,tF,tF,tF,tF,tF,tF,tF,tF,tF,tF,tF,tF,tF,tF,tF,tF,tF,tF,tF,tF,tF] ?_
                  refine sv 2 134 #[tT,tT,tT,tF,tF,tF,tF,tF,tF,tF,tF,tF,tF,tF,tF,tF,tF,tF,tF,tF,tF,tF,tF,tF] ?_
                  refine sv 3 135 #[tT,tT,tT,tT,tF,tF,tF,tF,tF,tF,tF,tF,tF,tF,tF,tF,tF,tF,tF,tF,tF,tF,tF,tF] ?_
                  refine one_ (i := 4) (N := some 136) #[tT,tT,tT,tT,tT,tF,tF,tF,tF,tF,tF,tF,tF,tF,tF,tF,tF,tF,tF,tF,tF,tF,tF,tF] rfl rfl (by kernel_rfl) (by decide) (fun K hK => ?_)
                  refine goes_ Try.func19 (by kernel_rfl) rfl #[.pointer (some ⟨g, 0, none⟩)] (by rfl) rfl rfl (by (try simp only [List.map_toArray, List.map_cons, List.map_nil]); first | done | rfl) ?_
                  (with_reducible refine (now_ok HT21.out.hist).mono ?_)
                  rintro r22 w22 ⟨rfl, hw⟩
                  subst hw
                  refine ⟨_, rfl, hK.out _ _ ⟨(bC HT21.out.b18 0).trans rfl, (bC HT21.out.b18 1).trans rfl, HRW.out.1, HRW.out.2⟩ (fun hHeld => ?_)⟩
                  clear hK K
                  refine norm_ (a' := ?_) ?_ ?_
                  rotate_left
                  · simp only [Act.put, List.setIfInBounds_toArray, List.set_cons_zero, List.set_cons_succ, i64_w, i32_w]
                    rfl
                  refine sv 5 137 #[tT,tT,tT,tT,tT,tT,tF,tF,tF,tF,tF,tF,tF,tF,tF,tF,tF,tF,tF,tF,tF,tF,tF,tF] ?_
                  refine sv 6 138 #[tT,tT,tT,tT,tT,tT,tT,tF,tF,tF,tF,tF,tF,tF,tF,tF,tF,tF,tF,tF,tF,tF,tF,tF] ?_
                  refine sv 7 139 #[tT,tT,tT,tT,tT,tT,tT,tT,tF,tF,tF,tF,tF,tF,tF,tF,tF,tF,tF,tF,tF,tF,tF,tF] ?_
                  refine sv 8 140 #[tT,tT,tT,tT,tT,tT,tT,tT,tT,tF,tF,tF,tF,tF,tF,tF,tF,tF,tF,tF,tF,tF,tF,tF] ?_
                  refine sv 10 142 #[tT,tT,tT,tT,tT,tT,tT,tT,tT,tF,tT,tF,tF,tF,tF,tF,tF,tF,tF,tF,tF,tF,tF,tF] ?_
                  refine sv 11 143 #[tT,tT,tT,tT,tT,tT,tT,tT,tT,tF,tT,tT,tF,tF,tF,tF,tF,tF,tF,tF,tF,tF,tF,tF] ?_
                  refine one_ (i := 9) (N := some 141) #[tT,tT,tT,tT,tT,tT,tT,tT,tT,tT,tT,tT,tF,tF,tF,tF,tF,tF,tF,tF,tF,tF,tF,tF] rfl rfl (by kernel_rfl) (by decide) (fun K hK => ?_)
                  refine goes_ Try.func19 (by kernel_rfl) rfl #[.pointer (some ⟨g, 0, none⟩)] (by rfl) rfl rfl (by (try simp only [List.map_toArray, List.map_cons, List.map_nil]); first | done | rfl) ?_
                  (with_reducible refine (now_ok HT21.out.hist).mono ?_)
                  rintro r22 w22 ⟨rfl, hw⟩
                  subst hw
                  refine ⟨_, rfl, hK.out _ _ ⟨(bC HT21.out.b18 0).trans rfl, (bC HT21.out.b18 1).trans rfl, HRW.out.1, HRW.out.2⟩ (fun hHeld => ?_)⟩
                  clear hK K
                  refine norm_ (a' := ?_) ?_ ?_
                  rotate_left
                  · simp only [Act.put, List.setIfInBounds_toArray, List.set_cons_zero, List.set_cons_succ, i64_w, i32_w]
                    rfl
                  refine sv 12 144 #[tT,tT,tT,tT,tT,tT,tT,tT,tT,tT,tT,tT,tT,tF,tF,tF,tF,tF,tF,tF,tF,tF,tF,tF] ?_
                  refine sv 13 145 #[tT,tT,tT,tT,tT,tT,tT,tT,tT,tT,tT,tT,tT,tT,tF,tF,tF,tF,tF,tF,tF,tF,tF,tF] ?_
                  refine sv 14 146 #[tT,tT,tT,tT,tT,tT,tT,tT,tT,tT,tT,tT,tT,tT,tT,tF,tF,tF,tF,tF,tF,tF,tF,tF] ?_
                  refine st 15 147 #[tT,tT,tT,tT,tT,tT,tT,tT,tT,tT,tT,tT,tT,tT,tT,tT,tF,tF,tF,tF,tF,tF,tF,tF] hHeld ?_
                  refine sv 16 148 #[tT,tT,tT,tT,tT,tT,tT,tT,tT,tT,tT,tT,tT,tT,tT,tT,tT,tF,tF,tF,tF,tF,tF,tF] ?_
                  refine sv 17 149 #[tT,tT,tT,tT,tT,tT,tT,tT,tT,tT,tT,tT,tT,tT,tT,tT,tT,tT,tF,tF,tF,tF,tF,tF] ?_
                  refine one_ (i := 18) (N := some 150) #[tT,tT,tT,tT,tT,tT,tT,tT,tT,tT,tT,tT,tT,tT,tT,tT,tT,tT,tT,tF,tF,tF,tF,tF] rfl rfl (by kernel_rfl) (by decide) (fun K hK => ?_)
                  refine goes_ Try.func19 (by kernel_rfl) rfl #[.pointer (some ⟨g, 0, none⟩)] (by rfl) rfl rfl (by (try simp only [List.map_toArray, List.map_cons, List.map_nil]); first | done | rfl) ?_
                  (with_reducible refine (now_ok HT21.out.hist).mono ?_)
                  rintro r22 w22 ⟨rfl, hw⟩
                  subst hw
                  refine ⟨_, rfl, hK.out _ _ ⟨(bC HT21.out.b18 0).trans rfl, (bC HT21.out.b18 1).trans rfl, HRW.out.1, HRW.out.2⟩ (fun hHeld => ?_)⟩
                  clear hK K
                  refine norm_ (a' := ?_) ?_ ?_
                  rotate_left
                  · simp only [Act.put, List.setIfInBounds_toArray, List.set_cons_zero, List.set_cons_succ, i64_w, i32_w]
                    rfl
                  refine sv 19 151 #[tT,tT,tT,tT,tT,tT,tT,tT,tT,tT,tT,tT,tT,tT,tT,tT,tT,tT,tT,tT,tF,tF,tF,tF] ?_
                  refine st 20 152 #[tT,tT,tT,tT,tT,tT,tT,tT,tT,tT,tT,tT,tT,tT,tT,tT,tT,tT,tT,tT,tT,tF,tF,tF] hHeld ?_
                  refine one_ (i := 21) (N := some 153) #[tT,tT,tT,tT,tT,tT,tT,tT,tT,tT,tT,tT,tT,tT,tT,tT,tT,tT,tT,tT,tT,tT,tF,tF] rfl rfl (by kernel_rfl) (by decide) (fun K hK => ?_)
                  refine goes_ Try.func28 (by kernel_rfl) rfl #[txV (tAt T n7) A' c', txV (tAt T n7) A9 c9] (by rfl) rfl rfl (by (try simp only [List.map_toArray, List.map_cons, List.map_nil]); first | done | rfl) ?_
                  (with_reducible refine (same4_ok HT21.out.text HT9.out (HT21.out.txs.tgood HN7.out.1 HN7.out.2)).mono ?_)
                  rintro r28 w28 ⟨rfl, hb⟩
                  have HT28 := aM (HT21.out.later hb)
                  have HRW := aM (And.intro (cellW hb HRW.out.1) (cellW hb HRW.out.2))
                  clear hb
                  refine ⟨_, rfl, hK.out _ _ ⟨(bC HT28.out.b18 0).trans rfl, (bC HT28.out.b18 1).trans rfl, HRW.out.1, HRW.out.2⟩ (fun hHeld => ?_)⟩
                  clear hK K
                  refine norm_ (a' := ?_) ?_ ?_
                  rotate_left
                  · simp only [Act.put, List.setIfInBounds_toArray, List.set_cons_zero, List.set_cons_succ, i64_w, i32_w]
                    rfl
                  refine sv 22 154 #[tT,tT,tT,tT,tT,tT,tT,tT,tT,tT,tT,tT,tT,tT,tT,tT,tT,tT,tT,tT,tT,tT,tT,tF] ?_
                  refine sv 23 155 #[tT,tT,tT,tT,tT,tT,tT,tT,tT,tT,tT,tT,tT,tT,tT,tT,tT,tT,tT,tT,tT,tT,tT,tT] ?_
                  refine done_ (by kernel_rfl) ?_
                  clear hHeld
                  have hu0 := (bC HT28.out.b18 0).trans (rfl : _ = some (Value.string (tAt T n7).f0))
                  have hu1 := (bC HT28.out.b18 1).trans (rfl : _ = some (Value.slice A' (tAt T n7).f1.length c'))
                  have hq0 := (bC HT28.out.box 0).trans (rfl : _ = some (Value.string (tAt T s.now).f0))
                  have hq1 := (bC HT28.out.box 1).trans (rfl : _ = some (Value.slice A (tAt T s.now).f1.length c))
                  have hfq0 := bF HT28.out.box 0
                  have hfq1 := bF HT28.out.box 1
                  have hn8 := N18.out
                  have hn8' : g18 ≠ g8 := fun e => N18.out e.symm
                  go_wp2
                  have HQZ := aM (Bq.mk2 (s := ⟨s.L, n7, s.next⟩) HT28.out.hist HT28.out.sub HT28.out.own HT28.out.lo HT28.out.lt HT28.out.txs HT28.out.box HT28.out.text HT28.out.row HT28.out.below NG8.out.2.2 ⟨NG8.out.1, NG8.out.2.1⟩)
                  first | rw [e1] | rw [show ((i : Int) + 1) = ((i + 1 : Nat) : Int) by omega]
                  go_roundg k1
                  case measure => exact Nat.lt_succ_self _
                  case rel => exact ⟨i + 1, ⟨s.L, n7, s.next⟩, T, A', c', _, rfl, ⟨by have := HI.out; omega⟩, ⟨by have := HN.out; have := HI80.out; show i + 1 ≤ 80 ∧ s.next ≤ ((i + 1 : Nat) : Int) + 1; omega⟩, HQZ⟩
            case neg =>
              have hup0 : 0 ≤ x0.f1 := by omega
              obtain ⟨e7, he7⟩ : ∃ e, invE x0.f2 = e := ⟨_, rfl⟩
              obtain ⟨n7, hn7⟩ : ∃ n, x0.f1 = n := ⟨_, rfl⟩
              have HU := aM (HQ.out.txs.undo hx0 hn0 hup0)
              rw [he7, hn7] at HU
              have HN7 := aM (show 0 ≤ n7 ∧ n7 < s.next from ⟨by omega, by obtain ⟨z, hz, hz0⟩ := HU.out.1.inv.wf.now; have := HU.out.1.inv.wf.low z hz; omega⟩)
              by_cases k3 : x.f0 % 4 = 3
              case pos =>
                have k3b : (x.f0 % 4 == 3) = true := by simpa using k3
                have k3d : decide (x.f0 % 4 = 3) = true := decide_eq_true k3
                clear k3 hk hup
                go_wp2_with (first
                  | ((with_reducible refine gate_dst (N := 11) rfl ?_); refine box_event ?hg (N := 11) ?hd (cs := #[.int .u8 0, .int .i64 0, .string ⟨#[]⟩, .slice none 0 0, .string ⟨#[]⟩, .slice none 0 0, .bool false]) (t := 36) ?hr ?_; (case hd => rfl); (case hg => rfl); (case hr => first | (go_simp; done) | (go_simp; rfl)); intro g11 hg w8 hbox hb; have HD8 := aM hb; have HY8 := aM hbox; have GD8 := aM (Nat.le_of_eq hg.symm); clear hb hbox hg; clear hc0 hc1 hc2 hc3 hc4 hc5 hc6; have hy0 := (bC HY8.out 0).trans (rfl : _ = some (Value.int .u8 0)); have hy1 := (bC HY8.out 1).trans (rfl : _ = some (Value.int .i64 0)); have hy2 := (bC HY8.out 2).trans (rfl : _ = some (Value.string ⟨#[]⟩)); have hy3 := (bC HY8.out 3).trans (rfl : _ = some (Value.slice none 0 0)); have hy4 := (bC HY8.out 4).trans (rfl : _ = some (Value.string ⟨#[]⟩)); have hy5 := (bC HY8.out 5).trans (rfl : _ = some (Value.slice none 0 0)); have hy6 := (bC HY8.out 6).trans (rfl : _ = some (Value.bool false)); have hfy0 := bF HY8.out 0; have hfy1 := bF HY8.out 1; have hfy2 := bF HY8.out 2; have hfy3 := bF HY8.out 3; have hfy4 := bF HY8.out 4; have hfy5 := bF HY8.out 5; have hfy6 := bF HY8.out 6)
                  | ((with_reducible refine gate_callee (f := 11) rfl ?_); refine goesL_ (some 66) rfl rfl Try.func11 (by kernel_rfl) rfl #[.agg #[.int .i64 x.f1.f0, .string x.f1.f1.f0, .slice A3 x.f1.f1.f1.length c3, .string x.f1.f2.f0, .slice A5 x.f1.f2.f1.length c5]] rfl (by (try simp only [List.map_toArray, List.map_cons, List.map_nil]); first | done | rfl) ?_; have HD9 := aM (set7 HD8.out GD8.out (.int .u8 x.f0) (.int .i64 x.f1.f0) (.string x.f1.f1.f0) (.slice A3 x.f1.f1.f1.length c3) (.string x.f1.f2.f0) (.slice A5 x.f1.f2.f1.length c5) (.bool x.f2)); have HQ9 := aM (HQ.out.later HD9.out); have HY9 := aM (blks7 HY8.out (.int .u8 x.f0) (.int .i64 x.f1.f0) (.string x.f1.f1.f0) (.slice A3 x.f1.f1.f1.length c3) (.string x.f1.f2.f0) (.slice A5 x.f1.f2.f1.length c5) (.bool x.f2)); (with_reducible refine (bureaulaw07_Fits.calls x.f1.f0 x.f1.f1.f0 A3 c3 x.f1.f1.f1 x.f1.f2.f0 A5 c5 x.f1.f2.f1 true _ (cB_ HEC.out.1 HQ9.out.below) HEC.out.2.1 (cB_ HEC.out.2.2.1 HQ9.out.below) HEC.out.2.2.2 HFT.out).mono ?_); rintro r9 w9 ⟨rfl, hb⟩; refine ⟨_, rfl, ?_⟩; have HQ10 := aM (HQ9.out.later hb); have HY10 := aM (bB HY9.out hb); clear hb; clear hy0 hfy0 hy1 hfy1 hy2 hfy2 hy3 hfy3 hy4 hfy4 hy5 hfy5 hy6 hfy6 HD9 HQ9 HY9 HD8 HY8; have hy0 := (bC HY10.out 0).trans (rfl : _ = some (Value.int .u8 x.f0)); have hy1 := (bC HY10.out 1).trans (rfl : _ = some (Value.int .i64 x.f1.f0)); have hy2 := (bC HY10.out 2).trans (rfl : _ = some (Value.string x.f1.f1.f0)); have hy3 := (bC HY10.out 3).trans (rfl : _ = some (Value.slice A3 x.f1.f1.f1.length c3)); have hy4 := (bC HY10.out 4).trans (rfl : _ = some (Value.string x.f1.f2.f0)); have hy5 := (bC HY10.out 5).trans (rfl : _ = some (Value.slice A5 x.f1.f2.f1.length c5)); have hy6 := (bC HY10.out 6).trans (rfl : _ = some (Value.bool x.f2)); have hq0 := (bC HQ10.out.box 0).trans (rfl : _ = some (Value.string (tAt T s.now).f0)); have hq1 := (bC HQ10.out.box 1).trans (rfl : _ = some (Value.slice A (tAt T s.now).f1.length c)))
                  | ((with_reducible refine gate_callee (f := 12) rfl ?_); refine goesL_ (some 103) rfl rfl Try.func12 (by kernel_rfl) rfl #[.pointer (some ⟨g, 0, none⟩)] rfl (by (try simp only [List.map_toArray, List.map_cons, List.map_nil]); first | done | rfl) ?_; have HUY := undo_yes HQ10.out.hist HQ10.out.txs.inv.wf hx0 hn0 hup0; rw [he7, hn7] at HUY; (with_reducible refine HUY.mono ?_); clear HUY; rintro r11 w11 ⟨A7, c7, A8, c8, rfl, he, hh, ht⟩; refine ⟨_, rfl, ?_⟩; have HE11 := aM he; have HR11 := aM (HQ10.out.rq.call (s' := ⟨s.L, n7, s.next⟩) ⟨NG8.out.1, NG8.out.2.1⟩ (fun k hk => hk) hh ht); have HY11 := aM (ht.blk HY10.out (fun e => by have h1 := HQ.out.hist.lt; have h2 := GD8.out; rcases e with e | e <;> omega)); clear hh ht he; clear hq0 hq1; clear hy0 hy1 hy2 hy3 hy4 hy5 hy6; have hq0 := (bC HR11.out.box 0).trans (rfl : _ = some (Value.string (tAt T s.now).f0)); have hq1 := (bC HR11.out.box 1).trans (rfl : _ = some (Value.slice A (tAt T s.now).f1.length c)); have hy0 := (bC HY11.out 0).trans (rfl : _ = some (Value.int .u8 x.f0)); have hy1 := (bC HY11.out 1).trans (rfl : _ = some (Value.int .i64 x.f1.f0)); have hy2 := (bC HY11.out 2).trans (rfl : _ = some (Value.string x.f1.f1.f0)); have hy3 := (bC HY11.out 3).trans (rfl : _ = some (Value.slice A3 x.f1.f1.f1.length c3)); have hy4 := (bC HY11.out 4).trans (rfl : _ = some (Value.string x.f1.f2.f0)); have hy5 := (bC HY11.out 5).trans (rfl : _ = some (Value.slice A5 x.f1.f2.f1.length c5)); have hy6 := (bC HY11.out 6).trans (rfl : _ = some (Value.bool x.f2)))
                  | ((with_reducible refine gate_dst (N := 16) rfl ?_); refine box_event ?hg (N := 16) ?hd (cs := zs5) (t := 34) ?hr ?_; (case hd => rfl); (case hg => rfl); (case hr => first | (go_simp; done) | (go_simp; rfl)); intro g16 hg w12 hbox hb; have HD12 := aM hb; have HY12 := aM hbox; have G12 := aM (Nat.le_of_eq hg.symm); have N16 := aM (show g11 ≠ g16 ∧ g8 ≠ g16 ∧ g16 ≠ g ∧ g16 ≠ bm from ⟨fun e => by have := blk_lt HY11.out; omega, fun e => by have := blk_lt HR11.out.box; omega, fun e => by have := HR11.out.hist.lt.2.1; omega, fun e => by have := HR11.out.hist.lt.2.2.1; omega⟩); have HYA := aM (bB HY11.out hb); have HQA := aM (bB HR11.out.box hb); clear hb hbox hg; clear hy0 hy1 hy2 hy3 hy4 hy5 hy6; clear hq0 hq1; have hz0 := (bC HY12.out 0).trans (rfl : _ = some (Value.int .i64 0)); have hz1 := (bC HY12.out 1).trans (rfl : _ = some (Value.string ⟨#[]⟩)); have hz2 := (bC HY12.out 2).trans (rfl : _ = some (Value.slice none 0 0)); have hz3 := (bC HY12.out 3).trans (rfl : _ = some (Value.string ⟨#[]⟩)); have hz4 := (bC HY12.out 4).trans (rfl : _ = some (Value.slice none 0 0)); have hfz0 := bF HY12.out 0; have hfz1 := bF HY12.out 1; have hfz2 := bF HY12.out 2; have hfz3 := bF HY12.out 3; have hfz4 := bF HY12.out 4; have hq0 := (bC HQA.out 0).trans (rfl : _ = some (Value.string (tAt T s.now).f0)); have hq1 := (bC HQA.out 1).trans (rfl : _ = some (Value.slice A (tAt T s.now).f1.length c)); have hy0 := (bC HYA.out 0).trans (rfl : _ = some (Value.int .u8 x.f0)); have hy1 := (bC HYA.out 1).trans (rfl : _ = some (Value.int .i64 x.f1.f0)); have hy2 := (bC HYA.out 2).trans (rfl : _ = some (Value.string x.f1.f1.f0)); have hy3 := (bC HYA.out 3).trans (rfl : _ = some (Value.slice A3 x.f1.f1.f1.length c3)); have hy4 := (bC HYA.out 4).trans (rfl : _ = some (Value.string x.f1.f2.f0)); have hy5 := (bC HYA.out 5).trans (rfl : _ = some (Value.slice A5 x.f1.f2.f1.length c5)); have hy6 := (bC HYA.out 6).trans (rfl : _ = some (Value.bool x.f2)); have hne := N16.out.1; have hne' : g16 ≠ g11 := fun e => N16.out.1 e.symm; have hne8 := N16.out.2.1; have hne8' : g16 ≠ g8 := fun e => N16.out.2.1 e.symm)
                  | ((with_reducible refine gate_callee (f := 15) rfl ?_); refine goesL_ (some 114) rfl rfl Try.func15 (by kernel_rfl) rfl #[.pointer (some ⟨g, 0, none⟩)] rfl (by (try simp only [List.map_toArray, List.map_cons, List.map_nil]); first | done | rfl) ?_; have HS12 := aM (set5 HD12.out G12.out (.int .i64 (e7).f0) (.string (e7).f1.f0) (.slice A7 (e7).f1.f1.length c7) (.string (e7).f2.f0) (.slice A8 (e7).f2.f1.length c8)); have HY12B := aM (blks5 HY12.out (.int .i64 (e7).f0) (.string (e7).f1.f0) (.slice A7 (e7).f1.f1.length c7) (.string (e7).f2.f0) (.slice A8 (e7).f2.f1.length c8)); have HR12 := aM (HR11.out.grow16 HS12.out G12.out (blk_lt HY12B.out)); (with_reducible refine (redo_yes HR12.out.hist HU.out.1.inv.wf HU.out.2.2.1).mono ?_); rintro r13 w13 ⟨A9, c9, A10, c10, rfl, he, hh, ht⟩; refine ⟨_, rfl, ?_⟩; have HR13 := aM (HR12.out.call (s' := ⟨s.L, x0.f0, s.next⟩) ⟨NG8.out.1, NG8.out.2.1⟩ (fun k hk => hk.1) hh ht); have HY13 := aM (ht.blk HY12B.out (fun e => by rcases e with e | e; exact N16.out.2.2.1 e; exact N16.out.2.2.2 e)); have HR13B := aM HR13.out.box; clear hh ht he; clear hy0 hy1 hy2 hy3 hy4 hy5 hy6; clear hq0 hq1; clear hz0 hfz0 hz1 hfz1 hz2 hfz2 hz3 hfz3 hz4 hfz4; have hz0 := (bC HY13.out 0).trans (rfl : _ = some (Value.int .i64 (e7).f0)); have hz1 := (bC HY13.out 1).trans (rfl : _ = some (Value.string (e7).f1.f0)); have hz2 := (bC HY13.out 2).trans (rfl : _ = some (Value.slice A7 (e7).f1.f1.length c7)); have hz3 := (bC HY13.out 3).trans (rfl : _ = some (Value.string (e7).f2.f0)); have hz4 := (bC HY13.out 4).trans (rfl : _ = some (Value.slice A8 (e7).f2.f1.length c8)); have hfz0 := bF HY13.out 0; have hfz1 := bF HY13.out 1; have hfz2 := bF HY13.out 2; have hfz3 := bF HY13.out 3; have hfz4 := bF HY13.out 4; have hq0 := (bC HR13B.out 0).trans (rfl : _ = some (Value.string (tAt T s.now).f0)); have hq1 := (bC HR13B.out 1).trans (rfl : _ = some (Value.slice A (tAt T s.now).f1.length c)); clear hne hne')
                  )
                have HRZ := aM (HR13.out.put16 (.inr rfl) ⟨N16.out.2.2.1, N16.out.2.2.2, N16.out.2.1⟩ (.int .i64 (x0.f2).f0) (.string (x0.f2).f1.f0) (.slice A9 (x0.f2).f1.f1.length c9) (.string (x0.f2).f2.f0) (.slice A10 (x0.f2).f2.f1.length c10))
                have HQZ := aM (show Bq g bm g8 (fun k => S k ∨ k = g16) w s depth T A c (.slice Av T.length cv) _ from Rq.bq (s := s) (by have h := HRZ.out; rw [hn0] at h; exact h) HQ10.out.txs)
                first | rw [e1] | rw [show ((i : Int) + 1) = ((i + 1 : Nat) : Int) by omega]
                go_roundg k1
                case measure => exact Nat.lt_succ_self _
                case rel => exact ⟨i + 1, s, T, A, c, _, rfl, ⟨by have := HI.out; omega⟩, ⟨by have := HN.out; have := HI80.out; omega⟩, HQZ⟩
              case neg =>
                have k3b : (x.f0 % 4 == 3) = false := by simpa using k3
                have k3d : decide (x.f0 % 4 = 3) = false := decide_eq_false k3
                clear k3 hk hup
                have HAP := aM HU.out.2.2.2
                have HTS := aM HU.out.1
                go_wp2_with (first
                  | ((with_reducible refine gate_dst (N := 11) rfl ?_); refine box_event ?hg (N := 11) ?hd (cs := #[.int .u8 0, .int .i64 0, .string ⟨#[]⟩, .slice none 0 0, .string ⟨#[]⟩, .slice none 0 0, .bool false]) (t := 36) ?hr ?_; (case hd => rfl); (case hg => rfl); (case hr => first | (go_simp; done) | (go_simp; rfl)); intro g11 hg w8 hbox hb; have HD8 := aM hb; have HY8 := aM hbox; have GD8 := aM (Nat.le_of_eq hg.symm); clear hb hbox hg; clear hc0 hc1 hc2 hc3 hc4 hc5 hc6; have hy0 := (bC HY8.out 0).trans (rfl : _ = some (Value.int .u8 0)); have hy1 := (bC HY8.out 1).trans (rfl : _ = some (Value.int .i64 0)); have hy2 := (bC HY8.out 2).trans (rfl : _ = some (Value.string ⟨#[]⟩)); have hy3 := (bC HY8.out 3).trans (rfl : _ = some (Value.slice none 0 0)); have hy4 := (bC HY8.out 4).trans (rfl : _ = some (Value.string ⟨#[]⟩)); have hy5 := (bC HY8.out 5).trans (rfl : _ = some (Value.slice none 0 0)); have hy6 := (bC HY8.out 6).trans (rfl : _ = some (Value.bool false)); have hfy0 := bF HY8.out 0; have hfy1 := bF HY8.out 1; have hfy2 := bF HY8.out 2; have hfy3 := bF HY8.out 3; have hfy4 := bF HY8.out 4; have hfy5 := bF HY8.out 5; have hfy6 := bF HY8.out 6)
                  | ((with_reducible refine gate_callee (f := 11) rfl ?_); refine goesL_ (some 66) rfl rfl Try.func11 (by kernel_rfl) rfl #[.agg #[.int .i64 x.f1.f0, .string x.f1.f1.f0, .slice A3 x.f1.f1.f1.length c3, .string x.f1.f2.f0, .slice A5 x.f1.f2.f1.length c5]] rfl (by (try simp only [List.map_toArray, List.map_cons, List.map_nil]); first | done | rfl) ?_; have HD9 := aM (set7 HD8.out GD8.out (.int .u8 x.f0) (.int .i64 x.f1.f0) (.string x.f1.f1.f0) (.slice A3 x.f1.f1.f1.length c3) (.string x.f1.f2.f0) (.slice A5 x.f1.f2.f1.length c5) (.bool x.f2)); have HQ9 := aM (HQ.out.later HD9.out); have HY9 := aM (blks7 HY8.out (.int .u8 x.f0) (.int .i64 x.f1.f0) (.string x.f1.f1.f0) (.slice A3 x.f1.f1.f1.length c3) (.string x.f1.f2.f0) (.slice A5 x.f1.f2.f1.length c5) (.bool x.f2)); (with_reducible refine (bureaulaw07_Fits.calls x.f1.f0 x.f1.f1.f0 A3 c3 x.f1.f1.f1 x.f1.f2.f0 A5 c5 x.f1.f2.f1 true _ (cB_ HEC.out.1 HQ9.out.below) HEC.out.2.1 (cB_ HEC.out.2.2.1 HQ9.out.below) HEC.out.2.2.2 HFT.out).mono ?_); rintro r9 w9 ⟨rfl, hb⟩; refine ⟨_, rfl, ?_⟩; have HQ10 := aM (HQ9.out.later hb); have HY10 := aM (bB HY9.out hb); clear hb; clear hy0 hfy0 hy1 hfy1 hy2 hfy2 hy3 hfy3 hy4 hfy4 hy5 hfy5 hy6 hfy6 HD9 HQ9 HY9 HD8 HY8; have hy0 := (bC HY10.out 0).trans (rfl : _ = some (Value.int .u8 x.f0)); have hy1 := (bC HY10.out 1).trans (rfl : _ = some (Value.int .i64 x.f1.f0)); have hy2 := (bC HY10.out 2).trans (rfl : _ = some (Value.string x.f1.f1.f0)); have hy3 := (bC HY10.out 3).trans (rfl : _ = some (Value.slice A3 x.f1.f1.f1.length c3)); have hy4 := (bC HY10.out 4).trans (rfl : _ = some (Value.string x.f1.f2.f0)); have hy5 := (bC HY10.out 5).trans (rfl : _ = some (Value.slice A5 x.f1.f2.f1.length c5)); have hy6 := (bC HY10.out 6).trans (rfl : _ = some (Value.bool x.f2)); have hq0 := (bC HQ10.out.box 0).trans (rfl : _ = some (Value.string (tAt T s.now).f0)); have hq1 := (bC HQ10.out.box 1).trans (rfl : _ = some (Value.slice A (tAt T s.now).f1.length c)))
                  | ((with_reducible refine gate_callee (f := 12) rfl ?_); refine goesL_ (some 103) rfl rfl Try.func12 (by kernel_rfl) rfl #[.pointer (some ⟨g, 0, none⟩)] rfl (by (try simp only [List.map_toArray, List.map_cons, List.map_nil]); first | done | rfl) ?_; have HUY := undo_yes HQ10.out.hist HQ10.out.txs.inv.wf hx0 hn0 hup0; rw [he7, hn7] at HUY; (with_reducible refine HUY.mono ?_); clear HUY; rintro r11 w11 ⟨A7, c7, A8, c8, rfl, he, hh, ht⟩; refine ⟨_, rfl, ?_⟩; have HE11 := aM he; have HR11 := aM (HQ10.out.rq.call (s' := ⟨s.L, n7, s.next⟩) ⟨NG8.out.1, NG8.out.2.1⟩ (fun k hk => hk) hh ht); have HY11 := aM (ht.blk HY10.out (fun e => by have h1 := HQ.out.hist.lt; have h2 := GD8.out; rcases e with e | e <;> omega)); clear hh ht he; clear hq0 hq1; clear hy0 hy1 hy2 hy3 hy4 hy5 hy6; have hq0 := (bC HR11.out.box 0).trans (rfl : _ = some (Value.string (tAt T s.now).f0)); have hq1 := (bC HR11.out.box 1).trans (rfl : _ = some (Value.slice A (tAt T s.now).f1.length c)); have hy0 := (bC HY11.out 0).trans (rfl : _ = some (Value.int .u8 x.f0)); have hy1 := (bC HY11.out 1).trans (rfl : _ = some (Value.int .i64 x.f1.f0)); have hy2 := (bC HY11.out 2).trans (rfl : _ = some (Value.string x.f1.f1.f0)); have hy3 := (bC HY11.out 3).trans (rfl : _ = some (Value.slice A3 x.f1.f1.f1.length c3)); have hy4 := (bC HY11.out 4).trans (rfl : _ = some (Value.string x.f1.f2.f0)); have hy5 := (bC HY11.out 5).trans (rfl : _ = some (Value.slice A5 x.f1.f2.f1.length c5)); have hy6 := (bC HY11.out 6).trans (rfl : _ = some (Value.bool x.f2)))
                  | ((with_reducible refine gate_dst (N := 16) rfl ?_); refine box_event ?hg (N := 16) ?hd (cs := zs5) (t := 34) ?hr ?_; (case hd => rfl); (case hg => rfl); (case hr => first | (go_simp; done) | (go_simp; rfl)); intro g16 hg w12 hbox hb; have HD12 := aM hb; have HY12 := aM hbox; have G12 := aM (Nat.le_of_eq hg.symm); have N16 := aM (show g11 ≠ g16 ∧ g8 ≠ g16 ∧ g16 ≠ g ∧ g16 ≠ bm from ⟨fun e => by have := blk_lt HY11.out; omega, fun e => by have := blk_lt HR11.out.box; omega, fun e => by have := HR11.out.hist.lt.2.1; omega, fun e => by have := HR11.out.hist.lt.2.2.1; omega⟩); have HYA := aM (bB HY11.out hb); have HQA := aM (bB HR11.out.box hb); clear hb hbox hg; clear hy0 hy1 hy2 hy3 hy4 hy5 hy6; clear hq0 hq1; have hz0 := (bC HY12.out 0).trans (rfl : _ = some (Value.int .i64 0)); have hz1 := (bC HY12.out 1).trans (rfl : _ = some (Value.string ⟨#[]⟩)); have hz2 := (bC HY12.out 2).trans (rfl : _ = some (Value.slice none 0 0)); have hz3 := (bC HY12.out 3).trans (rfl : _ = some (Value.string ⟨#[]⟩)); have hz4 := (bC HY12.out 4).trans (rfl : _ = some (Value.slice none 0 0)); have hfz0 := bF HY12.out 0; have hfz1 := bF HY12.out 1; have hfz2 := bF HY12.out 2; have hfz3 := bF HY12.out 3; have hfz4 := bF HY12.out 4; have hq0 := (bC HQA.out 0).trans (rfl : _ = some (Value.string (tAt T s.now).f0)); have hq1 := (bC HQA.out 1).trans (rfl : _ = some (Value.slice A (tAt T s.now).f1.length c)); have hy0 := (bC HYA.out 0).trans (rfl : _ = some (Value.int .u8 x.f0)); have hy1 := (bC HYA.out 1).trans (rfl : _ = some (Value.int .i64 x.f1.f0)); have hy2 := (bC HYA.out 2).trans (rfl : _ = some (Value.string x.f1.f1.f0)); have hy3 := (bC HYA.out 3).trans (rfl : _ = some (Value.slice A3 x.f1.f1.f1.length c3)); have hy4 := (bC HYA.out 4).trans (rfl : _ = some (Value.string x.f1.f2.f0)); have hy5 := (bC HYA.out 5).trans (rfl : _ = some (Value.slice A5 x.f1.f2.f1.length c5)); have hy6 := (bC HYA.out 6).trans (rfl : _ = some (Value.bool x.f2)); have hne := N16.out.1; have hne' : g16 ≠ g11 := fun e => N16.out.1 e.symm; have hne8 := N16.out.2.1; have hne8' : g16 ≠ g8 := fun e => N16.out.2.1 e.symm)
                  | ((with_reducible refine gate_callee (f := 27) rfl ?_); refine goesL_ (some 129) rfl rfl Try.func27 (by kernel_rfl) rfl #[txV (tAt T s.now) A c, edV e7 A7 c7 A8 c8] rfl (by (try simp only [List.map_toArray, List.map_cons, List.map_nil]); first | done | rfl) ?_; have HS12 := aM (set5 HD12.out G12.out (.int .i64 (e7).f0) (.string (e7).f1.f0) (.slice A7 (e7).f1.f1.length c7) (.string (e7).f2.f0) (.slice A8 (e7).f2.f1.length c8)); have HRA := aM (HR11.out.later HS12.out); have HEA := aM (HE11.out.below HS12.out); (with_reducible refine (rapply_to HRA.out.text HEA.out (HQ10.out.txs.tgood HTG.out.1 HTG.out.2) HAP.out).mono ?_); rintro r14 w14 ⟨A', c', rfl, ht, hb⟩; refine ⟨_, rfl, ?_⟩; have HT14 := aM ht; have HB14 := aM hb; clear ht hb)
                  | ((with_reducible refine gate_dst (N := 18) rfl ?_); refine box_event ?hg (N := 18) ?hd (cs := #[.string ⟨#[]⟩, .slice none 0 0]) (t := 32) ?hr ?_; (case hd => rfl); (case hg => rfl); (case hr => first | (go_simp; done) | (go_simp; rfl)); intro g18 hg w15 hbox hb; have HD15 := aM hb; have HY15 := aM hbox; have G15 := aM (Nat.le_of_eq hg.symm); have N18 := aM (show g8 ≠ g18 from fun e => by have := blk_lt HRA.out.box; have := HB14.out.size; omega); clear hb hbox hg; have hu0 := (bC HY15.out 0).trans (rfl : _ = some (Value.string ⟨#[]⟩)); have hu1 := (bC HY15.out 1).trans (rfl : _ = some (Value.slice none 0 0)); have hfu0 := bF HY15.out 0; have hfu1 := bF HY15.out 1)
                  )
                generalize hw20 : World.setCell _ ⟨g18, 1, none⟩ _ = w20
                have HT20 := aM (show Tq g bm g8 g18 _ w ⟨s.L, n7, s.next⟩ depth T A' c' (.slice Av T.length cv) (.string (tAt T s.now).f0) (.slice A (tAt T s.now).f1.length c) w20 from by
                  subst hw20
                  have HS15 := set2 HD15.out G15.out (.string (tAt T n7).f0) (.slice A' (tAt T n7).f1.length c')
                  exact HRA.out.tq HTS.out (HB14.out.trans (HS15.mono HB14.out.size)) (HT14.out.below HS15) (blks2 HY15.out (.string (tAt T n7).f0) (.slice A' (tAt T n7).f1.length c')) N18.out)
                clear hw20
                obtain ⟨ad9, A9, c9, eA9, hr0, hr1, hT9⟩ := text_at HT20.out.row HN7.out.1 (by have := HTS.out.len; have := HN7.out.2; omega)
                cases eA9
                have HT9 := aM hT9
                have HRW := aM (And.intro (cellW (below_drew1 (Below.refl _ _)) hr0) (cellW (below_drew1 (Below.refl _ _)) hr1))
                clear hr0 hr1 hT9
                have d7 : decide (n7 < 0) = false := decide_eq_false (by have := HN7.out.1; omega)
                have d8 : decide (n7 ≥ (T.length : Int)) = false := decide_eq_false (by have := HTS.out.len; have := HN7.out.2; omega)
                have d9 : (0 ≤ n7) = True := eq_true HN7.out.1
                have d10 : (n7 < (T.length : Int)) = True := eq_true (by have := HTS.out.len; have := HN7.out.2; omega)
                refine start_ (n := 24) (S := fun W => W.cell? ⟨g18, 0, none⟩ = some (.string (tAt T n7).f0) ∧ W.cell? ⟨g18, 1, none⟩ = some (.slice A' (tAt T n7).f1.length c') ∧ W.cell? (ad9.add (n7.toNat * 2)) = some (.string (tAt T n7).f0) ∧ W.cell? ⟨(ad9.add (n7.toNat * 2)).block, (ad9.add (n7.toNat * 2)).off + 1, none⟩ = some (.slice A9 (tAt T n7).f1.length c9)) (ds := []) #[tF,tF,tF,tF,tF,tF,tF,tF,tF,tF,tF,tF,tF,tF,tF,tF,tF,tF,tF,tF,tF,tF,tF,tF] (by kernel_rfl) rfl rfl ⟨(bC (blk_drew HT20.out.b18) 0).trans rfl, (bC (blk_drew HT20.out.b18) 1).trans rfl, HRW.out.1, HRW.out.2⟩ (fun hHeld => ?_)
                have HT21 := aM (HT20.out.later (below_drew1 (Below.refl _ _)))
                have HT9 := aM (HT9.out.below (below_drew1 (Below.refl _ _)))
                generalize w20.drew = w21 at HT21 HT9 HRW hHeld ⊢
                refine sv 0 132 #[tT,tF,tF,tF,tF,tF,tF,tF,tF,tF,tF,tF,tF,tF,tF,tF,tF,tF,tF,tF,tF,tF,tF,tF] ?_
                refine sv 1 133 #[tT,tT,tF,tF,tF,tF,tF,tF,tF,tF,tF,tF,tF,tF,tF,tF,tF,tF,tF,tF,tF,tF,tF,tF] ?_
                refine sv 2 134 #[tT,tT,tT,tF,tF,tF,tF,tF,tF,tF,tF,tF,tF,tF,tF,tF,tF,tF,tF,tF,tF,tF,tF,tF] ?_
                refine sv 3 135 #[tT,tT,tT,tT,tF,tF,tF,tF,tF,tF,tF,tF,tF,tF,tF,tF,tF,tF,tF,tF,tF,tF,tF,tF] ?_
                refine one_ (i := 4) (N := some 136) #[tT,tT,tT,tT,tT,tF,tF,tF,tF,tF,tF,tF,tF,tF,tF,tF,tF,tF,tF,tF,tF,tF,tF,tF] rfl rfl (by kernel_rfl) (by decide) (fun K hK => ?_)
                refine goes_ Try.func19 (by kernel_rfl) rfl #[.pointer (some ⟨g, 0, none⟩)] (by rfl) rfl rfl (by (try simp only [List.map_toArray, List.map_cons, List.map_nil]); first | done | rfl) ?_
                (with_reducible refine (now_ok HT21.out.hist).mono ?_)
                rintro r22 w22 ⟨rfl, hw⟩
                subst hw
                refine ⟨_, rfl, hK.out _ _ ⟨(bC HT21.out.b18 0).trans rfl, (bC HT21.out.b18 1).trans rfl, HRW.out.1, HRW.out.2⟩ (fun hHeld => ?_)⟩
                clear hK K
                refine norm_ (a' := ?_) ?_ ?_
                rotate_left
                · simp only [Act.put, List.setIfInBounds_toArray, List.set_cons_zero, List.set_cons_succ, i64_w, i32_w]
                  rfl
                refine sv 5 137 #[tT,tT,tT,tT,tT,tT,tF,tF,tF,tF,tF,tF,tF,tF,tF,tF,tF,tF,tF,tF,tF,tF,tF,tF] ?_
                refine sv 6 138 #[tT,tT,tT,tT,tT,tT,tT,tF,tF,tF,tF,tF,tF,tF,tF,tF,tF,tF,tF,tF,tF,tF,tF,tF] ?_
                refine sv 7 139 #[tT,tT,tT,tT,tT,tT,tT,tT,tF,tF,tF,tF,tF,tF,tF,tF,tF,tF,tF,tF,tF,tF,tF,tF] ?_
                refine sv 8 140 #[tT,tT,tT,tT,tT,tT,tT,tT,tT,tF,tF,tF,tF,tF,tF,tF,tF,tF,tF,tF,tF,tF,tF,tF] ?_
                refine sv 10 142 #[tT,tT,tT,tT,tT,tT,tT,tT,tT,tF,tT,tF,tF,tF,tF,tF,tF,tF,tF,tF,tF,tF,tF,tF] ?_
                refine sv 11 143 #[tT,tT,tT,tT,tT,tT,tT,tT,tT,tF,tT,tT,tF,tF,tF,tF,tF,tF,tF,tF,tF,tF,tF,tF] ?_
                refine one_ (i := 9) (N := some 141) #[tT,tT,tT,tT,tT,tT,tT,tT,tT,tT,tT,tT,tF,tF,tF,tF,tF,tF,tF,tF,tF,tF,tF,tF] rfl rfl (by kernel_rfl) (by decide) (fun K hK => ?_)
                refine goes_ Try.func19 (by kernel_rfl) rfl #[.pointer (some ⟨g, 0, none⟩)] (by rfl) rfl rfl (by (try simp only [List.map_toArray, List.map_cons, List.map_nil]); first | done | rfl) ?_
                (with_reducible refine (now_ok HT21.out.hist).mono ?_)
                rintro r22 w22 ⟨rfl, hw⟩
                subst hw
                refine ⟨_, rfl, hK.out _ _ ⟨(bC HT21.out.b18 0).trans rfl, (bC HT21.out.b18 1).trans rfl, HRW.out.1, HRW.out.2⟩ (fun hHeld => ?_)⟩
                clear hK K
                refine norm_ (a' := ?_) ?_ ?_
                rotate_left
                · simp only [Act.put, List.setIfInBounds_toArray, List.set_cons_zero, List.set_cons_succ, i64_w, i32_w]
                  rfl
                refine sv 12 144 #[tT,tT,tT,tT,tT,tT,tT,tT,tT,tT,tT,tT,tT,tF,tF,tF,tF,tF,tF,tF,tF,tF,tF,tF] ?_
                refine sv 13 145 #[tT,tT,tT,tT,tT,tT,tT,tT,tT,tT,tT,tT,tT,tT,tF,tF,tF,tF,tF,tF,tF,tF,tF,tF] ?_
                refine sv 14 146 #[tT,tT,tT,tT,tT,tT,tT,tT,tT,tT,tT,tT,tT,tT,tT,tF,tF,tF,tF,tF,tF,tF,tF,tF] ?_
                refine st 15 147 #[tT,tT,tT,tT,tT,tT,tT,tT,tT,tT,tT,tT,tT,tT,tT,tT,tF,tF,tF,tF,tF,tF,tF,tF] hHeld ?_
                refine sv 16 148 #[tT,tT,tT,tT,tT,tT,tT,tT,tT,tT,tT,tT,tT,tT,tT,tT,tT,tF,tF,tF,tF,tF,tF,tF] ?_
                refine sv 17 149 #[tT,tT,tT,tT,tT,tT,tT,tT,tT,tT,tT,tT,tT,tT,tT,tT,tT,tT,tF,tF,tF,tF,tF,tF] ?_
                refine one_ (i := 18) (N := some 150) #[tT,tT,tT,tT,tT,tT,tT,tT,tT,tT,tT,tT,tT,tT,tT,tT,tT,tT,tT,tF,tF,tF,tF,tF] rfl rfl (by kernel_rfl) (by decide) (fun K hK => ?_)
                refine goes_ Try.func19 (by kernel_rfl) rfl #[.pointer (some ⟨g, 0, none⟩)] (by rfl) rfl rfl (by (try simp only [List.map_toArray, List.map_cons, List.map_nil]); first | done | rfl) ?_
                (with_reducible refine (now_ok HT21.out.hist).mono ?_)
                rintro r22 w22 ⟨rfl, hw⟩
                subst hw
                refine ⟨_, rfl, hK.out _ _ ⟨(bC HT21.out.b18 0).trans rfl, (bC HT21.out.b18 1).trans rfl, HRW.out.1, HRW.out.2⟩ (fun hHeld => ?_)⟩
                clear hK K
                refine norm_ (a' := ?_) ?_ ?_
                rotate_left
                · simp only [Act.put, List.setIfInBounds_toArray, List.set_cons_zero, List.set_cons_succ, i64_w, i32_w]
                  rfl
                refine sv 19 151 #[tT,tT,tT,tT,tT,tT,tT,tT,tT,tT,tT,tT,tT,tT,tT,tT,tT,tT,tT,tT,tF,tF,tF,tF] ?_
                refine st 20 152 #[tT,tT,tT,tT,tT,tT,tT,tT,tT,tT,tT,tT,tT,tT,tT,tT,tT,tT,tT,tT,tT,tF,tF,tF] hHeld ?_
                refine one_ (i := 21) (N := some 153) #[tT,tT,tT,tT,tT,tT,tT,tT,tT,tT,tT,tT,tT,tT,tT,tT,tT,tT,tT,tT,tT,tT,tF,tF] rfl rfl (by kernel_rfl) (by decide) (fun K hK => ?_)
                refine goes_ Try.func28 (by kernel_rfl) rfl #[txV (tAt T n7) A' c', txV (tAt T n7) A9 c9] (by rfl) rfl rfl (by (try simp only [List.map_toArray, List.map_cons, List.map_nil]); first | done | rfl) ?_
                (with_reducible refine (same4_ok HT21.out.text HT9.out (HT21.out.txs.tgood HN7.out.1 HN7.out.2)).mono ?_)
                rintro r28 w28 ⟨rfl, hb⟩
                have HT28 := aM (HT21.out.later hb)
                have HRW := aM (And.intro (cellW hb HRW.out.1) (cellW hb HRW.out.2))
                clear hb
                refine ⟨_, rfl, hK.out _ _ ⟨(bC HT28.out.b18 0).trans rfl, (bC HT28.out.b18 1).trans rfl, HRW.out.1, HRW.out.2⟩ (fun hHeld => ?_)⟩
                clear hK K
                refine norm_ (a' := ?_) ?_ ?_
                rotate_left
                · simp only [Act.put, List.setIfInBounds_toArray, List.set_cons_zero, List.set_cons_succ, i64_w, i32_w]
                  rfl
                refine sv 22 154 #[tT,tT,tT,tT,tT,tT,tT,tT,tT,tT,tT,tT,tT,tT,tT,tT,tT,tT,tT,tT,tT,tT,tT,tF] ?_
                refine sv 23 155 #[tT,tT,tT,tT,tT,tT,tT,tT,tT,tT,tT,tT,tT,tT,tT,tT,tT,tT,tT,tT,tT,tT,tT,tT] ?_
                refine done_ (by kernel_rfl) ?_
                clear hHeld
                have hu0 := (bC HT28.out.b18 0).trans (rfl : _ = some (Value.string (tAt T n7).f0))
                have hu1 := (bC HT28.out.b18 1).trans (rfl : _ = some (Value.slice A' (tAt T n7).f1.length c'))
                have hq0 := (bC HT28.out.box 0).trans (rfl : _ = some (Value.string (tAt T s.now).f0))
                have hq1 := (bC HT28.out.box 1).trans (rfl : _ = some (Value.slice A (tAt T s.now).f1.length c))
                have hfq0 := bF HT28.out.box 0
                have hfq1 := bF HT28.out.box 1
                have hn8 := N18.out
                have hn8' : g18 ≠ g8 := fun e => N18.out e.symm
                go_wp2
                have HQZ := aM (Bq.mk2 (s := ⟨s.L, n7, s.next⟩) HT28.out.hist HT28.out.sub HT28.out.own HT28.out.lo HT28.out.lt HT28.out.txs HT28.out.box HT28.out.text HT28.out.row HT28.out.below NG8.out.2.2 ⟨NG8.out.1, NG8.out.2.1⟩)
                first | rw [e1] | rw [show ((i : Int) + 1) = ((i + 1 : Nat) : Int) by omega]
                go_roundg k1
                case measure => exact Nat.lt_succ_self _
                case rel => exact ⟨i + 1, ⟨s.L, n7, s.next⟩, T, A', c', _, rfl, ⟨by have := HI.out; omega⟩, ⟨by have := HN.out; have := HI80.out; show i + 1 ≤ 80 ∧ s.next ≤ ((i + 1 : Nat) : Int) + 1; omega⟩, HQZ⟩
      · have d1 : decide ((i : Int) < (l.length : Int)) = true := decide_eq_true (by omega)
        have d2 : decide ((i : Int) < 80) = false := decide_eq_false (by omega)
        have d3 : ((i : Int) < 80) = False := eq_false (by omega)
        have d3n : (i < 80) = False := eq_false b2
        go_wp2
        go_ret
        exact ⟨rfl, HQ.out.below⟩
    · have d1 : decide ((i : Int) < (l.length : Int)) = false := decide_eq_false (by omega)
      have d2 : ((i : Int) < (l.length : Int)) = False := eq_false (by omega)
      have d2n : (i < l.length) = False := eq_false b1
      go_wp2
      go_ret
      exact ⟨rfl, HQ.out.below⟩
end Go.Proofs.Ytbbgpfjeobdogaa.PB
end

section
namespace Go.Proofs.Ytbbgpfjeobdogaa.PB
open Go.RowKit Go.Proofs.YtbbgpfjeobdogaaW.PrintWords
set_option linter.unusedVariables false
theorem u8_wf {n : Int} (h : (Lit.int .u8 n).wf = true) : 0 ≤ n ∧ n < 256 := by
  simp only [Lit.wf, Bool.and_eq_true, decide_eq_true_eq, show IntKind.u8.min = 0 from rfl, show IntKind.u8.max = 255 from rfl] at h
  omega
end Go.Proofs.Ytbbgpfjeobdogaa.PB
end

section
namespace Go.Proofs.Ytbbgpfjeobdogaa.PB
open Go.RowKit Go.Proofs.YtbbgpfjeobdogaaW.PrintWords
set_option linter.unusedVariables false
theorem HistTexts_pure (a0 : Int) (x1 : S32) (l2 : List S36) (w0 : (Lit.int .i64 a0).wf = true) (w1 : wf32 x1) (w2 : l2.length * 104 ≤ 140737488351232 ∧ ∀ x_ ∈ l2, wf36 x_) : ∃ k, bureaulaw08_HistTexts.f k a0 x1.f0 x1.f1 l2 = some true :=
  ⟨0, if_pos (fun x hx => u8_wf (w2.2 x hx).1)⟩
end Go.Proofs.Ytbbgpfjeobdogaa.PB
end

section
namespace Go.Proofs.Ytbbgpfjeobdogaa.PB
open Go.ChangeShapes Go.WideShapes Go.ChangeAt Go.RowKit Go.Proofs.YtbbgpfjeobdogaaW.PrintWords
open Go.ChangeMaps (open_string shut_string)
set_option linter.unusedVariables false
namespace histTexts
open Go.Proofs.Ytbbgpfjeobdogaa
theorem own : ownKnob Try.prog.godebug = none := by kernel_rfl
theorem laidOut : laidOutB Try.prog = true := by kernel_rfl
set_option maxRecDepth 100000 in
theorem lifted (os : Os) (started : os.Started) (H : Type) (enc : TypeId × Value → H) :
    ReturnsInHanded {} Try.checked os 5 .any (Rows.histTextsSpec.pre6 enc Try.prog Try.f5 Rows.histTextsRow.domain false) (Rows.histTextsSpec.post enc Try.prog Try.f5 false true false false) := by
  refine returnsInHanded_of_change_sized (C := Try.checked) own started (by kernel_rfl) Try.func5
    (ChangeSpec.witness6 (enc := enc) (C := Try.checked) false ⟨#[], #[.int .i64 0, .agg #[.string ByteArray.empty, .slice none 0 0], .slice none 0 0], []⟩ 8 (by kernel_rfl) (by kernel_rfl) (by kernel_rfl) (by kernel_rfl)) ?_
  intro W base args ds gs before hval0 hW hcnd hsz0 _
  have hsz : (DataW.weightsEach Try.prog (Try.f5.params.toList ++ Rows.histTextsSpec.plain.varTypes Try.prog) (ds ++ gs)).all (· ≤ reachBytes) = true := hsz0
  have hval : ∀ (j : Nat) t v, Try.f5.params[j]? = some t → args[j]? = some v → Value.okWide Try.prog W .any base t v := hval0
  have hW' := hW
  obtain ⟨p, q, hA0, hV, rfl, hfz, hnd⟩ := hW
  have hA : DataW.TrodAll enc Try.prog W 0 (fun _ => true) true Try.f5.params.toList args.toList ds p := hA0
  rw [Try.params5] at hA hval hsz
  obtain ⟨v0, vs0, d0, ds0, p0, q0, hargs, rfl, rfl, h0, r0⟩ := trodAll_cons hA
  obtain ⟨v1, vs1, d1, ds1, p1, q1, rfl, rfl, rfl, h1, r1⟩ := trodAll_cons r0
  obtain ⟨v2, vs2, d2, ds2, p2, q2, rfl, rfl, rfl, h2, r2⟩ := trodAll_cons r1
  obtain ⟨rfl, rfl, rfl⟩ := trodAll_nil r2
  obtain rfl : args = #[v0, v1, v2] := by cases args; simp_all
  obtain ⟨rfl, rfl⟩ := trodVars_none hV
  obtain ⟨a0, rfl, rfl, rfl, w0⟩ := open_int Try.underlying3 (hval 0 3 v0 rfl rfl) h0
  have hz1 : ∀ n ∈ d1.weights Try.prog 32, n ≤ reachBytes := fun n hn => by have z := List.all_eq_true.1 hsz n (DataW.weights_mem_each (j := 1) rfl rfl n hn); simpa using z
  have kk1 := h1
  have lt1 : ∀ x ∈ p1, x.block < W.heap.size := by obtain ⟨m, hm⟩ := kk1; exact DataW.trod_lt m _ _ _ hm
  obtain ⟨cs1, rfl, cz1⟩ := okWide_struct Try.underlying32 (hval 1 32 v1 rfl rfl)
  obtain ⟨x1, hK1, w1⟩ : ∃ x : S32, k32.K W x cs1.toList ∧ wf32 x := by
    obtain ⟨fuel, hf⟩ := h1
    exact opn32 H enc _ _ _ fuel _ _ hf hz1
  obtain ⟨A1_1, c1_1, hcs1, hc1_1, hr1_1⟩ := k32_open hK1
  obtain rfl : cs1 = #[.string x1.f0, .slice A1_1 x1.f1.length c1_1] := Array.toList_inj.1 hcs1
  have hz2 : ∀ n ∈ d2.weights Try.prog 22, n ≤ reachBytes := fun n hn => by have z := List.all_eq_true.1 hsz n (DataW.weights_mem_each (j := 2) rfl rfl n hn); simpa using z
  have kk2 := h2
  have lt2 : ∀ x ∈ p2, x.block < W.heap.size := by obtain ⟨m, hm⟩ := kk2; exact DataW.trod_lt m _ _ _ hm
  obtain ⟨A2, len2, c2, rfl⟩ := okWide_slice Try.underlying22 (hval 2 22 v2 rfl rfl)
  obtain ⟨l2, A2', c2', hcs2, hc2, hr2, w2⟩ : ∃ (l : List S36) (A' : Option Addr) (c' : Nat), (Value.slice A2 len2 c2).cells.toList = [.slice A' l.length c'] ∧ l.length ≤ c' ∧ Kd.C k36 W A' l.length l ∧ (l.length * 104 ≤ 140737488351232 ∧ ∀ x_ ∈ l, wf36 x_) := by
    obtain ⟨fuel, hf⟩ := h2
    obtain ⟨l, ⟨A', c', h1, h2, h3⟩, h4⟩ := (Opn.slice Try.underlying22 (by kernel_rfl) (by kernel_rfl : Try.prog.bytesOf 36 = 104) opn36) H enc _ _ _ fuel _ _ hf hz2
    exact ⟨l, A', c', h1, h2, h3, h4⟩
  simp only [Value.cells, List.cons.injEq, Value.slice.injEq, and_true] at hcs2
  obtain ⟨rfl, rfl, rfl⟩ := hcs2
  clear hA0 hval0 hsz0 hsz
  obtain ⟨k, hk⟩ := HistTexts_pure a0 x1 l2 w0 w1 w2
  refine (bureaulaw08_HistTexts.calls k a0 x1.f0 _ _ x1.f1 _ _ l2 true W hr1_1 hc1_1 hr2 hc2 hk).mono fun e W' ⟨he, bel⟩ => ?_
  subst he
  exact ⟨_, rfl, _, _, _, [], _, [], hW', trodAll_mk1 (shut_bool Try.underlying4 _), (trodAll_cons_mk (shut_int Try.underlying3 w0) (trodAll_cons_mk (Below.trod laidOut (by kernel_rfl) (of_decide_eq_true (by kernel_rfl)) kk1 bel lt1) (trodAll_cons_mk (Below.trod laidOut (by kernel_rfl) (of_decide_eq_true (by kernel_rfl)) kk2 bel lt2) trodAll_mk0))), rfl, bel.frame _, fun h => by cases h⟩
theorem over : Rows.histTextsRow.holds Try.pinned (OpenSpec.ofChange Rows.histTextsSpec) :=
  OpenClaim.holds_of_wide 5 Try.f5 rfl rfl rfl rfl rfl rfl rfl ⟨rfl, rfl, rfl, rfl, rfl⟩ rfl rfl rfl rfl rfl (by kernel_rfl) Try.func5 (by kernel_rfl)
    (of_decide_eq_true (by kernel_rfl)) (by unfold Func.isWrapper; first | (rw [if_pos (by decide +kernel)]; kernel_rfl) | (rw [if_neg (by decide +kernel)]; exact ⟨rfl, rfl⟩))
    (fun os started H enc _ => lifted os started H enc)
theorem proved : Rows.HistTextsSaid := over
end histTexts
end Go.Proofs.Ytbbgpfjeobdogaa.PB
namespace Go.Proofs.Ytbbgpfjeobdogaa
theorem histTexts_holds : Rows.HistTextsSaid := PB.histTexts.proved
#print axioms histTexts_holds
end Go.Proofs.Ytbbgpfjeobdogaa
end
