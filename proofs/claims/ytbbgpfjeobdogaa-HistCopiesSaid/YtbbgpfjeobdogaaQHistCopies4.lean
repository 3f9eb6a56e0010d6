/- The row of a law out of its contract and its pure theorem. No condition. -/
import Derived.Test.YtbbgpfjeobdogaaRows
import Derived.ProofKit
import Derived.ShutString
import Derived.ChangeOld
import Derived.Carry
import Derived.Test.YtbbgpfjeobdogaaQHistCopies3
section
namespace Go.Proofs.Ytbbgpfjeobdogaa.PB
open Go.RowKit Go.Proofs.YtbbgpfjeobdogaaW.PrintWords Go.Proofs.YtbbgpfjeobdogaaW.PrintLast Go.Proofs.YtbbgpfjeobdogaaW.PrintMore
attribute [local go_sem] max2_int min2_int max_two min_two max_three min_three max_four min_four   
set_option linter.unusedVariables false
set_option linter.unusedSimpArgs false
def bureauref01_Ints.l0 : Nat → List Int → List Int → Int → Option (Bool)
 | 0, _, _, _ => none
 | k + 1, x0, x1, x5 => if x5 < (x0.length : Int) then (if 0 ≤ x5 then (if x5 < (x1.length : Int) then (if (rd x0 x5) = (rd x1 x5) then (bureauref01_Ints.l0 k x0 x1 (wrap64 (x5 + 1))) else (some false)) else (none)) else (none)) else (some true)
def bureauref01_Ints.f (k : Nat) (l0 : List Int) (l1 : List Int) : Option (Bool) := if (l0.length : Int) = (l1.length : Int) then (bureauref01_Ints.l0 k l0 l1 0) else (some false)
set_option maxHeartbeats 8000000 in
set_option maxRecDepth 100000 in
theorem bureauref01_Ints.calls (k : Nat) (A0 : Option Addr) (c0 : Nat) (l0 : List Int) (A1 : Option Addr) (c1 : Nat) (l1 : List Int) (r : Bool) (w : World) (hr0 : Kd.C (Kd.int .i64) w A0 l0.length l0) (hc0 : l0.length ≤ c0) (hr1 : Kd.C (Kd.int .i64) w A1 l1.length l1) (hc1 : l1.length ≤ c1) (h : bureauref01_Ints.f k l0 l1 = some r) :
  Calls Try.prog 20 #[.slice A0 l0.length c0, .slice A1 l1.length c1] w fun e w' => e = .returned (.bool r) ∧ Drawn0 w w' := by
 have HR0 := aM hr0
 have HC0 := aM hc0
 clear hr0 hc0
 have HR1 := aM hr1
 have HC1 := aM hc1
 clear hr1 hc1
 have H : (if (l0.length : Int) = (l1.length : Int) then (bureauref01_Ints.l0 k l0 l1 0) else (some false)) = some r := h
 clear h
 by_cases c3 : (l0.length : Int) = (l1.length : Int)
 ·rw [if_pos c3] at H
  have c3b0 : ((l0.length : Int) == (l1.length : Int)) = true := beq_iff_eq.mpr c3
  have c3b1 : ((l0.length : Int) != (l1.length : Int)) = false := bne_eq_false_iff_eq.mpr c3
  have c3b2 : (l0.length == l1.length) = true := by first | simpa using c3 | (simp at c3 ⊢; omega)
  clear c3
  have H' := aM H
  clear H
  go_enter Try.func20, Try.ntmps20
  go_wp2
  repeat (go_quiet (fail); try go_wp2)
  go_loopg [5] k (fun kq v5 w' => ∃ (x5_1 : Int), v5 = .int .i64 x5_1 ∧ Aside0 (bureauref01_Ints.l0 kq l0 l1 x5_1 = some r) ∧ Aside0 (kq ≤ k) ∧ Drawn0 w w')
  case atStart => exact ⟨(0), (by first | rfl | (simp; done) | (simp [*]; done)), H', ⟨Nat.le_refl _⟩, by repeat (first | exact Drawn0.refl _ | apply Drawn0.step)⟩
  case round =>
   clear H'
   try clear c1
   try clear c2
   try clear p2
   try clear c3
   try clear c3b0
   try clear c3b1
   try clear c3b2
   obtain ⟨x5_1, rfl, HA, HK1, ⟨m1, rfl⟩⟩ := hrel
   cases gk with
   | zero => exact absurd HA.out (by simp [bureauref01_Ints.l0])
   | succ k1 =>
    have H := HA.out
    clear HA
    simp only [bureauref01_Ints.l0] at H
    by_cases c4 : x5_1 < (l0.length : Int)
    ·rw [if_pos c4] at H
     have c4b0 : decide (x5_1 < (l0.length : Int)) = true := decide_eq_true c4
     clear c4
     by_cases c5 : 0 ≤ x5_1
     ·rw [if_pos c5] at H
      have c5b0 : decide (0 ≤ x5_1) = true := decide_eq_true c5
      clear c5
      by_cases c6 : x5_1 < (l1.length : Int)
      ·rw [if_pos c6] at H
       have c6b0 : decide (x5_1 < (l1.length : Int)) = true := decide_eq_true c6
       clear c6
       by_cases c7 : (rd l0 x5_1) = (rd l1 x5_1)
       ·rw [if_pos c7] at H
        have c7b0 : ((rd l0 x5_1) == (rd l1 x5_1)) = true := beq_iff_eq.mpr c7
        have c7b1 : ((rd l0 x5_1) != (rd l1 x5_1)) = false := bne_eq_false_iff_eq.mpr c7
        clear c7
        have H' := aM H
        clear H
        have p189 : 0 ≤ (x5_1 : Int) := of_decide_eq_true (by first | (with_reducible assumption) | assumption)
        have q189 : x5_1 < (l0.length : Int) := of_decide_eq_true (by first | (with_reducible assumption) | assumption)
        obtain ⟨ad189, e189, hx189_0⟩ := Kd.at_int HR0.out x5_1 p189 q189
        cases e189
        replace p189 := eq_true p189
        replace q189 := eq_true q189
        have p190 : 0 ≤ (x5_1 : Int) := of_decide_eq_true (by first | (with_reducible assumption) | assumption)
        have q190 : x5_1 < (l1.length : Int) := of_decide_eq_true (by first | (with_reducible assumption) | assumption)
        obtain ⟨ad190, e190, hx190_0⟩ := Kd.at_int HR1.out x5_1 p190 q190
        cases e190
        replace p190 := eq_true p190
        replace q190 := eq_true q190
        go_wp2
        repeat (go_quiet (fail); try go_wp2)
        go_roundg k1
        case measure => have := HK1.out; omega
        case rel => exact ⟨(wrap64 (x5_1 + 1)), (by first | rfl | (simp; done) | (simp [*]; done)), H', ⟨by have := HK1.out; omega⟩, by repeat (first | exact Drawn0.refl _ | apply Drawn0.step)⟩
       ·rw [if_neg c7] at H
        have c7b0 : ((rd l0 x5_1) == (rd l1 x5_1)) = false := beq_eq_false_iff_ne.mpr c7
        have c7b1 : ((rd l0 x5_1) != (rd l1 x5_1)) = true := bne_iff_ne.mpr c7
        obtain rfl := Option.some.inj H
        have p189 : 0 ≤ (x5_1 : Int) := of_decide_eq_true (by first | (with_reducible assumption) | assumption)
        have q189 : x5_1 < (l0.length : Int) := of_decide_eq_true (by first | (with_reducible assumption) | assumption)
        obtain ⟨ad189, e189, hx189_0⟩ := Kd.at_int HR0.out x5_1 p189 q189
        cases e189
        replace p189 := eq_true p189
        replace q189 := eq_true q189
        have p190 : 0 ≤ (x5_1 : Int) := of_decide_eq_true (by first | (with_reducible assumption) | assumption)
        have q190 : x5_1 < (l1.length : Int) := of_decide_eq_true (by first | (with_reducible assumption) | assumption)
        obtain ⟨ad190, e190, hx190_0⟩ := Kd.at_int HR1.out x5_1 p190 q190
        cases e190
        replace p190 := eq_true p190
        replace q190 := eq_true q190
        go_wp2
        repeat (go_quiet (fail); try go_wp2)
        go_ret
        exact ⟨by first | rfl | (simp; done) | (simp [*]; done), by repeat (first | exact Drawn0.refl _ | apply Drawn0.step)⟩
      ·rw [if_neg c6] at H
       exact absurd H (by simp)
     ·rw [if_neg c5] at H
      exact absurd H (by simp)
    ·rw [if_neg c4] at H
     have c4b0 : decide (x5_1 < (l0.length : Int)) = false := decide_eq_false c4
     clear c4
     obtain rfl := Option.some.inj H
     go_wp2
     repeat (go_quiet (fail); try go_wp2)
     go_ret
     exact ⟨by first | rfl | (simp; done) | (simp [*]; done), by repeat (first | exact Drawn0.refl _ | apply Drawn0.step)⟩
 ·rw [if_neg c3] at H
  have c3b0 : ((l0.length : Int) == (l1.length : Int)) = false := beq_eq_false_iff_ne.mpr c3
  have c3b1 : ((l0.length : Int) != (l1.length : Int)) = true := bne_iff_ne.mpr c3
  have c3b2 : (l0.length == l1.length) = false := by first | simpa using c3 | (simp at c3 ⊢; omega)
  obtain rfl := Option.some.inj H
  go_enter Try.func20, Try.ntmps20
  go_wp2
  repeat (go_quiet (fail); try go_wp2)
  go_ret
  exact ⟨by first | rfl | (simp; done) | (simp [*]; done), by repeat (first | exact Drawn0.refl _ | apply Drawn0.step)⟩
end Go.Proofs.Ytbbgpfjeobdogaa.PB
end

section
namespace Go.Proofs.Ytbbgpfjeobdogaa.PB
open Go.RowKit Go.Maps Go.Proofs.YtbbgpfjeobdogaaW.PrintWords Go.Proofs.YtbbgpfjeobdogaaW.PrintLast Go.Proofs.YtbbgpfjeobdogaaW.PrintMore
set_option maxRecDepth 100000
set_option linter.unusedVariables false
set_option linter.unusedSimpArgs false
theorem ints_ev (l : List Int) (hl : l.length ≤ 4096) : Ev (fun k => bureauref01_Ints.f k l l) true := by
  unfold bureauref01_Ints.f
  refine Ev.pos (by omega) ?_
  have loop : ∀ (d i : Nat), i + d = l.length → Ev (fun k => bureauref01_Ints.l0 k l l (i : Int)) true := by
    intro d
    induction d with
    | zero => intro i hi; refine Ev.step (fun k => by simp only [bureauref01_Ints.l0]; rfl) ?_; exact Ev.neg (by omega) (Ev.now _)
    | succ d ih =>
      intro i hi
      refine Ev.step (fun k => by simp only [bureauref01_Ints.l0]; rfl) ?_
      refine Ev.pos (by omega) (Ev.pos (by omega) (Ev.pos (by omega) (Ev.pos trivial ?_)))
      rw [show wrap64 ((i : Int) + 1) = ((i + 1 : Nat) : Int) by unfold wrap64; omega]
      exact ih (i + 1) (by omega)
  exact loop l.length 0 (by omega)
theorem HistAt.hS {B : Nat} {g bm : Nat} {w : World} {L : List St} {now next depth : Int} (h : HistAt B (hb g bm) g bm w L now next depth) : ∀ k, hb g bm k → k < w.heap.size := by
  rintro k (rfl | rfl)
  · exact h.lt.2.1
  · exact h.lt.2.2.1
theorem add_good {B : Nat} {S : Nat → Prop} {g bm : Nat} {w : World} {L : List St} {now next depth : Int} (h : HistAt B S g bm w L now next depth) {e : Ed} {A1 A2 : Option Addr} {c1 c2 : Nat} (he : EdIn w (fun k => ¬ S k) e A1 c1 A2 c2) (hi : Inv L now next depth) (hn : next + 1 ≤ 1000) (hS : ∀ k, S k → k < w.heap.size) (hg : goodEd e = true) :
    Calls Try.prog 17 #[.pointer (some ⟨g, 0, none⟩), edV e A1 c1 A2 c2] w fun r w' => r = .returned (.tuple #[.int .i64 next, .int .i64 0]) ∧ HistAt B S g bm w' (addL e L now next depth) next (next + 1) depth ∧ Turn B (hb g bm) w w' := by
  obtain ⟨h1, h2, h3, h4⟩ := goodE_iff.1 hg
  exact add_go h he hi hn hS ⟨(apply_self _ _ _ _).1.2 ⟨h1, h2⟩, h3, h4⟩
abbrev eN (n : Int) : Ed := ⟨n, ⟨⟨#[]⟩, []⟩, ⟨⟨#[]⟩, []⟩⟩
theorem eN_in (w : World) (ok : Nat → Prop) (n : Int) : EdIn w ok (eN n) none 0 none 0 :=
  ⟨fun W _ => Kd.C_nil _ W, Nat.le_refl _, fun W _ => Kd.C_nil _ W, Nat.le_refl _, by show (0 : Nat) ≤ 100000 ∧ (0 : Nat) ≤ 100000; decide⟩
theorem eN_good (n : Int) (h0 : 0 ≤ n) (h1 : n ≤ 4096) : goodEd (eN n) = true := goodE_iff.2 ⟨show goodT ⟨#[]⟩ [] = true from by decide, show goodT ⟨#[]⟩ [] = true from by decide, h0, h1⟩
def LA : Nat → List St
  | 0 => [st0]
  | i + 1 => addL (eN ((i : Int) + 1)) (LA i) (i : Int) ((i : Int) + 1) 2
theorem inv0 {depth : Int} (h1 : 1 ≤ depth) (h2 : depth ≤ 64) : Inv [st0] 0 1 depth :=
  ⟨⟨List.pairwise_singleton _ _, fun x hx => by obtain rfl := List.mem_singleton.1 hx; decide, fun x hx => by obtain rfl := List.mem_singleton.1 hx; exact .inl (by decide), ⟨_, List.mem_singleton.2 rfl, rfl⟩, by decide, by decide, fun x hx => by obtain rfl := List.mem_singleton.1 hx; decide⟩,
   fun x hx _ y hy => by obtain rfl := List.mem_singleton.1 hx; obtain rfl := List.mem_singleton.1 hy; exact Int.le_refl _, by simp; omega, h1, h2⟩
theorem LA_inv : ∀ i : Nat, i ≤ 900 → Inv (LA i) (i : Int) ((i : Int) + 1) 2
  | 0, _ => inv0 (by decide) (by decide)
  | i + 1, h => by
    have := add_inv (LA_inv i (by omega)) (by omega) (e := eN ((i : Int) + 1)) (by show (0 : Nat) ≤ 100000 ∧ (0 : Nat) ≤ 100000; decide)
    have e1 : (((i + 1 : Nat)) : Int) = (i : Int) + 1 := by omega
    rw [e1]
    exact this
theorem LA3 : LA 3 = [⟨1, -1, eN 1⟩, ⟨2, 1, eN 2⟩, ⟨3, 2, eN 3⟩] := by kernel_rfl
theorem set5 {g5 : Nat} {w0 w : World} (h : Below w0.heap.size w0 w) (hg : w0.heap.size ≤ g5) (v0 v1 v2 v3 v4 : Value) :
    Below w0.heap.size w0 (((((w.setCell ⟨g5, 0, none⟩ v0).setCell ⟨g5, 1, none⟩ v1).setCell ⟨g5, 2, none⟩ v2).setCell ⟨g5, 3, none⟩ v3).setCell ⟨g5, 4, none⟩ v4) :=
  below_set (below_set (below_set (below_set (below_set h hg) hg) hg) hg) hg
theorem undoA {B g bm : Nat} {w : World} (h : HistAt B (hb g bm) g bm w (LA 3) 3 4 2) :
    Calls Try.prog 12 #[.pointer (some ⟨g, 0, none⟩)] w fun e w' => ∃ A2 c2 A4 c4, e = .returned (.tuple #[.agg #[.int .i64 3, .string ⟨#[]⟩, .slice A2 0 c2, .string ⟨#[]⟩, .slice A4 0 c4], .int .i64 0]) ∧ HistAt B (hb g bm) g bm w' (LA 3) 2 4 2 ∧ Turn B (hb g bm) w w' := by
  refine (undo_ok h (LA_inv 3 (by decide)).wf (x := ⟨3, 2, eN 3⟩) (by rw [LA3]; simp) rfl).mono ?_
  rintro e w' ⟨v, rfl, ⟨cs, rfl, hf⟩, hh, ht⟩
  rw [if_neg (show ¬ (2 : Int) < 0 by decide)] at hh hf
  obtain ⟨A2, c2, A4, c4, rfl, -⟩ := k34_openF hf
  exact ⟨A2, c2, A4, c4, rfl, hh, ht⟩
theorem statesA {B : Nat} {S : Nat → Prop} {g bm : Nat} {w : World} {now : Int} (h : HistAt B S g bm w (LA 3) now 4 2) (hw : Wf (LA 3) now 4) :
    Calls Try.prog 21 #[.pointer (some ⟨g, 0, none⟩)] w fun e w' => ∃ A c, e = .returned (.slice A 3 c) ∧ Kd.R (Kd.int .i64) 3 w' w.heap.size (fun _ => True) (.slice A 3 c) [1, 2, 3] ∧ Below w.heap.size w w' := by
  refine (states_ok h hw).mono ?_
  rintro e w' ⟨v, rfl, hr, hb⟩
  have e1 : statesL (LA 3) = [1, 2, 3] := by rw [LA3]; rfl
  rw [e1] at hr
  obtain ⟨A, c, rfl⟩ := Kd.R_slice hr
  exact ⟨A, c, rfl, hr, hb⟩
theorem intsA {A A' : Option Addr} {c c' : Nat} {w : World} {B B' : Nat} {ok ok' : Nat → Prop} (h : Kd.R (Kd.int .i64) 3 w B ok (.slice A 3 c) [1, 2, 3]) (h' : Kd.R (Kd.int .i64) 3 w B' ok' (.slice A' 3 c') [1, 2, 3]) :
    Calls Try.prog 20 #[.slice A 3 c, .slice A' 3 c'] w fun e w' => e = .returned (.bool true) ∧ Drawn0 w w' := by
  obtain ⟨k, hk⟩ := (ints_ev [1, 2, 3] (by decide)).rounds
  exact bureauref01_Ints.calls k A c [1, 2, 3] A' c' [1, 2, 3] true w (rR h).2.2 (rR h).2.1 (rR h').2.2 (rR h').2.1 hk
theorem wf_now {L : List St} {now next n : Int} (h : Wf L now next) (hx : ∃ x ∈ L, x.f0 = n) : Wf L n next := ⟨h.inc, h.low, h.up, hx, h.top, h.len, h.fit⟩
def bureaulaw08_alive.f : Option Bool := some true
set_option maxHeartbeats 8000000 in
theorem bureaulaw08_alive.calls (r : Bool) (w : World) (h : bureaulaw08_alive.f = some r) :
    Calls Try.prog 8 #[] w fun e w' => e = .returned (.bool r) ∧ Below w.heap.size w w' := by
  obtain rfl : true = r := Option.some.inj h
  clear h
  have hu34 := Try.underlying34
  have hu32 := Try.underlying32
  go_enter Try.func8, Try.ntmps8
  go_wp2_with (first
    | ((with_reducible refine gate_callee (f := 9) rfl ?_); refine goesL_ (some 7) rfl rfl Try.func9 (by kernel_rfl) rfl #[.int .i64 2] rfl (by (try simp only [List.map_toArray, List.map_cons, List.map_nil]); first | done | rfl) ?_; (with_reducible refine (new_ok 2 (by decide) (by decide) w).mono ?_); rintro e w3 ⟨g, bm, rfl, hh, hb⟩; refine ⟨_, rfl, ?_⟩; have HH3 := aM hh; have HB3 := aM hb; clear hh hb)
    )
  go_loopg [2] 3 (fun kq v2 w' => ∃ i : Nat, v2 = .int .i64 ((i : Int) + 1) ∧ Aside0 (i + kq = 3) ∧ Aside0 (HistAt w.heap.size (hb g bm) g bm w' (LA i) (i : Int) ((i : Int) + 1) 2) ∧ Aside0 (Below w.heap.size w w'))
  case atStart => exact ⟨0, rfl, ⟨rfl⟩, HH3, HB3⟩
  case round =>
    clear HH3 HB3
    obtain ⟨i, rfl, HI, HH, HB⟩ := hrel
    cases gk with
    | succ k1 =>
      have c1 : ((i : Int) + 1 ≤ 3) = True := eq_true (by have := HI.out; omega)
      have c2 : decide ((i : Int) + 1 ≤ 3) = true := decide_eq_true (by have := HI.out; omega)
      have e1 : wrap64 ((i : Int) + 1 + 1) = ((i + 1 : Nat) : Int) + 1 := by have := HI.out; unfold wrap64; omega
      go_wp2_with (first
        | ((with_reducible refine gate_callee (f := 17) rfl ?_); refine goesL_ (some 18) rfl rfl Try.func17 (by kernel_rfl) rfl #[.pointer (some ⟨g, 0, none⟩), edV (eN ((i : Int) + 1)) none 0 none 0] rfl (by (try simp only [List.map_toArray, List.map_cons, List.map_nil]); first | done | rfl) ?_; (with_reducible refine (add_good HH.out (eN_in _ _ _) (LA_inv i (by have := HI.out; omega)) (by have := HI.out; omega) HH.out.hS (eN_good _ (by omega) (by have := HI.out; omega))).mono ?_); rintro e w4 ⟨rfl, hh, ht⟩; refine ⟨_, rfl, ?_⟩; have HH4 := aM hh; have HB4 := aM (HB.out.trans ht.bel); clear hh ht)
        )
      rw [e1]
      go_roundg k1
      case measure => exact Nat.lt_succ_self _
      case rel => exact ⟨i + 1, rfl, ⟨by have := HI.out; omega⟩, ⟨by rw [show (((i + 1 : Nat)) : Int) = (i : Int) + 1 by omega]; exact HH4.out⟩, HB4⟩
    | zero =>
      obtain rfl : i = 3 := by have := HI.out; omega
      have c1 : (((3 : Nat) : Int) + 1 ≤ 3) = False := eq_false (by decide)
      have c2 : decide (((3 : Nat) : Int) + 1 ≤ 3) = false := by decide
      have HI3 := aM (LA_inv 3 (by decide))
      go_wp2_with (first
        | ((with_reducible refine gate_callee (f := 12) rfl ?_); (try (refine gate_guard (by rfl) ?_; dsimp only)); refine goesL_ (some 30) rfl rfl Try.func12 (by kernel_rfl) rfl #[.pointer (some ⟨g, 0, none⟩)] rfl (by (try simp only [List.map_toArray, List.map_cons, List.map_nil]); first | done | rfl) ?_; (with_reducible refine (undoA HH.out).mono ?_); rintro e w4 ⟨A2, c2, A4, c4, rfl, hh, ht⟩; refine ⟨_, rfl, ?_⟩; have HH4 := aM hh; have HB4 := aM (HB.out.trans ht.bel); clear hh ht)
        | ((with_reducible refine gate_dst (N := 5) rfl ?_); refine box_event ?hg (N := 5) ?hd (cs := zs5) (t := 34) ?hr ?_; (case hd => rfl); (case hg => rfl); (case hr => first | (go_simp; done) | (go_simp; rfl)); intro g5 hg w5 hbox hb; have HB5 := aM (bP HB4.out hb); have HX5 := aM hbox; have HH5 := aM (HH4.out.below hb); have GE5 := aM (show w.heap.size ≤ g5 from by have := HB4.out.size; omega); have HD5 := aM hb; have GD5 := aM (Nat.le_of_eq hg.symm); clear hb hbox hg; have hz0 := (bC HX5.out 0).trans (rfl : _ = some (Value.int .i64 0)); have hz1 := (bC HX5.out 1).trans (rfl : _ = some (Value.string ⟨#[]⟩)); have hz2 := (bC HX5.out 2).trans (rfl : _ = some (Value.slice none 0 0)); have hz3 := (bC HX5.out 3).trans (rfl : _ = some (Value.string ⟨#[]⟩)); have hz4 := (bC HX5.out 4).trans (rfl : _ = some (Value.slice none 0 0)); have hfz0 := bF HX5.out 0; have hfz1 := bF HX5.out 1; have hfz2 := bF HX5.out 2; have hfz3 := bF HX5.out 3; have hfz4 := bF HX5.out 4)
        | ((with_reducible refine gate_callee (f := 19) rfl ?_); (try (refine gate_guard (by rfl) ?_; dsimp only)); refine goesL_ (some 42) rfl rfl Try.func19 (by kernel_rfl) rfl #[.pointer (some ⟨g, 0, none⟩)] rfl (by (try simp only [List.map_toArray, List.map_cons, List.map_nil]); first | done | rfl) ?_; have HT6 := aM (And.intro (HH4.out.below (set5 HD5.out GD5.out (.int .i64 3) (.string ⟨#[]⟩) (.slice A2 0 c2) (.string ⟨#[]⟩) (.slice A4 0 c4))) (set5 HB5.out GE5.out (.int .i64 3) (.string ⟨#[]⟩) (.slice A2 0 c2) (.string ⟨#[]⟩) (.slice A4 0 c4))); (with_reducible refine (now_ok HT6.out.1).mono ?_); rintro e w6 ⟨rfl, hw⟩; subst hw; refine ⟨_, rfl, ?_⟩)
        | ((with_reducible refine gate_callee (f := 21) rfl ?_); (try (refine gate_guard (by rfl) ?_; dsimp only)); refine goesL_ (some 47) rfl rfl Try.func21 (by kernel_rfl) rfl #[.pointer (some ⟨g, 0, none⟩)] rfl (by (try simp only [List.map_toArray, List.map_cons, List.map_nil]); first | done | rfl) ?_; (with_reducible refine (statesA HT6.out.1 (wf_now HI3.out.wf ⟨⟨2, 1, eN 2⟩, by rw [LA3]; simp, rfl⟩)).mono ?_); rintro e w7 ⟨A7, c7, rfl, hr, hb⟩; refine ⟨_, rfl, ?_⟩; have HR7 := aM hr; have HB7 := aM (HT6.out.2.trans (hb.mono HT6.out.2.size)); clear hr hb)
        | ((with_reducible refine gate_dst (N := 48) rfl ?_); (try (refine gate_guard (by rfl) ?_; dsimp only)); refine Kd.R_lit (Kd.int .i64) _ 3 ?hg (N := 48) ?hd (xs := ([1, 2, 3] : List Int)) (inner := [.int .i64 1, .int .i64 2, .int .i64 3]) (ok := fun _ => True) (okp := fun _ => True) ?hr ?hp (fun _ hk => hk) trivial (Below.refl _ _) (Nat.le_refl _) (by simp) ?_; (case hd => rfl); (case hg => rfl); (case hr => first | (go_simp; done) | (go_simp; rfl)); (case hp => exact (Reps.one (show Kd.M (Kd.int .i64) _ _ _ 1 [.int .i64 1] from rfl) (Reps.one (show Kd.M (Kd.int .i64) _ _ _ 2 [.int .i64 2] from rfl) (Reps.one (show Kd.M (Kd.int .i64) _ _ _ 3 [.int .i64 3] from rfl) (Reps.none _ _))))); intro v8 w8 ho hb hg_ hnew_; clear hg_ hnew_; obtain ⟨A8, c8, e8⟩ := Kd.R_slice ho; rw [show ([1, 2, 3] : List Int).length = 3 from rfl] at e8; subst e8; have HO8 := aM ho; have HR8 := aM (Kd.R_below HR7.out hb); have HB8 := aM (HB7.out.trans (hb.mono HB7.out.size)); clear ho hb)
        | ((with_reducible refine gate_callee (f := 20) rfl ?_); (try (refine gate_guard (by rfl) ?_; dsimp only)); refine goesL_ (some 49) rfl rfl Try.func20 (by kernel_rfl) rfl #[.slice A7 3 c7, .slice A8 3 c8] rfl (by (try simp only [List.map_toArray, List.map_cons, List.map_nil]); first | done | rfl) ?_; (with_reducible refine (intsA HR8.out HO8.out).mono ?_); rintro e w9 ⟨rfl, nd, rfl⟩; refine ⟨_, rfl, ?_⟩)
        )
      go_ret
      exact ⟨rfl, pw_below_drewN HB8.out nd⟩
end Go.Proofs.Ytbbgpfjeobdogaa.PB
end

section
namespace Go.Proofs.Ytbbgpfjeobdogaa.PB
open Go.RowKit Go.Maps Go.Proofs.YtbbgpfjeobdogaaW.PrintWords Go.Proofs.YtbbgpfjeobdogaaW.PrintLast Go.Proofs.YtbbgpfjeobdogaaW.PrintMore
set_option maxRecDepth 100000
set_option linter.unusedVariables false
set_option linter.unusedSimpArgs false
def undoNow (L : List St) (now : Int) : Int := ((L.find? (fun x => x.f0 == now)).map (fun x => if x.f1 < 0 then now else x.f1)).getD now
structure Hs where
  L : List St
  now : Int
  next : Int
def stepH (depth : Int) (s : Hs) (k : Int) (e : Ed) : Hs :=
  if k % 4 = 2 then ⟨s.L, undoNow s.L s.now, s.next⟩ else if k % 4 = 3 then ⟨s.L, redoNow s.L s.now, s.next⟩ else if goodEd e = true then ⟨addL e s.L s.now s.next depth, s.next, s.next + 1⟩ else s
theorem undoNow_of {L : List St} {now next : Int} (h : Wf L now next) {x : St} (hx : x ∈ L) (hn : x.f0 = now) : undoNow L now = if x.f1 < 0 then now else x.f1 := by
  unfold undoNow
  rw [← hn, find_mem h.inc hx]
  rfl
theorem Inv.undo {L : List St} {now next depth : Int} (h : Inv L now next depth) : Inv L (undoNow L now) next depth := by
  obtain ⟨x, hx, hn⟩ := h.wf.now
  refine ⟨wf_now h.wf ?_, h.root, h.cap, h.d1, h.d2⟩
  rw [undoNow_of h.wf hx hn]
  split
  · exact ⟨x, hx, hn⟩
  · rcases h.wf.up x hx with h1 | h1
    · omega
    · exact h1
theorem redoL_in {L : List St} {now : Int} {x : St} (h : redoL L now = some x) : x ∈ L ∧ x.f1 = now := by
  unfold redoL at h
  exact ⟨List.mem_reverse.1 (List.mem_of_find?_eq_some h), by simpa using List.find?_some h⟩
theorem Inv.redo {L : List St} {now next depth : Int} (h : Inv L now next depth) : Inv L (redoNow L now) next depth := by
  refine ⟨wf_now h.wf ?_, h.root, h.cap, h.d1, h.d2⟩
  unfold redoNow
  cases hr : redoL L now with
  | none => exact h.wf.now
  | some x => exact ⟨x, (redoL_in hr).1, rfl⟩
theorem step_inv {depth : Int} {s : Hs} (h : Inv s.L s.now s.next depth) (hn : s.next + 1 ≤ 1000) (k : Int) {e : Ed} (he : e.f1.f1.length ≤ 100000 ∧ e.f2.f1.length ≤ 100000) : Inv (stepH depth s k e).L (stepH depth s k e).now (stepH depth s k e).next depth := by
  unfold stepH
  split
  · exact h.undo
  · split
    · exact h.redo
    · split
      · exact add_inv h hn he
      · exact h
theorem step_next {depth : Int} {s : Hs} (k : Int) (e : Ed) : s.next ≤ (stepH depth s k e).next ∧ (stepH depth s k e).next ≤ s.next + 1 := by
  unfold stepH
  split
  · show s.next ≤ s.next ∧ s.next ≤ s.next + 1; omega
  · split
    · show s.next ≤ s.next ∧ s.next ≤ s.next + 1; omega
    · split
      · show s.next ≤ s.next + 1 ∧ s.next + 1 ≤ s.next + 1; omega
      · omega
theorem undo_any {B : Nat} {S : Nat → Prop} {g bm : Nat} {w : World} {L : List St} {now next depth : Int} (h : HistAt B S g bm w L now next depth) (hw : Wf L now next) :
    Calls Try.prog 12 #[.pointer (some ⟨g, 0, none⟩)] w fun e w' => ∃ v, e = .returned v ∧ HistAt B S g bm w' L (undoNow L now) next depth ∧ Turn B (hb g bm) w w' := by
  obtain ⟨x, hx, hn⟩ := hw.now
  refine (undo_ok h hw hx hn).mono ?_
  rintro e w' ⟨v, rfl, _, hh, ht⟩
  rw [undoNow_of hw hx hn]
  exact ⟨_, rfl, hh, ht⟩
abbrev actV (k : Int) (e : Ed) (A1 : Option Addr) (c1 : Nat) (A2 : Option Addr) (c2 : Nat) (fk : Bool) : Value := .agg #[.int .u8 k, .int .i64 e.f0, .string e.f1.f0, .slice A1 e.f1.f1.length c1, .string e.f2.f0, .slice A2 e.f2.f1.length c2, .bool fk]
set_option maxHeartbeats 8000000 in
theorem does_ok {B : Nat} {S : Nat → Prop} {g bm : Nat} {w : World} {s : Hs} {depth : Int} (h : HistAt B S g bm w s.L s.now s.next depth) (k : Int) (hk : 0 ≤ k ∧ k < 256) (fk : Bool) {e : Ed} {A1 A2 : Option Addr} {c1 c2 : Nat} (he : EdIn w (fun k => ¬ S k) e A1 c1 A2 c2) (hi : Inv s.L s.now s.next depth) (hn : s.next + 1 ≤ 1000) (hS : ∀ k, S k → k < w.heap.size) :
    Calls Try.prog 25 #[.pointer (some ⟨g, 0, none⟩), actV k e A1 c1 A2 c2 fk] w fun r w' => r = .returned (.tuple #[]) ∧ HistAt B S g bm w' (stepH depth s k e).L (stepH depth s k e).now (stepH depth s k e).next depth ∧ Turn B (hb g bm) w w' := by
  have hu36 := Try.underlying36
  have hu34 := Try.underlying34
  have HH := aM h
  have HE := aM he
  have HI := aM hi
  have HN := aM hn
  have HS := aM hS
  have HK := aM hk
  have hm : Int.tmod k 4 = k % 4 := Int.tmod_eq_emod_of_nonneg hk.1
  clear h he hi hn hS hk
  by_cases k2 : k % 4 = 2
  · have c2b : (k % 4 == 2) = true := by simpa using k2
    go_enter Try.func25, Try.ntmps25
    go_wp2_with (first
      | ((with_reducible refine gate_dst (N := 3) rfl ?_); refine box_event ?hg (N := 3) ?hd (cs := #[.int .u8 k, .int .i64 e.f0, .string e.f1.f0, .slice A1 e.f1.f1.length c1, .string e.f2.f0, .slice A2 e.f2.f1.length c2, .bool fk]) (t := 36) ?hr ?_; (case hd => rfl); (case hg => rfl); (case hr => first | (go_simp; done) | (go_simp; rfl)); intro g3 hg w2 hbox hb; have HB2 := aM hb; have HX2 := aM hbox; have HH2 := aM (HH.out.below hb); have HE2 := aM (HE.out.below hb); have HT2 := aM (Turn.of_below (S := Go.Proofs.Ytbbgpfjeobdogaa.PB.hb g bm) hb HH.out.lt.1); clear hb hbox hg; have hx0 := (bC HX2.out 0).trans (rfl : _ = some (Value.int .u8 k)); have hx1 := (bC HX2.out 1).trans (rfl : _ = some (Value.int .i64 e.f0)); have hx2 := (bC HX2.out 2).trans (rfl : _ = some (Value.string e.f1.f0)); have hx3 := (bC HX2.out 3).trans (rfl : _ = some (Value.slice A1 e.f1.f1.length c1)); have hx4 := (bC HX2.out 4).trans (rfl : _ = some (Value.string e.f2.f0)); have hx5 := (bC HX2.out 5).trans (rfl : _ = some (Value.slice A2 e.f2.f1.length c2)); have hx6 := (bC HX2.out 6).trans (rfl : _ = some (Value.bool fk)))
      | ((with_reducible refine gate_callee (f := 12) rfl ?_); refine goesL_ (some 14) rfl rfl Try.func12 (by kernel_rfl) rfl #[.pointer (some ⟨g, 0, none⟩)] rfl (by (try simp only [List.map_toArray, List.map_cons, List.map_nil]); first | done | rfl) ?_; (with_reducible refine (undo_any HH2.out HI.out.wf).mono ?_); rintro r4 w4 ⟨v, rfl, hh, ht⟩; refine ⟨_, rfl, ?_⟩; have HH4 := aM hh; have HT4 := aM (HT2.out.trans ht); clear hh ht)
      )
    refine bodyPost_end (results_none rfl _ _ _) rfl ?_
    refine ⟨rfl, ?_, HT4.out⟩
    unfold stepH
    rw [if_pos k2]
    exact HH4.out
  have c2b : (k % 4 == 2) = false := by simpa using k2
  by_cases k3 : k % 4 = 3
  · have c3b : (k % 4 == 3) = true := by simpa using k3
    go_enter Try.func25, Try.ntmps25
    go_wp2_with (first
      | ((with_reducible refine gate_dst (N := 3) rfl ?_); refine box_event ?hg (N := 3) ?hd (cs := #[.int .u8 k, .int .i64 e.f0, .string e.f1.f0, .slice A1 e.f1.f1.length c1, .string e.f2.f0, .slice A2 e.f2.f1.length c2, .bool fk]) (t := 36) ?hr ?_; (case hd => rfl); (case hg => rfl); (case hr => first | (go_simp; done) | (go_simp; rfl)); intro g3 hg w2 hbox hb; have HB2 := aM hb; have HX2 := aM hbox; have HH2 := aM (HH.out.below hb); have HE2 := aM (HE.out.below hb); have HT2 := aM (Turn.of_below (S := Go.Proofs.Ytbbgpfjeobdogaa.PB.hb g bm) hb HH.out.lt.1); clear hb hbox hg; have hx0 := (bC HX2.out 0).trans (rfl : _ = some (Value.int .u8 k)); have hx1 := (bC HX2.out 1).trans (rfl : _ = some (Value.int .i64 e.f0)); have hx2 := (bC HX2.out 2).trans (rfl : _ = some (Value.string e.f1.f0)); have hx3 := (bC HX2.out 3).trans (rfl : _ = some (Value.slice A1 e.f1.f1.length c1)); have hx4 := (bC HX2.out 4).trans (rfl : _ = some (Value.string e.f2.f0)); have hx5 := (bC HX2.out 5).trans (rfl : _ = some (Value.slice A2 e.f2.f1.length c2)); have hx6 := (bC HX2.out 6).trans (rfl : _ = some (Value.bool fk)))
      | ((with_reducible refine gate_callee (f := 15) rfl ?_); refine goesL_ (some 18) rfl rfl Try.func15 (by kernel_rfl) rfl #[.pointer (some ⟨g, 0, none⟩)] rfl (by (try simp only [List.map_toArray, List.map_cons, List.map_nil]); first | done | rfl) ?_; (with_reducible refine (redo_ok HH2.out HI.out.wf).mono ?_); rintro r4 w4 ⟨v, rfl, _, hh, ht⟩; refine ⟨_, rfl, ?_⟩; have HH4 := aM hh; have HT4 := aM (HT2.out.trans ht); clear hh ht)
      )
    refine bodyPost_end (results_none rfl _ _ _) rfl ?_
    refine ⟨rfl, ?_, HT4.out⟩
    unfold stepH
    rw [if_neg k2, if_pos k3]
    exact HH4.out
  have c3b : (k % 4 == 3) = false := by simpa using k3
  by_cases hg : goodEd e = true
  · have hgu := aM hg
    go_enter Try.func25, Try.ntmps25
    go_wp2_with (first
      | ((with_reducible refine gate_dst (N := 3) rfl ?_); refine box_event ?hg (N := 3) ?hd (cs := #[.int .u8 k, .int .i64 e.f0, .string e.f1.f0, .slice A1 e.f1.f1.length c1, .string e.f2.f0, .slice A2 e.f2.f1.length c2, .bool fk]) (t := 36) ?hr ?_; (case hd => rfl); (case hg => rfl); (case hr => first | (go_simp; done) | (go_simp; rfl)); intro g3 hg w2 hbox hb; have HB2 := aM hb; have HX2 := aM hbox; have HH2 := aM (HH.out.below hb); have HE2 := aM (HE.out.below hb); have HT2 := aM (Turn.of_below (S := Go.Proofs.Ytbbgpfjeobdogaa.PB.hb g bm) hb HH.out.lt.1); clear hb hbox hg; have hx0 := (bC HX2.out 0).trans (rfl : _ = some (Value.int .u8 k)); have hx1 := (bC HX2.out 1).trans (rfl : _ = some (Value.int .i64 e.f0)); have hx2 := (bC HX2.out 2).trans (rfl : _ = some (Value.string e.f1.f0)); have hx3 := (bC HX2.out 3).trans (rfl : _ = some (Value.slice A1 e.f1.f1.length c1)); have hx4 := (bC HX2.out 4).trans (rfl : _ = some (Value.string e.f2.f0)); have hx5 := (bC HX2.out 5).trans (rfl : _ = some (Value.slice A2 e.f2.f1.length c2)); have hx6 := (bC HX2.out 6).trans (rfl : _ = some (Value.bool fk)))
      | ((with_reducible refine gate_callee (f := 17) rfl ?_); refine goesL_ (some 10) rfl rfl Try.func17 (by kernel_rfl) rfl #[.pointer (some ⟨g, 0, none⟩), edV e A1 c1 A2 c2] rfl (by (try simp only [List.map_toArray, List.map_cons, List.map_nil]); first | done | rfl) ?_; (with_reducible refine (add_good HH2.out HE2.out HI.out HN.out (fun k hk => Nat.lt_of_lt_of_le (HS.out k hk) HB2.out.size) hgu.out).mono ?_); rintro r4 w4 ⟨rfl, hh, ht⟩; refine ⟨_, rfl, ?_⟩; have HH4 := aM hh; have HT4 := aM (HT2.out.trans ht); clear hh ht)
      )
    refine bodyPost_end (results_none rfl _ _ _) rfl ?_
    refine ⟨rfl, ?_, HT4.out⟩
    unfold stepH
    rw [if_neg k2, if_neg k3, if_pos hgu.out]
    exact HH4.out
  · have hgu := aM hg
    go_enter Try.func25, Try.ntmps25
    go_wp2_with (first
      | ((with_reducible refine gate_dst (N := 3) rfl ?_); refine box_event ?hg (N := 3) ?hd (cs := #[.int .u8 k, .int .i64 e.f0, .string e.f1.f0, .slice A1 e.f1.f1.length c1, .string e.f2.f0, .slice A2 e.f2.f1.length c2, .bool fk]) (t := 36) ?hr ?_; (case hd => rfl); (case hg => rfl); (case hr => first | (go_simp; done) | (go_simp; rfl)); intro g3 hg w2 hbox hb; have HB2 := aM hb; have HX2 := aM hbox; have HH2 := aM (HH.out.below hb); have HE2 := aM (HE.out.below hb); have HT2 := aM (Turn.of_below (S := Go.Proofs.Ytbbgpfjeobdogaa.PB.hb g bm) hb HH.out.lt.1); clear hb hbox hg; have hx0 := (bC HX2.out 0).trans (rfl : _ = some (Value.int .u8 k)); have hx1 := (bC HX2.out 1).trans (rfl : _ = some (Value.int .i64 e.f0)); have hx2 := (bC HX2.out 2).trans (rfl : _ = some (Value.string e.f1.f0)); have hx3 := (bC HX2.out 3).trans (rfl : _ = some (Value.slice A1 e.f1.f1.length c1)); have hx4 := (bC HX2.out 4).trans (rfl : _ = some (Value.string e.f2.f0)); have hx5 := (bC HX2.out 5).trans (rfl : _ = some (Value.slice A2 e.f2.f1.length c2)); have hx6 := (bC HX2.out 6).trans (rfl : _ = some (Value.bool fk)))
      | ((with_reducible refine gate_callee (f := 17) rfl ?_); refine goesL_ (some 10) rfl rfl Try.func17 (by kernel_rfl) rfl #[.pointer (some ⟨g, 0, none⟩), edV e A1 c1 A2 c2] rfl (by (try simp only [List.map_toArray, List.map_cons, List.map_nil]); first | done | rfl) ?_; (with_reducible refine (add_bad HH2.out HE2.out (by simpa using hgu.out)).mono ?_); rintro r4 w4 ⟨rfl, hb⟩; refine ⟨_, rfl, ?_⟩; have HH4 := aM (HH2.out.below hb); have HT4 := aM (HT2.out.below hb (Nat.le_trans HH.out.lt.1 HT2.out.size)); clear hb)
      )
    refine bodyPost_end (results_none rfl _ _ _) rfl ?_
    refine ⟨rfl, ?_, HT4.out⟩
    unfold stepH
    rw [if_neg k2, if_neg k3, if_neg hgu.out]
    exact HH4.out
end Go.Proofs.Ytbbgpfjeobdogaa.PB
end

section
namespace Go.Proofs.Ytbbgpfjeobdogaa.PB
open Go.RowKit Go.Maps Go.Proofs.YtbbgpfjeobdogaaW.PrintWords Go.Proofs.YtbbgpfjeobdogaaW.PrintLast Go.Proofs.YtbbgpfjeobdogaaW.PrintMore
set_option maxRecDepth 100000
set_option linter.unusedVariables false
set_option linter.unusedSimpArgs false
abbrev kL := k76
abbrev okN (P : Nat → Prop) (w : World) : Nat → Prop := fun k => P k ∨ w.heap.size ≤ k
structure Bl (P : Nat → Prop) (g2 : Nat) (w : World) (L : List St) (now next depth : Int) (A : Option Addr) (c : Nat) (v : Value) (out : List St) (W : World) : Prop where
  list : Kd.V kL 76 W 0 (fun k => P k ∧ k < w.heap.size) (.slice A L.length c) L
  box : W.heap[g2]? = some (.cells #[.slice A L.length c, .int .i64 now, .int .i64 next, .int .i64 depth] 28 (0, 0))
  out : Kd.N kL 76 W w.heap.size (okN P w) v out
  below : Below w.heap.size w W
theorem Bl.later {P : Nat → Prop} {g2 : Nat} {w W W2 : World} {L : List St} {now next depth : Int} {A : Option Addr} {c : Nat} {v : Value} {out : List St} (h : Bl P g2 w L now next depth A c v out W) (hb : Below W.heap.size W W2) : Bl P g2 w L now next depth A c v out W2 :=
  ⟨Kd.V_below h.list hb, bB h.box hb, Kd.N_below h.out hb, h.below.trans (hb.mono h.below.size)⟩
end Go.Proofs.Ytbbgpfjeobdogaa.PB
end

section
namespace Go.Proofs.Ytbbgpfjeobdogaa.PB
open Go.RowKit Go.Maps Go.Proofs.YtbbgpfjeobdogaaW.PrintWords
set_option linter.unusedVariables false
set_option linter.unusedSimpArgs false
section
variable {L : List St} {now next : Int}
structure PathOk (l p : List Int) (now : Int) : Prop where
  l1 : 1 ≤ l.length
  p1 : 1 ≤ p.length
  p2 : p.length ≤ 1000
  first : rd p 0 = rd l 0
  last : rd p ((p.length : Int) - 1) = now
  linc : ∀ i : Nat, 1 ≤ i → i < l.length → rd l ((i : Int) - 1) < rd l (i : Int)
  pinc : ∀ i : Nat, 1 ≤ i → i < p.length → rd p ((i : Int) - 1) < rd p (i : Int)
  lsort : l.Pairwise (fun a b => a < b)
  sub : ∀ x ∈ p, x ∈ l
end
end Go.Proofs.Ytbbgpfjeobdogaa.PB
end

section
namespace Go.Proofs.Ytbbgpfjeobdogaa.PB
open Go.RowKit Go.Proofs.YtbbgpfjeobdogaaW.PrintWords Go.Proofs.YtbbgpfjeobdogaaW.PrintLast Go.Proofs.YtbbgpfjeobdogaaW.PrintMore
attribute [local go_sem] max2_int min2_int max_two min_two max_three min_three max_four min_four   
set_option linter.unusedVariables false
set_option linter.unusedSimpArgs false
def bureaulaw07_Fits.f (a0_0 : Int) (a0_1 : ByteArray) (l0_2 : List (S71)) (a0_3 : ByteArray) (l0_4 : List (S71)) : Option (Bool) := (bureaulaw04_Fits.f a0_1 l0_2).bind fun t197 => (if t197 = true then ((bureaulaw04_Fits.f a0_3 l0_4).bind fun t198 => (some t198)) else (some false))
set_option maxHeartbeats 8000000 in
set_option maxRecDepth 100000 in
theorem bureaulaw07_Fits.calls (a0_0 : Int) (a0_1 : ByteArray) (A0_2 : Option Addr) (c0_2 : Nat) (l0_2 : List (S71)) (a0_3 : ByteArray) (A0_4 : Option Addr) (c0_4 : Nat) (l0_4 : List (S71)) (r : Bool) (w : World) (hr0_2 : Kd.C k71 w A0_2 l0_2.length l0_2) (hc0_2 : l0_2.length ≤ c0_2) (hr0_4 : Kd.C k71 w A0_4 l0_4.length l0_4) (hc0_4 : l0_4.length ≤ c0_4) (h : bureaulaw07_Fits.f a0_0 a0_1 l0_2 a0_3 l0_4 = some r) :
  Calls Try.prog 11 #[.agg #[.int .i64 a0_0, .string a0_1, .slice A0_2 l0_2.length c0_2, .string a0_3, .slice A0_4 l0_4.length c0_4]] w fun e w' => e = .returned (.bool r) ∧ Below w.heap.size w w' := by
 have hu34 := Try.underlying34
 have hu32 := Try.underlying32
 have HR0_2 := aM hr0_2
 have HC0_2 := aM hc0_2
 clear hr0_2 hc0_2
 have HR0_4 := aM hr0_4
 have HC0_4 := aM hc0_4
 clear hr0_4 hc0_4
 have HB := aM (Below.refl w.heap.size w)
 have H : ((bureaulaw04_Fits.f a0_1 l0_2).bind fun t197 => (if t197 = true then ((bureaulaw04_Fits.f a0_3 l0_4).bind fun t198 => (some t198)) else (some false))) = some r := h
 clear h
 replace H := Option.bind_eq_some_iff.mp H
 obtain ⟨t197, A20, H⟩ := H
 replace H : (if t197 = true then ((bureaulaw04_Fits.f a0_3 l0_4).bind fun t198 => (some t198)) else (some false)) = some r := H
 have A2 := aM A20
 clear A20
 by_cases c3 : t197 = true
 ·subst c3
  have H1 : ((bureaulaw04_Fits.f a0_3 l0_4).bind fun t198 => (some t198)) = some r := by rw [if_pos rfl] at H; exact H
  clear H
  have H := H1
  clear H1
  replace H := Option.bind_eq_some_iff.mp H
  obtain ⟨t198, A40, H⟩ := H
  replace H : (some t198) = some r := H
  have A4 := aM A40
  clear A40
  obtain rfl := Option.some.inj H
  go_enter Try.func11, Try.ntmps11
  go_wp2_with (first | ((with_reducible refine gate_dst (N := 1) rfl ?_); refine box_event ?hg (N := 1) ?hd (cs := #[.int .i64 a0_0, .string a0_1, .slice A0_2 l0_2.length c0_2, .string a0_3, .slice A0_4 l0_4.length c0_4]) (t := 34) ?hr ?_; (case hd | hg => rfl); (case hr => first | (go_simp; done) | (go_simp; rfl)); intro gb196 hg w5 hbox hb; have n0_ := aM (bP (ey HB.out) hb); have n1_ := aM (hbox); have n2_ := aM ((by rw [hg]; exact (bZ (ey HB.out)) : w.heap.size ≤ gb196)); have n3_ := n2_; clear HB; have HB := n0_; have BK196 := n1_; have GW196 := n2_; have GE196 := n3_; clear n0_ n1_ n2_ n3_; clear hb hbox hg; have hcz6_0 := zC BK196.out 0 (.int .i64 a0_0); have hcz6_1 := zC BK196.out 1 (.string a0_1); have hcz6_2 := zC BK196.out 2 (.slice A0_2 l0_2.length c0_2); have hcz6_3 := zC BK196.out 3 (.string a0_3); have hcz6_4 := zC BK196.out 4 (.slice A0_4 l0_4.length c0_4); have hfz6_0 := bF BK196.out 0; have hfz6_1 := bF BK196.out 1; have hfz6_2 := bF BK196.out 2; have hfz6_3 := bF BK196.out 3; have hfz6_4 := bF BK196.out 4) | ((with_reducible refine gate_callee (f := 30) rfl ?_); refine goesL_ (some 5) rfl rfl Try.func30 (by kernel_rfl) rfl #[.agg #[.string a0_1, .slice A0_2 l0_2.length c0_2]] rfl (by (try simp only [mT, mC, mN]); first | done | rfl | (simp only [lD, lT]; rfl)) ?_; (with_reducible refine (bureaulaw04_Fits.calls a0_1 _ _ l0_2 true _ ?side1 ?side2 A2.out).mono ?_); (case side1 => repeat (first | exact (cB_ HR0_2.out HB.out) | (with_reducible refine Kd.C_alloc ?_ _) | (with_reducible refine Kd.C_drewN ?_ _) | (with_reducible refine Kd.C_drew ?_))); (case side2 => exact HC0_2.out); rintro e w7 ⟨rfl, hb⟩; refine ⟨_, rfl, ?_⟩; have n0_ := aM (bB (g := gb196) (qy BK196.out) hb); have n1_ := aM (bP (by repeat (first | (with_reducible first | exact HB.out | apply ea | apply en | apply ed | refine es ?_ GE196.out) | exact HB.out)) hb); clear BK196 HB; have BK196 := n0_; have HB := n1_; clear n0_ n1_; (try clear hb); (try clear hb2); (try clear hk); (try clear hi); have hcz8_0 := zC BK196.out 0 (.int .i64 a0_0); have hcz8_1 := zC BK196.out 1 (.string a0_1); have hcz8_2 := zC BK196.out 2 (.slice A0_2 l0_2.length c0_2); have hcz8_3 := zC BK196.out 3 (.string a0_3); have hcz8_4 := zC BK196.out 4 (.slice A0_4 l0_4.length c0_4); have hfz8_0 := bF BK196.out 0; have hfz8_1 := bF BK196.out 1; have hfz8_2 := bF BK196.out 2; have hfz8_3 := bF BK196.out 3; have hfz8_4 := bF BK196.out 4) | (go_at_call 30; (with_reducible refine (bureaulaw04_Fits.calls a0_3 _ _ l0_4 t198 _ ?side1 ?side2 A4.out).mono ?_); (case side1 => repeat (first | exact (cB_ HR0_4.out HB.out) | (with_reducible refine Kd.C_alloc ?_ _) | (with_reducible refine Kd.C_drewN ?_ _) | (with_reducible refine Kd.C_drew ?_))); (case side2 => exact HC0_4.out); rintro e w9 ⟨rfl, hb⟩; have n0_ := aM (bB (g := gb196) (qy BK196.out) hb); have n1_ := aM (bP (by repeat (first | (with_reducible first | exact HB.out | apply ea | apply en | apply ed | refine es ?_ GE196.out) | exact HB.out)) hb); clear BK196 HB; have BK196 := n0_; have HB := n1_; clear n0_ n1_; (try clear hb); (try clear hb2); (try clear hk); (try clear hi)))
  go_ret
  exact ⟨by first | rfl | (simp [errW_none, errW_some] <;> rfl) | (simp [*, errW_none, errW_some] <;> rfl), by repeat (first | (with_reducible first | exact HB.out | apply ea | apply en | apply ed | refine es ?_ GE196.out) | exact HB.out)⟩
 ·replace c3 := Bool.eq_false_iff.mpr c3
  subst c3
  have H1 : (some false) = some r := by rw [if_neg (show ¬ (false = true) by decide)] at H; exact H
  clear H
  have H := H1
  clear H1
  obtain rfl := Option.some.inj H
  go_enter Try.func11, Try.ntmps11
  go_wp2_with (first | ((with_reducible refine gate_dst (N := 1) rfl ?_); refine box_event ?hg (N := 1) ?hd (cs := #[.int .i64 a0_0, .string a0_1, .slice A0_2 l0_2.length c0_2, .string a0_3, .slice A0_4 l0_4.length c0_4]) (t := 34) ?hr ?_; (case hd | hg => rfl); (case hr => first | (go_simp; done) | (go_simp; rfl)); intro gb196 hg w10 hbox hb; have n0_ := aM (bP (ey HB.out) hb); have n1_ := aM (hbox); have n2_ := aM ((by rw [hg]; exact (bZ (ey HB.out)) : w.heap.size ≤ gb196)); have n3_ := n2_; clear HB; have HB := n0_; have BK196 := n1_; have GW196 := n2_; have GE196 := n3_; clear n0_ n1_ n2_ n3_; clear hb hbox hg; have hcz11_0 := zC BK196.out 0 (.int .i64 a0_0); have hcz11_1 := zC BK196.out 1 (.string a0_1); have hcz11_2 := zC BK196.out 2 (.slice A0_2 l0_2.length c0_2); have hcz11_3 := zC BK196.out 3 (.string a0_3); have hcz11_4 := zC BK196.out 4 (.slice A0_4 l0_4.length c0_4); have hfz11_0 := bF BK196.out 0; have hfz11_1 := bF BK196.out 1; have hfz11_2 := bF BK196.out 2; have hfz11_3 := bF BK196.out 3; have hfz11_4 := bF BK196.out 4) | ((with_reducible refine gate_callee (f := 30) rfl ?_); refine goesL_ (some 5) rfl rfl Try.func30 (by kernel_rfl) rfl #[.agg #[.string a0_1, .slice A0_2 l0_2.length c0_2]] rfl (by (try simp only [mT, mC, mN]); first | done | rfl | (simp only [lD, lT]; rfl)) ?_; (with_reducible refine (bureaulaw04_Fits.calls a0_1 _ _ l0_2 false _ ?side1 ?side2 A2.out).mono ?_); (case side1 => repeat (first | exact (cB_ HR0_2.out HB.out) | (with_reducible refine Kd.C_alloc ?_ _) | (with_reducible refine Kd.C_drewN ?_ _) | (with_reducible refine Kd.C_drew ?_))); (case side2 => exact HC0_2.out); rintro e w12 ⟨rfl, hb⟩; refine ⟨_, rfl, ?_⟩; have n0_ := aM (bB (g := gb196) (qy BK196.out) hb); have n1_ := aM (bP (by repeat (first | (with_reducible first | exact HB.out | apply ea | apply en | apply ed | refine es ?_ GE196.out) | exact HB.out)) hb); clear BK196 HB; have BK196 := n0_; have HB := n1_; clear n0_ n1_; (try clear hb); (try clear hb2); (try clear hk); (try clear hi)))
  go_ret
  exact ⟨by first | rfl | (simp [errW_none, errW_some] <;> rfl) | (simp [*, errW_none, errW_some] <;> rfl), by repeat (first | (with_reducible first | exact HB.out | apply ea | apply en | apply ed | refine es ?_ GE196.out) | exact HB.out)⟩
end Go.Proofs.Ytbbgpfjeobdogaa.PB
end

section
namespace Go.Proofs.Ytbbgpfjeobdogaa.PB
open Go.RowKit Go.Proofs.YtbbgpfjeobdogaaW.PrintWords
set_option linter.unusedVariables false
def fitE (o : ByteArray) (ol : List S71) (n : ByteArray) (nl : List S71) : Prop := (o.size ≤ 5000 ∧ ol.length ≤ 5000) ∧ (n.size ≤ 5000 ∧ nl.length ≤ 5000)
instance (o : ByteArray) (ol : List S71) (n : ByteArray) (nl : List S71) : Decidable (fitE o ol n nl) := inferInstanceAs (Decidable (_ ∧ _))
theorem fits7_eq (a : Int) (o : ByteArray) (ol : List S71) (n : ByteArray) (nl : List S71) : bureaulaw07_Fits.f a o ol n nl = some (decide (fitE o ol n nl)) := by
  unfold bureaulaw07_Fits.f
  rw [fits_eq, fits_eq]
  by_cases h : o.size ≤ 5000 ∧ ol.length ≤ 5000
  · rw [decide_eq_true h, Option.bind_some, if_pos rfl, Option.bind_some]
    congr 1
    rw [Bool.eq_iff_iff, decide_eq_true_iff, decide_eq_true_iff]
    exact ⟨fun h2 => ⟨h, h2⟩, fun h2 => h2.2⟩
  · rw [decide_eq_false h, Option.bind_some, if_neg (by simp)]
    rw [decide_eq_false (fun h2 : fitE o ol n nl => h h2.1)]
end Go.Proofs.Ytbbgpfjeobdogaa.PB
end

section
namespace Go.Proofs.Ytbbgpfjeobdogaa.PB
open Go.RowKit Go.Maps Go.Proofs.YtbbgpfjeobdogaaW.PrintWords Go.Proofs.YtbbgpfjeobdogaaW.PrintLast Go.Proofs.YtbbgpfjeobdogaaW.PrintMore
set_option maxRecDepth 100000
set_option linter.unusedVariables false
set_option linter.unusedSimpArgs false
abbrev Ac := S36
theorem act_at {w : World} {A : Option Addr} {n : Nat} {l : List Ac} (h : Kd.C k36 w A n l) {i : Nat} (hi : i < l.length) : ∃ ad A3 c3 A5 c5, A = some ad ∧ w.cell? (ad.add (i * 7)) = some (.int .u8 (l[i]).f0) ∧ w.cell? ⟨(ad.add (i * 7)).block, (ad.add (i * 7)).off + 1, none⟩ = some (.int .i64 (l[i]).f1.f0) ∧ w.cell? ⟨(ad.add (i * 7)).block, (ad.add (i * 7)).off + 2, none⟩ = some (.string (l[i]).f1.f1.f0) ∧ w.cell? ⟨(ad.add (i * 7)).block, (ad.add (i * 7)).off + 3, none⟩ = some (.slice A3 (l[i]).f1.f1.f1.length c3) ∧ w.cell? ⟨(ad.add (i * 7)).block, (ad.add (i * 7)).off + 4, none⟩ = some (.string (l[i]).f1.f2.f0) ∧ w.cell? ⟨(ad.add (i * 7)).block, (ad.add (i * 7)).off + 5, none⟩ = some (.slice A5 (l[i]).f1.f2.f1.length c5) ∧ w.cell? ⟨(ad.add (i * 7)).block, (ad.add (i * 7)).off + 6, none⟩ = some (.bool (l[i]).f2) ∧
    (((l[i]).f1.f1.f1.length ≤ 100000 ∧ (l[i]).f1.f2.f1.length ≤ 100000) → EdIn w (fun k => k < w.heap.size) (l[i]).f1 A3 c3 A5 c5) ∧ Kd.C k71 w A3 (l[i]).f1.f1.f1.length (l[i]).f1.f1.f1 ∧ (l[i]).f1.f1.f1.length ≤ c3 ∧ Kd.C k71 w A5 (l[i]).f1.f2.f1.length (l[i]).f1.f2.f1 ∧ (l[i]).f1.f2.f1.length ≤ c5 := by
  have hn := h.1
  obtain ⟨ad, A3, c3, A5, c5, e1, h0, h1, h2, h3, h4, h5, h6, g3, C3, g5, C5⟩ := at_T36 h (i : Int) (by omega) (by omega)
  have e : rd_T36 l (i : Int) = l[i] := by
    unfold rd_T36
    rw [Int.toNat_natCast, List.getD_eq_getElem?_getD, List.getElem?_eq_getElem hi, Option.getD_some]
  simp only [e, Int.toNat_natCast] at h0 h1 h2 h3 h4 h5 h6 g3 C3 g5 C5
  exact ⟨ad, A3, c3, A5, c5, e1, h0, h1, h2, h3, h4, h5, h6, fun hf => ⟨Kd.C_F k71_heap C3, g3, Kd.C_F k71_heap C5, g5, hf⟩, C3, g3, C5, g5⟩
theorem cellW {w W : World} (hb : Below w.heap.size w W) {p : Addr} {v : Value} (h : w.cell? p = some v) : W.cell? p = some v := (hb.cell (World.block_lt_of_cell? w _ h)).trans h
theorem row_at {w : World} {B : Nat} {ok : Nat → Prop} {A : Option Addr} {n c : Nat} {l : List Int} (h : Kd.R (Kd.int .i64) 3 w B ok (.slice A n c) l) (hl : 1 ≤ l.length) : ∃ ad, A = some ad ∧ ∀ i : Nat, i < l.length → w.cell? (ad.add i) = some (.int .i64 (rd l (i : Int))) := by
  obtain ⟨e, _, hC⟩ := rR h
  obtain ⟨ad, rfl, _⟩ := Kd.at_int hC 0 (by omega) (by omega)
  refine ⟨ad, rfl, fun i hi => ?_⟩
  obtain ⟨ad2, e2, h2⟩ := Kd.at_int hC (i : Int) (by omega) (by omega)
  cases e2
  rw [Int.toNat_natCast] at h2
  exact h2
theorem HistAt.lower {B B' : Nat} {S : Nat → Prop} {g bm : Nat} {w : World} {L : List St} {now next depth : Int} (h : HistAt B S g bm w L now next depth) (hb : B' ≤ B) : HistAt B' S g bm w L now next depth :=
  ⟨h.hg, h.hm, h.sg, h.sm, Nat.le_trans hb h.bg, Nat.le_trans hb h.bb⟩
theorem fit_le {o : ByteArray} {ol : List S71} {n : ByteArray} {nl : List S71} (h : fitE o ol n nl) : ol.length ≤ 100000 ∧ nl.length ≤ 100000 := by
  have h1 := h.1.2
  have h2 := h.2.2
  omega
theorem EdIn.old {S ok : Nat → Prop} {w W : World} {e : Ed} {A1 A2 : Option Addr} {c1 c2 : Nat} (h : EdIn w ok e A1 c1 A2 c2) (hb : Below w.heap.size w W) (hS : ∀ k, ok k → ¬ S k) : EdIn W (fun k => ¬ S k) e A1 c1 A2 c2 := by
  have := h.below hb
  exact ⟨Kd.F_mono this.f1 hS, this.g1, Kd.F_mono this.f2 hS, this.g2, this.fit⟩
structure Ck (B g bm : Nat) (w : World) (L : List St) (now next depth : Int) (ls ps : List Int) (A : Option Addr) (c : Nat) (A' : Option Addr) (c' : Nat) (W : World) : Prop where
  hist : HistAt B (hb g bm) g bm W L now next depth
  rs : Kd.R (Kd.int .i64) 3 W w.heap.size (fun _ => True) (.slice A ls.length c) ls
  rp : Kd.R (Kd.int .i64) 3 W w.heap.size (fun _ => True) (.slice A' ps.length c') ps
  below : Below w.heap.size w W
theorem Ck.later {B g bm : Nat} {w W W2 : World} {L : List St} {now next depth : Int} {ls ps : List Int} {A A' : Option Addr} {c c' : Nat} (h : Ck B g bm w L now next depth ls ps A c A' c' W) (hb : Below W.heap.size W W2) : Ck B g bm w L now next depth ls ps A c A' c' W2 :=
  ⟨h.hist.below hb, Kd.R_below h.rs hb, Kd.R_below h.rp hb, h.below.trans (hb.mono h.below.size)⟩
theorem Ck.ls {B g bm : Nat} {w W : World} {L : List St} {now next depth : Int} {ls ps : List Int} {lad : Addr} {A' : Option Addr} {c c' : Nat} (h : Ck B g bm w L now next depth ls ps (some lad) c A' c' W) {i : Nat} (hi : i < ls.length) : W.cell? (lad.add i) = some (.int .i64 (rd ls (i : Int))) := by
  obtain ⟨ad, e, hc⟩ := row_at h.rs (by omega)
  cases e
  exact hc i hi
theorem Ck.ps {B g bm : Nat} {w W : World} {L : List St} {now next depth : Int} {ls ps : List Int} {pad : Addr} {A : Option Addr} {c c' : Nat} (h : Ck B g bm w L now next depth ls ps A c (some pad) c' W) {i : Nat} (hi : i < ps.length) : W.cell? (pad.add i) = some (.int .i64 (rd ps (i : Int))) := by
  obtain ⟨ad, e, hc⟩ := row_at h.rp (by omega)
  cases e
  exact hc i hi
end Go.Proofs.Ytbbgpfjeobdogaa.PB
end

section
namespace Go.Proofs.Ytbbgpfjeobdogaa.PB
open Go.RowKit Go.Maps Go.Proofs.YtbbgpfjeobdogaaW.PrintWords Go.Proofs.YtbbgpfjeobdogaaW.PrintLast Go.Proofs.YtbbgpfjeobdogaaW.PrintMore
set_option maxRecDepth 100000
set_option linter.unusedVariables false
set_option linter.unusedSimpArgs false
structure Bx (g2 g3 g4 : Nat) (w : World) (cs2 : Array Value) (e : Ed) (A1 : Option Addr) (c1 : Nat) (A2 : Option Addr) (c2 : Nat) (W : World) : Prop where
  b2 : W.heap[g2]? = some (.cells cs2 28 (0, 0))
  b3 : W.heap[g3]? = some (.cells (edC e A1 c1 A2 c2) 34 (0, 0))
  b4 : W.heap[g4]? = some (.cells #[.slice none 0 0, .int .i64 0, .int .i64 0, .int .i64 0] 28 (0, 0))
  below : Below w.heap.size w W
theorem Bx.later {g2 g3 g4 : Nat} {w W W2 : World} {cs2 : Array Value} {e : Ed} {A1 A2 : Option Addr} {c1 c2 : Nat} (h : Bx g2 g3 g4 w cs2 e A1 c1 A2 c2 W) (hb : Below W.heap.size W W2) : Bx g2 g3 g4 w cs2 e A1 c1 A2 c2 W2 :=
  ⟨bB h.b2 hb, bB h.b3 hb, bB h.b4 hb, h.below.trans (hb.mono h.below.size)⟩
theorem Bx.lt {g2 g3 g4 : Nat} {w W : World} {cs2 : Array Value} {e : Ed} {A1 A2 : Option Addr} {c1 c2 : Nat} (h : Bx g2 g3 g4 w cs2 e A1 c1 A2 c2 W) : g2 < W.heap.size ∧ g4 < W.heap.size := ⟨blk_lt h.b2, blk_lt h.b4⟩
end Go.Proofs.Ytbbgpfjeobdogaa.PB
end

section
namespace Go.Proofs.Ytbbgpfjeobdogaa.PB
open Go.RowKit Go.Maps Go.Proofs.YtbbgpfjeobdogaaW.PrintWords Go.Proofs.YtbbgpfjeobdogaaW.PrintLast Go.Proofs.YtbbgpfjeobdogaaW.PrintMore
set_option maxRecDepth 100000
set_option linter.unusedVariables false
set_option linter.unusedSimpArgs false
structure Rx (g1 g2 g3 : Nat) (w : World) (cs1 : Array Value) (W : World) : Prop where
  b1 : W.heap[g1]? = some (.cells cs1 28 (0, 0))
  b2 : W.heap[g2]? = some (.cells #[.slice none 0 0, .int .i64 0, .int .i64 0, .int .i64 0] 28 (0, 0))
  b3 : W.heap[g3]? = some (.cells zs5 34 (0, 0))
  below : Below w.heap.size w W
theorem Rx.later {g1 g2 g3 : Nat} {w W W2 : World} {cs1 : Array Value} (h : Rx g1 g2 g3 w cs1 W) (hb : Below W.heap.size W W2) : Rx g1 g2 g3 w cs1 W2 :=
  ⟨bB h.b1 hb, bB h.b2 hb, bB h.b3 hb, h.below.trans (hb.mono h.below.size)⟩
end Go.Proofs.Ytbbgpfjeobdogaa.PB
end

section
namespace Go.Proofs.Ytbbgpfjeobdogaa.PB
open Go.RowKit Go.Maps Go.Proofs.YtbbgpfjeobdogaaW.PrintWords Go.Proofs.YtbbgpfjeobdogaaW.PrintLast Go.Proofs.YtbbgpfjeobdogaaW.PrintMore
set_option maxRecDepth 100000
set_option linter.unusedVariables false
set_option linter.unusedSimpArgs false
theorem HistAt.turn {B : Nat} {S S' : Nat → Prop} {g bm : Nat} {w W : World} {L : List St} {now next depth : Int} (h : HistAt B S g bm w L now next depth) (ht : Turn 0 S' w W) (hg : ¬ S' g) (hbm : ¬ S' bm) (hS : ∀ k, S' k → S k) : HistAt B S g bm W L now next depth := by
  obtain ⟨⟨f, h1⟩, ⟨D, h2⟩, h3, h4, h5, h6⟩ := h
  exact ⟨⟨f, ht.blk h1 hg⟩, ⟨D, h2.turn ht hbm (fun k hk hs => hk (hS k hs))⟩, h3, h4, h5, h6⟩
theorem HistAt.grow {B : Nat} {S S' : Nat → Prop} {g bm : Nat} {w : World} {L : List St} {now next depth : Int} (h : HistAt B S g bm w L now next depth) (h1 : ∀ k, S k → S' k) (h2 : ∀ k, S' k → S k ∨ w.heap.size ≤ k) : HistAt B S' g bm w L now next depth := by
  obtain ⟨hg, ⟨D, hD⟩, h3, h4, h5, h6⟩ := h
  exact ⟨hg, ⟨D, hD.ok' (fun k hk hlt hs => by rcases h2 k hs with h | h; exact hk h; omega)⟩, h1 _ h3, h1 _ h4, h5, h6⟩
abbrev s6 (g bm g6 : Nat) : Nat → Prop := fun k => k = g ∨ k = bm ∨ k = g6
abbrev okQ (g bm g6 : Nat) : Nat → Prop := fun k => ¬ s6 g bm g6 k
structure Aq (g bm g6 : Nat) (w : World) (s : Hs) (depth : Int) (A : Option Addr) (c : Nat) (W : World) : Prop where
  hist : HistAt w.heap.size (s6 g bm g6) g bm W s.L s.now s.next depth
  inv : Inv s.L s.now s.next depth
  box : W.heap[g6]? = some (.cells #[.slice A s.L.length c, .int .i64 s.now, .int .i64 s.next, .int .i64 depth] 28 (0, 0))
  list : Kd.V kL 76 W 0 (okQ g bm g6) (.slice A s.L.length c) s.L
  below : Below w.heap.size w W
theorem Aq.later {g bm g6 : Nat} {w W W2 : World} {s : Hs} {depth : Int} {A : Option Addr} {c : Nat} (h : Aq g bm g6 w s depth A c W) (hb : Below W.heap.size W W2) : Aq g bm g6 w s depth A c W2 :=
  ⟨h.hist.below hb, h.inv, bB h.box hb, Kd.V_below h.list hb, h.below.trans (hb.mono h.below.size)⟩
theorem Aq.hS {g bm g6 : Nat} {w W : World} {s : Hs} {depth : Int} {A : Option Addr} {c : Nat} (h : Aq g bm g6 w s depth A c W) : ∀ k, s6 g bm g6 k → k < W.heap.size := by
  have h1 := h.hist.lt
  have h2 := blk_lt h.box
  rintro k (rfl | rfl | rfl) <;> omega
end Go.Proofs.Ytbbgpfjeobdogaa.PB
end

section
namespace Go.Proofs.Ytbbgpfjeobdogaa.PB
open Go.RowKit Go.Maps Go.Proofs.YtbbgpfjeobdogaaW.PrintWords Go.Proofs.YtbbgpfjeobdogaaW.PrintLast Go.Proofs.YtbbgpfjeobdogaaW.PrintMore
set_option maxRecDepth 100000
set_option linter.unusedVariables false
set_option linter.unusedSimpArgs false
theorem map_nil (w : World) (ok : Nat → Prop) (bm : Nat) (h : w.ownsMap Try.prog 3 heldE bm 0 (.map [])) : MapAt ok bm w (.map []) [] :=
  ⟨⟨0, by omega, h⟩, fun n => rfl, rfl, fun x hx => absurd hx List.not_mem_nil⟩
theorem MapAt.perm {ok : Nat → Prop} {bm : Nat} {w : World} {D : DataW Value} {K L : List St} (h : MapAt ok bm w D K) (hK : (K.map (fun x => x.f0)).Nodup) (hL : (L.map (fun x => x.f0)).Nodup) (hm : ∀ x, x ∈ K ↔ x ∈ L) : MapAt ok bm w D L := by
  refine ⟨h.own, fun n => ?_, ?_, fun x hx => h.val x ((hm x).2 hx)⟩
  · rw [h.has, Bool.eq_iff_iff, any_iff, any_iff]
    exact ⟨fun ⟨x, hx, he⟩ => ⟨x, (hm x).1 hx, he⟩, fun ⟨x, hx, he⟩ => ⟨x, (hm x).2 hx, he⟩⟩
  · rw [h.size]
    have nd : ∀ {M : List St}, (M.map (fun x => x.f0)).Nodup → M.Nodup := fun {M} h => (List.pairwise_map.1 h).imp (fun hne e => hne (by rw [e]))
    exact ((List.perm_ext_iff_of_nodup (nd hK) (nd hL)).2 hm).length_eq
theorem states_ne {L : List St} {now next : Int} (h : Wf L now next) : (L.map (fun x => x.f0)).Nodup := (states_nodup h.inc).imp (fun h => Int.ne_of_lt h)
theorem states_one {L : List St} {now next : Int} (h : Wf L now next) {x y : St} (hx : x ∈ L) (hy : y ∈ L) (e : x.f0 = y.f0) : x = y := by
  have h1 := find_mem h.inc hx
  have h2 := find_mem h.inc hy
  rw [e, h2] at h1
  injection h1 with h1
  exact h1.symm
theorem set6 {g : Nat} {w0 w : World} (h : Below w0.heap.size w0 w) (hg : w0.heap.size ≤ g) (v0 v1 v2 v3 v4 v5 : Value) : Below w0.heap.size w0 ((((((w.setCell ⟨g, 0, none⟩ v0).setCell ⟨g, 1, none⟩ v1).setCell ⟨g, 2, none⟩ v2).setCell ⟨g, 3, none⟩ v3).setCell ⟨g, 4, none⟩ v4).setCell ⟨g, 5, none⟩ v5) := (below_set (below_set (below_set (below_set (below_set (below_set h hg) hg) hg) hg) hg) hg)
theorem blks6 {g t : Nat} {w : World} {u0 u1 u2 u3 u4 u5 : Value} (h : w.heap[g]? = some (.cells #[u0, u1, u2, u3, u4, u5] t (0, 0))) (v0 v1 v2 v3 v4 v5 : Value) : ((((((w.setCell ⟨g, 0, none⟩ v0).setCell ⟨g, 1, none⟩ v1).setCell ⟨g, 2, none⟩ v2).setCell ⟨g, 3, none⟩ v3).setCell ⟨g, 4, none⟩ v4).setCell ⟨g, 5, none⟩ v5).heap[g]? = some (.cells #[v0, v1, v2, v3, v4, v5] t (0, 0)) := (bU (cs' := #[v0, v1, v2, v3, v4, v5]) (bU (cs' := #[v0, v1, v2, v3, v4, u5]) (bU (cs' := #[v0, v1, v2, v3, u4, u5]) (bU (cs' := #[v0, v1, v2, u3, u4, u5]) (bU (cs' := #[v0, v1, u2, u3, u4, u5]) (bU (cs' := #[v0, u1, u2, u3, u4, u5]) h 0 v0 rfl) 1 v1 rfl) 2 v2 rfl) 3 v3 rfl) 4 v4 rfl) 5 v5 rfl)
structure Cq (w : World) (S : Nat → Prop) (L : List St) (f now next depth : Int) (g' bm' : Nat) (left : Lit → Bool) (W : World) : Prop where
  map : ∃ D K, MapAt (fun k => ¬ S k ∧ k < w.heap.size) bm' W D K ∧ (K.map (fun x => x.f0)).Nodup ∧ (∀ x, x ∈ K ↔ x ∈ L ∧ left (kN x.f0) = false)
  box : W.heap[g']? = some (.cells #[.map (some bm'), .int .i64 f, .int .i64 now, .int .i64 next, .int .i64 depth] 67 (0, 0))
  below : Below w.heap.size w W
  lo : w.heap.size ≤ g' ∧ w.heap.size ≤ bm' ∧ g' ≠ bm'
  lt : bm' < W.heap.size
section
variable {w W W2 : World} {S : Nat → Prop} {L : List St} {f now next depth : Int} {g' bm' : Nat} {left : Lit → Bool}
theorem Cq.later (h : Cq w S L f now next depth g' bm' left W) (hb : Below W.heap.size W W2) : Cq w S L f now next depth g' bm' left W2 := by
  obtain ⟨D, K, h1, h2, h3⟩ := h.map
  exact ⟨⟨D, K, h1.turn (Turn.of_below (B := 0) (S := fun _ => False) hb (Nat.zero_le _)) (fun h => h) (fun _ _ h => h), h2, h3⟩, bB h.box hb, h.below.trans (hb.mono h.below.size), h.lo, Nat.lt_of_lt_of_le h.lt hb.size⟩
theorem Cq.grown (h : Cq w S L f now next depth g' bm' left W) {r : Nat} (hg : W.grownBy W2 (some r)) (hr : w.heap.size ≤ r) (h1 : g' ≠ r) (h2 : bm' ≠ r) : Cq w S L f now next depth g' bm' left W2 := by
  have hT : Turn 0 (fun k => k = r) W W2 := (Turn.refl 0 _ W).grown hg (fun k hk => by injection hk with hk; exact ⟨.inl hk.symm, Nat.zero_le _⟩) (Nat.zero_le _)
  obtain ⟨D, K, h3, h4, h5⟩ := h.map
  exact ⟨⟨D, K, h3.turn hT h2 (fun k hk e => by have := hk.2; omega), h4, h5⟩, hT.blk h.box h1, h.below.grown hg h.below.size (fun k hk => by injection hk with hk; omega), h.lo, Nat.lt_of_lt_of_le h.lt hT.size⟩
theorem Cq.put (h : Cq w S L f now next depth g' bm' left W) (hw : Wf L now next) {y : St} (hy : y ∈ L) (hl : left (kN y.f0) = true) {cs : List Value} (hcs : Kd.FK kS w (fun k => ¬ S k) ⟨y.f1, y.f2⟩ cs) (D : DataW Value) (K : List St) (hD : MapAt (fun k => ¬ S k ∧ k < w.heap.size) bm' W D K) (hK : (K.map (fun x => x.f0)).Nodup) (hm : ∀ x, x ∈ K ↔ x ∈ L ∧ left (kN x.f0) = false) {n : Nat}
    (ho : W2.ownsMap Try.prog 3 heldE bm' n (D.put (kN y.f0) (.held (.agg cs.toArray)))) (ht : W.mapTurned W2 bm') : Cq w S L f now next depth g' bm' (fun z => left z && !z.sameKey (kN y.f0)) W2 := by
  have hT : Turn 0 (fun k => k = bm') W W2 := (Turn.refl 0 _ W).turned ht rfl (Nat.zero_le _) (Nat.zero_le _)
  have hlo := h.lo
  have hnot : ∀ x ∈ K, x.f0 ≠ y.f0 := fun x hx e => by have := ((hm x).1 hx).2; rw [e, hl] at this; cases this
  have hany : K.any (fun x => x.f0 == y.f0) = false := by rw [Bool.eq_false_iff]; intro e; obtain ⟨x, hx, he⟩ := any_iff.1 e; exact hnot x hx he
  have hb2 := h.below.grown ht.grown h.below.size (fun k hk => by injection hk with hk; omega)
  have hsub : K.length ≤ L.length := by
    have := len_of_sub _ (L.map (fun x => x.f0)) hK (fun z hz => by
      obtain ⟨x, hx, rfl⟩ := List.mem_map.1 hz
      exact List.mem_map.2 ⟨x, ((hm x).1 hx).1, rfl⟩)
    simpa using this
  have hM := hD.put (k := y.f0) (y := y) (L' := K ++ [y]) (W := W2) ⟨_, by
      rw [size_put hD.tidy, hD.size]
      have := hw.len
      split <;> omega, own_tight ho⟩ rfl (Kd.FK_below (Kd.FK_bound hcs) hb2) (fun x => by
        rw [List.mem_append, List.mem_singleton]
        constructor
        · rintro (hx | hx)
          · exact .inr ⟨hx, hnot x hx⟩
          · exact .inl hx
        · rintro (hx | hx)
          · exact .inr hx
          · exact .inl hx.1) (by rw [hany]; simp) (fun x _ cs' hf => hT.fk hf (fun k hk e => by have := hk.2; omega))
  refine ⟨⟨_, _, hM, ?_, fun x => ?_⟩, hT.blk h.box hlo.2.2, hb2, hlo, Nat.lt_of_lt_of_le h.lt hT.size⟩
  · rw [List.map_append]
    exact List.nodup_append.2 ⟨hK, by simp, fun a ha b hb => by
      obtain ⟨x, hx, rfl⟩ := List.mem_map.1 ha
      rw [show b = y.f0 by simpa using hb]
      exact hnot x hx⟩
  · rw [List.mem_append, List.mem_singleton, hm x]
    by_cases he : x.f0 = y.f0
    · constructor
      · rintro (hx | hx)
        · exact ⟨hx.1, by simp [hx.2]⟩
        · rw [hx]
          exact ⟨hy, by simp [sameKey_refl' y.f0]⟩
      · rintro ⟨hx, _⟩
        exact .inr (states_one hw hx hy he)
    · have hs : (kN x.f0).sameKey (kN y.f0) = false := sameKey_ne (kN_ne he)
      have hne : x ≠ y := fun e => he (e ▸ rfl)
      simp [hs, hne]
end
set_option maxHeartbeats 8000000 in
theorem copy_ok {B : Nat} {S : Nat → Prop} {g bm : Nat} {w : World} {L : List St} {now next depth : Int} (h : HistAt B S g bm w L now next depth) (hw : Wf L now next) :
    Calls Try.prog 29 #[.pointer (some ⟨g, 0, none⟩)] w fun e w' => ∃ g' bm', e = .returned (.pointer (some ⟨g', 0, none⟩)) ∧ HistAt B (fun k => S k ∨ k = g' ∨ k = bm') g' bm' w' L now next depth ∧ w.heap.size ≤ g' ∧ w.heap.size ≤ bm' ∧ Below w.heap.size w w' := by
  have hu67 := Try.underlying67
  have hu74 := Try.underlying74
  have hu34 := Try.underlying34
  have HH := aM h
  have HW := aM hw
  obtain ⟨f, hg⟩ := h.hg
  obtain ⟨D, hD⟩ := h.hm
  obtain ⟨n, hn, ho⟩ := hD.own
  have HD := aM hD
  have HO := aM ho
  have HG := aM hg
  have hmm := @run_makeMap Try.prog
  clear h hg hw hD ho
  go_enter Try.func29, Try.ntmps29
  go_wp2_with (first
    | ((with_reducible refine gate_callee (f := 31) rfl ?_); refine goesL_ (some 7) rfl rfl Try.func31 (by kernel_rfl) rfl #[.pointer (some ⟨g, 0, none⟩)] rfl (by (try simp only [List.map_toArray, List.map_cons, List.map_nil]); first | done | rfl) ?_; (with_reducible refine (good_ok HH.out).mono ?_); rintro e w3 ⟨rfl, hw⟩; subst w3; refine ⟨_, rfl, ?_⟩)
    )
  refine start_ (n := 20) (S := fun W => W.cell? ⟨g, 1, none⟩ = some (.int .i64 f) ∧ W.cell? ⟨g, 2, none⟩ = some (.int .i64 now) ∧ W.cell? ⟨g, 3, none⟩ = some (.int .i64 next) ∧ W.cell? ⟨g, 4, none⟩ = some (.int .i64 depth)) (ds := []) #[tF,tF,tF,tF,tF,tF,tF,tF,tF,tF,tF,tF,tF,tF,tF,tF,tF,tF,tF,tF] (by kernel_rfl) rfl rfl ⟨(bC (blk_drew HG.out) 1).trans rfl, (bC (blk_drew HG.out) 2).trans rfl, (bC (blk_drew HG.out) 3).trans rfl, (bC (blk_drew HG.out) 4).trans rfl⟩ (fun hHeld => ?_)
  have HB2 := aM (below_drew1 (Below.refl w.heap.size w))
  generalize w.drew = w2 at HB2 hHeld ⊢
  refine sv 1 10 #[tF,tT,tF,tF,tF,tF,tF,tF,tF,tF,tF,tF,tF,tF,tF,tF,tF,tF,tF,tF] ?_
  refine sv 2 11 #[tF,tT,tT,tF,tF,tF,tF,tF,tF,tF,tF,tF,tF,tF,tF,tF,tF,tF,tF,tF] ?_
  refine sv 3 12 #[tF,tT,tT,tT,tF,tF,tF,tF,tF,tF,tF,tF,tF,tF,tF,tF,tF,tF,tF,tF] ?_
  refine sv 5 14 #[tF,tT,tT,tT,tF,tT,tF,tF,tF,tF,tF,tF,tF,tF,tF,tF,tF,tF,tF,tF] ?_
  refine sv 6 15 #[tF,tT,tT,tT,tF,tT,tT,tF,tF,tF,tF,tF,tF,tF,tF,tF,tF,tF,tF,tF] ?_
  refine sv 7 16 #[tF,tT,tT,tT,tF,tT,tT,tT,tF,tF,tF,tF,tF,tF,tF,tF,tF,tF,tF,tF] ?_
  refine sv 9 18 #[tF,tT,tT,tT,tF,tT,tT,tT,tF,tT,tF,tF,tF,tF,tF,tF,tF,tF,tF,tF] ?_
  refine sv 10 19 #[tF,tT,tT,tT,tF,tT,tT,tT,tF,tT,tT,tF,tF,tF,tF,tF,tF,tF,tF,tF] ?_
  refine sv 11 20 #[tF,tT,tT,tT,tF,tT,tT,tT,tF,tT,tT,tT,tF,tF,tF,tF,tF,tF,tF,tF] ?_
  refine sv 13 22 #[tF,tT,tT,tT,tF,tT,tT,tT,tF,tT,tT,tT,tF,tT,tF,tF,tF,tF,tF,tF] ?_
  refine sv 14 23 #[tF,tT,tT,tT,tF,tT,tT,tT,tF,tT,tT,tT,tF,tT,tT,tF,tF,tF,tF,tF] ?_
  refine sv 15 24 #[tF,tT,tT,tT,tF,tT,tT,tT,tF,tT,tT,tT,tF,tT,tT,tT,tF,tF,tF,tF] ?_
  refine st 4 13 #[tF,tT,tT,tT,tT,tT,tT,tT,tF,tT,tT,tT,tF,tT,tT,tT,tF,tF,tF,tF] hHeld ?_
  refine st 8 17 #[tF,tT,tT,tT,tT,tT,tT,tT,tT,tT,tT,tT,tF,tT,tT,tT,tF,tF,tF,tF] hHeld ?_
  refine st 12 21 #[tF,tT,tT,tT,tT,tT,tT,tT,tT,tT,tT,tT,tT,tT,tT,tT,tF,tF,tF,tF] hHeld ?_
  refine st 16 25 #[tF,tT,tT,tT,tT,tT,tT,tT,tT,tT,tT,tT,tT,tT,tT,tT,tT,tF,tF,tF] hHeld ?_
  refine one_ (i := 0) (N := some 9) #[tT,tT,tT,tT,tT,tT,tT,tT,tT,tT,tT,tT,tT,tT,tT,tT,tT,tF,tF,tF] rfl rfl (by kernel_rfl) (by decide) (fun K hK => ?_)
  refine value_ (v := .map (some w2.heap.size)) (w1 := w2.alloc (.map #[] 0)) (by rfl) rfl ?_ ?_
  · first | (go_simp; done) | (go_simp; rfl)
  have HM3 := aM (World.ownsMap_made w2 Try.prog 3 heldE)
  have HB3 := aM (below_alloc HB2.out (.map #[] 0))
  have GE3 := aM HB2.out.size
  refine hK.out _ _ ⟨(bC (bB HG.out HB3.out) 1).trans rfl, (bC (bB HG.out HB3.out) 2).trans rfl, (bC (bB HG.out HB3.out) 3).trans rfl, (bC (bB HG.out HB3.out) 4).trans rfl⟩ (fun hHeld => ?_)
  clear hK K
  generalize w2.alloc _ = w3 at HM3 HB3 hHeld ⊢
  generalize w2.heap.size = bm' at HM3 GE3 ⊢
  refine norm_ (a' := ?_) ?_ ?_
  rotate_left
  · simp only [Act.put, List.setIfInBounds_toArray, List.set_cons_zero, List.set_cons_succ, i64_w, i32_w]
    rfl
  refine sv 17 26 #[tT,tT,tT,tT,tT,tT,tT,tT,tT,tT,tT,tT,tT,tT,tT,tT,tT,tT,tF,tF] ?_
  refine one_ (i := 18) (N := some 27) #[tT,tT,tT,tT,tT,tT,tT,tT,tT,tT,tT,tT,tT,tT,tT,tT,tT,tT,tT,tF] rfl rfl (by kernel_rfl) (by decide) (fun K hK => ?_)
  refine value_ (v := .pointer (some ⟨w3.heap.size, 0, none⟩)) (w1 := w3.alloc (.cells #[.map (some bm'), .int .i64 f, .int .i64 now, .int .i64 next, .int .i64 depth] 67)) (by rfl) rfl ?_ ?_
  · first | (go_simp; done) | (go_simp; rfl)
  have HB4 := aM (below_alloc HB3.out (.cells #[.map (some bm'), .int .i64 f, .int .i64 now, .int .i64 next, .int .i64 depth] 67))
  have HX4 := aM (blk_new w3 (.cells #[.map (some bm'), .int .i64 f, .int .i64 now, .int .i64 next, .int .i64 depth] 67))
  have HL4 := aM (And.intro HB3.out.size HM3.out.lt)
  have HM4 := aM (show (w3.alloc (.cells #[.map (some bm'), .int .i64 f, .int .i64 now, .int .i64 next, .int .i64 depth] 67)).ownsMap Try.prog 3 heldE bm' 0 (.map []) from HM3.out.kept (grown_of_below (below_alloc (Below.refl _ _) _) none) (by simp))
  refine hK.out _ _ ⟨(bC (bB HG.out HB4.out) 1).trans rfl, (bC (bB HG.out HB4.out) 2).trans rfl, (bC (bB HG.out HB4.out) 3).trans rfl, (bC (bB HG.out HB4.out) 4).trans rfl⟩ (fun hHeld => ?_)
  clear hK K
  generalize w3.alloc _ = w4 at HB4 HX4 HM4 hHeld ⊢
  generalize w3.heap.size = g' at HX4 HL4 ⊢
  refine norm_ (a' := ?_) ?_ ?_
  rotate_left
  · simp only [Act.put, List.setIfInBounds_toArray, List.set_cons_zero, List.set_cons_succ, i64_w, i32_w]
    rfl
  refine sv 19 3 #[tT,tT,tT,tT,tT,tT,tT,tT,tT,tT,tT,tT,tT,tT,tT,tT,tT,tT,tT,tT] ?_
  refine done_ (by kernel_rfl) ?_
  clear hHeld
  have HC4 := aM (show Cq w S L f now next depth g' bm' (Maps.has D) w4 from ⟨⟨_, [], map_nil _ _ _ HM4.out, List.nodup_nil, fun x => ⟨fun hx => absurd hx List.not_mem_nil, fun hx => by
    have h1 := HD.out.has x.f0
    rw [hx.2] at h1
    exact absurd (h1.trans (any_iff.2 ⟨x, hx.1, rfl⟩)) (by decide)⟩⟩, HX4.out, HB4.out, ⟨HL4.out.1, GE3.out, fun e => by have := HL4.out.2; omega⟩, HM4.out.lt⟩)
  have c0 := (bC (bB HG.out HB4.out) 0).trans (rfl : _ = some (Value.map (some bm)))
  have HO4 := aM (show w4.ownsMap Try.prog 3 heldE bm n D from HO.out.kept (grown_of_below HB4.out none) (by simp))
  clear HB2 HB3 HM3 HM4
  go_wp2_with (first
    | (at_range; refine wpList_range_own _ rfl _ 65 rfl 3 74 lawK Try.underlying65 heldE bm n D rfl HO4.out ?_; intro w5 hrg5 hg5 hs5; have HRG := aM hrg5; have HT5 := aM ((Below.refl w4.heap.size w4).grown hg5 (Nat.le_refl _) (fun k hk => by cases hk)); have HR5 := aM (show w4.heap.size < w5.heap.size from by omega); clear hrg5 hg5 hs5)
    )
  have HC5 := aM (HC4.out.later HT5.out)
  obtain ⟨r5, hr5⟩ : ∃ r, r = w4.heap.size := ⟨_, rfl⟩
  rw [← hr5] at HRG ⊢
  have HL5 := aM (show g' < r5 ∧ bm' < r5 ∧ w.heap.size ≤ r5 ∧ bm < w.heap.size from ⟨by rw [hr5]; exact blk_lt HX4.out, by rw [hr5]; exact HC4.out.lt, by rw [hr5]; exact HB4.out.size, HH.out.lt.2.2.1⟩)
  clear hr5 c0 HO4 HX4 HB4 HC4 HT5 HR5
  go_frame
  go_loopg [4] L.length (fun kq v4 w' => ∃ left : Lit → Bool, Aside0 (w'.ranges Try.prog 3 heldE bm r5 n D left kq) ∧ Aside0 (Cq w S L f now next depth g' bm' left w'))
  case atStart => exact ⟨Maps.has D, ⟨by rw [← HD.out.size]; exact HRG.out⟩, HC5⟩
  case round =>
    clear HRG HC5
    obtain ⟨left, HRG, HC⟩ := hrel
    go_wp2_with (first
      | (at_next; refine wpList_next_ranges _ rfl _ rfl 3 lawK heldE (Value.int .i64) id (fun key kl hk => by obtain ⟨x, rfl, _⟩ := Maps.keyOf_int_inv Try.underlying3 hk; exact ⟨x, rfl⟩) (fun v y _ => ⟨v, rfl⟩) bm r5 n D left gk rfl HRG.out ?_ ?_)
      )
    · intro h0 hl0
      have HL0 := aM hl0
      clear h0 hl0
      go_wp2
      go_ret
      obtain ⟨D', K, h1, h2, h3⟩ := HC.out.map
      refine ⟨g', bm', rfl, ⟨⟨f, HC.out.box⟩, ⟨D', ?_⟩, .inr (.inl rfl), .inr (.inr rfl), Nat.le_trans HH.out.lt.1 HC.out.lo.1, Nat.le_trans HH.out.lt.1 HC.out.lo.2.1⟩, HC.out.lo.1, HC.out.lo.2.1, HC.out.below⟩
      refine (h1.perm h2 (states_ne HW.out) (fun x => ?_)).ok' (fun k hk _ hs => ?_)
      · rw [h3 x, HL0.out]
        simp
      · have := HC.out.lo
        rcases hs with hs | hs | hs
        · exact hk.1 hs
        · have := hk.2; omega
        · have := hk.2; omega
    · intro x c kl ya yb w6 cnt1 hkey hlk hRv hat hrg1 hlt hg1 hs1 hen
      obtain ⟨x', ex, rfl, hwx⟩ := Maps.keyOf_int_inv Try.underlying3 hkey
      cases ex
      have hHas : Maps.has D (kN x) = true := has_true_of_atKey hat
      rw [HD.out.has] at hHas
      obtain ⟨y, hy, rfl⟩ := any_iff.1 hHas
      obtain ⟨cs, hcs, hfk⟩ := HD.out.val y hy
      have hya : ya = .held c := by
        unfold heldE at hRv
        simp only [id, Option.some.injEq, Prod.mk.injEq] at hRv
        exact hRv.1.symm
      have hc : c = .agg cs.toArray := by
        have h1 := (hcs (.held c)).symm.trans (hat (.held c))
        rw [hya] at h1
        injection h1 with h1
        exact h1.symm
      have HF := aM hfk
      obtain ⟨A3, c3, A5, c5, rfl, -, -, -, -⟩ := cells_open hfk
      subst hc
      have HY := aM hy
      have HLK := aM hlk
      have HC6 := aM (HC.out.grown hg1 HL5.out.2.2.1 (Nat.ne_of_lt HL5.out.1) (Nat.ne_of_lt HL5.out.2.1))
      have HRG6 := aM hrg1
      have HLT := aM hlt
      clear hkey hlk hRv hat hrg1 hlt hg1 hs1 hHas hwx hya hcs hfk hy
      replace hen : (Instr.entry (.pointer (some ⟨r5, 0, none⟩))).run Try.prog w6 = .ok (.tuple #[.int .i64 y.f0, .agg #[.int .i64 y.f1, .int .i64 y.f2.f0, .string y.f2.f1.f0, .slice A3 y.f2.f1.f1.length c3, .string y.f2.f2.f0, .slice A5 y.f2.f2.f1.length c5]]) w6 := hen
      go_wp2_with (first
        | ((with_reducible refine gate_dst (N := 5) rfl ?_); refine box_event ?hg (N := 5) ?hd (cs := zs6) (t := 74) ?hr ?_; (case hd => rfl); (case hg => rfl); (case hr => first | (go_simp; done) | (go_simp; rfl)); intro g5 hg w7 hbox hb; have HD7 := aM hb; have G5 := aM (Nat.le_of_eq hg.symm); have HY7 := aM hbox; clear hb hbox hg; have hz0 := (bC HY7.out 0).trans (rfl : _ = some (Value.int .i64 0)); have hz1 := (bC HY7.out 1).trans (rfl : _ = some (Value.int .i64 0)); have hz2 := (bC HY7.out 2).trans (rfl : _ = some (Value.string ⟨#[]⟩)); have hz3 := (bC HY7.out 3).trans (rfl : _ = some (Value.slice none 0 0)); have hz4 := (bC HY7.out 4).trans (rfl : _ = some (Value.string ⟨#[]⟩)); have hz5 := (bC HY7.out 5).trans (rfl : _ = some (Value.slice none 0 0)); have hfz0 := bF HY7.out 0; have hfz1 := bF HY7.out 1; have hfz2 := bF HY7.out 2; have hfz3 := bF HY7.out 3; have hfz4 := bF HY7.out 4; have hfz5 := bF HY7.out 5)
        )
      generalize hw8 : World.setCell _ ⟨g5, 5, none⟩ _ = w8
      have HS8 := aM (show Below w6.heap.size w6 w8 from by subst hw8; exact set6 HD7.out G5.out _ _ _ _ _ _)
      have HY8 := aM (show w8.heap[g5]? = some (.cells #[.int .i64 y.f1, .int .i64 y.f2.f0, .string y.f2.f1.f0, .slice A3 y.f2.f1.f1.length c3, .string y.f2.f2.f0, .slice A5 y.f2.f2.f1.length c5] 74 (0, 0)) from by subst hw8; exact blks6 HY7.out _ _ _ _ _ _)
      clear hw8 hz0 hfz0 hz1 hfz1 hz2 hfz2 hz3 hfz3 hz4 hfz4 hz5 hfz5
      have HC8 := aM (HC6.out.later HS8.out)
      have HRG8 := aM (HRG6.out.kept (grown_of_below HS8.out none) (by simp) (by simp))
      refine start_ (n := 7) (S := fun W => W.cell? ⟨g', 0, none⟩ = some (.map (some bm')) ∧ W.cell? ⟨g5, 0, none⟩ = some (.int .i64 y.f1) ∧ W.cell? ⟨g5, 1, none⟩ = some (.int .i64 y.f2.f0) ∧ W.cell? ⟨g5, 2, none⟩ = some (.string y.f2.f1.f0) ∧ W.cell? ⟨g5, 3, none⟩ = some (.slice A3 y.f2.f1.f1.length c3) ∧ W.cell? ⟨g5, 4, none⟩ = some (.string y.f2.f2.f0) ∧ W.cell? ⟨g5, 5, none⟩ = some (.slice A5 y.f2.f2.f1.length c5)) (ds := [6]) #[tF,tF,tF,tF,tF,tF,tF] (by kernel_rfl) rfl rfl ⟨(bC (blk_drew HC8.out.box) 0).trans rfl, (bC (blk_drew HY8.out) 0).trans rfl, (bC (blk_drew HY8.out) 1).trans rfl, (bC (blk_drew HY8.out) 2).trans rfl, (bC (blk_drew HY8.out) 3).trans rfl, (bC (blk_drew HY8.out) 4).trans rfl, (bC (blk_drew HY8.out) 5).trans rfl⟩ (fun hHeld => ?_)
      have HC9 := aM (HC8.out.later (below_drew1 (Below.refl _ _)))
      have HRG9 := aM (HRG8.out.kept (grown_of_below (below_drew1 (Below.refl _ _)) none) (by simp) (by simp))
      clear HC8 HRG8 HS8 HY8 HC6 HRG6
      generalize w8.drew = w9 at HC9 HRG9 hHeld ⊢
      refine sv 0 38 #[tT,tF,tF,tF,tF,tF,tF] ?_
      refine sv 1 39 #[tT,tT,tF,tF,tF,tF,tF] ?_
      refine sv 2 40 #[tT,tT,tT,tF,tF,tF,tF] ?_
      refine sv 4 42 #[tT,tT,tT,tF,tT,tF,tF] ?_
      refine st 3 41 #[tT,tT,tT,tT,tT,tF,tF] hHeld ?_
      refine st 5 43 #[tT,tT,tT,tT,tT,tT,tF] hHeld ?_
      refine last_ (i := 6) (N := none) #[tT,tT,tT,tT,tT,tT,tT] rfl rfl (by kernel_rfl) (by decide) (fun K hK => ?_)
      obtain ⟨D', K', hM, hKn, hm⟩ := HC9.out.map
      obtain ⟨q, hq, hoD⟩ := hM.own
      have hlow := HW.out.low y HY.out
      have htop := HW.out.top
      refine mapput_ (by rfl) _ _ _ _ rfl rfl 3 74 lawK Try.underlying65 heldE bm' q D' rfl hoD (Nat.lt_of_le_of_lt hq (by decide)) (.int .i64 y.f0) (.agg (List.toArray [.int .i64 y.f1, .int .i64 y.f2.f0, .string y.f2.f1.f0, .slice A3 y.f2.f1.f1.length c3, .string y.f2.f2.f0, .slice A5 y.f2.f2.f1.length c5])) (kN y.f0) rfl rfl (hkN (by omega) (by omega)) (.held (.agg (List.toArray [.int .i64 y.f1, .int .i64 y.f2.f0, .string y.f2.f1.f0, .slice A3 y.f2.f1.f1.length c3, .string y.f2.f2.f0, .slice A5 y.f2.f2.f1.length c5]))) [] rfl (fun w11 hown11 hturn11 => ?_)
      refine hK.out _ _ (done_ (by kernel_rfl) ?_)
      have HC11 := aM (HC9.out.put HW.out HY.out HLK.out HF.out D' K' hM hKn hm hown11 hturn11)
      have HRG11 := aM (HRG9.out.kept hturn11.grown (fun e => by injection e with e; have := HL5.out.2.2.2; have := HC9.out.lo.2.1; omega) (fun e => by injection e with e; have := HL5.out.2.1; omega))
      clear hK hHeld hM hKn hm hq hoD hown11 hturn11 HC9 HRG9
      go_wp2
      go_roundg cnt1
      case measure => exact HLT.out
      case rel => exact ⟨_, HRG11, HC11⟩
end Go.Proofs.Ytbbgpfjeobdogaa.PB
end

section
namespace Go.Proofs.Ytbbgpfjeobdogaa.PB
open Go.RowKit Go.Maps Go.Proofs.YtbbgpfjeobdogaaW.PrintWords Go.Proofs.YtbbgpfjeobdogaaW.PrintLast Go.Proofs.YtbbgpfjeobdogaaW.PrintMore
set_option maxRecDepth 100000
set_option linter.unusedVariables false
set_option linter.unusedSimpArgs false
structure Oh where
  s : Hs
  g : Nat
  bm : Nat
abbrev wasOf (o : Oh) : List Int := statesL o.s.L ++ [o.s.now]
abbrev ptrOf (o : Oh) : List Value := [.pointer (some ⟨o.g, 0, none⟩)]
abbrev kI := Kd.int .i64
abbrev kII := Kd.slice 3 kI
theorem turn0 {B : Nat} {S : Nat → Prop} {w W : World} (h : Turn B S w W) : Turn 0 S w W := ⟨h.bel.mono (Nat.zero_le _), h.kept⟩
theorem turn_grown {w W : World} {r : Option Nat} (h : w.grownBy W r) : Turn 0 (fun k => r = some k) w W := (Turn.refl 0 _ w).grown h (fun k hk => ⟨.inl hk, Nat.zero_le _⟩) (Nat.zero_le _)
theorem raw_fk {sz : Nat} {w w' : World} {ok ok' : Nat → Prop} {x c : List Value} (h : Kd.FK (Kd.raw sz) w ok x c) : Kd.FK (Kd.raw sz) w' ok' x c := fun W _ => h w (fun _ _ _ => rfl)
theorem raw_own {sz e B : Nat} {w : World} {ok : Nat → Prop} {v : Value} {xs : List (List Value)} (h : Kd.N (Kd.raw sz) e w B ok v xs) : Kd.N (Kd.raw sz) e w B (fun k => ok k ∧ v.ownBlock = some k) v xs := by
  obtain ⟨h0, rows, hl, hR, hf⟩ := h
  exact ⟨fun k hk => ⟨h0 k hk, hk⟩, rows, hl, hR, fun j x c hx hc => raw_fk (hf j x c hx hc)⟩
theorem int_fk {w : World} {B : Nat} {ok : Nat → Prop} {A : Option Addr} {n c : Nat} {xs : List Int} (h : Kd.R kI 3 w B ok (.slice A n c) xs) : Kd.FK kII w (fun k => ok k ∧ B ≤ k) xs [.slice A n c] := by
  obtain ⟨A', c', e, hl, hF⟩ := Kd.R_V (base' := 0) (rM (ok' := fun k => ok k ∧ B ≤ k) (Kd.R_bound h) (fun k hk => ⟨hk.1, hk.2.1⟩))
  simp only [Value.slice.injEq] at e
  obtain ⟨rfl, rfl, rfl⟩ := e
  exact fun W hW => ⟨A, c, rfl, hl, hF W hW⟩
structure Kq (w : World) (O : List Oh) (s : Hs) (g bm : Nat) (S P : Nat → Prop) (v4 v5 : Value) (L4 : List (List Value)) (L5 : List (List Int)) (W : World) : Prop where
  hist : HistAt w.heap.size S g bm W s.L s.now s.next 9
  inv : Inv s.L s.now s.next 9
  old : ∀ o ∈ O, HistAt w.heap.size S o.g o.bm W o.s.L o.s.now o.s.next 9 ∧ Inv o.s.L o.s.now o.s.next 9
  far : ∀ o ∈ O, (o.g ≠ g ∧ o.g ≠ bm) ∧ o.bm ≠ g ∧ o.bm ≠ bm
  pS : ∀ k, P k → S k
  pg : P g ∧ P bm
  own4 : ∀ k, v4.ownBlock = some k → S k
  own5 : ∀ k, v5.ownBlock = some k → S k
  lo : ∀ k, S k → w.heap.size ≤ k
  lt : ∀ k, S k → k < W.heap.size
  row4 : Kd.N (Kd.raw 1) 24 W w.heap.size (fun k => ¬ P k) v4 L4
  row5 : Kd.N kII 50 W w.heap.size (fun k => ¬ P k ∧ ¬ v4.ownBlock = some k) v5 L5
  below : Below w.heap.size w W
section
variable {w W W2 : World} {O : List Oh} {s s' : Hs} {g bm g' bm' : Nat} {S P : Nat → Prop} {v4 v5 v' : Value} {L4 : List (List Value)} {L5 : List (List Int)}
theorem Kq.later (h : Kq w O s g bm S P v4 v5 L4 L5 W) (hb : Below W.heap.size W W2) : Kq w O s g bm S P v4 v5 L4 L5 W2 :=
  ⟨h.hist.below hb, h.inv, fun o ho => ⟨(h.old o ho).1.below hb, (h.old o ho).2⟩, h.far, h.pS, h.pg, h.own4, h.own5, h.lo, fun k hk => Nat.lt_of_lt_of_le (h.lt k hk) hb.size, Kd.N_below h.row4 hb, Kd.N_below h.row5 hb, h.below.trans (hb.mono h.below.size)⟩
theorem Kq.step (h : Kq w O s g bm S P v4 v5 L4 L5 W) (hi : Inv s'.L s'.now s'.next 9) (hh : HistAt w.heap.size S g bm W2 s'.L s'.now s'.next 9) (ht : Turn w.heap.size (hb g bm) W W2) : Kq w O s' g bm S P v4 v5 L4 L5 W2 := by
  have hp : ∀ k, ¬ P k → ¬ hb g bm k := fun k hk e => hk (by rcases e with rfl | rfl; exact h.pg.1; exact h.pg.2)
  refine ⟨hh, hi, fun o ho => ⟨(h.old o ho).1.turn (turn0 ht) ?_ ?_ ?_, (h.old o ho).2⟩, h.far, h.pS, h.pg, h.own4, h.own5, h.lo, fun k hk => Nat.lt_of_lt_of_le (h.lt k hk) ht.size, Kd.N_kept h.row4 ht.kept hp, Kd.N_kept h.row5 ht.kept (fun k hk => hp k hk.1), h.below.trans ht.bel⟩
  · have := (h.far o ho).1
    rintro (e | e)
    · exact this.1 e
    · exact this.2 e
  · have := (h.far o ho).2
    rintro (e | e)
    · exact this.1 e
    · exact this.2 e
  · rintro k (rfl | rfl)
    · exact h.pS _ h.pg.1
    · exact h.pS _ h.pg.2
theorem at_hist {B : Nat} {L : List St} {now next depth : Int} {S2 : Nat → Prop} {W' : World} {r : Option Nat} (hH : HistAt B S g bm W L now next depth) (hg : W.grownBy W' r) (hr : ∀ k, r = some k → S k) (hrg : ¬ r = some g) (hrb : ¬ r = some bm) (h1 : ∀ k, S k → S2 k) (h2 : ∀ k, S2 k → S k ∨ W.heap.size ≤ k) : HistAt B S2 g bm W' L now next depth :=
  (hH.grow h1 h2).turn (turn_grown hg) hrg hrb (fun k hk => h1 k (hr k hk))
theorem Kq.push4 (h : Kq w O s g bm S P v4 v5 L4 L5 W) (hP : ∀ o ∈ O, P o.g ∧ P o.bm) {x : List Value} (hn : Kd.N (Kd.raw 1) 24 W2 w.heap.size (fun k => ¬ P k) v' (L4 ++ [x])) (hb : Below w.heap.size w W2) (hg : W.grownBy W2 v4.ownBlock) (hat : v'.ownBlock = v4.ownBlock ∨ ∃ b, v'.ownBlock = some b ∧ W.heap.size ≤ b) : Kq w O s g bm (fun k => S k ∨ v'.ownBlock = some k) P v' v5 (L4 ++ [x]) L5 W2 := by
  have hT := turn_grown hg
  have hnew : ∀ k, v'.ownBlock = some k → S k ∨ W.heap.size ≤ k := fun k hk => by
    rcases hat with e | ⟨b, e, hle⟩
    · exact .inl (h.own4 k (by rw [← e]; exact hk))
    · rw [e] at hk; injection hk with hk; right; omega
  have hr4 : ∀ k, P k → ¬ v4.ownBlock = some k := fun k hk e => h.row4.1 k e hk
  have hst : ∀ {g bm : Nat} {L : List St} {now next : Int}, P g → P bm → HistAt w.heap.size S g bm W L now next 9 → HistAt w.heap.size (fun k => S k ∨ v'.ownBlock = some k) g bm W2 L now next 9 := fun h1 h2 hH =>
    at_hist hH hg h.own4 (hr4 _ h1) (hr4 _ h2) (fun k hk => .inl hk) (fun k hk => hk.elim .inl (hnew k))
  refine ⟨hst h.pg.1 h.pg.2 h.hist, h.inv, fun o ho => ⟨hst (hP o ho).1 (hP o ho).2 (h.old o ho).1, (h.old o ho).2⟩, h.far, fun k hk => .inl (h.pS k hk), h.pg, fun k hk => .inr hk, fun k hk => .inl (h.own5 k hk), fun k hk => ?_, fun k hk => ?_, hn, ?_, hb⟩
  · rcases hk with hk | hk
    · exact h.lo k hk
    · exact Kd.N_base hn k hk
  · rcases hk with hk | hk
    · exact Nat.lt_of_lt_of_le (h.lt k hk) hT.size
    · exact Kd.N_lt hn k hk
  · refine Kd.N_mono (Kd.N_kept (Kd.N_bound h.row5) hT.kept (fun k hk => hk.1.2)) (fun k hk => ⟨hk.1.1, fun e => ?_⟩)
    rcases hat with e' | ⟨b, e', hle⟩
    · exact hk.1.2 (by rw [← e']; exact e)
    · rw [e'] at e; injection e with e; have := hk.2; omega
theorem Kq.push5 (h : Kq w O s g bm S P v4 v5 L4 L5 W) (hP : ∀ o ∈ O, P o.g ∧ P o.bm) {x : List Int} (hn : Kd.N kII 50 W2 w.heap.size (fun k => ¬ P k ∧ ¬ v4.ownBlock = some k) v' (L5 ++ [x])) (hb : Below w.heap.size w W2) (hg : W.grownBy W2 v5.ownBlock) (hat : v'.ownBlock = v5.ownBlock ∨ ∃ b, v'.ownBlock = some b ∧ W.heap.size ≤ b) : Kq w O s g bm (fun k => S k ∨ v'.ownBlock = some k) P v4 v' L4 (L5 ++ [x]) W2 := by
  have hT := turn_grown hg
  have hnew : ∀ k, v'.ownBlock = some k → S k ∨ W.heap.size ≤ k := fun k hk => by
    rcases hat with e | ⟨b, e, hle⟩
    · exact .inl (h.own5 k (by rw [← e]; exact hk))
    · rw [e] at hk; injection hk with hk; right; omega
  have hr5 : ∀ k, P k → ¬ v5.ownBlock = some k := fun k hk e => (h.row5.1 k e).1 hk
  have hst : ∀ {g bm : Nat} {L : List St} {now next : Int}, P g → P bm → HistAt w.heap.size S g bm W L now next 9 → HistAt w.heap.size (fun k => S k ∨ v'.ownBlock = some k) g bm W2 L now next 9 := fun h1 h2 hH =>
    at_hist hH hg h.own5 (hr5 _ h1) (hr5 _ h2) (fun k hk => .inl hk) (fun k hk => hk.elim .inl (hnew k))
  refine ⟨hst h.pg.1 h.pg.2 h.hist, h.inv, fun o ho => ⟨hst (hP o ho).1 (hP o ho).2 (h.old o ho).1, (h.old o ho).2⟩, h.far, fun k hk => .inl (h.pS k hk), h.pg, fun k hk => .inl (h.own4 k hk), fun k hk => .inr hk, fun k hk => ?_, fun k hk => ?_, ?_, hn, hb⟩
  · rcases hk with hk | hk
    · exact h.lo k hk
    · exact Kd.N_base hn k hk
  · rcases hk with hk | hk
    · exact Nat.lt_of_lt_of_le (h.lt k hk) hT.size
    · exact Kd.N_lt hn k hk
  · exact Kd.N_mono (Kd.N_kept (raw_own h.row4) hT.kept (fun k hk e => (h.row5.1 k e).2 hk.2)) (fun k hk => hk.1)
theorem Kq.copy (h : Kq w O s g bm S P v4 v5 L4 L5 W) (hP : ∀ o ∈ O, P o.g ∧ P o.bm) (hc : HistAt w.heap.size (fun k => S k ∨ k = g' ∨ k = bm') g' bm' W2 s.L s.now s.next 9) (h1 : W.heap.size ≤ g') (h2 : W.heap.size ≤ bm') (hb : Below W.heap.size W W2) :
    Kq w (O ++ [⟨s, g, bm⟩]) s g' bm' (fun k => S k ∨ k = g' ∨ k = bm') (fun k => P k ∨ k = g' ∨ k = bm') v4 v5 L4 L5 W2 := by
  have hlt := hc.lt
  have hbw := h.below.size
  have hpl : ∀ k, P k → k < W.heap.size := fun k hk => h.lt k (h.pS k hk)
  have hst : ∀ {g bm : Nat} {L : List St} {now next : Int}, HistAt w.heap.size S g bm W L now next 9 → HistAt w.heap.size (fun k => S k ∨ k = g' ∨ k = bm') g bm W2 L now next 9 := fun hH =>
    (hH.grow (fun k hk => .inl hk) (fun k hk => hk.elim .inl (fun e => .inr (by rcases e with rfl | rfl <;> assumption)))).below hb
  refine ⟨hc, h.inv, fun o ho => ?_, fun o ho => ?_, fun k hk => hk.imp (h.pS k) id, ⟨.inr (.inl rfl), .inr (.inr rfl)⟩, fun k hk => .inl (h.own4 k hk), fun k hk => .inl (h.own5 k hk), fun k hk => ?_, fun k hk => ?_, ?_, ?_, h.below.trans (hb.mono h.below.size)⟩
  · rcases List.mem_append.1 ho with ho | ho
    · exact ⟨hst (h.old o ho).1, (h.old o ho).2⟩
    · obtain rfl := List.mem_singleton.1 ho
      exact ⟨hst h.hist, h.inv⟩
  · have key : ∀ a b : Nat, P a → P b → (a ≠ g' ∧ a ≠ bm') ∧ b ≠ g' ∧ b ≠ bm' := fun a b ha hb => by
      have := hpl a ha
      have := hpl b hb
      exact ⟨⟨fun e => by omega, fun e => by omega⟩, fun e => by omega, fun e => by omega⟩
    rcases List.mem_append.1 ho with ho | ho
    · exact key _ _ (hP o ho).1 (hP o ho).2
    · obtain rfl := List.mem_singleton.1 ho
      exact key _ _ h.pg.1 h.pg.2
  · rcases hk with hk | rfl | rfl
    · exact h.lo k hk
    · omega
    · omega
  · rcases hk with hk | rfl | rfl
    · exact Nat.lt_of_lt_of_le (h.lt k hk) hb.size
    · exact hlt.2.1
    · exact hlt.2.2.1
  · exact Kd.N_below (Kd.N_mono (Kd.N_bound h.row4) (fun k hk e => by
      rcases e with e | rfl | rfl
      · exact hk.1 e
      · have := hk.2; omega
      · have := hk.2; omega)) hb
  · exact Kd.N_below (Kd.N_mono (Kd.N_bound h.row5) (fun k hk => ⟨fun e => by
      rcases e with e | rfl | rfl
      · exact hk.1.1 e
      · have := hk.2; omega
      · have := hk.2; omega, hk.1.2⟩)) hb
theorem pget {A : Option Addr} {n c : Nat} (h : Kq w O s g bm S P (.slice A n c) v5 (O.map ptrOf) (O.map wasOf) W) {i : Nat} (hi : i < O.length) : ∃ ad, A = some ad ∧ W.cell? (ad.add i) = some (.pointer (some ⟨(O[i]).g, 0, none⟩)) := by
  obtain ⟨hn, hc, hC⟩ := Kd.N_reads' h.row4
  obtain ⟨ad, cs, e, hl, hK, hcell⟩ := Kd.C_get hC ([] : List Value) (i : Int) (by omega) (by rw [List.length_map]; omega)
  refine ⟨ad, e, ?_⟩
  have hcs := hK.1
  rw [Int.toNat_natCast, List.getD_eq_getElem?_getD, List.getElem?_map, List.getElem?_eq_getElem hi] at hcs
  have := hcell 0 (.pointer (some ⟨(O[i]).g, 0, none⟩)) (by rw [hcs]; rfl)
  rw [Int.toNat_natCast, show (Kd.raw 1).sz = 1 from rfl, Nat.mul_one, Nat.add_zero] at this
  exact this
theorem wget {A : Option Addr} {n c : Nat} (h : Kq w O s g bm S P v4 (.slice A n c) (O.map ptrOf) (O.map wasOf) W) {i : Nat} (hi : i < O.length) : ∃ ad A' c', A = some ad ∧ W.cell? (ad.add i) = some (.slice A' (wasOf (O[i])).length c') ∧ (wasOf (O[i])).length ≤ c' ∧ kI.C W A' (wasOf (O[i])).length (wasOf (O[i])) := by
  obtain ⟨hn, hc, hC⟩ := Kd.N_reads' h.row5
  obtain ⟨ad, cs, e, hl, hK, hcell⟩ := Kd.C_get hC ([] : List Int) (i : Int) (by omega) (by rw [List.length_map]; omega)
  rw [Int.toNat_natCast, List.getD_eq_getElem?_getD, List.getElem?_map, List.getElem?_eq_getElem hi] at hK
  obtain ⟨A', c', rfl, l0, g0⟩ := hK
  have := hcell 0 _ rfl
  rw [Int.toNat_natCast, show kII.sz = 1 from rfl, Nat.mul_one, Nat.add_zero] at this
  exact ⟨ad, A', c', e, this, l0, g0⟩
end
end Go.Proofs.Ytbbgpfjeobdogaa.PB
end

section
namespace Go.Proofs.Ytbbgpfjeobdogaa.PB
open Go.RowKit Go.Maps Go.Proofs.YtbbgpfjeobdogaaW.PrintWords Go.Proofs.YtbbgpfjeobdogaaW.PrintLast Go.Proofs.YtbbgpfjeobdogaaW.PrintMore
set_option maxRecDepth 100000
set_option linter.unusedVariables false
set_option linter.unusedSimpArgs false
theorem set7 {g : Nat} {w0 w : World} (h : Below w0.heap.size w0 w) (hg : w0.heap.size ≤ g) (v0 v1 v2 v3 v4 v5 v6 : Value) : Below w0.heap.size w0 (((((((w.setCell ⟨g, 0, none⟩ v0).setCell ⟨g, 1, none⟩ v1).setCell ⟨g, 2, none⟩ v2).setCell ⟨g, 3, none⟩ v3).setCell ⟨g, 4, none⟩ v4).setCell ⟨g, 5, none⟩ v5).setCell ⟨g, 6, none⟩ v6) := (below_set (below_set (below_set (below_set (below_set (below_set (below_set h hg) hg) hg) hg) hg) hg) hg)
theorem blks7 {g t : Nat} {w : World} {u0 u1 u2 u3 u4 u5 u6 : Value} (h : w.heap[g]? = some (.cells #[u0, u1, u2, u3, u4, u5, u6] t (0, 0))) (v0 v1 v2 v3 v4 v5 v6 : Value) : (((((((w.setCell ⟨g, 0, none⟩ v0).setCell ⟨g, 1, none⟩ v1).setCell ⟨g, 2, none⟩ v2).setCell ⟨g, 3, none⟩ v3).setCell ⟨g, 4, none⟩ v4).setCell ⟨g, 5, none⟩ v5).setCell ⟨g, 6, none⟩ v6).heap[g]? = some (.cells #[v0, v1, v2, v3, v4, v5, v6] t (0, 0)) := (bU (cs' := #[v0, v1, v2, v3, v4, v5, v6]) (bU (cs' := #[v0, v1, v2, v3, v4, v5, u6]) (bU (cs' := #[v0, v1, v2, v3, v4, u5, u6]) (bU (cs' := #[v0, v1, v2, v3, u4, u5, u6]) (bU (cs' := #[v0, v1, v2, u3, u4, u5, u6]) (bU (cs' := #[v0, v1, u2, u3, u4, u5, u6]) (bU (cs' := #[v0, u1, u2, u3, u4, u5, u6]) h 0 v0 rfl) 1 v1 rfl) 2 v2 rfl) 3 v3 rfl) 4 v4 rfl) 5 v5 rfl) 6 v6 rfl)
end Go.Proofs.Ytbbgpfjeobdogaa.PB
end

section
namespace Go.Proofs.Ytbbgpfjeobdogaa.PB
open Go.RowKit Go.Maps Go.Proofs.YtbbgpfjeobdogaaW.PrintWords Go.Proofs.YtbbgpfjeobdogaaW.PrintLast Go.Proofs.YtbbgpfjeobdogaaW.PrintMore
set_option maxRecDepth 100000
set_option linter.unusedVariables false
set_option linter.unusedSimpArgs false
theorem infoP : (Try.prog.info? 24).map (fun i => (i.zero, i.size, i.bytes)) = some (some (.pointer none), 1, 8) := by kernel_rfl
theorem infoI : (Try.prog.info? 50).map (fun i => (i.zero, i.size, i.bytes)) = some (some (.slice none 0 0), 1, 24) := by kernel_rfl
theorem ptr_fk (w : World) (ok : Nat → Prop) (g : Nat) : Kd.FK (Kd.raw 1) w ok [.pointer (some ⟨g, 0, none⟩)] [.pointer (some ⟨g, 0, none⟩)] := fun W _ => ⟨rfl, rfl, fun u hu => by rw [List.mem_singleton] at hu; subst hu; rfl⟩
theorem Kq.start {w w1 w2 : World} {g bm : Nat} (hh : HistAt w1.heap.size (hb g bm) g bm w2 [st0] 0 1 9) (h1 : Below w.heap.size w w1) (hb2 : Below w1.heap.size w1 w2) : Kq w [] ⟨[st0], 0, 1⟩ g bm (hb g bm) (hb g bm) (.slice none 0 0) (.slice none 0 0) [] [] w2 := by
  have hH : HistAt w.heap.size (hb g bm) g bm w2 [st0] 0 1 9 := hh.lower h1.size
  refine ⟨hH, inv0 (by decide) (by decide), fun o ho => absurd ho List.not_mem_nil, fun o ho => absurd ho List.not_mem_nil, fun k hk => hk, ⟨.inl rfl, .inr rfl⟩, fun k hk => ?_, fun k hk => ?_, fun k hk => ?_, hH.hS, Kd.N_nil _ _ _ _ _, Kd.N_nil _ _ _ _ _, h1.trans (hb2.mono h1.size)⟩
  · simp [Value.ownBlock] at hk
  · simp [Value.ownBlock] at hk
  · rcases hk with rfl | rfl
    · exact hH.bg
    · exact hH.bb
def bureaulaw08_HistCopies.f (k : Nat) (l : List Ac) : Option Bool := if (∀ x ∈ l, 0 ≤ x.f0 ∧ x.f0 < 256) then some true else none
set_option maxHeartbeats 32000000 in
theorem bureaulaw08_HistCopies.calls (k : Nat) (A0 : Option Addr) (c0 : Nat) (l : List Ac) (r : Bool) (w : World) (hr0 : Kd.C k36 w A0 l.length l) (hc0 : l.length ≤ c0) (h : bureaulaw08_HistCopies.f k l = some r) :
    Calls Try.prog 6 #[.slice A0 l.length c0] w fun e w' => e = .returned (.bool r) ∧ Below w.heap.size w w' := by
  unfold bureaulaw08_HistCopies.f at h
  by_cases hok : ∀ x ∈ l, 0 ≤ x.f0 ∧ x.f0 < 256
  case neg => rw [if_neg hok] at h; cases h
  rw [if_pos hok] at h
  obtain rfl : true = r := Option.some.inj h
  clear h
  have hu36 := Try.underlying36
  have hu34 := Try.underlying34
  have HR1 := aM hr0
  have HC1 := aM hc0
  have HOK := aM hok
  clear hr0 hc0 hok
  have NEW := aM (new_ok 9 (by decide) (by decide))
  go_enter Try.func6, Try.ntmps6
  go_wp2_with (first
    | ((with_reducible refine gate_callee (f := 8) rfl ?_); refine goesL_ (some 9) rfl rfl Try.func8 (by kernel_rfl) rfl #[] rfl (by (try simp only [List.map_toArray, List.map_cons, List.map_nil]); first | done | rfl) ?_; (with_reducible refine (bureaulaw08_alive.calls true _ rfl).mono ?_); rintro r1 w1 ⟨rfl, hb⟩; refine ⟨_, rfl, ?_⟩; have HB1 := aM hb; clear hb)
    | ((with_reducible refine gate_callee (f := 9) rfl ?_); refine goesL_ (some 11) rfl rfl Try.func9 (by kernel_rfl) rfl #[.int .i64 9] rfl (by (try simp only [List.map_toArray, List.map_cons, List.map_nil]); first | done | rfl) ?_; (with_reducible refine (NEW.out _).mono ?_); rintro r2 w2 ⟨g, bm, rfl, hh, hb⟩; refine ⟨_, rfl, ?_⟩; have HQ2 := aM (Kq.start hh HB1.out hb); clear hh hb)
    )
  go_loopg [3, 4, 5, 6] l.length (fun kq v3 v4 v5 v6 w' => ∃ (i : Nat) (s : Hs) (g bm : Nat) (O : List Oh) (S P : Nat → Prop) (A4 A5 : Option Addr) (c4 c5 : Nat), v3 = .pointer (some ⟨g, 0, none⟩) ∧ v4 = .slice A4 O.length c4 ∧ v5 = .slice A5 O.length c5 ∧ v6 = .int .i64 (i : Int) ∧ Aside0 (i + kq = l.length) ∧ Aside0 (i ≤ 80 ∧ s.next ≤ (i : Int) + 1 ∧ O.length ≤ 8) ∧ Aside0 (∀ o ∈ O, P o.g ∧ P o.bm) ∧ Aside0 (Kq w O s g bm S P v4 v5 (O.map ptrOf) (O.map wasOf) w'))
  case atStart => exact ⟨0, ⟨[st0], 0, 1⟩, g, bm, [], _, _, none, none, 0, 0, rfl, rfl, rfl, rfl, ⟨by omega⟩, ⟨by decide⟩, ⟨fun o ho => absurd ho List.not_mem_nil⟩, HQ2⟩
  case round =>
    clear HQ2 NEW
    obtain ⟨i, s, g, bm, O, S, P, A4, A5v, c4, c5v, rfl, rfl, rfl, rfl, HI, HN, HP, HQ⟩ := hrel
    by_cases b1 : i < l.length
    · by_cases b2 : i < 80
      · cases gk with
        | zero => exact absurd HI.out (by omega)
        | succ k1 =>
          have d1 : decide ((i : Int) < (l.length : Int)) = true := decide_eq_true (by omega)
          have d2 : decide ((i : Int) < 80) = true := decide_eq_true (by omega)
          have p1 : (0 ≤ (i : Int)) = True := eq_true (by omega)
          have q1 : ((i : Int) < (l.length : Int)) = True := eq_true (by omega)
          have HI80 := aM b2
          have e1 : wrap64 ((i : Int) + 1) = ((i + 1 : Nat) : Int) := by unfold wrap64; omega
          obtain ⟨ad, A3, c3, A5, c5, eA, hc0, hc1, hc2, hc3, hc4, hc5, hc6, hE, C3, g3, C5, g5⟩ := act_at HR1.out b1
          cases eA
          have HK := aM (HOK.out _ (List.getElem_mem b1))
          generalize l[i] = x at hc0 hc1 hc2 hc3 hc4 hc5 hc6 hE C3 g3 C5 g5 HK
          have HEC := aM (And.intro C3 (And.intro g3 (And.intro C5 g5)))
          have HE := aM hE
          replace hc0 := cellW HQ.out.below hc0
          replace hc1 := cellW HQ.out.below hc1
          replace hc2 := cellW HQ.out.below hc2
          replace hc3 := cellW HQ.out.below hc3
          replace hc4 := cellW HQ.out.below hc4
          replace hc5 := cellW HQ.out.below hc5
          replace hc6 := cellW HQ.out.below hc6
          clear hE C3 g3 C5 g5 b1 b2
          have HFT := aM (fits7_eq x.f1.f0 x.f1.f1.f0 x.f1.f1.f1 x.f1.f2.f0 x.f1.f2.f1)
          by_cases hf : fitE x.f1.f1.f0 x.f1.f1.f1 x.f1.f2.f0 x.f1.f2.f1
          case neg =>
            rw [show decide (fitE x.f1.f1.f0 x.f1.f1.f1 x.f1.f2.f0 x.f1.f2.f1) = false from decide_eq_false hf] at HFT
            clear hf
            go_wp2_with (first
              | ((with_reducible refine gate_dst (N := 7) rfl ?_); refine box_event ?hg (N := 7) ?hd (cs := #[.int .u8 0, .int .i64 0, .string ⟨#[]⟩, .slice none 0 0, .string ⟨#[]⟩, .slice none 0 0, .bool false]) (t := 36) ?hr ?_; (case hd => rfl); (case hg => rfl); (case hr => first | (go_simp; done) | (go_simp; rfl)); intro g7 hg w8 hbox hb; have HD8 := aM hb; have HY8 := aM hbox; have GD8 := aM (Nat.le_of_eq hg.symm); clear hb hbox hg; clear hc0 hc1 hc2 hc3 hc4 hc5 hc6; have hy0 := (bC HY8.out 0).trans (rfl : _ = some (Value.int .u8 0)); have hy1 := (bC HY8.out 1).trans (rfl : _ = some (Value.int .i64 0)); have hy2 := (bC HY8.out 2).trans (rfl : _ = some (Value.string ⟨#[]⟩)); have hy3 := (bC HY8.out 3).trans (rfl : _ = some (Value.slice none 0 0)); have hy4 := (bC HY8.out 4).trans (rfl : _ = some (Value.string ⟨#[]⟩)); have hy5 := (bC HY8.out 5).trans (rfl : _ = some (Value.slice none 0 0)); have hy6 := (bC HY8.out 6).trans (rfl : _ = some (Value.bool false)); have hfy0 := bF HY8.out 0; have hfy1 := bF HY8.out 1; have hfy2 := bF HY8.out 2; have hfy3 := bF HY8.out 3; have hfy4 := bF HY8.out 4; have hfy5 := bF HY8.out 5; have hfy6 := bF HY8.out 6)
              | ((with_reducible refine gate_callee (f := 11) rfl ?_); refine goesL_ (some 30) rfl rfl Try.func11 (by kernel_rfl) rfl #[.agg #[.int .i64 x.f1.f0, .string x.f1.f1.f0, .slice A3 x.f1.f1.f1.length c3, .string x.f1.f2.f0, .slice A5 x.f1.f2.f1.length c5]] rfl (by (try simp only [List.map_toArray, List.map_cons, List.map_nil]); first | done | rfl) ?_; have HD9 := aM (set7 HD8.out GD8.out (.int .u8 x.f0) (.int .i64 x.f1.f0) (.string x.f1.f1.f0) (.slice A3 x.f1.f1.f1.length c3) (.string x.f1.f2.f0) (.slice A5 x.f1.f2.f1.length c5) (.bool x.f2)); have HQ9 := aM (HQ.out.later HD9.out); have HY9 := aM (blks7 HY8.out (.int .u8 x.f0) (.int .i64 x.f1.f0) (.string x.f1.f1.f0) (.slice A3 x.f1.f1.f1.length c3) (.string x.f1.f2.f0) (.slice A5 x.f1.f2.f1.length c5) (.bool x.f2)); (with_reducible refine (bureaulaw07_Fits.calls x.f1.f0 x.f1.f1.f0 A3 c3 x.f1.f1.f1 x.f1.f2.f0 A5 c5 x.f1.f2.f1 false _ (cB_ HEC.out.1 HQ9.out.below) HEC.out.2.1 (cB_ HEC.out.2.2.1 HQ9.out.below) HEC.out.2.2.2 HFT.out).mono ?_); rintro r9 w9 ⟨rfl, hb⟩; refine ⟨_, rfl, ?_⟩; have HQ10 := aM (HQ9.out.later hb); have HY10 := aM (bB HY9.out hb); clear hb; clear hy0 hfy0 hy1 hfy1 hy2 hfy2 hy3 hfy3 hy4 hfy4 hy5 hfy5 hy6 hfy6 HD9 HQ9 HY9 HD8 HY8; have hy0 := (bC HY10.out 0).trans (rfl : _ = some (Value.int .u8 x.f0)); have hy1 := (bC HY10.out 1).trans (rfl : _ = some (Value.int .i64 x.f1.f0)); have hy2 := (bC HY10.out 2).trans (rfl : _ = some (Value.string x.f1.f1.f0)); have hy3 := (bC HY10.out 3).trans (rfl : _ = some (Value.slice A3 x.f1.f1.f1.length c3)); have hy4 := (bC HY10.out 4).trans (rfl : _ = some (Value.string x.f1.f2.f0)); have hy5 := (bC HY10.out 5).trans (rfl : _ = some (Value.slice A5 x.f1.f2.f1.length c5)); have hy6 := (bC HY10.out 6).trans (rfl : _ = some (Value.bool x.f2)))
              )
            first | rw [e1] | rw [show ((i : Int) + 1) = ((i + 1 : Nat) : Int) by omega]
            go_roundg k1
            case measure => exact Nat.lt_succ_self _
            case rel => exact ⟨i + 1, s, g, bm, O, S, P, A4, A5v, c4, c5v, rfl, rfl, rfl, rfl, ⟨by have := HI.out; omega⟩, ⟨by have := HN.out; have := HI80.out; omega⟩, HP, HQ10⟩
          case pos =>
          rw [show decide (fitE x.f1.f1.f0 x.f1.f1.f1 x.f1.f2.f0 x.f1.f2.f1) = true from decide_eq_true hf] at HFT
          have HF := aM hf
          clear hf
          cases hfk : x.f2
          case false =>
            rw [hfk] at hc6
            clear hfk
            go_wp2_with (first
              | ((with_reducible refine gate_dst (N := 7) rfl ?_); refine box_event ?hg (N := 7) ?hd (cs := #[.int .u8 0, .int .i64 0, .string ⟨#[]⟩, .slice none 0 0, .string ⟨#[]⟩, .slice none 0 0, .bool false]) (t := 36) ?hr ?_; (case hd => rfl); (case hg => rfl); (case hr => first | (go_simp; done) | (go_simp; rfl)); intro g7 hg w8 hbox hb; have HD8 := aM hb; have HY8 := aM hbox; have GD8 := aM (Nat.le_of_eq hg.symm); clear hb hbox hg; clear hc0 hc1 hc2 hc3 hc4 hc5 hc6; have hy0 := (bC HY8.out 0).trans (rfl : _ = some (Value.int .u8 0)); have hy1 := (bC HY8.out 1).trans (rfl : _ = some (Value.int .i64 0)); have hy2 := (bC HY8.out 2).trans (rfl : _ = some (Value.string ⟨#[]⟩)); have hy3 := (bC HY8.out 3).trans (rfl : _ = some (Value.slice none 0 0)); have hy4 := (bC HY8.out 4).trans (rfl : _ = some (Value.string ⟨#[]⟩)); have hy5 := (bC HY8.out 5).trans (rfl : _ = some (Value.slice none 0 0)); have hy6 := (bC HY8.out 6).trans (rfl : _ = some (Value.bool false)); have hfy0 := bF HY8.out 0; have hfy1 := bF HY8.out 1; have hfy2 := bF HY8.out 2; have hfy3 := bF HY8.out 3; have hfy4 := bF HY8.out 4; have hfy5 := bF HY8.out 5; have hfy6 := bF HY8.out 6)
              | ((with_reducible refine gate_callee (f := 11) rfl ?_); refine goesL_ (some 30) rfl rfl Try.func11 (by kernel_rfl) rfl #[.agg #[.int .i64 x.f1.f0, .string x.f1.f1.f0, .slice A3 x.f1.f1.f1.length c3, .string x.f1.f2.f0, .slice A5 x.f1.f2.f1.length c5]] rfl (by (try simp only [List.map_toArray, List.map_cons, List.map_nil]); first | done | rfl) ?_; have HD9 := aM (set7 HD8.out GD8.out (.int .u8 x.f0) (.int .i64 x.f1.f0) (.string x.f1.f1.f0) (.slice A3 x.f1.f1.f1.length c3) (.string x.f1.f2.f0) (.slice A5 x.f1.f2.f1.length c5) (.bool false)); have HQ9 := aM (HQ.out.later HD9.out); have HY9 := aM (blks7 HY8.out (.int .u8 x.f0) (.int .i64 x.f1.f0) (.string x.f1.f1.f0) (.slice A3 x.f1.f1.f1.length c3) (.string x.f1.f2.f0) (.slice A5 x.f1.f2.f1.length c5) (.bool false)); (with_reducible refine (bureaulaw07_Fits.calls x.f1.f0 x.f1.f1.f0 A3 c3 x.f1.f1.f1 x.f1.f2.f0 A5 c5 x.f1.f2.f1 true _ (cB_ HEC.out.1 HQ9.out.below) HEC.out.2.1 (cB_ HEC.out.2.2.1 HQ9.out.below) HEC.out.2.2.2 HFT.out).mono ?_); rintro r9 w9 ⟨rfl, hb⟩; refine ⟨_, rfl, ?_⟩; have HQ10 := aM (HQ9.out.later hb); have HY10 := aM (bB HY9.out hb); clear hb; clear hy0 hfy0 hy1 hfy1 hy2 hfy2 hy3 hfy3 hy4 hfy4 hy5 hfy5 hy6 hfy6 HD9 HQ9 HY9 HD8 HY8; have hy0 := (bC HY10.out 0).trans (rfl : _ = some (Value.int .u8 x.f0)); have hy1 := (bC HY10.out 1).trans (rfl : _ = some (Value.int .i64 x.f1.f0)); have hy2 := (bC HY10.out 2).trans (rfl : _ = some (Value.string x.f1.f1.f0)); have hy3 := (bC HY10.out 3).trans (rfl : _ = some (Value.slice A3 x.f1.f1.f1.length c3)); have hy4 := (bC HY10.out 4).trans (rfl : _ = some (Value.string x.f1.f2.f0)); have hy5 := (bC HY10.out 5).trans (rfl : _ = some (Value.slice A5 x.f1.f2.f1.length c5)); have hy6 := (bC HY10.out 6).trans (rfl : _ = some (Value.bool false)))
              | ((with_reducible refine gate_callee (f := 25) rfl ?_); refine goesL_ (some 58) rfl rfl Try.func25 (by kernel_rfl) rfl #[.pointer (some ⟨g, 0, none⟩), actV x.f0 x.f1 A3 c3 A5 c5 false] rfl (by (try simp only [List.map_toArray, List.map_cons, List.map_nil]); first | done | rfl) ?_; (with_reducible refine (does_ok HQ10.out.hist x.f0 HK.out false (EdIn.old (HE.out (fit_le HF.out)) HQ10.out.below (fun k hk hs => absurd hk (Nat.not_lt.2 (HQ10.out.lo k hs)))) HQ10.out.inv (by have := HN.out; omega) HQ10.out.lt).mono ?_); rintro r20 w20 ⟨rfl, hh, ht⟩; refine ⟨_, rfl, ?_⟩; have HQ20 := aM (HQ10.out.step (s' := stepH 9 s x.f0 x.f1) (step_inv HQ10.out.inv (by have := HN.out; omega) x.f0 (fit_le HF.out)) hh ht); have HN20 := aM (show (stepH 9 s x.f0 x.f1).next ≤ (i : Int) + 2 from by have := HN.out; have := step_next (depth := 9) (s := s) x.f0 x.f1; omega); clear hh ht)
              )
            first | rw [e1] | rw [show ((i : Int) + 1) = ((i + 1 : Nat) : Int) by omega]
            go_roundg k1
            case measure => exact Nat.lt_succ_self _
            case rel => exact ⟨i + 1, stepH 9 s x.f0 x.f1, g, bm, O, S, P, A4, A5v, c4, c5v, rfl, rfl, rfl, rfl, ⟨by have := HI.out; omega⟩, ⟨by have := HN.out; have := HI80.out; have := HN20.out; exact ⟨by omega, by omega, by omega⟩⟩, HP, HQ20⟩
          case true =>
            rw [hfk] at hc6
            clear hfk
            by_cases h8 : O.length < 8
            case neg =>
              have d6 : decide ((O.length : Int) < 8) = false := decide_eq_false (by omega)
              clear h8
              go_wp2_with (first
                | ((with_reducible refine gate_dst (N := 7) rfl ?_); refine box_event ?hg (N := 7) ?hd (cs := #[.int .u8 0, .int .i64 0, .string ⟨#[]⟩, .slice none 0 0, .string ⟨#[]⟩, .slice none 0 0, .bool false]) (t := 36) ?hr ?_; (case hd => rfl); (case hg => rfl); (case hr => first | (go_simp; done) | (go_simp; rfl)); intro g7 hg w8 hbox hb; have HD8 := aM hb; have HY8 := aM hbox; have GD8 := aM (Nat.le_of_eq hg.symm); clear hb hbox hg; clear hc0 hc1 hc2 hc3 hc4 hc5 hc6; have hy0 := (bC HY8.out 0).trans (rfl : _ = some (Value.int .u8 0)); have hy1 := (bC HY8.out 1).trans (rfl : _ = some (Value.int .i64 0)); have hy2 := (bC HY8.out 2).trans (rfl : _ = some (Value.string ⟨#[]⟩)); have hy3 := (bC HY8.out 3).trans (rfl : _ = some (Value.slice none 0 0)); have hy4 := (bC HY8.out 4).trans (rfl : _ = some (Value.string ⟨#[]⟩)); have hy5 := (bC HY8.out 5).trans (rfl : _ = some (Value.slice none 0 0)); have hy6 := (bC HY8.out 6).trans (rfl : _ = some (Value.bool false)); have hfy0 := bF HY8.out 0; have hfy1 := bF HY8.out 1; have hfy2 := bF HY8.out 2; have hfy3 := bF HY8.out 3; have hfy4 := bF HY8.out 4; have hfy5 := bF HY8.out 5; have hfy6 := bF HY8.out 6)
                | ((with_reducible refine gate_callee (f := 11) rfl ?_); refine goesL_ (some 30) rfl rfl Try.func11 (by kernel_rfl) rfl #[.agg #[.int .i64 x.f1.f0, .string x.f1.f1.f0, .slice A3 x.f1.f1.f1.length c3, .string x.f1.f2.f0, .slice A5 x.f1.f2.f1.length c5]] rfl (by (try simp only [List.map_toArray, List.map_cons, List.map_nil]); first | done | rfl) ?_; have HD9 := aM (set7 HD8.out GD8.out (.int .u8 x.f0) (.int .i64 x.f1.f0) (.string x.f1.f1.f0) (.slice A3 x.f1.f1.f1.length c3) (.string x.f1.f2.f0) (.slice A5 x.f1.f2.f1.length c5) (.bool true)); have HQ9 := aM (HQ.out.later HD9.out); have HY9 := aM (blks7 HY8.out (.int .u8 x.f0) (.int .i64 x.f1.f0) (.string x.f1.f1.f0) (.slice A3 x.f1.f1.f1.length c3) (.string x.f1.f2.f0) (.slice A5 x.f1.f2.f1.length c5) (.bool true)); (with_reducible refine (bureaulaw07_Fits.calls x.f1.f0 x.f1.f1.f0 A3 c3 x.f1.f1.f1 x.f1.f2.f0 A5 c5 x.f1.f2.f1 true _ (cB_ HEC.out.1 HQ9.out.below) HEC.out.2.1 (cB_ HEC.out.2.2.1 HQ9.out.below) HEC.out.2.2.2 HFT.out).mono ?_); rintro r9 w9 ⟨rfl, hb⟩; refine ⟨_, rfl, ?_⟩; have HQ10 := aM (HQ9.out.later hb); have HY10 := aM (bB HY9.out hb); clear hb; clear hy0 hfy0 hy1 hfy1 hy2 hfy2 hy3 hfy3 hy4 hfy4 hy5 hfy5 hy6 hfy6 HD9 HQ9 HY9 HD8 HY8; have hy0 := (bC HY10.out 0).trans (rfl : _ = some (Value.int .u8 x.f0)); have hy1 := (bC HY10.out 1).trans (rfl : _ = some (Value.int .i64 x.f1.f0)); have hy2 := (bC HY10.out 2).trans (rfl : _ = some (Value.string x.f1.f1.f0)); have hy3 := (bC HY10.out 3).trans (rfl : _ = some (Value.slice A3 x.f1.f1.f1.length c3)); have hy4 := (bC HY10.out 4).trans (rfl : _ = some (Value.string x.f1.f2.f0)); have hy5 := (bC HY10.out 5).trans (rfl : _ = some (Value.slice A5 x.f1.f2.f1.length c5)); have hy6 := (bC HY10.out 6).trans (rfl : _ = some (Value.bool true)))
                | ((with_reducible refine gate_callee (f := 25) rfl ?_); refine goesL_ (some 58) rfl rfl Try.func25 (by kernel_rfl) rfl #[.pointer (some ⟨g, 0, none⟩), actV x.f0 x.f1 A3 c3 A5 c5 true] rfl (by (try simp only [List.map_toArray, List.map_cons, List.map_nil]); first | done | rfl) ?_; (with_reducible refine (does_ok HQ10.out.hist x.f0 HK.out true (EdIn.old (HE.out (fit_le HF.out)) HQ10.out.below (fun k hk hs => absurd hk (Nat.not_lt.2 (HQ10.out.lo k hs)))) HQ10.out.inv (by have := HN.out; omega) HQ10.out.lt).mono ?_); rintro r20 w20 ⟨rfl, hh, ht⟩; refine ⟨_, rfl, ?_⟩; have HQ20 := aM (HQ10.out.step (s' := stepH 9 s x.f0 x.f1) (step_inv HQ10.out.inv (by have := HN.out; omega) x.f0 (fit_le HF.out)) hh ht); have HN20 := aM (show (stepH 9 s x.f0 x.f1).next ≤ (i : Int) + 2 from by have := HN.out; have := step_next (depth := 9) (s := s) x.f0 x.f1; omega); clear hh ht)
                )
              first | rw [e1] | rw [show ((i : Int) + 1) = ((i + 1 : Nat) : Int) by omega]
              go_roundg k1
              case measure => exact Nat.lt_succ_self _
              case rel => exact ⟨i + 1, stepH 9 s x.f0 x.f1, g, bm, O, S, P, A4, A5v, c4, c5v, rfl, rfl, rfl, rfl, ⟨by have := HI.out; omega⟩, ⟨by have := HN.out; have := HI80.out; have := HN20.out; exact ⟨by omega, by omega, by omega⟩⟩, HP, HQ20⟩
            case pos =>
              have d6 : decide ((O.length : Int) < 8) = true := decide_eq_true (by omega)
              have H8 := aM h8
              clear h8
              obtain ⟨ws, hws⟩ : ∃ ws, wasOf (⟨s, g, bm⟩ : Oh) = ws := ⟨_, rfl⟩
              obtain ⟨O2, hO2⟩ : ∃ O2, O ++ [(⟨s, g, bm⟩ : Oh)] = O2 := ⟨_, rfl⟩
              have HWS := aM hws
              have HO2 := aM hO2
              clear hws hO2
              go_wp2_with (first
                | ((with_reducible refine gate_dst (N := 7) rfl ?_); refine box_event ?hg (N := 7) ?hd (cs := #[.int .u8 0, .int .i64 0, .string ⟨#[]⟩, .slice none 0 0, .string ⟨#[]⟩, .slice none 0 0, .bool false]) (t := 36) ?hr ?_; (case hd => rfl); (case hg => rfl); (case hr => first | (go_simp; done) | (go_simp; rfl)); intro g7 hg w8 hbox hb; have HD8 := aM hb; have HY8 := aM hbox; have GD8 := aM (Nat.le_of_eq hg.symm); clear hb hbox hg; clear hc0 hc1 hc2 hc3 hc4 hc5 hc6; have hy0 := (bC HY8.out 0).trans (rfl : _ = some (Value.int .u8 0)); have hy1 := (bC HY8.out 1).trans (rfl : _ = some (Value.int .i64 0)); have hy2 := (bC HY8.out 2).trans (rfl : _ = some (Value.string ⟨#[]⟩)); have hy3 := (bC HY8.out 3).trans (rfl : _ = some (Value.slice none 0 0)); have hy4 := (bC HY8.out 4).trans (rfl : _ = some (Value.string ⟨#[]⟩)); have hy5 := (bC HY8.out 5).trans (rfl : _ = some (Value.slice none 0 0)); have hy6 := (bC HY8.out 6).trans (rfl : _ = some (Value.bool false)); have hfy0 := bF HY8.out 0; have hfy1 := bF HY8.out 1; have hfy2 := bF HY8.out 2; have hfy3 := bF HY8.out 3; have hfy4 := bF HY8.out 4; have hfy5 := bF HY8.out 5; have hfy6 := bF HY8.out 6)
                | ((with_reducible refine gate_callee (f := 11) rfl ?_); refine goesL_ (some 30) rfl rfl Try.func11 (by kernel_rfl) rfl #[.agg #[.int .i64 x.f1.f0, .string x.f1.f1.f0, .slice A3 x.f1.f1.f1.length c3, .string x.f1.f2.f0, .slice A5 x.f1.f2.f1.length c5]] rfl (by (try simp only [List.map_toArray, List.map_cons, List.map_nil]); first | done | rfl) ?_; have HD9 := aM (set7 HD8.out GD8.out (.int .u8 x.f0) (.int .i64 x.f1.f0) (.string x.f1.f1.f0) (.slice A3 x.f1.f1.f1.length c3) (.string x.f1.f2.f0) (.slice A5 x.f1.f2.f1.length c5) (.bool true)); have HQ9 := aM (HQ.out.later HD9.out); have HY9 := aM (blks7 HY8.out (.int .u8 x.f0) (.int .i64 x.f1.f0) (.string x.f1.f1.f0) (.slice A3 x.f1.f1.f1.length c3) (.string x.f1.f2.f0) (.slice A5 x.f1.f2.f1.length c5) (.bool true)); (with_reducible refine (bureaulaw07_Fits.calls x.f1.f0 x.f1.f1.f0 A3 c3 x.f1.f1.f1 x.f1.f2.f0 A5 c5 x.f1.f2.f1 true _ (cB_ HEC.out.1 HQ9.out.below) HEC.out.2.1 (cB_ HEC.out.2.2.1 HQ9.out.below) HEC.out.2.2.2 HFT.out).mono ?_); rintro r9 w9 ⟨rfl, hb⟩; refine ⟨_, rfl, ?_⟩; have HQ10 := aM (HQ9.out.later hb); have HY10 := aM (bB HY9.out hb); clear hb; clear hy0 hfy0 hy1 hfy1 hy2 hfy2 hy3 hfy3 hy4 hfy4 hy5 hfy5 hy6 hfy6 HD9 HQ9 HY9 HD8 HY8; have hy0 := (bC HY10.out 0).trans (rfl : _ = some (Value.int .u8 x.f0)); have hy1 := (bC HY10.out 1).trans (rfl : _ = some (Value.int .i64 x.f1.f0)); have hy2 := (bC HY10.out 2).trans (rfl : _ = some (Value.string x.f1.f1.f0)); have hy3 := (bC HY10.out 3).trans (rfl : _ = some (Value.slice A3 x.f1.f1.f1.length c3)); have hy4 := (bC HY10.out 4).trans (rfl : _ = some (Value.string x.f1.f2.f0)); have hy5 := (bC HY10.out 5).trans (rfl : _ = some (Value.slice A5 x.f1.f2.f1.length c5)); have hy6 := (bC HY10.out 6).trans (rfl : _ = some (Value.bool true)))
                | ((with_reducible refine gate_builtin (b := .append) (xs := #[.tmp 39, .tmp 41]) rfl ?_); at_builtin; refine Kd.N_append (Kd.raw 1) (w0 := w) w.heap.size rfl (.tmp 39) (.tmp 41) 61 24 (.pointer none) 8 rfl Try.underlying61 infoP rfl (by decide) (by omega) (.slice A4 O.length c4) (O.map ptrOf) (ptrOf (⟨s, g, bm⟩ : Oh)) [.pointer (some ⟨g, 0, none⟩)] (fun k => ¬ P k) (fun _ => False) rfl (by first | (go_simp; done) | (go_simp; rfl)) (ptr_fk _ _ g) (fun k hk => hk.elim) (fun k hk hp => by have := HQ10.out.lt k (HQ10.out.pS k hp); omega) HQ10.out.row4 HQ10.out.below HQ10.out.below.size (by have := H8.out; rw [List.length_map]; omega) ?_; intro v11 w11 ho hb hg hat; have HQ11 := aM (HQ10.out.push4 HP.out ho hb hg hat); have HY11 := aM ((turn_grown hg).blk HY10.out (fun e => by have := HQ.out.lt g7 (HQ.out.own4 g7 e); have := GD8.out; omega)); obtain ⟨A11, c11, e11⟩ := Kd.N_slice ho; rw [show (O.map ptrOf ++ [ptrOf (⟨s, g, bm⟩ : Oh)]).length = O2.length by rw [← HO2.out]; simp] at e11; subst e11; clear ho hb hg hat; clear hy0 hy1 hy2 hy3 hy4 hy5 hy6)
                | ((with_reducible refine gate_callee (f := 21) rfl ?_); refine goesL_ (some 45) rfl rfl Try.func21 (by kernel_rfl) rfl #[.pointer (some ⟨g, 0, none⟩)] rfl (by (try simp only [List.map_toArray, List.map_cons, List.map_nil]); first | done | rfl) ?_; (with_reducible refine (states_ok HQ11.out.hist HQ11.out.inv.wf).mono ?_); rintro r12 w12 ⟨v12, rfl, ho, hb⟩; obtain ⟨A12, c12, rfl⟩ := Kd.R_slice ho; refine ⟨_, rfl, ?_⟩; have HQ12 := aM (HQ11.out.later hb); have HO12 := aM ho; have HB12 := aM hb; clear ho hb)
                | ((with_reducible refine gate_callee (f := 19) rfl ?_); refine goesL_ (some 47) rfl rfl Try.func19 (by kernel_rfl) rfl #[.pointer (some ⟨g, 0, none⟩)] rfl (by (try simp only [List.map_toArray, List.map_cons, List.map_nil]); first | done | rfl) ?_; (with_reducible refine (now_ok HQ12.out.hist).mono ?_); rintro r13 w13 ⟨rfl, hw⟩; subst hw; refine ⟨_, rfl, ?_⟩)
                | ((with_reducible refine gate_builtin (b := .append) (xs := #[.tmp 45, .tmp 48]) rfl ?_); at_builtin; refine Kd.R_append kI (w0 := w11) w11.heap.size rfl (.tmp 45) (.tmp 48) 50 3 (.int .i64 0) 8 rfl Try.underlying50 info3 rfl (by decide) (by omega) (.slice A12 (statesL s.L).length c12) (statesL s.L) s.now [.int .i64 s.now] (fun _ => True) (fun _ => False) rfl (by first | (go_simp; done) | (go_simp; rfl)) rfl (fun _ hk => hk.elim) (fun _ _ => trivial) HO12.out HB12.out HB12.out.size (by have := HQ11.out.inv.wf.len; unfold statesL; rw [List.length_map]; omega) ?_; intro v13 w13 ho hb hg hat; rw [show statesL s.L ++ [s.now] = ws from HWS.out] at ho; obtain ⟨A13, c13, rfl⟩ := Kd.R_slice ho; have HQ13 := aM (HQ11.out.later hb); have HFK13 := aM (int_fk ho); have HB13 := aM hb; clear ho hb hg hat)
                | ((with_reducible refine gate_builtin (b := .append) (xs := #[.tmp 43, .tmp 50]) rfl ?_); at_builtin; refine Kd.N_append kII (w0 := w) w.heap.size rfl (.tmp 43) (.tmp 50) 62 50 (.slice none 0 0) 24 rfl Try.underlying62 infoI rfl (by decide) (by omega) (.slice A5v O.length c5v) (O.map wasOf) ws [.slice A13 ws.length c13] (fun k => ¬ P k ∧ ¬ (Value.slice A11 O2.length c11).ownBlock = some k) (fun k => True ∧ w11.heap.size ≤ k) rfl (by first | (go_simp; done) | (go_simp; rfl)) HFK13.out (fun k hk => ⟨⟨fun hp => by have := HQ11.out.lt k (HQ11.out.pS k hp); have := hk.2; omega, fun e => by have := HQ11.out.lt k (HQ11.out.own4 k e); have := hk.2; omega⟩, fun e => by have := HQ11.out.lt k (HQ11.out.own5 k e.symm); have := hk.2; omega⟩) (fun k hk => ⟨fun hp => by have := HQ13.out.lt k (HQ13.out.pS k hp); omega, fun e => by have := HQ13.out.lt k (HQ13.out.own4 k e); omega⟩) HQ13.out.row5 HQ13.out.below HQ13.out.below.size (by have := H8.out; rw [List.length_map]; omega) ?_; intro v14 w14 ho hb hg hat; have HQ14 := aM (HQ13.out.push5 HP.out ho hb hg hat); have HY14 := aM ((turn_grown hg).blk (bB HY11.out HB13.out) (fun e => by have := HQ.out.lt g7 (HQ.out.own5 g7 e); have := GD8.out; omega)); obtain ⟨A14, c14, e14⟩ := Kd.N_slice ho; rw [show (O.map wasOf ++ [ws]).length = O2.length by rw [← HO2.out]; simp] at e14; subst e14; clear ho hb hg hat)
                | ((with_reducible refine gate_callee (f := 29) rfl ?_); refine goesL_ (some 53) rfl rfl Try.func29 (by kernel_rfl) rfl #[.pointer (some ⟨g, 0, none⟩)] rfl (by (try simp only [List.map_toArray, List.map_cons, List.map_nil]); first | done | rfl) ?_; (with_reducible refine (copy_ok HQ14.out.hist HQ14.out.inv.wf).mono ?_); rintro r15 w15 ⟨g', bm', rfl, hh, h1, h2, hb⟩; refine ⟨_, rfl, ?_⟩; have HQ15 := aM (HO2.out ▸ HQ14.out.copy HP.out hh h1 h2 hb); have HY15 := aM (bB HY14.out hb); have HP15 := aM (show ∀ o ∈ O2, (P o.g ∨ o.g = g' ∨ o.g = bm') ∧ (P o.bm ∨ o.bm = g' ∨ o.bm = bm') from fun o ho => by rw [← HO2.out] at ho; rcases List.mem_append.1 ho with ho | ho; exact ⟨.inl (HP.out o ho).1, .inl (HP.out o ho).2⟩; obtain rfl := List.mem_singleton.1 ho; exact ⟨.inl HQ.out.pg.1, .inl HQ.out.pg.2⟩); clear hh h1 h2 hb; have hy0 := (bC HY15.out 0).trans (rfl : _ = some (Value.int .u8 x.f0)); have hy1 := (bC HY15.out 1).trans (rfl : _ = some (Value.int .i64 x.f1.f0)); have hy2 := (bC HY15.out 2).trans (rfl : _ = some (Value.string x.f1.f1.f0)); have hy3 := (bC HY15.out 3).trans (rfl : _ = some (Value.slice A3 x.f1.f1.f1.length c3)); have hy4 := (bC HY15.out 4).trans (rfl : _ = some (Value.string x.f1.f2.f0)); have hy5 := (bC HY15.out 5).trans (rfl : _ = some (Value.slice A5 x.f1.f2.f1.length c5)); have hy6 := (bC HY15.out 6).trans (rfl : _ = some (Value.bool true)))
                | ((with_reducible refine gate_callee (f := 25) rfl ?_); refine goesL_ (some 58) rfl rfl Try.func25 (by kernel_rfl) rfl #[.pointer (some ⟨g', 0, none⟩), actV x.f0 x.f1 A3 c3 A5 c5 true] rfl (by (try simp only [List.map_toArray, List.map_cons, List.map_nil]); first | done | rfl) ?_; (with_reducible refine (does_ok HQ15.out.hist x.f0 HK.out true (EdIn.old (HE.out (fit_le HF.out)) HQ15.out.below (fun k hk hs => absurd hk (Nat.not_lt.2 (HQ15.out.lo k hs)))) HQ15.out.inv (by have := HN.out; omega) HQ15.out.lt).mono ?_); rintro r20 w20 ⟨rfl, hh, ht⟩; refine ⟨_, rfl, ?_⟩; have HQ20 := aM (HQ15.out.step (s' := stepH 9 s x.f0 x.f1) (step_inv HQ15.out.inv (by have := HN.out; omega) x.f0 (fit_le HF.out)) hh ht); have HN20 := aM (show (stepH 9 s x.f0 x.f1).next ≤ (i : Int) + 2 from by have := HN.out; have := step_next (depth := 9) (s := s) x.f0 x.f1; omega); clear hh ht)
                )
              first | rw [e1] | rw [show ((i : Int) + 1) = ((i + 1 : Nat) : Int) by omega]
              go_roundg k1
              case measure => exact Nat.lt_succ_self _
              case rel => exact ⟨i + 1, stepH 9 s x.f0 x.f1, g', bm', O2, _, _, A11, A14, c11, c14, rfl, rfl, rfl, rfl, ⟨by have := HI.out; omega⟩, ⟨by have := HN.out; have := HI80.out; have := HN20.out; have := H8.out; refine ⟨by omega, by omega, ?_⟩; rw [← HO2.out, List.length_append, List.length_singleton]; omega⟩, HP15, ⟨by have h := HQ20.out; rw [← HWS.out] at h; rw [show O2.map ptrOf = O.map ptrOf ++ [ptrOf (⟨s, g, bm⟩ : Oh)] by rw [← HO2.out, List.map_append]; rfl, show O2.map wasOf = O.map wasOf ++ [wasOf (⟨s, g, bm⟩ : Oh)] by rw [← HO2.out, List.map_append]; rfl]; exact h⟩⟩
      · have d1 : decide ((i : Int) < (l.length : Int)) = true := decide_eq_true (by omega)
        have d2 : decide ((i : Int) < 80) = false := decide_eq_false (by omega)
        have d3 : ((i : Int) < 80) = False := eq_false (by omega)
        have d3n : (i < 80) = False := eq_false b2
        go_wp2
        go_loopg [61] O.length (fun kq v61 w' => ∃ j : Nat, v61 = .int .i64 (j : Int) ∧ Aside0 (j + kq = O.length) ∧ Aside0 (Kq w O s g bm S P (.slice A4 O.length c4) (.slice A5v O.length c5v) (O.map ptrOf) (O.map wasOf) w'))
        case atStart => exact ⟨0, rfl, ⟨by omega⟩, HQ⟩
        case round =>
          clear HQ
          obtain ⟨j, rfl, HJ, HQ⟩ := hrel
          cases gk with
          | zero =>
            have f1 : decide ((j : Int) < (O.length : Int)) = false := decide_eq_false (by have := HJ.out; omega)
            have f2 : ((j : Int) < (O.length : Int)) = False := eq_false (by have := HJ.out; omega)
            have f3 : (j < O.length) = False := eq_false (by have := HJ.out; omega)
            go_wp2
            go_ret
            exact ⟨rfl, HQ.out.below⟩
          | succ k1 =>
            have hj : j < O.length := by have := HJ.out; omega
            obtain ⟨adp, e9, hp⟩ := pget HQ.out hj
            obtain ⟨adw, Aw, cw, e8, hw0, hlw, hCw⟩ := wget HQ.out hj
            subst e9
            subst e8
            have HO := aM (HQ.out.old _ (List.getElem_mem hj))
            generalize O[j] = o at hp hw0 hlw hCw HO
            obtain ⟨ws, hws⟩ : ∃ ws, wasOf o = ws := ⟨_, rfl⟩
            rw [hws] at hw0 hlw hCw
            have HWS := aM hws
            clear hws
            have HWC := aM (And.intro hlw hCw)
            have HCC := aM (And.intro (cellW (below_drew1 (Below.refl _ _)) hp) (cellW (below_drew1 (Below.refl _ _)) hw0))
            clear hp hw0 hlw hCw
            have f1 : decide ((j : Int) < (O.length : Int)) = true := decide_eq_true (by omega)
            have f2 : ((j : Int) < (O.length : Int)) = True := eq_true (by omega)
            have f3 : (j < O.length) = True := eq_true hj
            have f4 : (0 ≤ (j : Int)) = True := eq_true (by omega)
            have f5 : wrap64 ((j : Int) + 1) = ((j + 1 : Nat) : Int) := by have := HN.out; unfold wrap64; omega
            go_wp2
            refine start_ (n := 18) (S := fun W => W.cell? (adp.add j) = some (.pointer (some ⟨o.g, 0, none⟩)) ∧ W.cell? (adw.add j) = some (.slice Aw ws.length cw)) (ds := []) #[tF,tF,tF,tF,tF,tF,tF,tF,tF,tF,tF,tF,tF,tF,tF,tF,tF,tF] (by kernel_rfl) rfl rfl HCC.out (fun hHeld => ?_)
            have HQ2 := aM (HQ.out.later (below_drew1 (Below.refl _ _)))
            have HO2 := aM (HO.out.1.below (below_drew1 (Below.refl _ _)))
            have HWC2 := aM (cB_ HWC.out.2 (below_drew1 (Below.refl _ _)))
            generalize World.drew _ = w2 at HQ2 HO2 HWC2 HCC hHeld ⊢
            refine sv 0 64 #[tT,tF,tF,tF,tF,tF,tF,tF,tF,tF,tF,tF,tF,tF,tF,tF,tF,tF] ?_
            refine sv 1 65 #[tT,tT,tF,tF,tF,tF,tF,tF,tF,tF,tF,tF,tF,tF,tF,tF,tF,tF] ?_
            refine sv 2 66 #[tT,tT,tT,tF,tF,tF,tF,tF,tF,tF,tF,tF,tF,tF,tF,tF,tF,tF] ?_
            refine sv 5 69 #[tT,tT,tT,tF,tF,tT,tF,tF,tF,tF,tF,tF,tF,tF,tF,tF,tF,tF] ?_
            refine sv 6 70 #[tT,tT,tT,tF,tF,tT,tT,tF,tF,tF,tF,tF,tF,tF,tF,tF,tF,tF] ?_
            refine sv 7 71 #[tT,tT,tT,tF,tF,tT,tT,tT,tF,tF,tF,tF,tF,tF,tF,tF,tF,tF] ?_
            refine sv 12 76 #[tT,tT,tT,tF,tF,tT,tT,tT,tF,tF,tF,tF,tT,tF,tF,tF,tF,tF] ?_
            refine sv 13 77 #[tT,tT,tT,tF,tF,tT,tT,tT,tF,tF,tF,tF,tT,tT,tF,tF,tF,tF] ?_
            refine sv 14 78 #[tT,tT,tT,tF,tF,tT,tT,tT,tF,tF,tF,tF,tT,tT,tT,tF,tF,tF] ?_
            refine st 3 67 #[tT,tT,tT,tT,tF,tT,tT,tT,tF,tF,tF,tF,tT,tT,tT,tF,tF,tF] hHeld ?_
            refine st 8 72 #[tT,tT,tT,tT,tF,tT,tT,tT,tT,tF,tF,tF,tT,tT,tT,tF,tF,tF] hHeld ?_
            refine st 15 79 #[tT,tT,tT,tT,tF,tT,tT,tT,tT,tF,tF,tF,tT,tT,tT,tT,tF,tF] hHeld ?_
            refine one_ (i := 4) (N := some 68) #[tT,tT,tT,tT,tT,tT,tT,tT,tT,tF,tF,tF,tT,tT,tT,tT,tF,tF] rfl rfl (by kernel_rfl) (by decide) (fun K hK => ?_)
            refine goes_ Try.func21 (by kernel_rfl) rfl #[.pointer (some ⟨o.g, 0, none⟩)] (by rfl) rfl rfl (by (try simp only [List.map_toArray, List.map_cons, List.map_nil]); first | done | rfl) ?_
            (with_reducible refine (states_ok HO2.out HO.out.2.wf).mono ?_)
            rintro r3 w3 ⟨v3, rfl, ho, hb⟩
            obtain ⟨A3, c3, rfl⟩ := Kd.R_slice ho
            have HR3 := aM ho
            have HB3 := aM hb
            have HO3 := aM (HO2.out.below hb)
            have HCC3 := aM (And.intro (cellW hb HCC.out.1) (cellW hb HCC.out.2))
            clear ho hb
            refine ⟨_, rfl, hK.out _ _ HCC3.out (fun hHeld => ?_)⟩
            clear hK K
            refine norm_ (a' := ?_) ?_ ?_
            rotate_left
            · simp only [Act.put, List.setIfInBounds_toArray, List.set_cons_zero, List.set_cons_succ, i64_w, i32_w]
              rfl
            refine one_ (i := 9) (N := some 73) #[tT,tT,tT,tT,tT,tT,tT,tT,tT,tT,tF,tF,tT,tT,tT,tT,tF,tF] rfl rfl (by kernel_rfl) (by decide) (fun K hK => ?_)
            refine goes_ Try.func19 (by kernel_rfl) rfl #[.pointer (some ⟨o.g, 0, none⟩)] (by rfl) rfl rfl (by (try simp only [List.map_toArray, List.map_cons, List.map_nil]); first | done | rfl) ?_
            (with_reducible refine (now_ok HO3.out).mono ?_)
            rintro r4 w4 ⟨rfl, hw⟩
            subst hw
            refine ⟨_, rfl, hK.out _ _ HCC3.out (fun hHeld => ?_)⟩
            clear hK K
            refine norm_ (a' := ?_) ?_ ?_
            rotate_left
            · simp only [Act.put, List.setIfInBounds_toArray, List.set_cons_zero, List.set_cons_succ, i64_w, i32_w]
              rfl
            refine one_ (i := 10) (N := some 74) #[tT,tT,tT,tT,tT,tT,tT,tT,tT,tT,tT,tF,tT,tT,tT,tT,tF,tF] rfl rfl (by kernel_rfl) (by decide) (fun K hK => ?_)
            refine value_ (v := .slice (some ⟨w4.heap.size, 0, none⟩) 1 1) (w1 := w4.alloc (.cells #[.int .i64 o.s.now] 3)) (by rfl) rfl ?_ ?_
            · first | (go_simp; done) | (go_simp; rfl)
            refine hK.out _ _ ⟨cellW (below_alloc (Below.refl _ _) _) HCC3.out.1, cellW (below_alloc (Below.refl _ _) _) HCC3.out.2⟩ (fun hHeld => ?_)
            clear hK K
            refine norm_ (a' := ?_) ?_ ?_
            rotate_left
            · simp only [Act.put, List.setIfInBounds_toArray, List.set_cons_zero, List.set_cons_succ, i64_w, i32_w]
              rfl
            refine one_ (i := 11) (N := some 75) #[tT,tT,tT,tT,tT,tT,tT,tT,tT,tT,tT,tT,tT,tT,tT,tT,tF,tF] rfl rfl (by kernel_rfl) (by decide) (fun K hK => ?_)
            refine Kd.R_append_step kI (w0 := w2) w2.heap.size (by rfl) (.tmp 68) (.tmp 74) 50 3 (.int .i64 0) 8 rfl Try.underlying50 info3 rfl (by decide) (by omega) (.slice A3 (statesL o.s.L).length c3) (statesL o.s.L) o.s.now [.int .i64 o.s.now] (fun _ => True) (fun _ => False) rfl rfl rfl (fun _ hk => hk.elim) (fun _ _ => trivial) HR3.out HB3.out HB3.out.size (by have := HO.out.2.wf.len; unfold statesL; rw [List.length_map]; omega) ?_
            intro v5 w5 ho hb hg hat
            rw [show statesL o.s.L ++ [o.s.now] = ws from HWS.out] at ho
            obtain ⟨A5, c5, rfl⟩ := Kd.R_slice ho
            have HR5 := aM ho
            have HB5 := aM hb
            have HCC5 := aM (And.intro (cellW hb HCC.out.1) (cellW hb HCC.out.2))
            clear ho hb hg hat
            refine hK.out _ _ HCC5.out (fun hHeld => ?_)
            clear hK K
            refine norm_ (a' := ?_) ?_ ?_
            rotate_left
            · show Act.put _ (some 75) _ = _
              simp only [Act.put, List.setIfInBounds_toArray, List.set_cons_zero, List.set_cons_succ, i64_w, i32_w]
              rfl
            refine one_ (i := 16) (N := some 80) #[tT,tT,tT,tT,tT,tT,tT,tT,tT,tT,tT,tT,tT,tT,tT,tT,tT,tF] rfl rfl (by kernel_rfl) (by decide) (fun K hK => ?_)
            refine goes_ Try.func20 (by kernel_rfl) rfl #[.slice A5 ws.length c5, .slice Aw ws.length cw] (by rfl) rfl rfl (by (try simp only [List.map_toArray, List.map_cons, List.map_nil]); first | done | rfl) ?_
            have hlw : ws.length ≤ 4096 := by have := HO.out.2.wf.len; rw [← HWS.out, List.length_append, List.length_singleton]; unfold statesL; rw [List.length_map]; omega
            obtain ⟨kk, hkk⟩ := (ints_ev ws hlw).rounds
            (with_reducible refine (bureauref01_Ints.calls kk A5 c5 ws Aw cw ws true _ (rR HR5.out).2.2 (rR HR5.out).2.1 (cB_ HWC2.out HB5.out) HWC.out.1 hkk).mono ?_)
            rintro r6 w6 ⟨rfl, nd, rfl⟩
            have HB6 := aM (pw_below_drewN HB5.out nd)
            generalize w5.drewN nd = w6 at HB6 ⊢
            refine ⟨_, rfl, hK.out _ _ ⟨cellW HB6.out HCC.out.1, cellW HB6.out HCC.out.2⟩ (fun hHeld => ?_)⟩
            clear hK K
            refine norm_ (a' := ?_) ?_ ?_
            rotate_left
            · simp only [Act.put, List.setIfInBounds_toArray, List.set_cons_zero, List.set_cons_succ, i64_w, i32_w]
              rfl
            refine sv 17 81 #[tT,tT,tT,tT,tT,tT,tT,tT,tT,tT,tT,tT,tT,tT,tT,tT,tT,tT] ?_
            refine done_ (by kernel_rfl) ?_
            clear hHeld
            have HQ6 := aM (HQ2.out.later HB6.out)
            go_wp2
            first | rw [f5] | rw [show ((j : Int) + 1) = ((j + 1 : Nat) : Int) by omega]
            go_roundg k1
            case measure => exact Nat.lt_succ_self _
            case rel => exact ⟨j + 1, rfl, ⟨by have := HJ.out; omega⟩, HQ6⟩
    · have d1 : decide ((i : Int) < (l.length : Int)) = false := decide_eq_false (by omega)
      have d2 : ((i : Int) < (l.length : Int)) = False := eq_false (by omega)
      have d2n : (i < l.length) = False := eq_false b1
      go_wp2
      go_loopg [61] O.length (fun kq v61 w' => ∃ j : Nat, v61 = .int .i64 (j : Int) ∧ Aside0 (j + kq = O.length) ∧ Aside0 (Kq w O s g bm S P (.slice A4 O.length c4) (.slice A5v O.length c5v) (O.map ptrOf) (O.map wasOf) w'))
      case atStart => exact ⟨0, rfl, ⟨by omega⟩, HQ⟩
      case round =>
        clear HQ
        obtain ⟨j, rfl, HJ, HQ⟩ := hrel
        cases gk with
        | zero =>
          have f1 : decide ((j : Int) < (O.length : Int)) = false := decide_eq_false (by have := HJ.out; omega)
          have f2 : ((j : Int) < (O.length : Int)) = False := eq_false (by have := HJ.out; omega)
          have f3 : (j < O.length) = False := eq_false (by have := HJ.out; omega)
          go_wp2
          go_ret
          exact ⟨rfl, HQ.out.below⟩
        | succ k1 =>
          have hj : j < O.length := by have := HJ.out; omega
          obtain ⟨adp, e9, hp⟩ := pget HQ.out hj
          obtain ⟨adw, Aw, cw, e8, hw0, hlw, hCw⟩ := wget HQ.out hj
          subst e9
          subst e8
          have HO := aM (HQ.out.old _ (List.getElem_mem hj))
          generalize O[j] = o at hp hw0 hlw hCw HO
          obtain ⟨ws, hws⟩ : ∃ ws, wasOf o = ws := ⟨_, rfl⟩
          rw [hws] at hw0 hlw hCw
          have HWS := aM hws
          clear hws
          have HWC := aM (And.intro hlw hCw)
          have HCC := aM (And.intro (cellW (below_drew1 (Below.refl _ _)) hp) (cellW (below_drew1 (Below.refl _ _)) hw0))
          clear hp hw0 hlw hCw
          have f1 : decide ((j : Int) < (O.length : Int)) = true := decide_eq_true (by omega)
          have f2 : ((j : Int) < (O.length : Int)) = True := eq_true (by omega)
          have f3 : (j < O.length) = True := eq_true hj
          have f4 : (0 ≤ (j : Int)) = True := eq_true (by omega)
          have f5 : wrap64 ((j : Int) + 1) = ((j + 1 : Nat) : Int) := by have := HN.out; unfold wrap64; omega
          go_wp2
          refine start_ (n := 18) (S := fun W => W.cell? (adp.add j) = some (.pointer (some ⟨o.g, 0, none⟩)) ∧ W.cell? (adw.add j) = some (.slice Aw ws.length cw)) (ds := []) #[tF,tF,tF,tF,tF,tF,tF,tF,tF,tF,tF,tF,tF,tF,tF,tF,tF,tF] (by kernel_rfl) rfl rfl HCC.out (fun hHeld => ?_)
          have HQ2 := aM (HQ.out.later (below_drew1 (Below.refl _ _)))
          have HO2 := aM (HO.out.1.below (below_drew1 (Below.refl _ _)))
          have HWC2 := aM (cB_ HWC.out.2 (below_drew1 (Below.refl _ _)))
          generalize World.drew _ = w2 at HQ2 HO2 HWC2 HCC hHeld ⊢
          refine sv 0 64 #[tT,tF,tF,tF,tF,tF,tF,tF,tF,tF,tF,tF,tF,tF,tF,tF,tF,tF] ?_
          refine sv 1 65 #[tT,tT,tF,tF,tF,tF,tF,tF,tF,tF,tF,tF,tF,tF,tF,tF,tF,tF] ?_
          refine sv 2 66 #[tT,tT,tT,tF,tF,tF,tF,tF,tF,tF,tF,tF,tF,tF,tF,tF,tF,tF] ?_
          refine sv 5 69 #[tT,tT,tT,tF,tF,tT,tF,tF,tF,tF,tF,tF,tF,tF,tF,tF,tF,tF] ?_
          refine sv 6 70 #[tT,tT,tT,tF,tF,tT,tT,tF,tF,tF,tF,tF,tF,tF,tF,tF,tF,tF] ?_
          refine sv 7 71 #[tT,tT,tT,tF,tF,tT,tT,tT,tF,tF,tF,tF,tF,tF,tF,tF,tF,tF] ?_
          refine sv 12 76 #[tT,tT,tT,tF,tF,tT,tT,tT,tF,tF,tF,tF,tT,tF,tF,tF,tF,tF] ?_
          refine sv 13 77 #[tT,tT,tT,tF,tF,tT,tT,tT,tF,tF,tF,tF,tT,tT,tF,tF,tF,tF] ?_
          refine sv 14 78 #[tT,tT,tT,tF,tF,tT,tT,tT,tF,tF,tF,tF,tT,tT,tT,tF,tF,tF] ?_
          refine st 3 67 #[tT,tT,tT,tT,tF,tT,tT,tT,tF,tF,tF,tF,tT,tT,tT,tF,tF,tF] hHeld ?_
          refine st 8 72 #[tT,tT,tT,tT,tF,tT,tT,tT,tT,tF,tF,tF,tT,tT,tT,tF,tF,tF] hHeld ?_
          refine st 15 79 #[tT,tT,tT,tT,tF,tT,tT,tT,tT,tF,tF,tF,tT,tT,tT,tT,tF,tF] hHeld ?_
          refine one_ (i := 4) (N := some 68) #[tT,tT,tT,tT,tT,tT,tT,tT,tT,tF,tF,tF,tT,tT,tT,tT,tF,tF] rfl rfl (by kernel_rfl) (by decide) (fun K hK => ?_)
          refine goes_ Try.func21 (by kernel_rfl) rfl #[.pointer (some ⟨o.g, 0, none⟩)] (by rfl) rfl rfl (by (try simp only [List.map_toArray, List.map_cons, List.map_nil]); first | done | rfl) ?_
          (with_reducible refine (states_ok HO2.out HO.out.2.wf).mono ?_)
          rintro r3 w3 ⟨v3, rfl, ho, hb⟩
          obtain ⟨A3, c3, rfl⟩ := Kd.R_slice ho
          have HR3 := aM ho
          have HB3 := aM hb
          have HO3 := aM (HO2.out.below hb)
          have HCC3 := aM (And.intro (cellW hb HCC.out.1) (cellW hb HCC.out.2))
          clear ho hb
          refine ⟨_, rfl, hK.out _ _ HCC3.out (fun hHeld => ?_)⟩
          clear hK K
          refine norm_ (a' := ?_) ?_ ?_
          rotate_left
          · simp only [Act.put, List.setIfInBounds_toArray, List.set_cons_zero, List.set_cons_succ, i64_w, i32_w]
            rfl
          refine one_ (i := 9) (N := some 73) #[tT,tT,tT,tT,tT,tT,tT,tT,tT,tT,tF,tF,tT,tT,tT,tT,tF,tF] rfl rfl (by kernel_rfl) (by decide) (fun K hK => ?_)
          refine goes_ Try.func19 (by kernel_rfl) rfl #[.pointer (some ⟨o.g, 0, none⟩)] (by rfl) rfl rfl (by (try simp only [List.map_toArray, List.map_cons, List.map_nil]); first | done | rfl) ?_
          (with_reducible refine (now_ok HO3.out).mono ?_)
          rintro r4 w4 ⟨rfl, hw⟩
          subst hw
          refine ⟨_, rfl, hK.out _ _ HCC3.out (fun hHeld => ?_)⟩
          clear hK K
          refine norm_ (a' := ?_) ?_ ?_
          rotate_left
          · simp only [Act.put, List.setIfInBounds_toArray, List.set_cons_zero, List.set_cons_succ, i64_w, i32_w]
            rfl
          refine one_ (i := 10) (N := some 74) #[tT,tT,tT,tT,tT,tT,tT,tT,tT,tT,tT,tF,tT,tT,tT,tT,tF,tF] rfl rfl (by kernel_rfl) (by decide) (fun K hK => ?_)
          refine value_ (v := .slice (some ⟨w4.heap.size, 0, none⟩) 1 1) (w1 := w4.alloc (.cells #[.int .i64 o.s.now] 3)) (by rfl) rfl ?_ ?_
          · first | (go_simp; done) | (go_simp; rfl)
          refine hK.out _ _ ⟨cellW (below_alloc (Below.refl _ _) _) HCC3.out.1, cellW (below_alloc (Below.refl _ _) _) HCC3.out.2⟩ (fun hHeld => ?_)
          clear hK K
          refine norm_ (a' := ?_) ?_ ?_
          rotate_left
          · simp only [Act.put, List.setIfInBounds_toArray, List.set_cons_zero, List.set_cons_succ, i64_w, i32_w]
            rfl
          refine one_ (i := 11) (N := some 75) #[tT,tT,tT,tT,tT,tT,tT,tT,tT,tT,tT,tT,tT,tT,tT,tT,tF,tF] rfl rfl (by kernel_rfl) (by decide) (fun K hK => ?_)
          refine Kd.R_append_step kI (w0 := w2) w2.heap.size (by rfl) (.tmp 68) (.tmp 74) 50 3 (.int .i64 0) 8 rfl Try.underlying50 info3 rfl (by decide) (by omega) (.slice A3 (statesL o.s.L).length c3) (statesL o.s.L) o.s.now [.int .i64 o.s.now] (fun _ => True) (fun _ => False) rfl rfl rfl (fun _ hk => hk.elim) (fun _ _ => trivial) HR3.out HB3.out HB3.out.size (by have := HO.out.2.wf.len; unfold statesL; rw [List.length_map]; omega) ?_
          intro v5 w5 ho hb hg hat
          rw [show statesL o.s.L ++ [o.s.now] = ws from HWS.out] at ho
          obtain ⟨A5, c5, rfl⟩ := Kd.R_slice ho
          have HR5 := aM ho
          have HB5 := aM hb
          have HCC5 := aM (And.intro (cellW hb HCC.out.1) (cellW hb HCC.out.2))
          clear ho hb hg hat
          refine hK.out _ _ HCC5.out (fun hHeld => ?_)
          clear hK K
          refine norm_ (a' := ?_) ?_ ?_
          rotate_left
          · show Act.put _ (some 75) _ = _
            simp only [Act.put, List.setIfInBounds_toArray, List.set_cons_zero, List.set_cons_succ, i64_w, i32_w]
            rfl
          refine one_ (i := 16) (N := some 80) #[tT,tT,tT,tT,tT,tT,tT,tT,tT,tT,tT,tT,tT,tT,tT,tT,tT,tF] rfl rfl (by kernel_rfl) (by decide) (fun K hK => ?_)
          refine goes_ Try.func20 (by kernel_rfl) rfl #[.slice A5 ws.length c5, .slice Aw ws.length cw] (by rfl) rfl rfl (by (try simp only [List.map_toArray, List.map_cons, List.map_nil]); first | done | rfl) ?_
          have hlw : ws.length ≤ 4096 := by have := HO.out.2.wf.len; rw [← HWS.out, List.length_append, List.length_singleton]; unfold statesL; rw [List.length_map]; omega
          obtain ⟨kk, hkk⟩ := (ints_ev ws hlw).rounds
          (with_reducible refine (bureauref01_Ints.calls kk A5 c5 ws Aw cw ws true _ (rR HR5.out).2.2 (rR HR5.out).2.1 (cB_ HWC2.out HB5.out) HWC.out.1 hkk).mono ?_)
          rintro r6 w6 ⟨rfl, nd, rfl⟩
          have HB6 := aM (pw_below_drewN HB5.out nd)
          generalize w5.drewN nd = w6 at HB6 ⊢
          refine ⟨_, rfl, hK.out _ _ ⟨cellW HB6.out HCC.out.1, cellW HB6.out HCC.out.2⟩ (fun hHeld => ?_)⟩
          clear hK K
          refine norm_ (a' := ?_) ?_ ?_
          rotate_left
          · simp only [Act.put, List.setIfInBounds_toArray, List.set_cons_zero, List.set_cons_succ, i64_w, i32_w]
            rfl
          refine sv 17 81 #[tT,tT,tT,tT,tT,tT,tT,tT,tT,tT,tT,tT,tT,tT,tT,tT,tT,tT] ?_
          refine done_ (by kernel_rfl) ?_
          clear hHeld
          have HQ6 := aM (HQ2.out.later HB6.out)
          go_wp2
          first | rw [f5] | rw [show ((j : Int) + 1) = ((j + 1 : Nat) : Int) by omega]
          go_roundg k1
          case measure => exact Nat.lt_succ_self _
          case rel => exact ⟨j + 1, rfl, ⟨by have := HJ.out; omega⟩, HQ6⟩
end Go.Proofs.Ytbbgpfjeobdogaa.PB
end

section
namespace Go.Proofs.Ytbbgpfjeobdogaa.PB
open Go.RowKit Go.Proofs.YtbbgpfjeobdogaaW.PrintWords
set_option linter.unusedVariables false
theorem u8_wf {n : Int} (h : (Lit.int .u8 n).wf = true) : 0 ≤ n ∧ n < 256 := by
  simp only [Lit.wf, Bool.and_eq_true, decide_eq_true_eq, show IntKind.u8.min = 0 from rfl, show IntKind.u8.max = 255 from rfl] at h
  omega
end Go.Proofs.Ytbbgpfjeobdogaa.PB
end

section
namespace Go.Proofs.Ytbbgpfjeobdogaa.PB
open Go.RowKit Go.Proofs.YtbbgpfjeobdogaaW.PrintWords
set_option linter.unusedVariables false
theorem HistCopies_pure (l0 : List S36) (w0 : l0.length * 104 ≤ 140737488351232 ∧ ∀ x_ ∈ l0, wf36 x_) : ∃ k, bureaulaw08_HistCopies.f k l0 = some true :=
  ⟨0, if_pos (fun x hx => u8_wf (w0.2 x hx).1)⟩
end Go.Proofs.Ytbbgpfjeobdogaa.PB
end

section
namespace Go.Proofs.Ytbbgpfjeobdogaa.PB
open Go.ChangeShapes Go.WideShapes Go.ChangeAt Go.RowKit Go.Proofs.YtbbgpfjeobdogaaW.PrintWords
open Go.ChangeMaps (open_string shut_string)
set_option linter.unusedVariables false
namespace histCopies
open Go.Proofs.Ytbbgpfjeobdogaa
theorem own : ownKnob Try.prog.godebug = none := by kernel_rfl
theorem laidOut : laidOutB Try.prog = true := by kernel_rfl
set_option maxRecDepth 100000 in
theorem lifted (os : Os) (started : os.Started) (H : Type) (enc : TypeId × Value → H) :
    ReturnsInHanded {} Try.checked os 6 .any (Rows.histCopiesSpec.pre6 enc Try.prog Try.f6 Rows.histCopiesRow.domain false) (Rows.histCopiesSpec.post enc Try.prog Try.f6 false true false false) := by
  refine returnsInHanded_of_change_sized (C := Try.checked) own started (by kernel_rfl) Try.func6
    (ChangeSpec.witness6 (enc := enc) (C := Try.checked) false ⟨#[], #[.slice none 0 0], []⟩ 8 (by kernel_rfl) (by kernel_rfl) (by kernel_rfl) (by kernel_rfl)) ?_
  intro W base args ds gs before hval0 hW hcnd hsz0 _
  have hsz : (DataW.weightsEach Try.prog (Try.f6.params.toList ++ Rows.histCopiesSpec.plain.varTypes Try.prog) (ds ++ gs)).all (· ≤ reachBytes) = true := hsz0
  have hval : ∀ (j : Nat) t v, Try.f6.params[j]? = some t → args[j]? = some v → Value.okWide Try.prog W .any base t v := hval0
  have hW' := hW
  obtain ⟨p, q, hA0, hV, rfl, hfz, hnd⟩ := hW
  have hA : DataW.TrodAll enc Try.prog W 0 (fun _ => true) true Try.f6.params.toList args.toList ds p := hA0
  rw [Try.params6] at hA hval hsz
  obtain ⟨v0, vs0, d0, ds0, p0, q0, hargs, rfl, rfl, h0, r0⟩ := trodAll_cons hA
  obtain ⟨rfl, rfl, rfl⟩ := trodAll_nil r0
  obtain rfl : args = #[v0] := by cases args; simp_all
  obtain ⟨rfl, rfl⟩ := trodVars_none hV
  have hz0 : ∀ n ∈ d0.weights Try.prog 22, n ≤ reachBytes := fun n hn => by have z := List.all_eq_true.1 hsz n (DataW.weights_mem_each (j := 0) rfl rfl n hn); simpa using z
  have kk0 := h0
  have lt0 : ∀ x ∈ p0, x.block < W.heap.size := by obtain ⟨m, hm⟩ := kk0; exact DataW.trod_lt m _ _ _ hm
  obtain ⟨A0, len0, c0, rfl⟩ := okWide_slice Try.underlying22 (hval 0 22 v0 rfl rfl)
  obtain ⟨l0, A0', c0', hcs0, hc0, hr0, w0⟩ : ∃ (l : List S36) (A' : Option Addr) (c' : Nat), (Value.slice A0 len0 c0).cells.toList = [.slice A' l.length c'] ∧ l.length ≤ c' ∧ Kd.C k36 W A' l.length l ∧ (l.length * 104 ≤ 140737488351232 ∧ ∀ x_ ∈ l, wf36 x_) := by
    obtain ⟨fuel, hf⟩ := h0
    obtain ⟨l, ⟨A', c', h1, h2, h3⟩, h4⟩ := (Opn.slice Try.underlying22 (by kernel_rfl) (by kernel_rfl : Try.prog.bytesOf 36 = 104) opn36) H enc _ _ _ fuel _ _ hf hz0
    exact ⟨l, A', c', h1, h2, h3, h4⟩
  simp only [Value.cells, List.cons.injEq, Value.slice.injEq, and_true] at hcs0
  obtain ⟨rfl, rfl, rfl⟩ := hcs0
  clear hA0 hval0 hsz0 hsz
  obtain ⟨k, hk⟩ := HistCopies_pure l0 w0
  refine (bureaulaw08_HistCopies.calls k _ _ l0 true W hr0 hc0 hk).mono fun e W' ⟨he, bel⟩ => ?_
  subst he
  exact ⟨_, rfl, _, _, _, [], _, [], hW', trodAll_mk1 (shut_bool Try.underlying4 _), (trodAll_cons_mk (Below.trod laidOut (by kernel_rfl) (of_decide_eq_true (by kernel_rfl)) kk0 bel lt0) trodAll_mk0), rfl, bel.frame _, fun h => by cases h⟩
theorem over : Rows.histCopiesRow.holds Try.pinned (OpenSpec.ofChange Rows.histCopiesSpec) :=
  OpenClaim.holds_of_wide 6 Try.f6 rfl rfl rfl rfl rfl rfl rfl ⟨rfl, rfl, rfl, rfl, rfl⟩ rfl rfl rfl rfl rfl (by kernel_rfl) Try.func6 (by kernel_rfl)
    (of_decide_eq_true (by kernel_rfl)) (by unfold Func.isWrapper; first | (rw [if_pos (by decide +kernel)]; kernel_rfl) | (rw [if_neg (by decide +kernel)]; exact ⟨rfl, rfl⟩))
    (fun os started H enc _ => lifted os started H enc)
theorem proved : Rows.HistCopiesSaid := over
end histCopies
end Go.Proofs.Ytbbgpfjeobdogaa.PB
namespace Go.Proofs.Ytbbgpfjeobdogaa
theorem histCopies_holds : Rows.HistCopiesSaid := PB.histCopies.proved
#print axioms histCopies_holds
end Go.Proofs.Ytbbgpfjeobdogaa
end
