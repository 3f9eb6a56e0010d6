/- The row of a law out of its contract and its pure theorem. No condition. -/
import Derived.Test.YtbbgpfjeobdogaaRows
import Derived.ProofKit
import Derived.ShutString
import Derived.ChangeOld
import Derived.Carry
import Derived.Test.YtbbgpfjeobdogaaQHistBounds3
section
namespace Go.Proofs.Ytbbgpfjeobdogaa.PB
open Go.RowKit Go.Proofs.YtbbgpfjeobdogaaW.PrintWords Go.Proofs.YtbbgpfjeobdogaaW.PrintLast Go.Proofs.YtbbgpfjeobdogaaW.PrintMore
attribute [local go_sem] max2_int min2_int max_two min_two max_three min_three max_four min_four   
set_option linter.unusedVariables false
set_option linter.unusedSimpArgs false
def bureauref01_Ints.l0 : Nat → List Int → List Int → Int → Option (Bool)
 | 0, _, _, _ => none
 | k + 1, x0, x1, x5 => if x5 < (x0.length : Int) then (if 0 ≤ x5 then (if x5 < (x1.length : Int) then (if (rd x0 x5) = (rd x1 x5) then (bureauref01_Ints.l0 k x0 x1 (wrap64 (x5 + 1))) else (some false)) else (none)) else (none)) else (some true)
def bureauref01_Ints.f (k : Nat) (l0 : List Int) (l1 : List Int) : Option (Bool) := if (l0.length : Int) = (l1.length : Int) then (bureauref01_Ints.l0 k l0 l1 0) else (some false)
set_option maxHeartbeats 8000000 in
set_option maxRecDepth 100000 in
theorem bureauref01_Ints.calls (k : Nat) (A0 : Option Addr) (c0 : Nat) (l0 : List Int) (A1 : Option Addr) (c1 : Nat) (l1 : List Int) (r : Bool) (w : World) (hr0 : Kd.C (Kd.int .i64) w A0 l0.length l0) (hc0 : l0.length ≤ c0) (hr1 : Kd.C (Kd.int .i64) w A1 l1.length l1) (hc1 : l1.length ≤ c1) (h : bureauref01_Ints.f k l0 l1 = some r) :
  Calls Try.prog 20 #[.slice A0 l0.length c0, .slice A1 l1.length c1] w fun e w' => e = .returned (.bool r) ∧ Drawn0 w w' := by
 have HR0 := aM hr0
 have HC0 := aM hc0
 clear hr0 hc0
 have HR1 := aM hr1
 have HC1 := aM hc1
 clear hr1 hc1
 have H : (if (l0.length : Int) = (l1.length : Int) then (bureauref01_Ints.l0 k l0 l1 0) else (some false)) = some r := h
 clear h
 by_cases c3 : (l0.length : Int) = (l1.length : Int)
 ·rw [if_pos c3] at H
  have c3b0 : ((l0.length : Int) == (l1.length : Int)) = true := beq_iff_eq.mpr c3
  have c3b1 : ((l0.length : Int) != (l1.length : Int)) = false := bne_eq_false_iff_eq.mpr c3
  have c3b2 : (l0.length == l1.length) = true := by first | simpa using c3 | (simp at c3 ⊢; omega)
  clear c3
  have H' := aM H
  clear H
  go_enter Try.func20, Try.ntmps20
  go_wp2
  repeat (go_quiet (fail); try go_wp2)
  go_loopg [5] k (fun kq v5 w' => ∃ (x5_1 : Int), v5 = .int .i64 x5_1 ∧ Aside0 (bureauref01_Ints.l0 kq l0 l1 x5_1 = some r) ∧ Aside0 (kq ≤ k) ∧ Drawn0 w w')
  case atStart => exact ⟨(0), (by first | rfl | (simp; done) | (simp [*]; done)), H', ⟨Nat.le_refl _⟩, by repeat (first | exact Drawn0.refl _ | apply Drawn0.step)⟩
  case round =>
   clear H'
   try clear c1
   try clear c2
   try clear p2
   try clear c3
   try clear c3b0
   try clear c3b1
   try clear c3b2
   obtain ⟨x5_1, rfl, HA, HK1, ⟨m1, rfl⟩⟩ := hrel
   cases gk with
   | zero => exact absurd HA.out (by simp [bureauref01_Ints.l0])
   | succ k1 =>
    have H := HA.out
    clear HA
    simp only [bureauref01_Ints.l0] at H
    by_cases c4 : x5_1 < (l0.length : Int)
    ·rw [if_pos c4] at H
     have c4b0 : decide (x5_1 < (l0.length : Int)) = true := decide_eq_true c4
     clear c4
     by_cases c5 : 0 ≤ x5_1
     ·rw [if_pos c5] at H
      have c5b0 : decide (0 ≤ x5_1) = true := decide_eq_true c5
      clear c5
      by_cases c6 : x5_1 < (l1.length : Int)
      ·rw [if_pos c6] at H
       have c6b0 : decide (x5_1 < (l1.length : Int)) = true := decide_eq_true c6
       clear c6
       by_cases c7 : (rd l0 x5_1) = (rd l1 x5_1)
       ·rw [if_pos c7] at H
        have c7b0 : ((rd l0 x5_1) == (rd l1 x5_1)) = true := beq_iff_eq.mpr c7
        have c7b1 : ((rd l0 x5_1) != (rd l1 x5_1)) = false := bne_eq_false_iff_eq.mpr c7
        clear c7
        have H' := aM H
        clear H
        have p189 : 0 ≤ (x5_1 : Int) := of_decide_eq_true (by first | (with_reducible assumption) | assumption)
        have q189 : x5_1 < (l0.length : Int) := of_decide_eq_true (by first | (with_reducible assumption) | assumption)
        obtain ⟨ad189, e189, hx189_0⟩ := Kd.at_int HR0.out x5_1 p189 q189
        cases e189
        replace p189 := eq_true p189
        replace q189 := eq_true q189
        have p190 : 0 ≤ (x5_1 : Int) := of_decide_eq_true (by first | (with_reducible assumption) | assumption)
        have q190 : x5_1 < (l1.length : Int) := of_decide_eq_true (by first | (with_reducible assumption) | assumption)
        obtain ⟨ad190, e190, hx190_0⟩ := Kd.at_int HR1.out x5_1 p190 q190
        cases e190
        replace p190 := eq_true p190
        replace q190 := eq_true q190
        go_wp2
        repeat (go_quiet (fail); try go_wp2)
        go_roundg k1
        case measure => have := HK1.out; omega
        case rel => exact ⟨(wrap64 (x5_1 + 1)), (by first | rfl | (simp; done) | (simp [*]; done)), H', ⟨by have := HK1.out; omega⟩, by repeat (first | exact Drawn0.refl _ | apply Drawn0.step)⟩
       ·rw [if_neg c7] at H
        have c7b0 : ((rd l0 x5_1) == (rd l1 x5_1)) = false := beq_eq_false_iff_ne.mpr c7
        have c7b1 : ((rd l0 x5_1) != (rd l1 x5_1)) = true := bne_iff_ne.mpr c7
        obtain rfl := Option.some.inj H
        have p189 : 0 ≤ (x5_1 : Int) := of_decide_eq_true (by first | (with_reducible assumption) | assumption)
        have q189 : x5_1 < (l0.length : Int) := of_decide_eq_true (by first | (with_reducible assumption) | assumption)
        obtain ⟨ad189, e189, hx189_0⟩ := Kd.at_int HR0.out x5_1 p189 q189
        cases e189
        replace p189 := eq_true p189
        replace q189 := eq_true q189
        have p190 : 0 ≤ (x5_1 : Int) := of_decide_eq_true (by first | (with_reducible assumption) | assumption)
        have q190 : x5_1 < (l1.length : Int) := of_decide_eq_true (by first | (with_reducible assumption) | assumption)
        obtain ⟨ad190, e190, hx190_0⟩ := Kd.at_int HR1.out x5_1 p190 q190
        cases e190
        replace p190 := eq_true p190
        replace q190 := eq_true q190
        go_wp2
        repeat (go_quiet (fail); try go_wp2)
        go_ret
        exact ⟨by first | rfl | (simp; done) | (simp [*]; done), by repeat (first | exact Drawn0.refl _ | apply Drawn0.step)⟩
      ·rw [if_neg c6] at H
       exact absurd H (by simp)
     ·rw [if_neg c5] at H
      exact absurd H (by simp)
    ·rw [if_neg c4] at H
     have c4b0 : decide (x5_1 < (l0.length : Int)) = false := decide_eq_false c4
     clear c4
     obtain rfl := Option.some.inj H
     go_wp2
     repeat (go_quiet (fail); try go_wp2)
     go_ret
     exact ⟨by first | rfl | (simp; done) | (simp [*]; done), by repeat (first | exact Drawn0.refl _ | apply Drawn0.step)⟩
 ·rw [if_neg c3] at H
  have c3b0 : ((l0.length : Int) == (l1.length : Int)) = false := beq_eq_false_iff_ne.mpr c3
  have c3b1 : ((l0.length : Int) != (l1.length : Int)) = true := bne_iff_ne.mpr c3
  have c3b2 : (l0.length == l1.length) = false := by first | simpa using c3 | (simp at c3 ⊢; omega)
  obtain rfl := Option.some.inj H
  go_enter Try.func20, Try.ntmps20
  go_wp2
  repeat (go_quiet (fail); try go_wp2)
  go_ret
  exact ⟨by first | rfl | (simp; done) | (simp [*]; done), by repeat (first | exact Drawn0.refl _ | apply Drawn0.step)⟩
end Go.Proofs.Ytbbgpfjeobdogaa.PB
end

section
namespace Go.Proofs.Ytbbgpfjeobdogaa.PB
open Go.RowKit Go.Maps Go.Proofs.YtbbgpfjeobdogaaW.PrintWords Go.Proofs.YtbbgpfjeobdogaaW.PrintLast Go.Proofs.YtbbgpfjeobdogaaW.PrintMore
set_option maxRecDepth 100000
set_option linter.unusedVariables false
set_option linter.unusedSimpArgs false
theorem ints_ev (l : List Int) (hl : l.length ≤ 4096) : Ev (fun k => bureauref01_Ints.f k l l) true := by
  unfold bureauref01_Ints.f
  refine Ev.pos (by omega) ?_
  have loop : ∀ (d i : Nat), i + d = l.length → Ev (fun k => bureauref01_Ints.l0 k l l (i : Int)) true := by
    intro d
    induction d with
    | zero => intro i hi; refine Ev.step (fun k => by simp only [bureauref01_Ints.l0]; rfl) ?_; exact Ev.neg (by omega) (Ev.now _)
    | succ d ih =>
      intro i hi
      refine Ev.step (fun k => by simp only [bureauref01_Ints.l0]; rfl) ?_
      refine Ev.pos (by omega) (Ev.pos (by omega) (Ev.pos (by omega) (Ev.pos trivial ?_)))
      rw [show wrap64 ((i : Int) + 1) = ((i + 1 : Nat) : Int) by unfold wrap64; omega]
      exact ih (i + 1) (by omega)
  exact loop l.length 0 (by omega)
theorem HistAt.hS {B : Nat} {g bm : Nat} {w : World} {L : List St} {now next depth : Int} (h : HistAt B (hb g bm) g bm w L now next depth) : ∀ k, hb g bm k → k < w.heap.size := by
  rintro k (rfl | rfl)
  · exact h.lt.2.1
  · exact h.lt.2.2.1
theorem add_good {B : Nat} {S : Nat → Prop} {g bm : Nat} {w : World} {L : List St} {now next depth : Int} (h : HistAt B S g bm w L now next depth) {e : Ed} {A1 A2 : Option Addr} {c1 c2 : Nat} (he : EdIn w (fun k => ¬ S k) e A1 c1 A2 c2) (hi : Inv L now next depth) (hn : next + 1 ≤ 1000) (hS : ∀ k, S k → k < w.heap.size) (hg : goodEd e = true) :
    Calls Try.prog 17 #[.pointer (some ⟨g, 0, none⟩), edV e A1 c1 A2 c2] w fun r w' => r = .returned (.tuple #[.int .i64 next, .int .i64 0]) ∧ HistAt B S g bm w' (addL e L now next depth) next (next + 1) depth ∧ Turn B (hb g bm) w w' := by
  obtain ⟨h1, h2, h3, h4⟩ := goodE_iff.1 hg
  exact add_go h he hi hn hS ⟨(apply_self _ _ _ _).1.2 ⟨h1, h2⟩, h3, h4⟩
abbrev eN (n : Int) : Ed := ⟨n, ⟨⟨#[]⟩, []⟩, ⟨⟨#[]⟩, []⟩⟩
theorem eN_in (w : World) (ok : Nat → Prop) (n : Int) : EdIn w ok (eN n) none 0 none 0 :=
  ⟨fun W _ => Kd.C_nil _ W, Nat.le_refl _, fun W _ => Kd.C_nil _ W, Nat.le_refl _, by show (0 : Nat) ≤ 100000 ∧ (0 : Nat) ≤ 100000; decide⟩
theorem eN_good (n : Int) (h0 : 0 ≤ n) (h1 : n ≤ 4096) : goodEd (eN n) = true := goodE_iff.2 ⟨show goodT ⟨#[]⟩ [] = true from by decide, show goodT ⟨#[]⟩ [] = true from by decide, h0, h1⟩
def LA : Nat → List St
  | 0 => [st0]
  | i + 1 => addL (eN ((i : Int) + 1)) (LA i) (i : Int) ((i : Int) + 1) 2
theorem inv0 {depth : Int} (h1 : 1 ≤ depth) (h2 : depth ≤ 64) : Inv [st0] 0 1 depth :=
  ⟨⟨List.pairwise_singleton _ _, fun x hx => by obtain rfl := List.mem_singleton.1 hx; decide, fun x hx => by obtain rfl := List.mem_singleton.1 hx; exact .inl (by decide), ⟨_, List.mem_singleton.2 rfl, rfl⟩, by decide, by decide, fun x hx => by obtain rfl := List.mem_singleton.1 hx; decide⟩,
   fun x hx _ y hy => by obtain rfl := List.mem_singleton.1 hx; obtain rfl := List.mem_singleton.1 hy; exact Int.le_refl _, by simp; omega, h1, h2⟩
theorem LA_inv : ∀ i : Nat, i ≤ 900 → Inv (LA i) (i : Int) ((i : Int) + 1) 2
  | 0, _ => inv0 (by decide) (by decide)
  | i + 1, h => by
    have := add_inv (LA_inv i (by omega)) (by omega) (e := eN ((i : Int) + 1)) (by show (0 : Nat) ≤ 100000 ∧ (0 : Nat) ≤ 100000; decide)
    have e1 : (((i + 1 : Nat)) : Int) = (i : Int) + 1 := by omega
    rw [e1]
    exact this
theorem LA3 : LA 3 = [⟨1, -1, eN 1⟩, ⟨2, 1, eN 2⟩, ⟨3, 2, eN 3⟩] := by kernel_rfl
theorem set5 {g5 : Nat} {w0 w : World} (h : Below w0.heap.size w0 w) (hg : w0.heap.size ≤ g5) (v0 v1 v2 v3 v4 : Value) :
    Below w0.heap.size w0 (((((w.setCell ⟨g5, 0, none⟩ v0).setCell ⟨g5, 1, none⟩ v1).setCell ⟨g5, 2, none⟩ v2).setCell ⟨g5, 3, none⟩ v3).setCell ⟨g5, 4, none⟩ v4) :=
  below_set (below_set (below_set (below_set (below_set h hg) hg) hg) hg) hg
theorem undoA {B g bm : Nat} {w : World} (h : HistAt B (hb g bm) g bm w (LA 3) 3 4 2) :
    Calls Try.prog 12 #[.pointer (some ⟨g, 0, none⟩)] w fun e w' => ∃ A2 c2 A4 c4, e = .returned (.tuple #[.agg #[.int .i64 3, .string ⟨#[]⟩, .slice A2 0 c2, .string ⟨#[]⟩, .slice A4 0 c4], .int .i64 0]) ∧ HistAt B (hb g bm) g bm w' (LA 3) 2 4 2 ∧ Turn B (hb g bm) w w' := by
  refine (undo_ok h (LA_inv 3 (by decide)).wf (x := ⟨3, 2, eN 3⟩) (by rw [LA3]; simp) rfl).mono ?_
  rintro e w' ⟨v, rfl, ⟨cs, rfl, hf⟩, hh, ht⟩
  rw [if_neg (show ¬ (2 : Int) < 0 by decide)] at hh hf
  obtain ⟨A2, c2, A4, c4, rfl, -⟩ := k34_openF hf
  exact ⟨A2, c2, A4, c4, rfl, hh, ht⟩
theorem statesA {B : Nat} {S : Nat → Prop} {g bm : Nat} {w : World} {now : Int} (h : HistAt B S g bm w (LA 3) now 4 2) (hw : Wf (LA 3) now 4) :
    Calls Try.prog 21 #[.pointer (some ⟨g, 0, none⟩)] w fun e w' => ∃ A c, e = .returned (.slice A 3 c) ∧ Kd.R (Kd.int .i64) 3 w' w.heap.size (fun _ => True) (.slice A 3 c) [1, 2, 3] ∧ Below w.heap.size w w' := by
  refine (states_ok h hw).mono ?_
  rintro e w' ⟨v, rfl, hr, hb⟩
  have e1 : statesL (LA 3) = [1, 2, 3] := by rw [LA3]; rfl
  rw [e1] at hr
  obtain ⟨A, c, rfl⟩ := Kd.R_slice hr
  exact ⟨A, c, rfl, hr, hb⟩
theorem intsA {A A' : Option Addr} {c c' : Nat} {w : World} {B B' : Nat} {ok ok' : Nat → Prop} (h : Kd.R (Kd.int .i64) 3 w B ok (.slice A 3 c) [1, 2, 3]) (h' : Kd.R (Kd.int .i64) 3 w B' ok' (.slice A' 3 c') [1, 2, 3]) :
    Calls Try.prog 20 #[.slice A 3 c, .slice A' 3 c'] w fun e w' => e = .returned (.bool true) ∧ Drawn0 w w' := by
  obtain ⟨k, hk⟩ := (ints_ev [1, 2, 3] (by decide)).rounds
  exact bureauref01_Ints.calls k A c [1, 2, 3] A' c' [1, 2, 3] true w (rR h).2.2 (rR h).2.1 (rR h').2.2 (rR h').2.1 hk
theorem wf_now {L : List St} {now next n : Int} (h : Wf L now next) (hx : ∃ x ∈ L, x.f0 = n) : Wf L n next := ⟨h.inc, h.low, h.up, hx, h.top, h.len, h.fit⟩
def bureaulaw08_alive.f : Option Bool := some true
set_option maxHeartbeats 8000000 in
theorem bureaulaw08_alive.calls (r : Bool) (w : World) (h : bureaulaw08_alive.f = some r) :
    Calls Try.prog 8 #[] w fun e w' => e = .returned (.bool r) ∧ Below w.heap.size w w' := by
  obtain rfl : true = r := Option.some.inj h
  clear h
  have hu34 := Try.underlying34
  have hu32 := Try.underlying32
  go_enter Try.func8, Try.ntmps8
  go_wp2_with (first
    | ((with_reducible refine gate_callee (f := 9) rfl ?_); refine goesL_ (some 7) rfl rfl Try.func9 (by kernel_rfl) rfl #[.int .i64 2] rfl (by (try simp only [List.map_toArray, List.map_cons, List.map_nil]); first | done | rfl) ?_; (with_reducible refine (new_ok 2 (by decide) (by decide) w).mono ?_); rintro e w3 ⟨g, bm, rfl, hh, hb⟩; refine ⟨_, rfl, ?_⟩; have HH3 := aM hh; have HB3 := aM hb; clear hh hb)
    )
  go_loopg [2] 3 (fun kq v2 w' => ∃ i : Nat, v2 = .int .i64 ((i : Int) + 1) ∧ Aside0 (i + kq = 3) ∧ Aside0 (HistAt w.heap.size (hb g bm) g bm w' (LA i) (i : Int) ((i : Int) + 1) 2) ∧ Aside0 (Below w.heap.size w w'))
  case atStart => exact ⟨0, rfl, ⟨rfl⟩, HH3, HB3⟩
  case round =>
    clear HH3 HB3
    obtain ⟨i, rfl, HI, HH, HB⟩ := hrel
    cases gk with
    | succ k1 =>
      have c1 : ((i : Int) + 1 ≤ 3) = True := eq_true (by have := HI.out; omega)
      have c2 : decide ((i : Int) + 1 ≤ 3) = true := decide_eq_true (by have := HI.out; omega)
      have e1 : wrap64 ((i : Int) + 1 + 1) = ((i + 1 : Nat) : Int) + 1 := by have := HI.out; unfold wrap64; omega
      go_wp2_with (first
        | ((with_reducible refine gate_callee (f := 17) rfl ?_); refine goesL_ (some 18) rfl rfl Try.func17 (by kernel_rfl) rfl #[.pointer (some ⟨g, 0, none⟩), edV (eN ((i : Int) + 1)) none 0 none 0] rfl (by (try simp only [List.map_toArray, List.map_cons, List.map_nil]); first | done | rfl) ?_; (with_reducible refine (add_good HH.out (eN_in _ _ _) (LA_inv i (by have := HI.out; omega)) (by have := HI.out; omega) HH.out.hS (eN_good _ (by omega) (by have := HI.out; omega))).mono ?_); rintro e w4 ⟨rfl, hh, ht⟩; refine ⟨_, rfl, ?_⟩; have HH4 := aM hh; have HB4 := aM (HB.out.trans ht.bel); clear hh ht)
        )
      rw [e1]
      go_roundg k1
      case measure => exact Nat.lt_succ_self _
      case rel => exact ⟨i + 1, rfl, ⟨by have := HI.out; omega⟩, ⟨by rw [show (((i + 1 : Nat)) : Int) = (i : Int) + 1 by omega]; exact HH4.out⟩, HB4⟩
    | zero =>
      obtain rfl : i = 3 := by have := HI.out; omega
      have c1 : (((3 : Nat) : Int) + 1 ≤ 3) = False := eq_false (by decide)
      have c2 : decide (((3 : Nat) : Int) + 1 ≤ 3) = false := by decide
      have HI3 := aM (LA_inv 3 (by decide))
      go_wp2_with (first
        | ((with_reducible refine gate_callee (f := 12) rfl ?_); (try (refine gate_guard (by rfl) ?_; dsimp only)); refine goesL_ (some 30) rfl rfl Try.func12 (by kernel_rfl) rfl #[.pointer (some ⟨g, 0, none⟩)] rfl (by (try simp only [List.map_toArray, List.map_cons, List.map_nil]); first | done | rfl) ?_; (with_reducible refine (undoA HH.out).mono ?_); rintro e w4 ⟨A2, c2, A4, c4, rfl, hh, ht⟩; refine ⟨_, rfl, ?_⟩; have HH4 := aM hh; have HB4 := aM (HB.out.trans ht.bel); clear hh ht)
        | ((with_reducible refine gate_dst (N := 5) rfl ?_); refine box_event ?hg (N := 5) ?hd (cs := zs5) (t := 34) ?hr ?_; (case hd => rfl); (case hg => rfl); (case hr => first | (go_simp; done) | (go_simp; rfl)); intro g5 hg w5 hbox hb; have HB5 := aM (bP HB4.out hb); have HX5 := aM hbox; have HH5 := aM (HH4.out.below hb); have GE5 := aM (show w.heap.size ≤ g5 from by have := HB4.out.size; omega); have HD5 := aM hb; have GD5 := aM (Nat.le_of_eq hg.symm); clear hb hbox hg; have hz0 := (bC HX5.out 0).trans (rfl : _ = some (Value.int .i64 0)); have hz1 := (bC HX5.out 1).trans (rfl : _ = some (Value.string ⟨#[]⟩)); have hz2 := (bC HX5.out 2).trans (rfl : _ = some (Value.slice none 0 0)); have hz3 := (bC HX5.out 3).trans (rfl : _ = some (Value.string ⟨#[]⟩)); have hz4 := (bC HX5.out 4).trans (rfl : _ = some (Value.slice none 0 0)); have hfz0 := bF HX5.out 0; have hfz1 := bF HX5.out 1; have hfz2 := bF HX5.out 2; have hfz3 := bF HX5.out 3; have hfz4 := bF HX5.out 4)
        | ((with_reducible refine gate_callee (f := 19) rfl ?_); (try (refine gate_guard (by rfl) ?_; dsimp only)); refine goesL_ (some 42) rfl rfl Try.func19 (by kernel_rfl) rfl #[.pointer (some ⟨g, 0, none⟩)] rfl (by (try simp only [List.map_toArray, List.map_cons, List.map_nil]); first | done | rfl) ?_; have HT6 := aM (And.intro (HH4.out.below (set5 HD5.out GD5.out (.int .i64 3) (.string ⟨#[]⟩) (.slice A2 0 c2) (.string ⟨#[]⟩) (.slice A4 0 c4))) (set5 HB5.out GE5.out (.int .i64 3) (.string ⟨#[]⟩) (.slice A2 0 c2) (.string ⟨#[]⟩) (.slice A4 0 c4))); (with_reducible refine (now_ok HT6.out.1).mono ?_); rintro e w6 ⟨rfl, hw⟩; subst hw; refine ⟨_, rfl, ?_⟩)
        | ((with_reducible refine gate_callee (f := 21) rfl ?_); (try (refine gate_guard (by rfl) ?_; dsimp only)); refine goesL_ (some 47) rfl rfl Try.func21 (by kernel_rfl) rfl #[.pointer (some ⟨g, 0, none⟩)] rfl (by (try simp only [List.map_toArray, List.map_cons, List.map_nil]); first | done | rfl) ?_; (with_reducible refine (statesA HT6.out.1 (wf_now HI3.out.wf ⟨⟨2, 1, eN 2⟩, by rw [LA3]; simp, rfl⟩)).mono ?_); rintro e w7 ⟨A7, c7, rfl, hr, hb⟩; refine ⟨_, rfl, ?_⟩; have HR7 := aM hr; have HB7 := aM (HT6.out.2.trans (hb.mono HT6.out.2.size)); clear hr hb)
        | ((with_reducible refine gate_dst (N := 48) rfl ?_); (try (refine gate_guard (by rfl) ?_; dsimp only)); refine Kd.R_lit (Kd.int .i64) _ 3 ?hg (N := 48) ?hd (xs := ([1, 2, 3] : List Int)) (inner := [.int .i64 1, .int .i64 2, .int .i64 3]) (ok := fun _ => True) (okp := fun _ => True) ?hr ?hp (fun _ hk => hk) trivial (Below.refl _ _) (Nat.le_refl _) (by simp) ?_; (case hd => rfl); (case hg => rfl); (case hr => first | (go_simp; done) | (go_simp; rfl)); (case hp => exact (Reps.one (show Kd.M (Kd.int .i64) _ _ _ 1 [.int .i64 1] from rfl) (Reps.one (show Kd.M (Kd.int .i64) _ _ _ 2 [.int .i64 2] from rfl) (Reps.one (show Kd.M (Kd.int .i64) _ _ _ 3 [.int .i64 3] from rfl) (Reps.none _ _))))); intro v8 w8 ho hb hg_ hnew_; clear hg_ hnew_; obtain ⟨A8, c8, e8⟩ := Kd.R_slice ho; rw [show ([1, 2, 3] : List Int).length = 3 from rfl] at e8; subst e8; have HO8 := aM ho; have HR8 := aM (Kd.R_below HR7.out hb); have HB8 := aM (HB7.out.trans (hb.mono HB7.out.size)); clear ho hb)
        | ((with_reducible refine gate_callee (f := 20) rfl ?_); (try (refine gate_guard (by rfl) ?_; dsimp only)); refine goesL_ (some 49) rfl rfl Try.func20 (by kernel_rfl) rfl #[.slice A7 3 c7, .slice A8 3 c8] rfl (by (try simp only [List.map_toArray, List.map_cons, List.map_nil]); first | done | rfl) ?_; (with_reducible refine (intsA HR8.out HO8.out).mono ?_); rintro e w9 ⟨rfl, nd, rfl⟩; refine ⟨_, rfl, ?_⟩)
        )
      go_ret
      exact ⟨rfl, pw_below_drewN HB8.out nd⟩
end Go.Proofs.Ytbbgpfjeobdogaa.PB
end

section
namespace Go.Proofs.Ytbbgpfjeobdogaa.PB
open Go.RowKit Go.Maps Go.Proofs.YtbbgpfjeobdogaaW.PrintWords Go.Proofs.YtbbgpfjeobdogaaW.PrintLast Go.Proofs.YtbbgpfjeobdogaaW.PrintMore
set_option maxRecDepth 100000
set_option linter.unusedVariables false
set_option linter.unusedSimpArgs false
def undoNow (L : List St) (now : Int) : Int := ((L.find? (fun x => x.f0 == now)).map (fun x => if x.f1 < 0 then now else x.f1)).getD now
structure Hs where
  L : List St
  now : Int
  next : Int
def stepH (depth : Int) (s : Hs) (k : Int) (e : Ed) : Hs :=
  if k % 4 = 2 then ⟨s.L, undoNow s.L s.now, s.next⟩ else if k % 4 = 3 then ⟨s.L, redoNow s.L s.now, s.next⟩ else if goodEd e = true then ⟨addL e s.L s.now s.next depth, s.next, s.next + 1⟩ else s
theorem undoNow_of {L : List St} {now next : Int} (h : Wf L now next) {x : St} (hx : x ∈ L) (hn : x.f0 = now) : undoNow L now = if x.f1 < 0 then now else x.f1 := by
  unfold undoNow
  rw [← hn, find_mem h.inc hx]
  rfl
theorem Inv.undo {L : List St} {now next depth : Int} (h : Inv L now next depth) : Inv L (undoNow L now) next depth := by
  obtain ⟨x, hx, hn⟩ := h.wf.now
  refine ⟨wf_now h.wf ?_, h.root, h.cap, h.d1, h.d2⟩
  rw [undoNow_of h.wf hx hn]
  split
  · exact ⟨x, hx, hn⟩
  · rcases h.wf.up x hx with h1 | h1
    · omega
    · exact h1
theorem redoL_in {L : List St} {now : Int} {x : St} (h : redoL L now = some x) : x ∈ L ∧ x.f1 = now := by
  unfold redoL at h
  exact ⟨List.mem_reverse.1 (List.mem_of_find?_eq_some h), by simpa using List.find?_some h⟩
theorem Inv.redo {L : List St} {now next depth : Int} (h : Inv L now next depth) : Inv L (redoNow L now) next depth := by
  refine ⟨wf_now h.wf ?_, h.root, h.cap, h.d1, h.d2⟩
  unfold redoNow
  cases hr : redoL L now with
  | none => exact h.wf.now
  | some x => exact ⟨x, (redoL_in hr).1, rfl⟩
theorem step_inv {depth : Int} {s : Hs} (h : Inv s.L s.now s.next depth) (hn : s.next + 1 ≤ 1000) (k : Int) {e : Ed} (he : e.f1.f1.length ≤ 100000 ∧ e.f2.f1.length ≤ 100000) : Inv (stepH depth s k e).L (stepH depth s k e).now (stepH depth s k e).next depth := by
  unfold stepH
  split
  · exact h.undo
  · split
    · exact h.redo
    · split
      · exact add_inv h hn he
      · exact h
theorem step_next {depth : Int} {s : Hs} (k : Int) (e : Ed) : s.next ≤ (stepH depth s k e).next ∧ (stepH depth s k e).next ≤ s.next + 1 := by
  unfold stepH
  split
  · show s.next ≤ s.next ∧ s.next ≤ s.next + 1; omega
  · split
    · show s.next ≤ s.next ∧ s.next ≤ s.next + 1; omega
    · split
      · show s.next ≤ s.next + 1 ∧ s.next + 1 ≤ s.next + 1; omega
      · omega
theorem undo_any {B : Nat} {S : Nat → Prop} {g bm : Nat} {w : World} {L : List St} {now next depth : Int} (h : HistAt B S g bm w L now next depth) (hw : Wf L now next) :
    Calls Try.prog 12 #[.pointer (some ⟨g, 0, none⟩)] w fun e w' => ∃ v, e = .returned v ∧ HistAt B S g bm w' L (undoNow L now) next depth ∧ Turn B (hb g bm) w w' := by
  obtain ⟨x, hx, hn⟩ := hw.now
  refine (undo_ok h hw hx hn).mono ?_
  rintro e w' ⟨v, rfl, _, hh, ht⟩
  rw [undoNow_of hw hx hn]
  exact ⟨_, rfl, hh, ht⟩
abbrev actV (k : Int) (e : Ed) (A1 : Option Addr) (c1 : Nat) (A2 : Option Addr) (c2 : Nat) (fk : Bool) : Value := .agg #[.int .u8 k, .int .i64 e.f0, .string e.f1.f0, .slice A1 e.f1.f1.length c1, .string e.f2.f0, .slice A2 e.f2.f1.length c2, .bool fk]
set_option maxHeartbeats 8000000 in
theorem does_ok {B : Nat} {S : Nat → Prop} {g bm : Nat} {w : World} {s : Hs} {depth : Int} (h : HistAt B S g bm w s.L s.now s.next depth) (k : Int) (hk : 0 ≤ k ∧ k < 256) (fk : Bool) {e : Ed} {A1 A2 : Option Addr} {c1 c2 : Nat} (he : EdIn w (fun k => ¬ S k) e A1 c1 A2 c2) (hi : Inv s.L s.now s.next depth) (hn : s.next + 1 ≤ 1000) (hS : ∀ k, S k → k < w.heap.size) :
    Calls Try.prog 25 #[.pointer (some ⟨g, 0, none⟩), actV k e A1 c1 A2 c2 fk] w fun r w' => r = .returned (.tuple #[]) ∧ HistAt B S g bm w' (stepH depth s k e).L (stepH depth s k e).now (stepH depth s k e).next depth ∧ Turn B (hb g bm) w w' := by
  have hu36 := Try.underlying36
  have hu34 := Try.underlying34
  have HH := aM h
  have HE := aM he
  have HI := aM hi
  have HN := aM hn
  have HS := aM hS
  have HK := aM hk
  have hm : Int.tmod k 4 = k % 4 := Int.tmod_eq_emod_of_nonneg hk.1
  clear h he hi hn hS hk
  by_cases k2 : k % 4 = 2
  · have c2b : (k % 4 == 2) = true := by simpa using k2
    go_enter Try.func25, Try.ntmps25
    go_wp2_with (first
      | ((with_reducible refine gate_dst (N := 3) rfl ?_); refine box_event ?hg (N := 3) ?hd (cs := #[.int .u8 k, .int .i64 e.f0, .string e.f1.f0, .slice A1 e.f1.f1.length c1, .string e.f2.f0, .slice A2 e.f2.f1.length c2, .bool fk]) (t := 36) ?hr ?_; (case hd => rfl); (case hg => rfl); (case hr => first | (go_simp; done) | (go_simp; rfl)); intro g3 hg w2 hbox hb; have HB2 := aM hb; have HX2 := aM hbox; have HH2 := aM (HH.out.below hb); have HE2 := aM (HE.out.below hb); have HT2 := aM (Turn.of_below (S := Go.Proofs.Ytbbgpfjeobdogaa.PB.hb g bm) hb HH.out.lt.1); clear hb hbox hg; have hx0 := (bC HX2.out 0).trans (rfl : _ = some (Value.int .u8 k)); have hx1 := (bC HX2.out 1).trans (rfl : _ = some (Value.int .i64 e.f0)); have hx2 := (bC HX2.out 2).trans (rfl : _ = some (Value.string e.f1.f0)); have hx3 := (bC HX2.out 3).trans (rfl : _ = some (Value.slice A1 e.f1.f1.length c1)); have hx4 := (bC HX2.out 4).trans (rfl : _ = some (Value.string e.f2.f0)); have hx5 := (bC HX2.out 5).trans (rfl : _ = some (Value.slice A2 e.f2.f1.length c2)); have hx6 := (bC HX2.out 6).trans (rfl : _ = some (Value.bool fk)))
      | ((with_reducible refine gate_callee (f := 12) rfl ?_); refine goesL_ (some 14) rfl rfl Try.func12 (by kernel_rfl) rfl #[.pointer (some ⟨g, 0, none⟩)] rfl (by (try simp only [List.map_toArray, List.map_cons, List.map_nil]); first | done | rfl) ?_; (with_reducible refine (undo_any HH2.out HI.out.wf).mono ?_); rintro r4 w4 ⟨v, rfl, hh, ht⟩; refine ⟨_, rfl, ?_⟩; have HH4 := aM hh; have HT4 := aM (HT2.out.trans ht); clear hh ht)
      )
    refine bodyPost_end (results_none rfl _ _ _) rfl ?_
    refine ⟨rfl, ?_, HT4.out⟩
    unfold stepH
    rw [if_pos k2]
    exact HH4.out
  have c2b : (k % 4 == 2) = false := by simpa using k2
  by_cases k3 : k % 4 = 3
  · have c3b : (k % 4 == 3) = true := by simpa using k3
    go_enter Try.func25, Try.ntmps25
    go_wp2_with (first
      | ((with_reducible refine gate_dst (N := 3) rfl ?_); refine box_event ?hg (N := 3) ?hd (cs := #[.int .u8 k, .int .i64 e.f0, .string e.f1.f0, .slice A1 e.f1.f1.length c1, .string e.f2.f0, .slice A2 e.f2.f1.length c2, .bool fk]) (t := 36) ?hr ?_; (case hd => rfl); (case hg => rfl); (case hr => first | (go_simp; done) | (go_simp; rfl)); intro g3 hg w2 hbox hb; have HB2 := aM hb; have HX2 := aM hbox; have HH2 := aM (HH.out.below hb); have HE2 := aM (HE.out.below hb); have HT2 := aM (Turn.of_below (S := Go.Proofs.Ytbbgpfjeobdogaa.PB.hb g bm) hb HH.out.lt.1); clear hb hbox hg; have hx0 := (bC HX2.out 0).trans (rfl : _ = some (Value.int .u8 k)); have hx1 := (bC HX2.out 1).trans (rfl : _ = some (Value.int .i64 e.f0)); have hx2 := (bC HX2.out 2).trans (rfl : _ = some (Value.string e.f1.f0)); have hx3 := (bC HX2.out 3).trans (rfl : _ = some (Value.slice A1 e.f1.f1.length c1)); have hx4 := (bC HX2.out 4).trans (rfl : _ = some (Value.string e.f2.f0)); have hx5 := (bC HX2.out 5).trans (rfl : _ = some (Value.slice A2 e.f2.f1.length c2)); have hx6 := (bC HX2.out 6).trans (rfl : _ = some (Value.bool fk)))
      | ((with_reducible refine gate_callee (f := 15) rfl ?_); refine goesL_ (some 18) rfl rfl Try.func15 (by kernel_rfl) rfl #[.pointer (some ⟨g, 0, none⟩)] rfl (by (try simp only [List.map_toArray, List.map_cons, List.map_nil]); first | done | rfl) ?_; (with_reducible refine (redo_ok HH2.out HI.out.wf).mono ?_); rintro r4 w4 ⟨v, rfl, _, hh, ht⟩; refine ⟨_, rfl, ?_⟩; have HH4 := aM hh; have HT4 := aM (HT2.out.trans ht); clear hh ht)
      )
    refine bodyPost_end (results_none rfl _ _ _) rfl ?_
    refine ⟨rfl, ?_, HT4.out⟩
    unfold stepH
    rw [if_neg k2, if_pos k3]
    exact HH4.out
  have c3b : (k % 4 == 3) = false := by simpa using k3
  by_cases hg : goodEd e = true
  · have hgu := aM hg
    go_enter Try.func25, Try.ntmps25
    go_wp2_with (first
      | ((with_reducible refine gate_dst (N := 3) rfl ?_); refine box_event ?hg (N := 3) ?hd (cs := #[.int .u8 k, .int .i64 e.f0, .string e.f1.f0, .slice A1 e.f1.f1.length c1, .string e.f2.f0, .slice A2 e.f2.f1.length c2, .bool fk]) (t := 36) ?hr ?_; (case hd => rfl); (case hg => rfl); (case hr => first | (go_simp; done) | (go_simp; rfl)); intro g3 hg w2 hbox hb; have HB2 := aM hb; have HX2 := aM hbox; have HH2 := aM (HH.out.below hb); have HE2 := aM (HE.out.below hb); have HT2 := aM (Turn.of_below (S := Go.Proofs.Ytbbgpfjeobdogaa.PB.hb g bm) hb HH.out.lt.1); clear hb hbox hg; have hx0 := (bC HX2.out 0).trans (rfl : _ = some (Value.int .u8 k)); have hx1 := (bC HX2.out 1).trans (rfl : _ = some (Value.int .i64 e.f0)); have hx2 := (bC HX2.out 2).trans (rfl : _ = some (Value.string e.f1.f0)); have hx3 := (bC HX2.out 3).trans (rfl : _ = some (Value.slice A1 e.f1.f1.length c1)); have hx4 := (bC HX2.out 4).trans (rfl : _ = some (Value.string e.f2.f0)); have hx5 := (bC HX2.out 5).trans (rfl : _ = some (Value.slice A2 e.f2.f1.length c2)); have hx6 := (bC HX2.out 6).trans (rfl : _ = some (Value.bool fk)))
      | ((with_reducible refine gate_callee (f := 17) rfl ?_); refine goesL_ (some 10) rfl rfl Try.func17 (by kernel_rfl) rfl #[.pointer (some ⟨g, 0, none⟩), edV e A1 c1 A2 c2] rfl (by (try simp only [List.map_toArray, List.map_cons, List.map_nil]); first | done | rfl) ?_; (with_reducible refine (add_good HH2.out HE2.out HI.out HN.out (fun k hk => Nat.lt_of_lt_of_le (HS.out k hk) HB2.out.size) hgu.out).mono ?_); rintro r4 w4 ⟨rfl, hh, ht⟩; refine ⟨_, rfl, ?_⟩; have HH4 := aM hh; have HT4 := aM (HT2.out.trans ht); clear hh ht)
      )
    refine bodyPost_end (results_none rfl _ _ _) rfl ?_
    refine ⟨rfl, ?_, HT4.out⟩
    unfold stepH
    rw [if_neg k2, if_neg k3, if_pos hgu.out]
    exact HH4.out
  · have hgu := aM hg
    go_enter Try.func25, Try.ntmps25
    go_wp2_with (first
      | ((with_reducible refine gate_dst (N := 3) rfl ?_); refine box_event ?hg (N := 3) ?hd (cs := #[.int .u8 k, .int .i64 e.f0, .string e.f1.f0, .slice A1 e.f1.f1.length c1, .string e.f2.f0, .slice A2 e.f2.f1.length c2, .bool fk]) (t := 36) ?hr ?_; (case hd => rfl); (case hg => rfl); (case hr => first | (go_simp; done) | (go_simp; rfl)); intro g3 hg w2 hbox hb; have HB2 := aM hb; have HX2 := aM hbox; have HH2 := aM (HH.out.below hb); have HE2 := aM (HE.out.below hb); have HT2 := aM (Turn.of_below (S := Go.Proofs.Ytbbgpfjeobdogaa.PB.hb g bm) hb HH.out.lt.1); clear hb hbox hg; have hx0 := (bC HX2.out 0).trans (rfl : _ = some (Value.int .u8 k)); have hx1 := (bC HX2.out 1).trans (rfl : _ = some (Value.int .i64 e.f0)); have hx2 := (bC HX2.out 2).trans (rfl : _ = some (Value.string e.f1.f0)); have hx3 := (bC HX2.out 3).trans (rfl : _ = some (Value.slice A1 e.f1.f1.length c1)); have hx4 := (bC HX2.out 4).trans (rfl : _ = some (Value.string e.f2.f0)); have hx5 := (bC HX2.out 5).trans (rfl : _ = some (Value.slice A2 e.f2.f1.length c2)); have hx6 := (bC HX2.out 6).trans (rfl : _ = some (Value.bool fk)))
      | ((with_reducible refine gate_callee (f := 17) rfl ?_); refine goesL_ (some 10) rfl rfl Try.func17 (by kernel_rfl) rfl #[.pointer (some ⟨g, 0, none⟩), edV e A1 c1 A2 c2] rfl (by (try simp only [List.map_toArray, List.map_cons, List.map_nil]); first | done | rfl) ?_; (with_reducible refine (add_bad HH2.out HE2.out (by simpa using hgu.out)).mono ?_); rintro r4 w4 ⟨rfl, hb⟩; refine ⟨_, rfl, ?_⟩; have HH4 := aM (HH2.out.below hb); have HT4 := aM (HT2.out.below hb (Nat.le_trans HH.out.lt.1 HT2.out.size)); clear hb)
      )
    refine bodyPost_end (results_none rfl _ _ _) rfl ?_
    refine ⟨rfl, ?_, HT4.out⟩
    unfold stepH
    rw [if_neg k2, if_neg k3, if_neg hgu.out]
    exact HH4.out
end Go.Proofs.Ytbbgpfjeobdogaa.PB
end

section
namespace Go.Proofs.Ytbbgpfjeobdogaa.PB
open Go.RowKit Go.Maps Go.Proofs.YtbbgpfjeobdogaaW.PrintWords
set_option linter.unusedVariables false
set_option linter.unusedSimpArgs false
section
variable {L : List St} {now next : Int}
theorem up_sorted (h : Wf L now next) : ∀ (k : Nat) (x : St), x ∈ L → (upL L k x.f0).Pairwise (fun a b => b < a) ∧ ∀ y ∈ upL L k x.f0, y ≤ x.f0 ∧ ∃ z ∈ L, z.f0 = y
  | 0, x, hx => by unfold upL; exact ⟨List.Pairwise.nil, fun y hy => by cases hy⟩
  | k + 1, x, hx => by
    rw [up_step h hx k]
    have hl := h.low x hx
    rcases h.up x hx with hn | ⟨y, hy, he⟩
    · rw [up_none L k hn]
      exact ⟨List.pairwise_singleton _ _, fun y hy => by obtain rfl := List.mem_singleton.1 hy; exact ⟨Int.le_refl _, x, hx, rfl⟩⟩
    · obtain ⟨h1, h2⟩ := up_sorted h k y hy
      rw [he] at h1 h2
      refine ⟨List.pairwise_cons.2 ⟨fun z hz => ?_, h1⟩, fun z hz => ?_⟩
      · have := (h2 z hz).1; omega
      · rcases List.mem_cons.1 hz with rfl | hz
        · exact ⟨Int.le_refl _, x, hx, rfl⟩
        · have := h2 z hz
          exact ⟨by omega, this.2⟩
theorem up_last (h : Wf L now next) : ∀ (k : Nat) (x : St), x ∈ L → x.f0 < k → ∃ (pre : List Int) (r : Int), upL L k x.f0 = pre ++ [r] ∧ ∃ z ∈ L, z.f0 = r ∧ z.f1 < 0
  | 0, x, hx, hk => by have := h.low x hx; omega
  | k + 1, x, hx, hk => by
    have hl := h.low x hx
    rw [up_step h hx k]
    rcases h.up x hx with hn | ⟨y, hy, he⟩
    · rw [up_none L k hn]
      exact ⟨[], x.f0, rfl, x, hx, rfl, hn⟩
    · have hly := h.low y hy
      obtain ⟨pre, r, e1, e2⟩ := up_last h k y hy (by omega)
      rw [he] at e1
      exact ⟨x.f0 :: pre, r, by rw [e1]; rfl, e2⟩
theorem getD_eq (l : List Int) (i : Nat) (hi : i < l.length) : rd l (i : Int) = l[i] := by
  unfold rd
  rw [Int.toNat_natCast, List.getD_eq_getElem?_getD, List.getElem?_eq_getElem hi, Option.getD_some]
structure PathOk (l p : List Int) (now : Int) : Prop where
  l1 : 1 ≤ l.length
  p1 : 1 ≤ p.length
  p2 : p.length ≤ 1000
  first : rd p 0 = rd l 0
  last : rd p ((p.length : Int) - 1) = now
  linc : ∀ i : Nat, 1 ≤ i → i < l.length → rd l ((i : Int) - 1) < rd l (i : Int)
  pinc : ∀ i : Nat, 1 ≤ i → i < p.length → rd p ((i : Int) - 1) < rd p (i : Int)
  lsort : l.Pairwise (fun a b => a < b)
  sub : ∀ x ∈ p, x ∈ l
theorem inc_of {l : List Int} (h : l.Pairwise (fun a b => a < b)) (i : Nat) (h1 : 1 ≤ i) (hi : i < l.length) : rd l ((i : Int) - 1) < rd l (i : Int) := by
  rw [show ((i : Int) - 1) = ((i - 1 : Nat) : Int) by omega, getD_eq l (i - 1) (by omega), getD_eq l i hi]
  exact List.pairwise_iff_getElem.1 h (i - 1) i (by omega) hi (by omega)
theorem path_okay {depth : Int} (h : Inv L now next depth) : PathOk (statesL L) (pathL L now) now := by
  obtain ⟨x, hx, hn⟩ := h.wf.now
  have hlow := h.wf.low x hx
  have htop := h.wf.top
  obtain ⟨hs, hm⟩ := up_sorted h.wf 1000 x hx
  obtain ⟨pre, r, e1, z, hz, hzr, hz1⟩ := up_last h.wf 1000 x hx (by omega)
  have e2 := up_step h.wf hx 999
  rw [hn] at hs hm e1 e2
  have hsort := states_nodup h.wf.inc
  have hp1 : pathL L now = r :: pre.reverse := by unfold pathL; rw [e1]; simp
  have hp2 : pathL L now = (upL L 999 x.f1).reverse ++ [now] := by unfold pathL; rw [e2]; simp
  have hpl : (pathL L now).Pairwise (fun a b => a < b) := by unfold pathL; exact List.pairwise_reverse.2 hs
  have hlen := upL_len L 1000 now
  have hpn : (pathL L now).length ≤ 1000 := by unfold pathL; rw [List.length_reverse]; exact hlen
  have hsl : (statesL L).length = L.length := List.length_map _
  have hLp := List.length_pos_of_mem hx
  have hp0 : 0 < (pathL L now).length := by rw [hp1]; simp
  refine ⟨by omega, by omega, hpn, ?_, ?_, inc_of hsort, inc_of hpl, hsort, fun y hy => ?_⟩
  · have h1 : rd (pathL L now) 0 = r := by rw [hp1]; rfl
    rw [h1]
    cases L with
    | nil => cases hx
    | cons a L =>
      show r = a.f0
      have h2 := h.root z hz hz1 a List.mem_cons_self
      rcases List.mem_cons.1 hz with rfl | hz
      · exact hzr.symm
      · have := List.rel_of_pairwise_cons h.wf.inc hz
        omega
  · rw [show (((pathL L now).length : Nat) : Int) - 1 = (((pathL L now).length - 1 : Nat) : Int) by omega, getD_eq _ _ (by omega)]
    have : (pathL L now).length - 1 = (upL L 999 x.f1).reverse.length := by rw [hp2, List.length_append, List.length_singleton]; omega
    simp only [this]
    simp only [hp2]
    simp
  · unfold pathL at hy
    obtain ⟨_, z, hz, he⟩ := hm y (List.mem_reverse.1 hy)
    exact List.mem_map.2 ⟨z, hz, he⟩
theorem seek {l : List Int} (h : l.Pairwise (fun a b => a < b)) {x : Int} (hx : x ∈ l) : ∃ j : Nat, j < l.length ∧ rd l (j : Int) = x ∧ ∀ i : Nat, i < l.length → (rd l (i : Int) = x → i = j) ∧ (rd l (i : Int) < x → i < j) := by
  obtain ⟨j, hj, e⟩ := List.mem_iff_getElem.1 hx
  refine ⟨j, hj, by rw [getD_eq l j hj, e], fun i hi => ?_⟩
  rw [getD_eq l i hi]
  have hp := List.pairwise_iff_getElem.1 h
  constructor
  · intro e2
    rcases Nat.lt_trichotomy i j with h1 | h1 | h1
    · have := hp i j hi hj h1; omega
    · exact h1
    · have := hp j i hj hi h1; omega
  · intro e2
    rcases Nat.lt_trichotomy i j with h1 | h1 | h1
    · exact h1
    · subst h1; omega
    · have := hp j i hj hi h1; omega
end
end Go.Proofs.Ytbbgpfjeobdogaa.PB
end

section
namespace Go.Proofs.Ytbbgpfjeobdogaa.PB
open Go.RowKit Go.Proofs.YtbbgpfjeobdogaaW.PrintWords Go.Proofs.YtbbgpfjeobdogaaW.PrintLast Go.Proofs.YtbbgpfjeobdogaaW.PrintMore
attribute [local go_sem] max2_int min2_int max_two min_two max_three min_three max_four min_four   
set_option linter.unusedVariables false
set_option linter.unusedSimpArgs false
def bureaulaw07_Fits.f (a0_0 : Int) (a0_1 : ByteArray) (l0_2 : List (S71)) (a0_3 : ByteArray) (l0_4 : List (S71)) : Option (Bool) := (bureaulaw04_Fits.f a0_1 l0_2).bind fun t197 => (if t197 = true then ((bureaulaw04_Fits.f a0_3 l0_4).bind fun t198 => (some t198)) else (some false))
set_option maxHeartbeats 8000000 in
set_option maxRecDepth 100000 in
theorem bureaulaw07_Fits.calls (a0_0 : Int) (a0_1 : ByteArray) (A0_2 : Option Addr) (c0_2 : Nat) (l0_2 : List (S71)) (a0_3 : ByteArray) (A0_4 : Option Addr) (c0_4 : Nat) (l0_4 : List (S71)) (r : Bool) (w : World) (hr0_2 : Kd.C k71 w A0_2 l0_2.length l0_2) (hc0_2 : l0_2.length ≤ c0_2) (hr0_4 : Kd.C k71 w A0_4 l0_4.length l0_4) (hc0_4 : l0_4.length ≤ c0_4) (h : bureaulaw07_Fits.f a0_0 a0_1 l0_2 a0_3 l0_4 = some r) :
  Calls Try.prog 11 #[.agg #[.int .i64 a0_0, .string a0_1, .slice A0_2 l0_2.length c0_2, .string a0_3, .slice A0_4 l0_4.length c0_4]] w fun e w' => e = .returned (.bool r) ∧ Below w.heap.size w w' := by
 have hu34 := Try.underlying34
 have hu32 := Try.underlying32
 have HR0_2 := aM hr0_2
 have HC0_2 := aM hc0_2
 clear hr0_2 hc0_2
 have HR0_4 := aM hr0_4
 have HC0_4 := aM hc0_4
 clear hr0_4 hc0_4
 have HB := aM (Below.refl w.heap.size w)
 have H : ((bureaulaw04_Fits.f a0_1 l0_2).bind fun t197 => (if t197 = true then ((bureaulaw04_Fits.f a0_3 l0_4).bind fun t198 => (some t198)) else (some false))) = some r := h
 clear h
 replace H := Option.bind_eq_some_iff.mp H
 obtain ⟨t197, A20, H⟩ := H
 replace H : (if t197 = true then ((bureaulaw04_Fits.f a0_3 l0_4).bind fun t198 => (some t198)) else (some false)) = some r := H
 have A2 := aM A20
 clear A20
 by_cases c3 : t197 = true
 ·subst c3
  have H1 : ((bureaulaw04_Fits.f a0_3 l0_4).bind fun t198 => (some t198)) = some r := by rw [if_pos rfl] at H; exact H
  clear H
  have H := H1
  clear H1
  replace H := Option.bind_eq_some_iff.mp H
  obtain ⟨t198, A40, H⟩ := H
  replace H : (some t198) = some r := H
  have A4 := aM A40
  clear A40
  obtain rfl := Option.some.inj H
  go_enter Try.func11, Try.ntmps11
  go_wp2_with (first | ((with_reducible refine gate_dst (N := 1) rfl ?_); refine box_event ?hg (N := 1) ?hd (cs := #[.int .i64 a0_0, .string a0_1, .slice A0_2 l0_2.length c0_2, .string a0_3, .slice A0_4 l0_4.length c0_4]) (t := 34) ?hr ?_; (case hd | hg => rfl); (case hr => first | (go_simp; done) | (go_simp; rfl)); intro gb196 hg w5 hbox hb; have n0_ := aM (bP (ey HB.out) hb); have n1_ := aM (hbox); have n2_ := aM ((by rw [hg]; exact (bZ (ey HB.out)) : w.heap.size ≤ gb196)); have n3_ := n2_; clear HB; have HB := n0_; have BK196 := n1_; have GW196 := n2_; have GE196 := n3_; clear n0_ n1_ n2_ n3_; clear hb hbox hg; have hcz6_0 := zC BK196.out 0 (.int .i64 a0_0); have hcz6_1 := zC BK196.out 1 (.string a0_1); have hcz6_2 := zC BK196.out 2 (.slice A0_2 l0_2.length c0_2); have hcz6_3 := zC BK196.out 3 (.string a0_3); have hcz6_4 := zC BK196.out 4 (.slice A0_4 l0_4.length c0_4); have hfz6_0 := bF BK196.out 0; have hfz6_1 := bF BK196.out 1; have hfz6_2 := bF BK196.out 2; have hfz6_3 := bF BK196.out 3; have hfz6_4 := bF BK196.out 4) | ((with_reducible refine gate_callee (f := 30) rfl ?_); refine goesL_ (some 5) rfl rfl Try.func30 (by kernel_rfl) rfl #[.agg #[.string a0_1, .slice A0_2 l0_2.length c0_2]] rfl (by (try simp only [mT, mC, mN]); first | done | rfl | (simp only [lD, lT]; rfl)) ?_; (with_reducible refine (bureaulaw04_Fits.calls a0_1 _ _ l0_2 true _ ?side1 ?side2 A2.out).mono ?_); (case side1 => repeat (first | exact (cB_ HR0_2.out HB.out) | (with_reducible refine Kd.C_alloc ?_ _) | (with_reducible refine Kd.C_drewN ?_ _) | (with_reducible refine Kd.C_drew ?_))); (case side2 => exact HC0_2.out); rintro e w7 ⟨rfl, hb⟩; refine ⟨_, rfl, ?_⟩; have n0_ := aM (bB (g := gb196) (qy BK196.out) hb); have n1_ := aM (bP (by repeat (first | (with_reducible first | exact HB.out | apply ea | apply en | apply ed | refine es ?_ GE196.out) | exact HB.out)) hb); clear BK196 HB; have BK196 := n0_; have HB := n1_; clear n0_ n1_; (try clear hb); (try clear hb2); (try clear hk); (try clear hi); have hcz8_0 := zC BK196.out 0 (.int .i64 a0_0); have hcz8_1 := zC BK196.out 1 (.string a0_1); have hcz8_2 := zC BK196.out 2 (.slice A0_2 l0_2.length c0_2); have hcz8_3 := zC BK196.out 3 (.string a0_3); have hcz8_4 := zC BK196.out 4 (.slice A0_4 l0_4.length c0_4); have hfz8_0 := bF BK196.out 0; have hfz8_1 := bF BK196.out 1; have hfz8_2 := bF BK196.out 2; have hfz8_3 := bF BK196.out 3; have hfz8_4 := bF BK196.out 4) | (go_at_call 30; (with_reducible refine (bureaulaw04_Fits.calls a0_3 _ _ l0_4 t198 _ ?side1 ?side2 A4.out).mono ?_); (case side1 => repeat (first | exact (cB_ HR0_4.out HB.out) | (with_reducible refine Kd.C_alloc ?_ _) | (with_reducible refine Kd.C_drewN ?_ _) | (with_reducible refine Kd.C_drew ?_))); (case side2 => exact HC0_4.out); rintro e w9 ⟨rfl, hb⟩; have n0_ := aM (bB (g := gb196) (qy BK196.out) hb); have n1_ := aM (bP (by repeat (first | (with_reducible first | exact HB.out | apply ea | apply en | apply ed | refine es ?_ GE196.out) | exact HB.out)) hb); clear BK196 HB; have BK196 := n0_; have HB := n1_; clear n0_ n1_; (try clear hb); (try clear hb2); (try clear hk); (try clear hi)))
  go_ret
  exact ⟨by first | rfl | (simp [errW_none, errW_some] <;> rfl) | (simp [*, errW_none, errW_some] <;> rfl), by repeat (first | (with_reducible first | exact HB.out | apply ea | apply en | apply ed | refine es ?_ GE196.out) | exact HB.out)⟩
 ·replace c3 := Bool.eq_false_iff.mpr c3
  subst c3
  have H1 : (some false) = some r := by rw [if_neg (show ¬ (false = true) by decide)] at H; exact H
  clear H
  have H := H1
  clear H1
  obtain rfl := Option.some.inj H
  go_enter Try.func11, Try.ntmps11
  go_wp2_with (first | ((with_reducible refine gate_dst (N := 1) rfl ?_); refine box_event ?hg (N := 1) ?hd (cs := #[.int .i64 a0_0, .string a0_1, .slice A0_2 l0_2.length c0_2, .string a0_3, .slice A0_4 l0_4.length c0_4]) (t := 34) ?hr ?_; (case hd | hg => rfl); (case hr => first | (go_simp; done) | (go_simp; rfl)); intro gb196 hg w10 hbox hb; have n0_ := aM (bP (ey HB.out) hb); have n1_ := aM (hbox); have n2_ := aM ((by rw [hg]; exact (bZ (ey HB.out)) : w.heap.size ≤ gb196)); have n3_ := n2_; clear HB; have HB := n0_; have BK196 := n1_; have GW196 := n2_; have GE196 := n3_; clear n0_ n1_ n2_ n3_; clear hb hbox hg; have hcz11_0 := zC BK196.out 0 (.int .i64 a0_0); have hcz11_1 := zC BK196.out 1 (.string a0_1); have hcz11_2 := zC BK196.out 2 (.slice A0_2 l0_2.length c0_2); have hcz11_3 := zC BK196.out 3 (.string a0_3); have hcz11_4 := zC BK196.out 4 (.slice A0_4 l0_4.length c0_4); have hfz11_0 := bF BK196.out 0; have hfz11_1 := bF BK196.out 1; have hfz11_2 := bF BK196.out 2; have hfz11_3 := bF BK196.out 3; have hfz11_4 := bF BK196.out 4) | ((with_reducible refine gate_callee (f := 30) rfl ?_); refine goesL_ (some 5) rfl rfl Try.func30 (by kernel_rfl) rfl #[.agg #[.string a0_1, .slice A0_2 l0_2.length c0_2]] rfl (by (try simp only [mT, mC, mN]); first | done | rfl | (simp only [lD, lT]; rfl)) ?_; (with_reducible refine (bureaulaw04_Fits.calls a0_1 _ _ l0_2 false _ ?side1 ?side2 A2.out).mono ?_); (case side1 => repeat (first | exact (cB_ HR0_2.out HB.out) | (with_reducible refine Kd.C_alloc ?_ _) | (with_reducible refine Kd.C_drewN ?_ _) | (with_reducible refine Kd.C_drew ?_))); (case side2 => exact HC0_2.out); rintro e w12 ⟨rfl, hb⟩; refine ⟨_, rfl, ?_⟩; have n0_ := aM (bB (g := gb196) (qy BK196.out) hb); have n1_ := aM (bP (by repeat (first | (with_reducible first | exact HB.out | apply ea | apply en | apply ed | refine es ?_ GE196.out) | exact HB.out)) hb); clear BK196 HB; have BK196 := n0_; have HB := n1_; clear n0_ n1_; (try clear hb); (try clear hb2); (try clear hk); (try clear hi)))
  go_ret
  exact ⟨by first | rfl | (simp [errW_none, errW_some] <;> rfl) | (simp [*, errW_none, errW_some] <;> rfl), by repeat (first | (with_reducible first | exact HB.out | apply ea | apply en | apply ed | refine es ?_ GE196.out) | exact HB.out)⟩
end Go.Proofs.Ytbbgpfjeobdogaa.PB
end

section
namespace Go.Proofs.Ytbbgpfjeobdogaa.PB
open Go.RowKit Go.Proofs.YtbbgpfjeobdogaaW.PrintWords
set_option linter.unusedVariables false
def fitE (o : ByteArray) (ol : List S71) (n : ByteArray) (nl : List S71) : Prop := (o.size ≤ 5000 ∧ ol.length ≤ 5000) ∧ (n.size ≤ 5000 ∧ nl.length ≤ 5000)
instance (o : ByteArray) (ol : List S71) (n : ByteArray) (nl : List S71) : Decidable (fitE o ol n nl) := inferInstanceAs (Decidable (_ ∧ _))
theorem fits7_eq (a : Int) (o : ByteArray) (ol : List S71) (n : ByteArray) (nl : List S71) : bureaulaw07_Fits.f a o ol n nl = some (decide (fitE o ol n nl)) := by
  unfold bureaulaw07_Fits.f
  rw [fits_eq, fits_eq]
  by_cases h : o.size ≤ 5000 ∧ ol.length ≤ 5000
  · rw [decide_eq_true h, Option.bind_some, if_pos rfl, Option.bind_some]
    congr 1
    rw [Bool.eq_iff_iff, decide_eq_true_iff, decide_eq_true_iff]
    exact ⟨fun h2 => ⟨h, h2⟩, fun h2 => h2.2⟩
  · rw [decide_eq_false h, Option.bind_some, if_neg (by simp)]
    rw [decide_eq_false (fun h2 : fitE o ol n nl => h h2.1)]
end Go.Proofs.Ytbbgpfjeobdogaa.PB
end

section
namespace Go.Proofs.Ytbbgpfjeobdogaa.PB
open Go.RowKit Go.Maps Go.Proofs.YtbbgpfjeobdogaaW.PrintWords Go.Proofs.YtbbgpfjeobdogaaW.PrintLast Go.Proofs.YtbbgpfjeobdogaaW.PrintMore
set_option maxRecDepth 100000
set_option linter.unusedVariables false
set_option linter.unusedSimpArgs false
abbrev Ac := S36
theorem act_at {w : World} {A : Option Addr} {n : Nat} {l : List Ac} (h : Kd.C k36 w A n l) {i : Nat} (hi : i < l.length) : ∃ ad A3 c3 A5 c5, A = some ad ∧ w.cell? (ad.add (i * 7)) = some (.int .u8 (l[i]).f0) ∧ w.cell? ⟨(ad.add (i * 7)).block, (ad.add (i * 7)).off + 1, none⟩ = some (.int .i64 (l[i]).f1.f0) ∧ w.cell? ⟨(ad.add (i * 7)).block, (ad.add (i * 7)).off + 2, none⟩ = some (.string (l[i]).f1.f1.f0) ∧ w.cell? ⟨(ad.add (i * 7)).block, (ad.add (i * 7)).off + 3, none⟩ = some (.slice A3 (l[i]).f1.f1.f1.length c3) ∧ w.cell? ⟨(ad.add (i * 7)).block, (ad.add (i * 7)).off + 4, none⟩ = some (.string (l[i]).f1.f2.f0) ∧ w.cell? ⟨(ad.add (i * 7)).block, (ad.add (i * 7)).off + 5, none⟩ = some (.slice A5 (l[i]).f1.f2.f1.length c5) ∧ w.cell? ⟨(ad.add (i * 7)).block, (ad.add (i * 7)).off + 6, none⟩ = some (.bool (l[i]).f2) ∧
    (((l[i]).f1.f1.f1.length ≤ 100000 ∧ (l[i]).f1.f2.f1.length ≤ 100000) → EdIn w (fun k => k < w.heap.size) (l[i]).f1 A3 c3 A5 c5) ∧ Kd.C k71 w A3 (l[i]).f1.f1.f1.length (l[i]).f1.f1.f1 ∧ (l[i]).f1.f1.f1.length ≤ c3 ∧ Kd.C k71 w A5 (l[i]).f1.f2.f1.length (l[i]).f1.f2.f1 ∧ (l[i]).f1.f2.f1.length ≤ c5 := by
  have hn := h.1
  obtain ⟨ad, A3, c3, A5, c5, e1, h0, h1, h2, h3, h4, h5, h6, g3, C3, g5, C5⟩ := at_T36 h (i : Int) (by omega) (by omega)
  have e : rd_T36 l (i : Int) = l[i] := by
    unfold rd_T36
    rw [Int.toNat_natCast, List.getD_eq_getElem?_getD, List.getElem?_eq_getElem hi, Option.getD_some]
  simp only [e, Int.toNat_natCast] at h0 h1 h2 h3 h4 h5 h6 g3 C3 g5 C5
  exact ⟨ad, A3, c3, A5, c5, e1, h0, h1, h2, h3, h4, h5, h6, fun hf => ⟨Kd.C_F k71_heap C3, g3, Kd.C_F k71_heap C5, g5, hf⟩, C3, g3, C5, g5⟩
theorem cellW {w W : World} (hb : Below w.heap.size w W) {p : Addr} {v : Value} (h : w.cell? p = some v) : W.cell? p = some v := (hb.cell (World.block_lt_of_cell? w _ h)).trans h
theorem row_at {w : World} {B : Nat} {ok : Nat → Prop} {A : Option Addr} {n c : Nat} {l : List Int} (h : Kd.R (Kd.int .i64) 3 w B ok (.slice A n c) l) (hl : 1 ≤ l.length) : ∃ ad, A = some ad ∧ ∀ i : Nat, i < l.length → w.cell? (ad.add i) = some (.int .i64 (rd l (i : Int))) := by
  obtain ⟨e, _, hC⟩ := rR h
  obtain ⟨ad, rfl, _⟩ := Kd.at_int hC 0 (by omega) (by omega)
  refine ⟨ad, rfl, fun i hi => ?_⟩
  obtain ⟨ad2, e2, h2⟩ := Kd.at_int hC (i : Int) (by omega) (by omega)
  cases e2
  rw [Int.toNat_natCast] at h2
  exact h2
theorem HistAt.lower {B B' : Nat} {S : Nat → Prop} {g bm : Nat} {w : World} {L : List St} {now next depth : Int} (h : HistAt B S g bm w L now next depth) (hb : B' ≤ B) : HistAt B' S g bm w L now next depth :=
  ⟨h.hg, h.hm, h.sg, h.sm, Nat.le_trans hb h.bg, Nat.le_trans hb h.bb⟩
theorem fit_le {o : ByteArray} {ol : List S71} {n : ByteArray} {nl : List S71} (h : fitE o ol n nl) : ol.length ≤ 100000 ∧ nl.length ≤ 100000 := by
  have h1 := h.1.2
  have h2 := h.2.2
  omega
theorem EdIn.old {S ok : Nat → Prop} {w W : World} {e : Ed} {A1 A2 : Option Addr} {c1 c2 : Nat} (h : EdIn w ok e A1 c1 A2 c2) (hb : Below w.heap.size w W) (hS : ∀ k, ok k → ¬ S k) : EdIn W (fun k => ¬ S k) e A1 c1 A2 c2 := by
  have := h.below hb
  exact ⟨Kd.F_mono this.f1 hS, this.g1, Kd.F_mono this.f2 hS, this.g2, this.fit⟩
structure Ck (B g bm : Nat) (w : World) (L : List St) (now next depth : Int) (ls ps : List Int) (A : Option Addr) (c : Nat) (A' : Option Addr) (c' : Nat) (W : World) : Prop where
  hist : HistAt B (hb g bm) g bm W L now next depth
  rs : Kd.R (Kd.int .i64) 3 W w.heap.size (fun _ => True) (.slice A ls.length c) ls
  rp : Kd.R (Kd.int .i64) 3 W w.heap.size (fun _ => True) (.slice A' ps.length c') ps
  below : Below w.heap.size w W
theorem Ck.later {B g bm : Nat} {w W W2 : World} {L : List St} {now next depth : Int} {ls ps : List Int} {A A' : Option Addr} {c c' : Nat} (h : Ck B g bm w L now next depth ls ps A c A' c' W) (hb : Below W.heap.size W W2) : Ck B g bm w L now next depth ls ps A c A' c' W2 :=
  ⟨h.hist.below hb, Kd.R_below h.rs hb, Kd.R_below h.rp hb, h.below.trans (hb.mono h.below.size)⟩
theorem Ck.ls {B g bm : Nat} {w W : World} {L : List St} {now next depth : Int} {ls ps : List Int} {lad : Addr} {A' : Option Addr} {c c' : Nat} (h : Ck B g bm w L now next depth ls ps (some lad) c A' c' W) {i : Nat} (hi : i < ls.length) : W.cell? (lad.add i) = some (.int .i64 (rd ls (i : Int))) := by
  obtain ⟨ad, e, hc⟩ := row_at h.rs (by omega)
  cases e
  exact hc i hi
theorem Ck.ps {B g bm : Nat} {w W : World} {L : List St} {now next depth : Int} {ls ps : List Int} {pad : Addr} {A : Option Addr} {c c' : Nat} (h : Ck B g bm w L now next depth ls ps A c (some pad) c' W) {i : Nat} (hi : i < ps.length) : W.cell? (pad.add i) = some (.int .i64 (rd ps (i : Int))) := by
  obtain ⟨ad, e, hc⟩ := row_at h.rp (by omega)
  cases e
  exact hc i hi
def bureaulaw08_HistBounds.f (k : Nat) (depth : Int) (l : List Ac) : Option Bool := if (∀ x ∈ l, 0 ≤ x.f0 ∧ x.f0 < 256) then some true else none
set_option maxHeartbeats 16000000 in
theorem bureaulaw08_HistBounds.calls (k : Nat) (depth : Int) (A1 : Option Addr) (c1 : Nat) (l : List Ac) (r : Bool) (w : World) (hr1 : Kd.C k36 w A1 l.length l) (hc1 : l.length ≤ c1) (h : bureaulaw08_HistBounds.f k depth l = some r) :
    Calls Try.prog 4 #[.int .i64 depth, .slice A1 l.length c1] w fun e w' => e = .returned (.bool r) ∧ Below w.heap.size w w' := by
  unfold bureaulaw08_HistBounds.f at h
  by_cases hok : ∀ x ∈ l, 0 ≤ x.f0 ∧ x.f0 < 256
  case neg => rw [if_neg hok] at h; cases h
  rw [if_pos hok] at h
  obtain rfl : true = r := Option.some.inj h
  clear h
  have hu36 := Try.underlying36
  have hu34 := Try.underlying34
  have HR1 := aM hr1
  have HC1 := aM hc1
  have HOK := aM hok
  clear hr1 hc1 hok
  by_cases hd : 1 ≤ depth ∧ depth ≤ 64
  case neg =>
    by_cases hd1 : depth < 1
    · have d1 : decide (depth < 1) = true := decide_eq_true hd1
      go_enter Try.func4, Try.ntmps4
      go_wp2_with (first
        | ((with_reducible refine gate_callee (f := 8) rfl ?_); refine goesL_ (some 13) rfl rfl Try.func8 (by kernel_rfl) rfl #[] rfl (by (try simp only [List.map_toArray, List.map_cons, List.map_nil]); first | done | rfl) ?_; (with_reducible refine (bureaulaw08_alive.calls true _ rfl).mono ?_); rintro r1 w1 ⟨rfl, hb⟩; refine ⟨_, rfl, ?_⟩; have HB1 := aM hb; clear hb)
        | ((with_reducible refine gate_callee (f := 9) rfl ?_); refine goesL_ (some 16) rfl rfl Try.func9 (by kernel_rfl) rfl #[.int .i64 depth] rfl (by (try simp only [List.map_toArray, List.map_cons, List.map_nil]); first | done | rfl) ?_; (with_reducible refine (new_no depth hd _).mono ?_); rintro r2 w2 ⟨rfl, hw⟩; refine ⟨_, rfl, ?_⟩; subst hw)
        )
      go_ret
      exact ⟨rfl, HB1.out⟩
    · have d1 : decide (depth < 1) = false := decide_eq_false hd1
      have d2 : decide (depth > 64) = true := decide_eq_true (by omega)
      have d3 : decide (64 < depth) = true := decide_eq_true (by omega)
      go_enter Try.func4, Try.ntmps4
      go_wp2_with (first
        | ((with_reducible refine gate_callee (f := 8) rfl ?_); refine goesL_ (some 13) rfl rfl Try.func8 (by kernel_rfl) rfl #[] rfl (by (try simp only [List.map_toArray, List.map_cons, List.map_nil]); first | done | rfl) ?_; (with_reducible refine (bureaulaw08_alive.calls true _ rfl).mono ?_); rintro r1 w1 ⟨rfl, hb⟩; refine ⟨_, rfl, ?_⟩; have HB1 := aM hb; clear hb)
        | ((with_reducible refine gate_callee (f := 9) rfl ?_); refine goesL_ (some 16) rfl rfl Try.func9 (by kernel_rfl) rfl #[.int .i64 depth] rfl (by (try simp only [List.map_toArray, List.map_cons, List.map_nil]); first | done | rfl) ?_; (with_reducible refine (new_no depth hd _).mono ?_); rintro r2 w2 ⟨rfl, hw⟩; refine ⟨_, rfl, ?_⟩; subst hw)
        )
      go_ret
      exact ⟨rfl, HB1.out⟩
  case pos =>
  have HD := aM hd
  clear hd
  go_enter Try.func4, Try.ntmps4
  go_wp2_with (first
    | ((with_reducible refine gate_callee (f := 8) rfl ?_); refine goesL_ (some 13) rfl rfl Try.func8 (by kernel_rfl) rfl #[] rfl (by (try simp only [List.map_toArray, List.map_cons, List.map_nil]); first | done | rfl) ?_; (with_reducible refine (bureaulaw08_alive.calls true _ rfl).mono ?_); rintro r1 w1 ⟨rfl, hb⟩; refine ⟨_, rfl, ?_⟩; have HB1 := aM hb; clear hb)
    | ((with_reducible refine gate_callee (f := 9) rfl ?_); refine goesL_ (some 16) rfl rfl Try.func9 (by kernel_rfl) rfl #[.int .i64 depth] rfl (by (try simp only [List.map_toArray, List.map_cons, List.map_nil]); first | done | rfl) ?_; (with_reducible refine (new_ok depth HD.out.1 HD.out.2 _).mono ?_); rintro r2 w2 ⟨g, bm, rfl, hh, hb⟩; refine ⟨_, rfl, ?_⟩; have HH2 := aM (show HistAt w.heap.size (fun k => k = g ∨ k = bm) g bm w2 [st0] 0 1 depth from hh.lower HB1.out.size); have HB2 := aM (HB1.out.trans (hb.mono HB1.out.size)); clear hh hb)
    )
  have HI2 := aM (inv0 HD.out.1 HD.out.2)
  go_loopg [6] l.length (fun kq v6 w' => ∃ (i : Nat) (s : Hs), v6 = .int .i64 (i : Int) ∧ Aside0 (i + kq = l.length) ∧ Aside0 (i ≤ 80 ∧ s.next ≤ (i : Int) + 1) ∧ Aside0 (HistAt w.heap.size (hb g bm) g bm w' s.L s.now s.next depth) ∧ Aside0 (Inv s.L s.now s.next depth) ∧ Aside0 (Below w.heap.size w w'))
  case atStart => exact ⟨0, ⟨[st0], 0, 1⟩, rfl, ⟨by omega⟩, ⟨by decide⟩, HH2, HI2, HB2⟩
  case round =>
    clear HH2 HB2 HI2
    obtain ⟨i, s, rfl, HI, HN, HH, HV, HB⟩ := hrel
    by_cases b1 : i < l.length
    · by_cases b2 : i < 80
      · cases gk with
        | zero => exact absurd HI.out (by omega)
        | succ k1 =>
          have d1 : decide ((i : Int) < (l.length : Int)) = true := decide_eq_true (by omega)
          have d2 : decide ((i : Int) < 80) = true := decide_eq_true (by omega)
          have p1 : (0 ≤ (i : Int)) = True := eq_true (by omega)
          have q1 : ((i : Int) < (l.length : Int)) = True := eq_true (by omega)
          have e1 : wrap64 ((i : Int) + 1) = ((i + 1 : Nat) : Int) := by unfold wrap64; omega
          obtain ⟨ad, A3, c3, A5, c5, eA, hx0, hx1, hx2, hx3, hx4, hx5, hx6, hE, C3, g3, C5, g5⟩ := act_at HR1.out b1
          cases eA
          have HK := aM (HOK.out _ (List.getElem_mem b1))
          generalize l[i] = x at hx0 hx1 hx2 hx3 hx4 hx5 hx6 hE C3 g3 C5 g5 HK
          have HXC := aM (And.intro hx0 (And.intro hx1 (And.intro hx2 (And.intro hx3 (And.intro hx4 (And.intro hx5 hx6))))))
          have HEC := aM (And.intro C3 (And.intro g3 (And.intro C5 g5)))
          have HE := aM hE
          replace hx0 := cellW HB.out hx0
          replace hx1 := cellW HB.out hx1
          replace hx2 := cellW HB.out hx2
          replace hx3 := cellW HB.out hx3
          replace hx4 := cellW HB.out hx4
          replace hx5 := cellW HB.out hx5
          replace hx6 := cellW HB.out hx6
          clear hE C3 g3 C5 g5
          by_cases hf : fitE x.f1.f1.f0 x.f1.f1.f1 x.f1.f2.f0 x.f1.f2.f1
          · have HF := aM hf
            have hft : decide (fitE x.f1.f1.f0 x.f1.f1.f1 x.f1.f2.f0 x.f1.f2.f1) = true := decide_eq_true hf
            have HFT := aM (fits7_eq x.f1.f0 x.f1.f1.f0 x.f1.f1.f1 x.f1.f2.f0 x.f1.f2.f1)
            rw [hft] at HFT
            clear hf hft
            go_wp2_with (first
              | ((with_reducible refine gate_callee (f := 11) rfl ?_); refine goesL_ (some 40) rfl rfl Try.func11 (by kernel_rfl) rfl #[.agg #[.int .i64 x.f1.f0, .string x.f1.f1.f0, .slice A3 x.f1.f1.f1.length c3, .string x.f1.f2.f0, .slice A5 x.f1.f2.f1.length c5]] rfl (by (try simp only [List.map_toArray, List.map_cons, List.map_nil]); first | done | rfl) ?_; (with_reducible refine (bureaulaw07_Fits.calls x.f1.f0 x.f1.f1.f0 A3 c3 x.f1.f1.f1 x.f1.f2.f0 A5 c5 x.f1.f2.f1 true _ (cB_ HEC.out.1 HB.out) HEC.out.2.1 (cB_ HEC.out.2.2.1 HB.out) HEC.out.2.2.2 HFT.out).mono ?_); rintro r3 w3 ⟨rfl, hb⟩; refine ⟨_, rfl, ?_⟩; have HB3 := aM (HB.out.trans (hb.mono HB.out.size)); have HH3 := aM (HH.out.below hb); clear hb; clear hx0 hx1 hx2 hx3 hx4 hx5 hx6; have hx0 := cellW HB3.out HXC.out.1; have hx1 := cellW HB3.out HXC.out.2.1; have hx2 := cellW HB3.out HXC.out.2.2.1; have hx3 := cellW HB3.out HXC.out.2.2.2.1; have hx4 := cellW HB3.out HXC.out.2.2.2.2.1; have hx5 := cellW HB3.out HXC.out.2.2.2.2.2.1; have hx6 := cellW HB3.out HXC.out.2.2.2.2.2.2)
              | ((with_reducible refine gate_callee (f := 25) rfl ?_); refine goesL_ (some 47) rfl rfl Try.func25 (by kernel_rfl) rfl #[.pointer (some ⟨g, 0, none⟩), actV x.f0 x.f1 A3 c3 A5 c5 x.f2] rfl (by (try simp only [List.map_toArray, List.map_cons, List.map_nil]); first | done | rfl) ?_; (with_reducible refine (does_ok HH3.out x.f0 HK.out x.f2 (EdIn.old (HE.out (fit_le HF.out)) HB3.out (fun k hk hs => by rcases hs with rfl | rfl; exact absurd hk (Nat.not_lt.2 HH3.out.bg); exact absurd hk (Nat.not_lt.2 HH3.out.bb))) HV.out (by have := HN.out; omega) HH3.out.hS).mono ?_); rintro r4 w4 ⟨rfl, hh, ht⟩; refine ⟨_, rfl, ?_⟩; have HH4 := aM hh; have HB4 := aM (HB3.out.trans ht.bel); have HV4 := aM (step_inv HV.out (by have := HN.out; omega) x.f0 (fit_le HF.out)); have HN4 := aM (show (stepH depth s x.f0 x.f1).next ≤ (i : Int) + 2 from by have := HN.out; have := step_next (depth := depth) (s := s) x.f0 x.f1; omega); clear hh ht; generalize stepH depth s x.f0 x.f1 = s4 at HH4 HV4 HN4)
              | ((with_reducible refine gate_callee (f := 21) rfl ?_); refine goesL_ (some 49) rfl rfl Try.func21 (by kernel_rfl) rfl #[.pointer (some ⟨g, 0, none⟩)] rfl (by (try simp only [List.map_toArray, List.map_cons, List.map_nil]); first | done | rfl) ?_; (with_reducible refine (states_ok HH4.out HV4.out.wf).mono ?_); rintro r5 w5 ⟨v5, rfl, ho, hb⟩; obtain ⟨As, cs, rfl⟩ := Kd.R_slice ho; refine ⟨_, rfl, ?_⟩; have HS5 := aM ho; have HB5 := aM (HB4.out.trans (hb.mono HB4.out.size)); have HH5 := aM (HH4.out.below hb); clear ho hb)
              | ((with_reducible refine gate_callee (f := 23) rfl ?_); refine goesL_ (some 51) rfl rfl Try.func23 (by kernel_rfl) rfl #[.pointer (some ⟨g, 0, none⟩)] rfl (by (try simp only [List.map_toArray, List.map_cons, List.map_nil]); first | done | rfl) ?_; (with_reducible refine (path_ok HH5.out HV4.out.wf).mono ?_); rintro r6 w6 ⟨v6, rfl, ho, hb⟩; obtain ⟨Ap, cp, rfl⟩ := Kd.R_slice ho; refine ⟨_, rfl, ?_⟩; have HP6 := aM ho; have HS6 := aM (Kd.R_below HS5.out hb); have HB6 := aM (HB5.out.trans (hb.mono HB5.out.size)); have HH6 := aM (HH5.out.below hb); clear ho hb)
              )
            have HPO := aM (path_okay HV4.out)
            have HCAP := aM (show (((statesL s4.L).length : Nat) : Int) ≤ depth + 1 from by unfold statesL; rw [List.length_map]; exact HV4.out.cap)
            generalize statesL s4.L = ls at HS5 HS6 HPO HCAP
            generalize pathL s4.L s4.now = ps at HP6 HPO
            have hpo1 := HPO.out.l1
            have hpo2 := HPO.out.p1
            have hpo3 := HPO.out.p2
            have hcap := HCAP.out
            have hd64 := HD.out
            obtain ⟨lad, eas, hcs⟩ := row_at HS6.out hpo1
            obtain ⟨pad, eap, hcp⟩ := row_at HP6.out hpo2
            subst eas
            subst eap
            have hl0 : w6.cell? lad = some (.int .i64 (rd ls 0)) := hcs 0 (by omega)
            have hp0 : w6.cell? pad = some (.int .i64 (rd ls 0)) := by rw [← HPO.out.first]; exact hcp 0 (by omega)
            have hl0' : w6.cell? (lad.add 0) = some (.int .i64 (rd ls 0)) := hl0
            have hp0' : w6.cell? (pad.add 0) = some (.int .i64 (rd ls 0)) := hp0
            have hpn : w6.cell? (pad.add (ps.length - 1)) = some (.int .i64 s4.now) := by
              have := hcp (ps.length - 1) (by omega)
              rw [show (((ps.length - 1 : Nat)) : Int) = (ps.length : Int) - 1 by omega, HPO.out.last] at this
              exact this
            have f1 : decide ((ls.length : Int) < 1) = false := decide_eq_false (by omega)
            have f2 : wrap64 (depth + 1) = depth + 1 := by unfold wrap64; omega
            have f2' : IntKind.i64.wrap (depth + 1) = depth + 1 := (i64_w _).trans f2
            have f3 : decide ((ls.length : Int) > depth + 1) = false := decide_eq_false (by omega)
            have f3' : decide (depth + 1 < (ls.length : Int)) = false := decide_eq_false (by omega)
            have f4 : decide ((ps.length : Int) < 1) = false := decide_eq_false (by omega)
            have f5 : wrap64 ((ps.length : Int) - 1) = ((ps.length - 1 : Nat) : Int) := by unfold wrap64; omega
            have f5' : IntKind.i64.wrap ((ps.length : Int) - 1) = ((ps.length - 1 : Nat) : Int) := (i64_w _).trans f5
            have f6 : ((0 : Int) < (ps.length : Int)) = True := eq_true (by omega)
            have f7 : ((0 : Int) < (ls.length : Int)) = True := eq_true (by omega)
            have f6n : (0 < ps.length) = True := eq_true (by omega)
            have f7n : (0 < ls.length) = True := eq_true (by omega)
            have f8n : (ps.length - 1 < ps.length) = True := eq_true (by omega)
            have f8 : (((ps.length - 1 : Nat) : Int) < (ps.length : Int)) = True := eq_true (by omega)
            have f9 : (0 ≤ ((ps.length - 1 : Nat) : Int)) = True := eq_true (by omega)
            clear hpo1 hpo2 hpo3 hcap hd64 hcs hcp
            go_quiet ((go_at_call 19; exact Calls.quiet_of_same (now_ok (HH6.out.below (pw_below_drewN (Below.refl _ _) _)))))
            have HCK := aM (show Ck w.heap.size g bm w s4.L s4.now s4.next depth ls ps (some lad) cs (some pad) cp (w6.drewN nq) from Ck.later ⟨HH6.out, rL HS6.out HB4.out.size, rL HP6.out HB5.out.size, HB6.out⟩ (pw_below_drewN (Below.refl _ _) nq))
            clear HH6 HS6 HP6 HB6 HH5 HS5 HB5 HH4 HB4 HH3 HB3 hl0 hp0 hl0' hp0' hpn f1 f2 f2' f3 f3' f4 f5 f5' f6 f7 f6n f7n f8n f8 f9 hx0 hx1 hx2 hx3 hx4 hx5 hx6
            generalize w6.drewN nq = w7 at HCK ⊢
            go_wp2
            go_loopg [9] ls.length (fun kq v9 w' => ∃ j : Nat, v9 = .int .i64 (j : Int) ∧ Aside0 (1 ≤ j) ∧ Aside0 (j + kq = ls.length + 1) ∧ Aside0 (Ck w.heap.size g bm w s4.L s4.now s4.next depth ls ps (some lad) cs (some pad) cp w'))
            case atStart => exact ⟨1, rfl, ⟨Nat.le_refl _⟩, ⟨by omega⟩, HCK⟩
            case round =>
              clear HCK
              obtain ⟨j, rfl, HJ, HJK, HCK⟩ := hrel
              have hj1 := HJ.out
              have hcap := HCAP.out
              have hd64 := HD.out
              by_cases cj : j < ls.length
              · cases gk with
                | zero => exact absurd HJK.out (by omega)
                | succ k2 =>
                  have g1 : decide ((j : Int) < (ls.length : Int)) = true := decide_eq_true (by omega)
                  have g2 : ((j : Int) < (ls.length : Int)) = True := eq_true (by omega)
                  have g2n : (j < ls.length) = True := eq_true cj
                  have g3 : wrap64 ((j : Int) - 1) = ((j - 1 : Nat) : Int) := by unfold wrap64; omega
                  have g3' : IntKind.i64.wrap ((j : Int) - 1) = ((j - 1 : Nat) : Int) := (i64_w _).trans g3
                  have g4 : (((j - 1 : Nat) : Int) < (ls.length : Int)) = True := eq_true (by omega)
                  have g4n : (j - 1 < ls.length) = True := eq_true (by omega)
                  have g5 : (0 ≤ ((j - 1 : Nat) : Int)) = True := eq_true (by omega)
                  have g6 : (0 ≤ (j : Int)) = True := eq_true (by omega)
                  have hc1 := HCK.out.ls (i := j - 1) (by omega)
                  have hc2 := HCK.out.ls cj
                  have hlt := HPO.out.linc j hj1 cj
                  rw [show (((j - 1 : Nat)) : Int) = (j : Int) - 1 by omega] at hc1
                  have g7 : decide (rd ls ((j : Int) - 1) ≥ rd ls (j : Int)) = false := decide_eq_false (by omega)
                  have g7' : decide (rd ls (j : Int) ≤ rd ls ((j : Int) - 1)) = false := decide_eq_false (by omega)
                  have g8 : wrap64 ((j : Int) + 1) = ((j + 1 : Nat) : Int) := by unfold wrap64; omega
                  clear hj1 hcap hd64 hlt cj
                  go_wp2
                  go_quiet (fail)
                  have HCK2 := aM (HCK.out.later (pw_below_drewN (Below.refl _ _) nq))
                  go_wp2
                  rw [g8]
                  go_roundg k2
                  case measure => exact Nat.lt_succ_self _
                  case rel => exact ⟨j + 1, rfl, ⟨by omega⟩, ⟨by have := HJK.out; omega⟩, HCK2⟩
              · have g1 : decide ((j : Int) < (ls.length : Int)) = false := decide_eq_false (by omega)
                have g2 : ((j : Int) < (ls.length : Int)) = False := eq_false (by omega)
                have g2n : (j < ls.length) = False := eq_false cj
                clear hj1 hcap hd64
                go_wp2
                have HCK0 := HCK
                go_loopg [10, 105] ps.length (fun kq v10 v105 w' => ∃ a m : Nat, v10 = .int .i64 (a : Int) ∧ v105 = .int .i64 (m : Int) ∧ Aside0 (m + kq = ps.length) ∧ Aside0 (a < ls.length ∧ (m = 0 → a = 0) ∧ (1 ≤ m → rd ls (a : Int) = rd ps ((m : Int) - 1))) ∧ Aside0 (Ck w.heap.size g bm w s4.L s4.now s4.next depth ls ps (some lad) cs (some pad) cp w'))
                case atStart => exact ⟨0, 0, rfl, rfl, ⟨by omega⟩, ⟨HPO.out.l1, fun _ => rfl, fun h => absurd h (by decide)⟩, HCK0⟩
                case round =>
                  clear HCK0 HCK HJ HJK g1 g2 g2n
                  obtain ⟨a, m, rfl, rfl, HMK, HAM, HCK⟩ := hrel
                  have hp3 := HPO.out.p2
                  have hcap := HCAP.out
                  have hd64 := HD.out
                  by_cases cm : m < ps.length
                  · cases gk with
                    | zero => exact absurd HMK.out (by omega)
                    | succ k3 =>
                      have g2 : ((m : Int) < (ps.length : Int)) = True := eq_true (by omega)
                      have g2n : (m < ps.length) = True := eq_true cm
                      have g6 : (0 ≤ (m : Int)) = True := eq_true (by omega)
                      have hc1 := HCK.out.ps cm
                      have HSK := aM (seek HPO.out.lsort (HPO.out.sub (rd ps (m : Int)) (by rw [getD_eq ps m cm]; exact List.getElem_mem cm)))
                      have HLE := aM (show ∃ jx : Nat, jx < ls.length ∧ rd ls (jx : Int) = rd ps (m : Int) ∧ a ≤ jx ∧ ∀ i : Nat, i < jx → rd ls (i : Int) ≠ rd ps (m : Int) from by
                        obtain ⟨jx, h1, h2, h3⟩ := HSK.out
                        refine ⟨jx, h1, h2, ?_, fun i hi e => by have := (h3 i (by omega)).1 e; omega⟩
                        by_cases hm0 : m = 0
                        · have := HAM.out.2.1 hm0; omega
                        · have h4 := HAM.out.2.2 (by omega)
                          have h5 := HPO.out.pinc m (by omega) cm
                          exact Nat.le_of_lt ((h3 a HAM.out.1).2 (by omega)))
                      have HPM := aM (show 1 ≤ m → rd ps ((m : Int) - 1) < rd ps (m : Int) from fun h1 => HPO.out.pinc m h1 cm)
                      obtain ⟨jx, hjx, hjv, haj, hjn⟩ := HLE.out
                      have HJX := aM (And.intro hjx (And.intro hjv (And.intro haj hjn)))
                      clear HSK HLE hjx hjv haj hjn hp3 hcap hd64
                      go_wp2
                      go_loopg [10] jx (fun kq v10 w' => ∃ b : Nat, v10 = .int .i64 (b : Int) ∧ Aside0 (b ≤ jx ∧ jx ≤ b + kq) ∧ Aside0 (Ck w.heap.size g bm w s4.L s4.now s4.next depth ls ps (some lad) cs (some pad) cp w'))
                      case atStart => exact ⟨a, rfl, ⟨⟨HJX.out.2.2.1, by omega⟩⟩, HCK⟩
                      case round =>
                        clear HCK hc1
                        obtain ⟨b, rfl, HBJ, HCK⟩ := hrel
                        have hbl : b < ls.length := by have := HBJ.out; have := HJX.out.1; omega
                        have hcap := HCAP.out
                        have hd64 := HD.out
                        have g7 : decide ((b : Int) < (ls.length : Int)) = true := decide_eq_true (by omega)
                        have g8 : ((b : Int) < (ls.length : Int)) = True := eq_true (by omega)
                        have g8n : (b < ls.length) = True := eq_true hbl
                        have g9 : (0 ≤ (b : Int)) = True := eq_true (by omega)
                        have hcb := HCK.out.ls hbl
                        have e8 : wrap64 ((b : Int) + 1) = ((b + 1 : Nat) : Int) := by unfold wrap64; omega
                        have e9 : wrap64 ((m : Int) + 1) = ((m + 1 : Nat) : Int) := by have := HPO.out.p2; unfold wrap64; omega
                        have g12 : ((b : Int) == (ls.length : Int)) = false := by simp; omega
                        have g12d : decide ((b : Int) = (ls.length : Int)) = false := decide_eq_false (by omega)
                        have g12n : (b = ls.length) = False := eq_false (by omega)
                        clear hcap hd64
                        by_cases hbj : b = jx
                        case neg =>
                         cases gk with
                         | zero => exact absurd HBJ.out (by omega)
                         | succ k4 =>
                          have hne := HJX.out.2.2.2 b (by have := HBJ.out; omega)
                          have g10 : decide (rd ls (b : Int) = rd ps (m : Int)) = false := decide_eq_false hne
                          have g10b : (rd ls (b : Int) == rd ps (m : Int)) = false := by simpa using hne
                          have g10p : (rd ls (b : Int) = rd ps (m : Int)) = False := eq_false hne
                          have g10n : (rd ls (b : Int) != rd ps (m : Int)) = true := by simpa using hne
                          clear hne
                          go_wp2
                          first | rw [e8] | rw [show ((b : Int) + 1) = ((b + 1 : Nat) : Int) by omega]
                          go_roundg k4
                          case measure => exact Nat.lt_succ_self _
                          case rel => exact ⟨b + 1, rfl, ⟨by have := HBJ.out; omega⟩, HCK⟩
                        case pos =>
                          subst hbj
                          have heq := HJX.out.2.1
                          have g10 : decide (rd ls (b : Int) = rd ps (m : Int)) = true := decide_eq_true heq
                          have g10b : (rd ls (b : Int) == rd ps (m : Int)) = true := by simpa using heq
                          have g10p : (rd ls (b : Int) = rd ps (m : Int)) = True := eq_true heq
                          have g10n : (rd ls (b : Int) != rd ps (m : Int)) = false := by simpa using heq
                          have hrw := heq
                          clear heq
                          by_cases hm0 : m = 0
                          · have g11 : decide ((m : Int) > 0) = false := decide_eq_false (by omega)
                            have g11b : decide (0 < (m : Int)) = false := decide_eq_false (by omega)
                            have g11n : (0 < m) = False := eq_false (by omega)
                            clear hrw hm0
                            go_wp2
                            first | rw [e9] | rw [show ((m : Int) + 1) = ((m + 1 : Nat) : Int) by omega]
                            go_roundg k3
                            case measure => exact Nat.lt_succ_self _
                            case rel => exact ⟨b, m + 1, rfl, rfl, ⟨by have := HMK.out; omega⟩, ⟨HJX.out.1, fun h => absurd h (by omega), fun _ => by rw [HJX.out.2.1]; congr 1; omega⟩, HCK⟩
                          · have g11 : decide ((m : Int) > 0) = true := decide_eq_true (by omega)
                            have g11b : decide (0 < (m : Int)) = true := decide_eq_true (by omega)
                            have g11n : (0 < m) = True := eq_true (by omega)
                            have g13 : wrap64 ((m : Int) - 1) = ((m - 1 : Nat) : Int) := by have := HPO.out.p2; unfold wrap64; omega
                            have g14 : (((m - 1 : Nat) : Int) < (ps.length : Int)) = True := eq_true (by omega)
                            have g14n : (m - 1 < ps.length) = True := eq_true (by omega)
                            have g15 : (0 ≤ ((m - 1 : Nat) : Int)) = True := eq_true (by omega)
                            have hcp1 := HCK.out.ps (i := m - 1) (by omega)
                            rw [show (((m - 1 : Nat)) : Int) = (m : Int) - 1 by omega] at hcp1
                            have hlt := HPM.out (by omega)
                            have g16 : decide (rd ps ((m : Int) - 1) ≥ rd ps (m : Int)) = false := decide_eq_false (by omega)
                            have g16b : decide (rd ps (m : Int) ≤ rd ps ((m : Int) - 1)) = false := decide_eq_false (by omega)
                            have g16p : (rd ps (m : Int) ≤ rd ps ((m : Int) - 1)) = False := eq_false (by omega)
                            clear hrw hlt hm0
                            go_wp2
                            first | rw [e9] | rw [show ((m : Int) + 1) = ((m + 1 : Nat) : Int) by omega]
                            go_roundg k3
                            case measure => exact Nat.lt_succ_self _
                            case rel => exact ⟨b, m + 1, rfl, rfl, ⟨by have := HMK.out; omega⟩, ⟨HJX.out.1, fun h => absurd h (by omega), fun _ => by rw [HJX.out.2.1]; congr 1; omega⟩, HCK⟩
                  · have g2 : ((m : Int) < (ps.length : Int)) = False := eq_false (by omega)
                    have g2n : (m < ps.length) = False := eq_false cm
                    clear hp3 hcap hd64
                    go_wp2
                    first | rw [e1] | rw [show ((i : Int) + 1) = ((i + 1 : Nat) : Int) by omega]
                    go_roundg k1
                    case measure => exact Nat.lt_succ_self _
                    case rel => exact ⟨i + 1, s4, rfl, ⟨by have := HI.out; omega⟩, ⟨by have := HN4.out; omega⟩, HCK.out.hist |> aM, HV4, ⟨HCK.out.below⟩⟩
          · have hft : decide (fitE x.f1.f1.f0 x.f1.f1.f1 x.f1.f2.f0 x.f1.f2.f1) = false := decide_eq_false hf
            have HFT := aM (fits7_eq x.f1.f0 x.f1.f1.f0 x.f1.f1.f1 x.f1.f2.f0 x.f1.f2.f1)
            rw [hft] at HFT
            clear hf hft
            go_wp2_with (first
              | ((with_reducible refine gate_callee (f := 11) rfl ?_); refine goesL_ (some 40) rfl rfl Try.func11 (by kernel_rfl) rfl #[.agg #[.int .i64 x.f1.f0, .string x.f1.f1.f0, .slice A3 x.f1.f1.f1.length c3, .string x.f1.f2.f0, .slice A5 x.f1.f2.f1.length c5]] rfl (by (try simp only [List.map_toArray, List.map_cons, List.map_nil]); first | done | rfl) ?_; (with_reducible refine (bureaulaw07_Fits.calls x.f1.f0 x.f1.f1.f0 A3 c3 x.f1.f1.f1 x.f1.f2.f0 A5 c5 x.f1.f2.f1 false _ (cB_ HEC.out.1 HB.out) HEC.out.2.1 (cB_ HEC.out.2.2.1 HB.out) HEC.out.2.2.2 HFT.out).mono ?_); rintro r3 w3 ⟨rfl, hb⟩; refine ⟨_, rfl, ?_⟩; have HB3 := aM (HB.out.trans (hb.mono HB.out.size)); have HH3 := aM (HH.out.below hb); clear hb)
              )
            first | rw [e1] | rw [show ((i : Int) + 1) = ((i + 1 : Nat) : Int) by omega]
            go_roundg k1
            case measure => exact Nat.lt_succ_self _
            case rel => exact ⟨i + 1, s, rfl, ⟨by have := HI.out; omega⟩, ⟨by have := HN.out; omega⟩, HH3, HV, HB3⟩
      · have d1 : decide ((i : Int) < (l.length : Int)) = true := decide_eq_true (by omega)
        have d2 : decide ((i : Int) < 80) = false := decide_eq_false (by omega)
        have d3 : ((i : Int) < 80) = False := eq_false (by omega)
        have d3n : (i < 80) = False := eq_false b2
        go_wp2
        go_ret
        exact ⟨rfl, HB.out⟩
    · have d1 : decide ((i : Int) < (l.length : Int)) = false := decide_eq_false (by omega)
      have d2 : ((i : Int) < (l.length : Int)) = False := eq_false (by omega)
      have d2n : (i < l.length) = False := eq_false b1
      go_wp2
      go_ret
      exact ⟨rfl, HB.out⟩
end Go.Proofs.Ytbbgpfjeobdogaa.PB
end

section
namespace Go.Proofs.Ytbbgpfjeobdogaa.PB
open Go.RowKit Go.Proofs.YtbbgpfjeobdogaaW.PrintWords
set_option linter.unusedVariables false
theorem u8_wf {n : Int} (h : (Lit.int .u8 n).wf = true) : 0 ≤ n ∧ n < 256 := by
  simp only [Lit.wf, Bool.and_eq_true, decide_eq_true_eq, show IntKind.u8.min = 0 from rfl, show IntKind.u8.max = 255 from rfl] at h
  omega
theorem HistBounds_pure (a0 : Int) (l1 : List S36) (w0 : (Lit.int .i64 a0).wf = true) (w1 : l1.length * 104 ≤ 140737488351232 ∧ ∀ x_ ∈ l1, wf36 x_) : ∃ k, bureaulaw08_HistBounds.f k a0 l1 = some true :=
  ⟨0, if_pos (fun x hx => u8_wf (w1.2 x hx).1)⟩
end Go.Proofs.Ytbbgpfjeobdogaa.PB
end

section
namespace Go.Proofs.Ytbbgpfjeobdogaa.PB
open Go.ChangeShapes Go.WideShapes Go.ChangeAt Go.RowKit Go.Proofs.YtbbgpfjeobdogaaW.PrintWords
open Go.ChangeMaps (open_string shut_string)
set_option linter.unusedVariables false
namespace histBounds
open Go.Proofs.Ytbbgpfjeobdogaa
theorem own : ownKnob Try.prog.godebug = none := by kernel_rfl
theorem laidOut : laidOutB Try.prog = true := by kernel_rfl
set_option maxRecDepth 100000 in
theorem lifted (os : Os) (started : os.Started) (H : Type) (enc : TypeId × Value → H) :
    ReturnsInHanded {} Try.checked os 4 .any (Rows.histBoundsSpec.pre6 enc Try.prog Try.f4 Rows.histBoundsRow.domain false) (Rows.histBoundsSpec.post enc Try.prog Try.f4 false true false false) := by
  refine returnsInHanded_of_change_sized (C := Try.checked) own started (by kernel_rfl) Try.func4
    (ChangeSpec.witness6 (enc := enc) (C := Try.checked) false ⟨#[], #[.int .i64 0, .slice none 0 0], []⟩ 8 (by kernel_rfl) (by kernel_rfl) (by kernel_rfl) (by kernel_rfl)) ?_
  intro W base args ds gs before hval0 hW hcnd hsz0 _
  have hsz : (DataW.weightsEach Try.prog (Try.f4.params.toList ++ Rows.histBoundsSpec.plain.varTypes Try.prog) (ds ++ gs)).all (· ≤ reachBytes) = true := hsz0
  have hval : ∀ (j : Nat) t v, Try.f4.params[j]? = some t → args[j]? = some v → Value.okWide Try.prog W .any base t v := hval0
  have hW' := hW
  obtain ⟨p, q, hA0, hV, rfl, hfz, hnd⟩ := hW
  have hA : DataW.TrodAll enc Try.prog W 0 (fun _ => true) true Try.f4.params.toList args.toList ds p := hA0
  rw [Try.params4] at hA hval hsz
  obtain ⟨v0, vs0, d0, ds0, p0, q0, hargs, rfl, rfl, h0, r0⟩ := trodAll_cons hA
  obtain ⟨v1, vs1, d1, ds1, p1, q1, rfl, rfl, rfl, h1, r1⟩ := trodAll_cons r0
  obtain ⟨rfl, rfl, rfl⟩ := trodAll_nil r1
  obtain rfl : args = #[v0, v1] := by cases args; simp_all
  obtain ⟨rfl, rfl⟩ := trodVars_none hV
  obtain ⟨a0, rfl, rfl, rfl, w0⟩ := open_int Try.underlying3 (hval 0 3 v0 rfl rfl) h0
  have hz1 : ∀ n ∈ d1.weights Try.prog 22, n ≤ reachBytes := fun n hn => by have z := List.all_eq_true.1 hsz n (DataW.weights_mem_each (j := 1) rfl rfl n hn); simpa using z
  have kk1 := h1
  have lt1 : ∀ x ∈ p1, x.block < W.heap.size := by obtain ⟨m, hm⟩ := kk1; exact DataW.trod_lt m _ _ _ hm
  obtain ⟨A1, len1, c1, rfl⟩ := okWide_slice Try.underlying22 (hval 1 22 v1 rfl rfl)
  obtain ⟨l1, A1', c1', hcs1, hc1, hr1, w1⟩ : ∃ (l : List S36) (A' : Option Addr) (c' : Nat), (Value.slice A1 len1 c1).cells.toList = [.slice A' l.length c'] ∧ l.length ≤ c' ∧ Kd.C k36 W A' l.length l ∧ (l.length * 104 ≤ 140737488351232 ∧ ∀ x_ ∈ l, wf36 x_) := by
    obtain ⟨fuel, hf⟩ := h1
    obtain ⟨l, ⟨A', c', h1, h2, h3⟩, h4⟩ := (Opn.slice Try.underlying22 (by kernel_rfl) (by kernel_rfl : Try.prog.bytesOf 36 = 104) opn36) H enc _ _ _ fuel _ _ hf hz1
    exact ⟨l, A', c', h1, h2, h3, h4⟩
  simp only [Value.cells, List.cons.injEq, Value.slice.injEq, and_true] at hcs1
  obtain ⟨rfl, rfl, rfl⟩ := hcs1
  clear hA0 hval0 hsz0 hsz
  obtain ⟨k, hk⟩ := HistBounds_pure a0 l1 w0 w1
  refine (bureaulaw08_HistBounds.calls k a0 _ _ l1 true W hr1 hc1 hk).mono fun e W' ⟨he, bel⟩ => ?_
  subst he
  exact ⟨_, rfl, _, _, _, [], _, [], hW', trodAll_mk1 (shut_bool Try.underlying4 _), (trodAll_cons_mk (shut_int Try.underlying3 w0) (trodAll_cons_mk (Below.trod laidOut (by kernel_rfl) (of_decide_eq_true (by kernel_rfl)) kk1 bel lt1) trodAll_mk0)), rfl, bel.frame _, fun h => by cases h⟩
theorem over : Rows.histBoundsRow.holds Try.pinned (OpenSpec.ofChange Rows.histBoundsSpec) :=
  OpenClaim.holds_of_wide 4 Try.f4 rfl rfl rfl rfl rfl rfl rfl ⟨rfl, rfl, rfl, rfl, rfl⟩ rfl rfl rfl rfl rfl (by kernel_rfl) Try.func4 (by kernel_rfl)
    (of_decide_eq_true (by kernel_rfl)) (by unfold Func.isWrapper; first | (rw [if_pos (by decide +kernel)]; kernel_rfl) | (rw [if_neg (by decide +kernel)]; exact ⟨rfl, rfl⟩))
    (fun os started H enc _ => lifted os started H enc)
theorem proved : Rows.HistBoundsSaid := over
end histBounds
end Go.Proofs.Ytbbgpfjeobdogaa.PB
namespace Go.Proofs.Ytbbgpfjeobdogaa
theorem histBounds_holds : Rows.HistBoundsSaid := PB.histBounds.proved
#print axioms histBounds_holds
end Go.Proofs.Ytbbgpfjeobdogaa
end
