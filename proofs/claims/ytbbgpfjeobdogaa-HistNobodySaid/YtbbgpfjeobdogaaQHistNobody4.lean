/- The row of a law out of its contract and its pure theorem. No condition. -/
import Derived.Test.YtbbgpfjeobdogaaRows
import Derived.ProofKit
import Derived.ShutString
import Derived.ChangeOld
import Derived.Carry
import Derived.Test.YtbbgpfjeobdogaaQHistNobody3
section
namespace Go.Proofs.Ytbbgpfjeobdogaa.PB
open Go.RowKit Go.Proofs.YtbbgpfjeobdogaaW.PrintWords Go.Proofs.YtbbgpfjeobdogaaW.PrintLast Go.Proofs.YtbbgpfjeobdogaaW.PrintMore
attribute [local go_sem] max2_int min2_int max_two min_two max_three min_three max_four min_four   
set_option linter.unusedVariables false
set_option linter.unusedSimpArgs false
def bureauref01_Ints.l0 : Nat → List Int → List Int → Int → Option (Bool)
 | 0, _, _, _ => none
 | k + 1, x0, x1, x5 => if x5 < (x0.length : Int) then (if 0 ≤ x5 then (if x5 < (x1.length : Int) then (if (rd x0 x5) = (rd x1 x5) then (bureauref01_Ints.l0 k x0 x1 (wrap64 (x5 + 1))) else (some false)) else (none)) else (none)) else (some true)
def bureauref01_Ints.f (k : Nat) (l0 : List Int) (l1 : List Int) : Option (Bool) := if (l0.length : Int) = (l1.length : Int) then (bureauref01_Ints.l0 k l0 l1 0) else (some false)
set_option maxHeartbeats 8000000 in
set_option maxRecDepth 100000 in
theorem bureauref01_Ints.calls (k : Nat) (A0 : Option Addr) (c0 : Nat) (l0 : List Int) (A1 : Option Addr) (c1 : Nat) (l1 : List Int) (r : Bool) (w : World) (hr0 : Kd.C (Kd.int .i64) w A0 l0.length l0) (hc0 : l0.length ≤ c0) (hr1 : Kd.C (Kd.int .i64) w A1 l1.length l1) (hc1 : l1.length ≤ c1) (h : bureauref01_Ints.f k l0 l1 = some r) :
  Calls Try.prog 20 #[.slice A0 l0.length c0, .slice A1 l1.length c1] w fun e w' => e = .returned (.bool r) ∧ Drawn0 w w' := by
 have HR0 := aM hr0
 have HC0 := aM hc0
 clear hr0 hc0
 have HR1 := aM hr1
 have HC1 := aM hc1
 clear hr1 hc1
 have H : (if (l0.length : Int) = (l1.length : Int) then (bureauref01_Ints.l0 k l0 l1 0) else (some false)) = some r := h
 clear h
 by_cases c3 : (l0.length : Int) = (l1.length : Int)
 ·rw [if_pos c3] at H
  have c3b0 : ((l0.length : Int) == (l1.length : Int)) = true := beq_iff_eq.mpr c3
  have c3b1 : ((l0.length : Int) != (l1.length : Int)) = false := bne_eq_false_iff_eq.mpr c3
  have c3b2 : (l0.length == l1.length) = true := by first | simpa using c3 | (simp at c3 ⊢; omega)
  clear c3
  have H' := aM H
  clear H
  go_enter Try.func20, Try.ntmps20
  go_wp2
  repeat (go_quiet (fail); try go_wp2)
  go_loopg [5] k (fun kq v5 w' => ∃ (x5_1 : Int), v5 = .int .i64 x5_1 ∧ Aside0 (bureauref01_Ints.l0 kq l0 l1 x5_1 = some r) ∧ Aside0 (kq ≤ k) ∧ Drawn0 w w')
  case atStart => exact ⟨(0), (by first | rfl | (simp; done) | (simp [*]; done)), H', ⟨Nat.le_refl _⟩, by repeat (first | exact Drawn0.refl _ | apply Drawn0.step)⟩
  case round =>
   clear H'
   try clear c1
   try clear c2
   try clear p2
   try clear c3
   try clear c3b0
   try clear c3b1
   try clear c3b2
   obtain ⟨x5_1, rfl, HA, HK1, ⟨m1, rfl⟩⟩ := hrel
   cases gk with
   | zero => exact absurd HA.out (by simp [bureauref01_Ints.l0])
   | succ k1 =>
    have H := HA.out
    clear HA
    simp only [bureauref01_Ints.l0] at H
    by_cases c4 : x5_1 < (l0.length : Int)
    ·rw [if_pos c4] at H
     have c4b0 : decide (x5_1 < (l0.length : Int)) = true := decide_eq_true c4
     clear c4
     by_cases c5 : 0 ≤ x5_1
     ·rw [if_pos c5] at H
      have c5b0 : decide (0 ≤ x5_1) = true := decide_eq_true c5
      clear c5
      by_cases c6 : x5_1 < (l1.length : Int)
      ·rw [if_pos c6] at H
       have c6b0 : decide (x5_1 < (l1.length : Int)) = true := decide_eq_true c6
       clear c6
       by_cases c7 : (rd l0 x5_1) = (rd l1 x5_1)
       ·rw [if_pos c7] at H
        have c7b0 : ((rd l0 x5_1) == (rd l1 x5_1)) = true := beq_iff_eq.mpr c7
        have c7b1 : ((rd l0 x5_1) != (rd l1 x5_1)) = false := bne_eq_false_iff_eq.mpr c7
        clear c7
        have H' := aM H
        clear H
        have p189 : 0 ≤ (x5_1 : Int) := of_decide_eq_true (by first | (with_reducible assumption) | assumption)
        have q189 : x5_1 < (l0.length : Int) := of_decide_eq_true (by first | (with_reducible assumption) | assumption)
        obtain ⟨ad189, e189, hx189_0⟩ := Kd.at_int HR0.out x5_1 p189 q189
        cases e189
        replace p189 := eq_true p189
        replace q189 := eq_true q189
        have p190 : 0 ≤ (x5_1 : Int) := of_decide_eq_true (by first | (with_reducible assumption) | assumption)
        have q190 : x5_1 < (l1.length : Int) := of_decide_eq_true (by first | (with_reducible assumption) | assumption)
        obtain ⟨ad190, e190, hx190_0⟩ := Kd.at_int HR1.out x5_1 p190 q190
        cases e190
        replace p190 := eq_true p190
        replace q190 := eq_true q190
        go_wp2
        repeat (go_quiet (fail); try go_wp2)
        go_roundg k1
        case measure => have := HK1.out; omega
        case rel => exact ⟨(wrap64 (x5_1 + 1)), (by first | rfl | (simp; done) | (simp [*]; done)), H', ⟨by have := HK1.out; omega⟩, by repeat (first | exact Drawn0.refl _ | apply Drawn0.step)⟩
       ·rw [if_neg c7] at H
        have c7b0 : ((rd l0 x5_1) == (rd l1 x5_1)) = false := beq_eq_false_iff_ne.mpr c7
        have c7b1 : ((rd l0 x5_1) != (rd l1 x5_1)) = true := bne_iff_ne.mpr c7
        obtain rfl := Option.some.inj H
        have p189 : 0 ≤ (x5_1 : Int) := of_decide_eq_true (by first | (with_reducible assumption) | assumption)
        have q189 : x5_1 < (l0.length : Int) := of_decide_eq_true (by first | (with_reducible assumption) | assumption)
        obtain ⟨ad189, e189, hx189_0⟩ := Kd.at_int HR0.out x5_1 p189 q189
        cases e189
        replace p189 := eq_true p189
        replace q189 := eq_true q189
        have p190 : 0 ≤ (x5_1 : Int) := of_decide_eq_true (by first | (with_reducible assumption) | assumption)
        have q190 : x5_1 < (l1.length : Int) := of_decide_eq_true (by first | (with_reducible assumption) | assumption)
        obtain ⟨ad190, e190, hx190_0⟩ := Kd.at_int HR1.out x5_1 p190 q190
        cases e190
        replace p190 := eq_true p190
        replace q190 := eq_true q190
        go_wp2
        repeat (go_quiet (fail); try go_wp2)
        go_ret
        exact ⟨by first | rfl | (simp; done) | (simp [*]; done), by repeat (first | exact Drawn0.refl _ | apply Drawn0.step)⟩
      ·rw [if_neg c6] at H
       exact absurd H (by simp)
     ·rw [if_neg c5] at H
      exact absurd H (by simp)
    ·rw [if_neg c4] at H
     have c4b0 : decide (x5_1 < (l0.length : Int)) = false := decide_eq_false c4
     clear c4
     obtain rfl := Option.some.inj H
     go_wp2
     repeat (go_quiet (fail); try go_wp2)
     go_ret
     exact ⟨by first | rfl | (simp; done) | (simp [*]; done), by repeat (first | exact Drawn0.refl _ | apply Drawn0.step)⟩
 ·rw [if_neg c3] at H
  have c3b0 : ((l0.length : Int) == (l1.length : Int)) = false := beq_eq_false_iff_ne.mpr c3
  have c3b1 : ((l0.length : Int) != (l1.length : Int)) = true := bne_iff_ne.mpr c3
  have c3b2 : (l0.length == l1.length) = false := by first | simpa using c3 | (simp at c3 ⊢; omega)
  obtain rfl := Option.some.inj H
  go_enter Try.func20, Try.ntmps20
  go_wp2
  repeat (go_quiet (fail); try go_wp2)
  go_ret
  exact ⟨by first | rfl | (simp; done) | (simp [*]; done), by repeat (first | exact Drawn0.refl _ | apply Drawn0.step)⟩
end Go.Proofs.Ytbbgpfjeobdogaa.PB
end

section
namespace Go.Proofs.Ytbbgpfjeobdogaa.PB
open Go.RowKit Go.Maps Go.Proofs.YtbbgpfjeobdogaaW.PrintWords Go.Proofs.YtbbgpfjeobdogaaW.PrintLast Go.Proofs.YtbbgpfjeobdogaaW.PrintMore
set_option maxRecDepth 100000
set_option linter.unusedVariables false
set_option linter.unusedSimpArgs false
theorem ints_ev (l : List Int) (hl : l.length ≤ 4096) : Ev (fun k => bureauref01_Ints.f k l l) true := by
  unfold bureauref01_Ints.f
  refine Ev.pos (by omega) ?_
  have loop : ∀ (d i : Nat), i + d = l.length → Ev (fun k => bureauref01_Ints.l0 k l l (i : Int)) true := by
    intro d
    induction d with
    | zero => intro i hi; refine Ev.step (fun k => by simp only [bureauref01_Ints.l0]; rfl) ?_; exact Ev.neg (by omega) (Ev.now _)
    | succ d ih =>
      intro i hi
      refine Ev.step (fun k => by simp only [bureauref01_Ints.l0]; rfl) ?_
      refine Ev.pos (by omega) (Ev.pos (by omega) (Ev.pos (by omega) (Ev.pos trivial ?_)))
      rw [show wrap64 ((i : Int) + 1) = ((i + 1 : Nat) : Int) by unfold wrap64; omega]
      exact ih (i + 1) (by omega)
  exact loop l.length 0 (by omega)
theorem HistAt.hS {B : Nat} {g bm : Nat} {w : World} {L : List St} {now next depth : Int} (h : HistAt B (hb g bm) g bm w L now next depth) : ∀ k, hb g bm k → k < w.heap.size := by
  rintro k (rfl | rfl)
  · exact h.lt.2.1
  · exact h.lt.2.2.1
theorem add_good {B : Nat} {S : Nat → Prop} {g bm : Nat} {w : World} {L : List St} {now next depth : Int} (h : HistAt B S g bm w L now next depth) {e : Ed} {A1 A2 : Option Addr} {c1 c2 : Nat} (he : EdIn w (fun k => ¬ S k) e A1 c1 A2 c2) (hi : Inv L now next depth) (hn : next + 1 ≤ 1000) (hS : ∀ k, S k → k < w.heap.size) (hg : goodEd e = true) :
    Calls Try.prog 17 #[.pointer (some ⟨g, 0, none⟩), edV e A1 c1 A2 c2] w fun r w' => r = .returned (.tuple #[.int .i64 next, .int .i64 0]) ∧ HistAt B S g bm w' (addL e L now next depth) next (next + 1) depth ∧ Turn B (hb g bm) w w' := by
  obtain ⟨h1, h2, h3, h4⟩ := goodE_iff.1 hg
  exact add_go h he hi hn hS ⟨(apply_self _ _ _ _).1.2 ⟨h1, h2⟩, h3, h4⟩
abbrev eN (n : Int) : Ed := ⟨n, ⟨⟨#[]⟩, []⟩, ⟨⟨#[]⟩, []⟩⟩
theorem eN_in (w : World) (ok : Nat → Prop) (n : Int) : EdIn w ok (eN n) none 0 none 0 :=
  ⟨fun W _ => Kd.C_nil _ W, Nat.le_refl _, fun W _ => Kd.C_nil _ W, Nat.le_refl _, by show (0 : Nat) ≤ 100000 ∧ (0 : Nat) ≤ 100000; decide⟩
theorem eN_good (n : Int) (h0 : 0 ≤ n) (h1 : n ≤ 4096) : goodEd (eN n) = true := goodE_iff.2 ⟨show goodT ⟨#[]⟩ [] = true from by decide, show goodT ⟨#[]⟩ [] = true from by decide, h0, h1⟩
def LA : Nat → List St
  | 0 => [st0]
  | i + 1 => addL (eN ((i : Int) + 1)) (LA i) (i : Int) ((i : Int) + 1) 2
theorem inv0 {depth : Int} (h1 : 1 ≤ depth) (h2 : depth ≤ 64) : Inv [st0] 0 1 depth :=
  ⟨⟨List.pairwise_singleton _ _, fun x hx => by obtain rfl := List.mem_singleton.1 hx; decide, fun x hx => by obtain rfl := List.mem_singleton.1 hx; exact .inl (by decide), ⟨_, List.mem_singleton.2 rfl, rfl⟩, by decide, by decide, fun x hx => by obtain rfl := List.mem_singleton.1 hx; decide⟩,
   fun x hx _ y hy => by obtain rfl := List.mem_singleton.1 hx; obtain rfl := List.mem_singleton.1 hy; exact Int.le_refl _, by simp; omega, h1, h2⟩
theorem LA_inv : ∀ i : Nat, i ≤ 900 → Inv (LA i) (i : Int) ((i : Int) + 1) 2
  | 0, _ => inv0 (by decide) (by decide)
  | i + 1, h => by
    have := add_inv (LA_inv i (by omega)) (by omega) (e := eN ((i : Int) + 1)) (by show (0 : Nat) ≤ 100000 ∧ (0 : Nat) ≤ 100000; decide)
    have e1 : (((i + 1 : Nat)) : Int) = (i : Int) + 1 := by omega
    rw [e1]
    exact this
theorem LA3 : LA 3 = [⟨1, -1, eN 1⟩, ⟨2, 1, eN 2⟩, ⟨3, 2, eN 3⟩] := by kernel_rfl
theorem set5 {g5 : Nat} {w0 w : World} (h : Below w0.heap.size w0 w) (hg : w0.heap.size ≤ g5) (v0 v1 v2 v3 v4 : Value) :
    Below w0.heap.size w0 (((((w.setCell ⟨g5, 0, none⟩ v0).setCell ⟨g5, 1, none⟩ v1).setCell ⟨g5, 2, none⟩ v2).setCell ⟨g5, 3, none⟩ v3).setCell ⟨g5, 4, none⟩ v4) :=
  below_set (below_set (below_set (below_set (below_set h hg) hg) hg) hg) hg
theorem undoA {B g bm : Nat} {w : World} (h : HistAt B (hb g bm) g bm w (LA 3) 3 4 2) :
    Calls Try.prog 12 #[.pointer (some ⟨g, 0, none⟩)] w fun e w' => ∃ A2 c2 A4 c4, e = .returned (.tuple #[.agg #[.int .i64 3, .string ⟨#[]⟩, .slice A2 0 c2, .string ⟨#[]⟩, .slice A4 0 c4], .int .i64 0]) ∧ HistAt B (hb g bm) g bm w' (LA 3) 2 4 2 ∧ Turn B (hb g bm) w w' := by
  refine (undo_ok h (LA_inv 3 (by decide)).wf (x := ⟨3, 2, eN 3⟩) (by rw [LA3]; simp) rfl).mono ?_
  rintro e w' ⟨v, rfl, ⟨cs, rfl, hf⟩, hh, ht⟩
  rw [if_neg (show ¬ (2 : Int) < 0 by decide)] at hh hf
  obtain ⟨A2, c2, A4, c4, rfl, -⟩ := k34_openF hf
  exact ⟨A2, c2, A4, c4, rfl, hh, ht⟩
theorem statesA {B : Nat} {S : Nat → Prop} {g bm : Nat} {w : World} {now : Int} (h : HistAt B S g bm w (LA 3) now 4 2) (hw : Wf (LA 3) now 4) :
    Calls Try.prog 21 #[.pointer (some ⟨g, 0, none⟩)] w fun e w' => ∃ A c, e = .returned (.slice A 3 c) ∧ Kd.R (Kd.int .i64) 3 w' w.heap.size (fun _ => True) (.slice A 3 c) [1, 2, 3] ∧ Below w.heap.size w w' := by
  refine (states_ok h hw).mono ?_
  rintro e w' ⟨v, rfl, hr, hb⟩
  have e1 : statesL (LA 3) = [1, 2, 3] := by rw [LA3]; rfl
  rw [e1] at hr
  obtain ⟨A, c, rfl⟩ := Kd.R_slice hr
  exact ⟨A, c, rfl, hr, hb⟩
theorem intsA {A A' : Option Addr} {c c' : Nat} {w : World} {B B' : Nat} {ok ok' : Nat → Prop} (h : Kd.R (Kd.int .i64) 3 w B ok (.slice A 3 c) [1, 2, 3]) (h' : Kd.R (Kd.int .i64) 3 w B' ok' (.slice A' 3 c') [1, 2, 3]) :
    Calls Try.prog 20 #[.slice A 3 c, .slice A' 3 c'] w fun e w' => e = .returned (.bool true) ∧ Drawn0 w w' := by
  obtain ⟨k, hk⟩ := (ints_ev [1, 2, 3] (by decide)).rounds
  exact bureauref01_Ints.calls k A c [1, 2, 3] A' c' [1, 2, 3] true w (rR h).2.2 (rR h).2.1 (rR h').2.2 (rR h').2.1 hk
theorem wf_now {L : List St} {now next n : Int} (h : Wf L now next) (hx : ∃ x ∈ L, x.f0 = n) : Wf L n next := ⟨h.inc, h.low, h.up, hx, h.top, h.len, h.fit⟩
def bureaulaw08_alive.f : Option Bool := some true
set_option maxHeartbeats 8000000 in
theorem bureaulaw08_alive.calls (r : Bool) (w : World) (h : bureaulaw08_alive.f = some r) :
    Calls Try.prog 8 #[] w fun e w' => e = .returned (.bool r) ∧ Below w.heap.size w w' := by
  obtain rfl : true = r := Option.some.inj h
  clear h
  have hu34 := Try.underlying34
  have hu32 := Try.underlying32
  go_enter Try.func8, Try.ntmps8
  go_wp2_with (first
    | ((with_reducible refine gate_callee (f := 9) rfl ?_); refine goesL_ (some 7) rfl rfl Try.func9 (by kernel_rfl) rfl #[.int .i64 2] rfl (by (try simp only [List.map_toArray, List.map_cons, List.map_nil]); first | done | rfl) ?_; (with_reducible refine (new_ok 2 (by decide) (by decide) w).mono ?_); rintro e w3 ⟨g, bm, rfl, hh, hb⟩; refine ⟨_, rfl, ?_⟩; have HH3 := aM hh; have HB3 := aM hb; clear hh hb)
    )
  go_loopg [2] 3 (fun kq v2 w' => ∃ i : Nat, v2 = .int .i64 ((i : Int) + 1) ∧ Aside0 (i + kq = 3) ∧ Aside0 (HistAt w.heap.size (hb g bm) g bm w' (LA i) (i : Int) ((i : Int) + 1) 2) ∧ Aside0 (Below w.heap.size w w'))
  case atStart => exact ⟨0, rfl, ⟨rfl⟩, HH3, HB3⟩
  case round =>
    clear HH3 HB3
    obtain ⟨i, rfl, HI, HH, HB⟩ := hrel
    cases gk with
    | succ k1 =>
      have c1 : ((i : Int) + 1 ≤ 3) = True := eq_true (by have := HI.out; omega)
      have c2 : decide ((i : Int) + 1 ≤ 3) = true := decide_eq_true (by have := HI.out; omega)
      have e1 : wrap64 ((i : Int) + 1 + 1) = ((i + 1 : Nat) : Int) + 1 := by have := HI.out; unfold wrap64; omega
      go_wp2_with (first
        | ((with_reducible refine gate_callee (f := 17) rfl ?_); refine goesL_ (some 18) rfl rfl Try.func17 (by kernel_rfl) rfl #[.pointer (some ⟨g, 0, none⟩), edV (eN ((i : Int) + 1)) none 0 none 0] rfl (by (try simp only [List.map_toArray, List.map_cons, List.map_nil]); first | done | rfl) ?_; (with_reducible refine (add_good HH.out (eN_in _ _ _) (LA_inv i (by have := HI.out; omega)) (by have := HI.out; omega) HH.out.hS (eN_good _ (by omega) (by have := HI.out; omega))).mono ?_); rintro e w4 ⟨rfl, hh, ht⟩; refine ⟨_, rfl, ?_⟩; have HH4 := aM hh; have HB4 := aM (HB.out.trans ht.bel); clear hh ht)
        )
      rw [e1]
      go_roundg k1
      case measure => exact Nat.lt_succ_self _
      case rel => exact ⟨i + 1, rfl, ⟨by have := HI.out; omega⟩, ⟨by rw [show (((i + 1 : Nat)) : Int) = (i : Int) + 1 by omega]; exact HH4.out⟩, HB4⟩
    | zero =>
      obtain rfl : i = 3 := by have := HI.out; omega
      have c1 : (((3 : Nat) : Int) + 1 ≤ 3) = False := eq_false (by decide)
      have c2 : decide (((3 : Nat) : Int) + 1 ≤ 3) = false := by decide
      have HI3 := aM (LA_inv 3 (by decide))
      go_wp2_with (first
        | ((with_reducible refine gate_callee (f := 12) rfl ?_); (try (refine gate_guard (by rfl) ?_; dsimp only)); refine goesL_ (some 30) rfl rfl Try.func12 (by kernel_rfl) rfl #[.pointer (some ⟨g, 0, none⟩)] rfl (by (try simp only [List.map_toArray, List.map_cons, List.map_nil]); first | done | rfl) ?_; (with_reducible refine (undoA HH.out).mono ?_); rintro e w4 ⟨A2, c2, A4, c4, rfl, hh, ht⟩; refine ⟨_, rfl, ?_⟩; have HH4 := aM hh; have HB4 := aM (HB.out.trans ht.bel); clear hh ht)
        | ((with_reducible refine gate_dst (N := 5) rfl ?_); refine box_event ?hg (N := 5) ?hd (cs := zs5) (t := 34) ?hr ?_; (case hd => rfl); (case hg => rfl); (case hr => first | (go_simp; done) | (go_simp; rfl)); intro g5 hg w5 hbox hb; have HB5 := aM (bP HB4.out hb); have HX5 := aM hbox; have HH5 := aM (HH4.out.below hb); have GE5 := aM (show w.heap.size ≤ g5 from by have := HB4.out.size; omega); have HD5 := aM hb; have GD5 := aM (Nat.le_of_eq hg.symm); clear hb hbox hg; have hz0 := (bC HX5.out 0).trans (rfl : _ = some (Value.int .i64 0)); have hz1 := (bC HX5.out 1).trans (rfl : _ = some (Value.string ⟨#[]⟩)); have hz2 := (bC HX5.out 2).trans (rfl : _ = some (Value.slice none 0 0)); have hz3 := (bC HX5.out 3).trans (rfl : _ = some (Value.string ⟨#[]⟩)); have hz4 := (bC HX5.out 4).trans (rfl : _ = some (Value.slice none 0 0)); have hfz0 := bF HX5.out 0; have hfz1 := bF HX5.out 1; have hfz2 := bF HX5.out 2; have hfz3 := bF HX5.out 3; have hfz4 := bF HX5.out 4)
        | ((with_reducible refine gate_callee (f := 19) rfl ?_); (try (refine gate_guard (by rfl) ?_; dsimp only)); refine goesL_ (some 42) rfl rfl Try.func19 (by kernel_rfl) rfl #[.pointer (some ⟨g, 0, none⟩)] rfl (by (try simp only [List.map_toArray, List.map_cons, List.map_nil]); first | done | rfl) ?_; have HT6 := aM (And.intro (HH4.out.below (set5 HD5.out GD5.out (.int .i64 3) (.string ⟨#[]⟩) (.slice A2 0 c2) (.string ⟨#[]⟩) (.slice A4 0 c4))) (set5 HB5.out GE5.out (.int .i64 3) (.string ⟨#[]⟩) (.slice A2 0 c2) (.string ⟨#[]⟩) (.slice A4 0 c4))); (with_reducible refine (now_ok HT6.out.1).mono ?_); rintro e w6 ⟨rfl, hw⟩; subst hw; refine ⟨_, rfl, ?_⟩)
        | ((with_reducible refine gate_callee (f := 21) rfl ?_); (try (refine gate_guard (by rfl) ?_; dsimp only)); refine goesL_ (some 47) rfl rfl Try.func21 (by kernel_rfl) rfl #[.pointer (some ⟨g, 0, none⟩)] rfl (by (try simp only [List.map_toArray, List.map_cons, List.map_nil]); first | done | rfl) ?_; (with_reducible refine (statesA HT6.out.1 (wf_now HI3.out.wf ⟨⟨2, 1, eN 2⟩, by rw [LA3]; simp, rfl⟩)).mono ?_); rintro e w7 ⟨A7, c7, rfl, hr, hb⟩; refine ⟨_, rfl, ?_⟩; have HR7 := aM hr; have HB7 := aM (HT6.out.2.trans (hb.mono HT6.out.2.size)); clear hr hb)
        | ((with_reducible refine gate_dst (N := 48) rfl ?_); (try (refine gate_guard (by rfl) ?_; dsimp only)); refine Kd.R_lit (Kd.int .i64) _ 3 ?hg (N := 48) ?hd (xs := ([1, 2, 3] : List Int)) (inner := [.int .i64 1, .int .i64 2, .int .i64 3]) (ok := fun _ => True) (okp := fun _ => True) ?hr ?hp (fun _ hk => hk) trivial (Below.refl _ _) (Nat.le_refl _) (by simp) ?_; (case hd => rfl); (case hg => rfl); (case hr => first | (go_simp; done) | (go_simp; rfl)); (case hp => exact (Reps.one (show Kd.M (Kd.int .i64) _ _ _ 1 [.int .i64 1] from rfl) (Reps.one (show Kd.M (Kd.int .i64) _ _ _ 2 [.int .i64 2] from rfl) (Reps.one (show Kd.M (Kd.int .i64) _ _ _ 3 [.int .i64 3] from rfl) (Reps.none _ _))))); intro v8 w8 ho hb hg_ hnew_; clear hg_ hnew_; obtain ⟨A8, c8, e8⟩ := Kd.R_slice ho; rw [show ([1, 2, 3] : List Int).length = 3 from rfl] at e8; subst e8; have HO8 := aM ho; have HR8 := aM (Kd.R_below HR7.out hb); have HB8 := aM (HB7.out.trans (hb.mono HB7.out.size)); clear ho hb)
        | ((with_reducible refine gate_callee (f := 20) rfl ?_); (try (refine gate_guard (by rfl) ?_; dsimp only)); refine goesL_ (some 49) rfl rfl Try.func20 (by kernel_rfl) rfl #[.slice A7 3 c7, .slice A8 3 c8] rfl (by (try simp only [List.map_toArray, List.map_cons, List.map_nil]); first | done | rfl) ?_; (with_reducible refine (intsA HR8.out HO8.out).mono ?_); rintro e w9 ⟨rfl, nd, rfl⟩; refine ⟨_, rfl, ?_⟩)
        )
      go_ret
      exact ⟨rfl, pw_below_drewN HB8.out nd⟩
end Go.Proofs.Ytbbgpfjeobdogaa.PB
end

section
namespace Go.Proofs.Ytbbgpfjeobdogaa.PB
open Go.RowKit Go.Maps Go.Proofs.YtbbgpfjeobdogaaW.PrintWords Go.Proofs.YtbbgpfjeobdogaaW.PrintLast Go.Proofs.YtbbgpfjeobdogaaW.PrintMore
set_option maxRecDepth 100000
set_option linter.unusedVariables false
set_option linter.unusedSimpArgs false
structure Hs where
  L : List St
  now : Int
  next : Int
theorem redoL_in {L : List St} {now : Int} {x : St} (h : redoL L now = some x) : x ∈ L ∧ x.f1 = now := by
  unfold redoL at h
  exact ⟨List.mem_reverse.1 (List.mem_of_find?_eq_some h), by simpa using List.find?_some h⟩
end Go.Proofs.Ytbbgpfjeobdogaa.PB
end

section
namespace Go.Proofs.Ytbbgpfjeobdogaa.PB
open Go.RowKit Go.Maps Go.Proofs.YtbbgpfjeobdogaaW.PrintWords Go.Proofs.YtbbgpfjeobdogaaW.PrintLast Go.Proofs.YtbbgpfjeobdogaaW.PrintMore
set_option maxRecDepth 100000
set_option linter.unusedVariables false
set_option linter.unusedSimpArgs false
abbrev kL := k76
abbrev okN (P : Nat → Prop) (w : World) : Nat → Prop := fun k => P k ∨ w.heap.size ≤ k
structure Bl (P : Nat → Prop) (g2 : Nat) (w : World) (L : List St) (now next depth : Int) (A : Option Addr) (c : Nat) (v : Value) (out : List St) (W : World) : Prop where
  list : Kd.V kL 76 W 0 (fun k => P k ∧ k < w.heap.size) (.slice A L.length c) L
  box : W.heap[g2]? = some (.cells #[.slice A L.length c, .int .i64 now, .int .i64 next, .int .i64 depth] 28 (0, 0))
  out : Kd.N kL 76 W w.heap.size (okN P w) v out
  below : Below w.heap.size w W
theorem Bl.later {P : Nat → Prop} {g2 : Nat} {w W W2 : World} {L : List St} {now next depth : Int} {A : Option Addr} {c : Nat} {v : Value} {out : List St} (h : Bl P g2 w L now next depth A c v out W) (hb : Below W.heap.size W W2) : Bl P g2 w L now next depth A c v out W2 :=
  ⟨Kd.V_below h.list hb, bB h.box hb, Kd.N_below h.out hb, h.below.trans (hb.mono h.below.size)⟩
end Go.Proofs.Ytbbgpfjeobdogaa.PB
end

section
namespace Go.Proofs.Ytbbgpfjeobdogaa.PB
open Go.RowKit Go.Maps Go.Proofs.YtbbgpfjeobdogaaW.PrintWords
set_option linter.unusedVariables false
set_option linter.unusedSimpArgs false
section
variable {L : List St} {now next : Int}
theorem up_sorted (h : Wf L now next) : ∀ (k : Nat) (x : St), x ∈ L → (upL L k x.f0).Pairwise (fun a b => b < a) ∧ ∀ y ∈ upL L k x.f0, y ≤ x.f0 ∧ ∃ z ∈ L, z.f0 = y
  | 0, x, hx => by unfold upL; exact ⟨List.Pairwise.nil, fun y hy => by cases hy⟩
  | k + 1, x, hx => by
    rw [up_step h hx k]
    have hl := h.low x hx
    rcases h.up x hx with hn | ⟨y, hy, he⟩
    · rw [up_none L k hn]
      exact ⟨List.pairwise_singleton _ _, fun y hy => by obtain rfl := List.mem_singleton.1 hy; exact ⟨Int.le_refl _, x, hx, rfl⟩⟩
    · obtain ⟨h1, h2⟩ := up_sorted h k y hy
      rw [he] at h1 h2
      refine ⟨List.pairwise_cons.2 ⟨fun z hz => ?_, h1⟩, fun z hz => ?_⟩
      · have := (h2 z hz).1; omega
      · rcases List.mem_cons.1 hz with rfl | hz
        · exact ⟨Int.le_refl _, x, hx, rfl⟩
        · have := h2 z hz
          exact ⟨by omega, this.2⟩
structure PathOk (l p : List Int) (now : Int) : Prop where
  l1 : 1 ≤ l.length
  p1 : 1 ≤ p.length
  p2 : p.length ≤ 1000
  first : rd p 0 = rd l 0
  last : rd p ((p.length : Int) - 1) = now
  linc : ∀ i : Nat, 1 ≤ i → i < l.length → rd l ((i : Int) - 1) < rd l (i : Int)
  pinc : ∀ i : Nat, 1 ≤ i → i < p.length → rd p ((i : Int) - 1) < rd p (i : Int)
  lsort : l.Pairwise (fun a b => a < b)
  sub : ∀ x ∈ p, x ∈ l
end
end Go.Proofs.Ytbbgpfjeobdogaa.PB
end

section
namespace Go.Proofs.Ytbbgpfjeobdogaa.PB
open Go.RowKit Go.Proofs.YtbbgpfjeobdogaaW.PrintWords
set_option linter.unusedVariables false
def fitE (o : ByteArray) (ol : List S71) (n : ByteArray) (nl : List S71) : Prop := (o.size ≤ 5000 ∧ ol.length ≤ 5000) ∧ (n.size ≤ 5000 ∧ nl.length ≤ 5000)
instance (o : ByteArray) (ol : List S71) (n : ByteArray) (nl : List S71) : Decidable (fitE o ol n nl) := inferInstanceAs (Decidable (_ ∧ _))
end Go.Proofs.Ytbbgpfjeobdogaa.PB
end

section
namespace Go.Proofs.Ytbbgpfjeobdogaa.PB
open Go.RowKit Go.Maps Go.Proofs.YtbbgpfjeobdogaaW.PrintWords Go.Proofs.YtbbgpfjeobdogaaW.PrintLast Go.Proofs.YtbbgpfjeobdogaaW.PrintMore
set_option maxRecDepth 100000
set_option linter.unusedVariables false
set_option linter.unusedSimpArgs false
theorem row_at {w : World} {B : Nat} {ok : Nat → Prop} {A : Option Addr} {n c : Nat} {l : List Int} (h : Kd.R (Kd.int .i64) 3 w B ok (.slice A n c) l) (hl : 1 ≤ l.length) : ∃ ad, A = some ad ∧ ∀ i : Nat, i < l.length → w.cell? (ad.add i) = some (.int .i64 (rd l (i : Int))) := by
  obtain ⟨e, _, hC⟩ := rR h
  obtain ⟨ad, rfl, _⟩ := Kd.at_int hC 0 (by omega) (by omega)
  refine ⟨ad, rfl, fun i hi => ?_⟩
  obtain ⟨ad2, e2, h2⟩ := Kd.at_int hC (i : Int) (by omega) (by omega)
  cases e2
  rw [Int.toNat_natCast] at h2
  exact h2
theorem HistAt.lower {B B' : Nat} {S : Nat → Prop} {g bm : Nat} {w : World} {L : List St} {now next depth : Int} (h : HistAt B S g bm w L now next depth) (hb : B' ≤ B) : HistAt B' S g bm w L now next depth :=
  ⟨h.hg, h.hm, h.sg, h.sm, Nat.le_trans hb h.bg, Nat.le_trans hb h.bb⟩
structure Ck (B g bm : Nat) (w : World) (L : List St) (now next depth : Int) (ls ps : List Int) (A : Option Addr) (c : Nat) (A' : Option Addr) (c' : Nat) (W : World) : Prop where
  hist : HistAt B (hb g bm) g bm W L now next depth
  rs : Kd.R (Kd.int .i64) 3 W w.heap.size (fun _ => True) (.slice A ls.length c) ls
  rp : Kd.R (Kd.int .i64) 3 W w.heap.size (fun _ => True) (.slice A' ps.length c') ps
  below : Below w.heap.size w W
theorem Ck.later {B g bm : Nat} {w W W2 : World} {L : List St} {now next depth : Int} {ls ps : List Int} {A A' : Option Addr} {c c' : Nat} (h : Ck B g bm w L now next depth ls ps A c A' c' W) (hb : Below W.heap.size W W2) : Ck B g bm w L now next depth ls ps A c A' c' W2 :=
  ⟨h.hist.below hb, Kd.R_below h.rs hb, Kd.R_below h.rp hb, h.below.trans (hb.mono h.below.size)⟩
theorem Ck.ls {B g bm : Nat} {w W : World} {L : List St} {now next depth : Int} {ls ps : List Int} {lad : Addr} {A' : Option Addr} {c c' : Nat} (h : Ck B g bm w L now next depth ls ps (some lad) c A' c' W) {i : Nat} (hi : i < ls.length) : W.cell? (lad.add i) = some (.int .i64 (rd ls (i : Int))) := by
  obtain ⟨ad, e, hc⟩ := row_at h.rs (by omega)
  cases e
  exact hc i hi
theorem Ck.ps {B g bm : Nat} {w W : World} {L : List St} {now next depth : Int} {ls ps : List Int} {pad : Addr} {A : Option Addr} {c c' : Nat} (h : Ck B g bm w L now next depth ls ps A c (some pad) c' W) {i : Nat} (hi : i < ps.length) : W.cell? (pad.add i) = some (.int .i64 (rd ps (i : Int))) := by
  obtain ⟨ad, e, hc⟩ := row_at h.rp (by omega)
  cases e
  exact hc i hi
end Go.Proofs.Ytbbgpfjeobdogaa.PB
end

section
namespace Go.Proofs.Ytbbgpfjeobdogaa.PB
open Go.RowKit Go.Maps Go.Proofs.YtbbgpfjeobdogaaW.PrintWords Go.Proofs.YtbbgpfjeobdogaaW.PrintLast Go.Proofs.YtbbgpfjeobdogaaW.PrintMore
set_option maxRecDepth 100000
set_option linter.unusedVariables false
set_option linter.unusedSimpArgs false
structure Bx (g2 g3 g4 : Nat) (w : World) (cs2 : Array Value) (e : Ed) (A1 : Option Addr) (c1 : Nat) (A2 : Option Addr) (c2 : Nat) (W : World) : Prop where
  b2 : W.heap[g2]? = some (.cells cs2 28 (0, 0))
  b3 : W.heap[g3]? = some (.cells (edC e A1 c1 A2 c2) 34 (0, 0))
  b4 : W.heap[g4]? = some (.cells #[.slice none 0 0, .int .i64 0, .int .i64 0, .int .i64 0] 28 (0, 0))
  below : Below w.heap.size w W
theorem Bx.later {g2 g3 g4 : Nat} {w W W2 : World} {cs2 : Array Value} {e : Ed} {A1 A2 : Option Addr} {c1 c2 : Nat} (h : Bx g2 g3 g4 w cs2 e A1 c1 A2 c2 W) (hb : Below W.heap.size W W2) : Bx g2 g3 g4 w cs2 e A1 c1 A2 c2 W2 :=
  ⟨bB h.b2 hb, bB h.b3 hb, bB h.b4 hb, h.below.trans (hb.mono h.below.size)⟩
theorem Bx.lt {g2 g3 g4 : Nat} {w W : World} {cs2 : Array Value} {e : Ed} {A1 A2 : Option Addr} {c1 c2 : Nat} (h : Bx g2 g3 g4 w cs2 e A1 c1 A2 c2 W) : g2 < W.heap.size ∧ g4 < W.heap.size := ⟨blk_lt h.b2, blk_lt h.b4⟩
end Go.Proofs.Ytbbgpfjeobdogaa.PB
end

section
namespace Go.Proofs.Ytbbgpfjeobdogaa.PB
open Go.RowKit Go.Maps Go.Proofs.YtbbgpfjeobdogaaW.PrintWords Go.Proofs.YtbbgpfjeobdogaaW.PrintLast Go.Proofs.YtbbgpfjeobdogaaW.PrintMore
set_option maxRecDepth 100000
set_option linter.unusedVariables false
set_option linter.unusedSimpArgs false
structure Rx (g1 g2 g3 : Nat) (w : World) (cs1 : Array Value) (W : World) : Prop where
  b1 : W.heap[g1]? = some (.cells cs1 28 (0, 0))
  b2 : W.heap[g2]? = some (.cells #[.slice none 0 0, .int .i64 0, .int .i64 0, .int .i64 0] 28 (0, 0))
  b3 : W.heap[g3]? = some (.cells zs5 34 (0, 0))
  below : Below w.heap.size w W
theorem Rx.later {g1 g2 g3 : Nat} {w W W2 : World} {cs1 : Array Value} (h : Rx g1 g2 g3 w cs1 W) (hb : Below W.heap.size W W2) : Rx g1 g2 g3 w cs1 W2 :=
  ⟨bB h.b1 hb, bB h.b2 hb, bB h.b3 hb, h.below.trans (hb.mono h.below.size)⟩
end Go.Proofs.Ytbbgpfjeobdogaa.PB
end

section
namespace Go.Proofs.Ytbbgpfjeobdogaa.PB
open Go.RowKit Go.Proofs.YtbbgpfjeobdogaaW.PrintWords Go.Proofs.YtbbgpfjeobdogaaW.PrintLast Go.Proofs.YtbbgpfjeobdogaaW.PrintMore
attribute [local go_sem] max2_int min2_int max_two min_two max_three min_three max_four min_four   
set_option linter.unusedVariables false
set_option linter.unusedSimpArgs false
def bureauref07_Same.f (k : Nat) (a0_0 : Int) (a0_1 : ByteArray) (l0_2 : List (S71)) (a0_3 : ByteArray) (l0_4 : List (S71)) (a1_0 : Int) (a1_1 : ByteArray) (l1_2 : List (S71)) (a1_3 : ByteArray) (l1_4 : List (S71)) : Option (Bool) := if a0_0 = a1_0 then ((bureauref04_Same.f k a0_1 l0_2 a1_1 l1_2).bind fun t237 => (if t237 = true then ((bureauref04_Same.f k a0_3 l0_4 a1_3 l1_4).bind fun t238 => (some t238)) else (some false))) else (some false)
set_option maxHeartbeats 8000000 in
set_option maxRecDepth 100000 in
theorem bureauref07_Same.calls (k : Nat) (a0_0 : Int) (a0_1 : ByteArray) (A0_2 : Option Addr) (c0_2 : Nat) (l0_2 : List (S71)) (a0_3 : ByteArray) (A0_4 : Option Addr) (c0_4 : Nat) (l0_4 : List (S71)) (a1_0 : Int) (a1_1 : ByteArray) (A1_2 : Option Addr) (c1_2 : Nat) (l1_2 : List (S71)) (a1_3 : ByteArray) (A1_4 : Option Addr) (c1_4 : Nat) (l1_4 : List (S71)) (r : Bool) (w : World) (hr0_2 : Kd.C k71 w A0_2 l0_2.length l0_2) (hc0_2 : l0_2.length ≤ c0_2) (hr0_4 : Kd.C k71 w A0_4 l0_4.length l0_4) (hc0_4 : l0_4.length ≤ c0_4) (hr1_2 : Kd.C k71 w A1_2 l1_2.length l1_2) (hc1_2 : l1_2.length ≤ c1_2) (hr1_4 : Kd.C k71 w A1_4 l1_4.length l1_4) (hc1_4 : l1_4.length ≤ c1_4) (h : bureauref07_Same.f k a0_0 a0_1 l0_2 a0_3 l0_4 a1_0 a1_1 l1_2 a1_3 l1_4 = some r) :
  Calls Try.prog 14 #[.agg #[.int .i64 a0_0, .string a0_1, .slice A0_2 l0_2.length c0_2, .string a0_3, .slice A0_4 l0_4.length c0_4], .agg #[.int .i64 a1_0, .string a1_1, .slice A1_2 l1_2.length c1_2, .string a1_3, .slice A1_4 l1_4.length c1_4]] w fun e w' => e = .returned (.bool r) ∧ Below w.heap.size w w' := by
 have hu34 := Try.underlying34
 have hu32 := Try.underlying32
 have HR0_2 := aM hr0_2
 have HC0_2 := aM hc0_2
 clear hr0_2 hc0_2
 have HR0_4 := aM hr0_4
 have HC0_4 := aM hc0_4
 clear hr0_4 hc0_4
 have HR1_2 := aM hr1_2
 have HC1_2 := aM hc1_2
 clear hr1_2 hc1_2
 have HR1_4 := aM hr1_4
 have HC1_4 := aM hc1_4
 clear hr1_4 hc1_4
 have HB := aM (Below.refl w.heap.size w)
 have H : (if a0_0 = a1_0 then ((bureauref04_Same.f k a0_1 l0_2 a1_1 l1_2).bind fun t237 => (if t237 = true then ((bureauref04_Same.f k a0_3 l0_4 a1_3 l1_4).bind fun t238 => (some t238)) else (some false))) else (some false)) = some r := h
 clear h
 by_cases c3 : a0_0 = a1_0
 ·rw [if_pos c3] at H
  have c3b0 : (a0_0 == a1_0) = true := beq_iff_eq.mpr c3
  have c3b1 : (a0_0 != a1_0) = false := bne_eq_false_iff_eq.mpr c3
  clear c3
  replace H := Option.bind_eq_some_iff.mp H
  obtain ⟨t237, A40, H⟩ := H
  replace H : (if t237 = true then ((bureauref04_Same.f k a0_3 l0_4 a1_3 l1_4).bind fun t238 => (some t238)) else (some false)) = some r := H
  have A4 := aM A40
  clear A40
  by_cases c5 : t237 = true
  ·subst c5
   have H1 : ((bureauref04_Same.f k a0_3 l0_4 a1_3 l1_4).bind fun t238 => (some t238)) = some r := by rw [if_pos rfl] at H; exact H
   clear H
   have H := H1
   clear H1
   replace H := Option.bind_eq_some_iff.mp H
   obtain ⟨t238, A60, H⟩ := H
   replace H : (some t238) = some r := H
   have A6 := aM A60
   clear A60
   obtain rfl := Option.some.inj H
   go_enter Try.func14, Try.ntmps14
   go_wp2_with (first | ((with_reducible refine gate_dst (N := 2) rfl ?_); refine box_event ?hg (N := 2) ?hd (cs := #[.int .i64 a0_0, .string a0_1, .slice A0_2 l0_2.length c0_2, .string a0_3, .slice A0_4 l0_4.length c0_4]) (t := 34) ?hr ?_; (case hd | hg => rfl); (case hr => first | (go_simp; done) | (go_simp; rfl)); intro gb235 hg w7 hbox hb; have n0_ := aM (bP (ey HB.out) hb); have n1_ := aM (hbox); have n2_ := aM ((by rw [hg]; exact (bZ (ey HB.out)) : w.heap.size ≤ gb235)); have n3_ := n2_; clear HB; have HB := n0_; have BK235 := n1_; have GW235 := n2_; have GE235 := n3_; clear n0_ n1_ n2_ n3_; clear hb hbox hg) | ((with_reducible refine gate_dst (N := 3) rfl ?_); refine box_event ?hg (N := 3) ?hd (cs := #[.int .i64 a1_0, .string a1_1, .slice A1_2 l1_2.length c1_2, .string a1_3, .slice A1_4 l1_4.length c1_4]) (t := 34) ?hr ?_; (case hd | hg => rfl); (case hr => first | (go_simp; done) | (go_simp; rfl)); intro gb236 hg w8 hbox hb; have n0_ := aM (bB (g := gb235) (qy BK235.out) hb); have n1_ := aM (bP (by repeat (first | (with_reducible first | exact HB.out | apply ea | apply en | apply ed | refine es ?_ GE235.out) | exact HB.out)) hb); have n2_ := aM (hbox); have n3_ := aM ((by rw [hg]; exact (bZ (by repeat (first | (with_reducible first | exact HB.out | apply ea | apply en | apply ed | refine es ?_ GE235.out) | exact HB.out))) : w.heap.size ≤ gb236)); have n4_ := n3_; have n5_ := aM ((by rw [hg]; exact Nat.ne_of_lt (blk_lt (g := gb235) (qy BK235.out)) : gb235 ≠ gb236)); have n6_ := aM ((by rw [hg]; exact Nat.ne_of_gt (blk_lt (g := gb235) (qy BK235.out)) : gb236 ≠ gb235)); clear BK235 HB; have BK235 := n0_; have HB := n1_; have BK236 := n2_; have GW236 := n3_; have GE236 := n4_; have NB235_236 := n5_; have NB236_235 := n6_; clear n0_ n1_ n2_ n3_ n4_ n5_ n6_; clear hb hbox hg; have hnb9 := NB235_236.out; have hnc9 := NB236_235.out; have hcz10_0 := zC BK235.out 0 (.int .i64 a0_0); have hcz10_1 := zC BK235.out 1 (.string a0_1); have hcz10_2 := zC BK235.out 2 (.slice A0_2 l0_2.length c0_2); have hcz10_3 := zC BK235.out 3 (.string a0_3); have hcz10_4 := zC BK235.out 4 (.slice A0_4 l0_4.length c0_4); have hfz10_0 := bF BK235.out 0; have hfz10_1 := bF BK235.out 1; have hfz10_2 := bF BK235.out 2; have hfz10_3 := bF BK235.out 3; have hfz10_4 := bF BK235.out 4; have hcz11_0 := zC BK236.out 0 (.int .i64 a1_0); have hcz11_1 := zC BK236.out 1 (.string a1_1); have hcz11_2 := zC BK236.out 2 (.slice A1_2 l1_2.length c1_2); have hcz11_3 := zC BK236.out 3 (.string a1_3); have hcz11_4 := zC BK236.out 4 (.slice A1_4 l1_4.length c1_4); have hfz11_0 := bF BK236.out 0; have hfz11_1 := bF BK236.out 1; have hfz11_2 := bF BK236.out 2; have hfz11_3 := bF BK236.out 3; have hfz11_4 := bF BK236.out 4) | (go_at_call 28; (with_reducible refine (bureauref04_Same.calls k a0_1 _ _ l0_2 a1_1 _ _ l1_2 true _ ?side1 ?side2 ?side3 ?side4 A4.out).mono ?_); (case side1 => repeat (first | exact (cB_ HR0_2.out HB.out) | (with_reducible refine Kd.C_alloc ?_ _) | (with_reducible refine Kd.C_drewN ?_ _) | (with_reducible refine Kd.C_drew ?_))); (case side2 => exact HC0_2.out); (case side3 => repeat (first | exact (cB_ HR1_2.out HB.out) | (with_reducible refine Kd.C_alloc ?_ _) | (with_reducible refine Kd.C_drewN ?_ _) | (with_reducible refine Kd.C_drew ?_))); (case side4 => exact HC1_2.out); rintro e w12 ⟨rfl, hb⟩; have n0_ := aM (bB (g := gb235) (qy BK235.out) hb); have n1_ := aM (bB (g := gb236) (qy BK236.out) hb); have n2_ := aM (bP (by repeat (first | (with_reducible first | exact HB.out | apply ea | apply en | apply ed | refine es ?_ GE235.out | refine es ?_ GE236.out) | exact HB.out)) hb); clear BK235 BK236 HB; have BK235 := n0_; have BK236 := n1_; have HB := n2_; clear n0_ n1_ n2_; (try clear hb); (try clear hb2); (try clear hk); (try clear hi); have hcz13_0 := zC BK235.out 0 (.int .i64 a0_0); have hcz13_1 := zC BK235.out 1 (.string a0_1); have hcz13_2 := zC BK235.out 2 (.slice A0_2 l0_2.length c0_2); have hcz13_3 := zC BK235.out 3 (.string a0_3); have hcz13_4 := zC BK235.out 4 (.slice A0_4 l0_4.length c0_4); have hfz13_0 := bF BK235.out 0; have hfz13_1 := bF BK235.out 1; have hfz13_2 := bF BK235.out 2; have hfz13_3 := bF BK235.out 3; have hfz13_4 := bF BK235.out 4; have hcz14_0 := zC BK236.out 0 (.int .i64 a1_0); have hcz14_1 := zC BK236.out 1 (.string a1_1); have hcz14_2 := zC BK236.out 2 (.slice A1_2 l1_2.length c1_2); have hcz14_3 := zC BK236.out 3 (.string a1_3); have hcz14_4 := zC BK236.out 4 (.slice A1_4 l1_4.length c1_4); have hfz14_0 := bF BK236.out 0; have hfz14_1 := bF BK236.out 1; have hfz14_2 := bF BK236.out 2; have hfz14_3 := bF BK236.out 3; have hfz14_4 := bF BK236.out 4) | (go_at_call 28; (with_reducible refine (bureauref04_Same.calls k a0_3 _ _ l0_4 a1_3 _ _ l1_4 t238 _ ?side1 ?side2 ?side3 ?side4 A6.out).mono ?_); (case side1 => repeat (first | exact (cB_ HR0_4.out HB.out) | (with_reducible refine Kd.C_alloc ?_ _) | (with_reducible refine Kd.C_drewN ?_ _) | (with_reducible refine Kd.C_drew ?_))); (case side2 => exact HC0_4.out); (case side3 => repeat (first | exact (cB_ HR1_4.out HB.out) | (with_reducible refine Kd.C_alloc ?_ _) | (with_reducible refine Kd.C_drewN ?_ _) | (with_reducible refine Kd.C_drew ?_))); (case side4 => exact HC1_4.out); rintro e w15 ⟨rfl, hb⟩; have n0_ := aM (bB (g := gb235) (qy BK235.out) hb); have n1_ := aM (bB (g := gb236) (qy BK236.out) hb); have n2_ := aM (bP (by repeat (first | (with_reducible first | exact HB.out | apply ea | apply en | apply ed | refine es ?_ GE235.out | refine es ?_ GE236.out) | exact HB.out)) hb); clear BK235 BK236 HB; have BK235 := n0_; have BK236 := n1_; have HB := n2_; clear n0_ n1_ n2_; (try clear hb); (try clear hb2); (try clear hk); (try clear hi)))
   go_ret
   exact ⟨by first | rfl | (simp [errW_none, errW_some] <;> rfl) | (simp [*, errW_none, errW_some] <;> rfl), by repeat (first | (with_reducible first | exact HB.out | apply ea | apply en | apply ed | refine es ?_ GE235.out | refine es ?_ GE236.out) | exact HB.out)⟩
  ·replace c5 := Bool.eq_false_iff.mpr c5
   subst c5
   have H1 : (some false) = some r := by rw [if_neg (show ¬ (false = true) by decide)] at H; exact H
   clear H
   have H := H1
   clear H1
   obtain rfl := Option.some.inj H
   go_enter Try.func14, Try.ntmps14
   go_wp2_with (first | ((with_reducible refine gate_dst (N := 2) rfl ?_); refine box_event ?hg (N := 2) ?hd (cs := #[.int .i64 a0_0, .string a0_1, .slice A0_2 l0_2.length c0_2, .string a0_3, .slice A0_4 l0_4.length c0_4]) (t := 34) ?hr ?_; (case hd | hg => rfl); (case hr => first | (go_simp; done) | (go_simp; rfl)); intro gb235 hg w16 hbox hb; have n0_ := aM (bP (ey HB.out) hb); have n1_ := aM (hbox); have n2_ := aM ((by rw [hg]; exact (bZ (ey HB.out)) : w.heap.size ≤ gb235)); have n3_ := n2_; clear HB; have HB := n0_; have BK235 := n1_; have GW235 := n2_; have GE235 := n3_; clear n0_ n1_ n2_ n3_; clear hb hbox hg) | ((with_reducible refine gate_dst (N := 3) rfl ?_); refine box_event ?hg (N := 3) ?hd (cs := #[.int .i64 a1_0, .string a1_1, .slice A1_2 l1_2.length c1_2, .string a1_3, .slice A1_4 l1_4.length c1_4]) (t := 34) ?hr ?_; (case hd | hg => rfl); (case hr => first | (go_simp; done) | (go_simp; rfl)); intro gb236 hg w17 hbox hb; have n0_ := aM (bB (g := gb235) (qy BK235.out) hb); have n1_ := aM (bP (by repeat (first | (with_reducible first | exact HB.out | apply ea | apply en | apply ed | refine es ?_ GE235.out) | exact HB.out)) hb); have n2_ := aM (hbox); have n3_ := aM ((by rw [hg]; exact (bZ (by repeat (first | (with_reducible first | exact HB.out | apply ea | apply en | apply ed | refine es ?_ GE235.out) | exact HB.out))) : w.heap.size ≤ gb236)); have n4_ := n3_; have n5_ := aM ((by rw [hg]; exact Nat.ne_of_lt (blk_lt (g := gb235) (qy BK235.out)) : gb235 ≠ gb236)); have n6_ := aM ((by rw [hg]; exact Nat.ne_of_gt (blk_lt (g := gb235) (qy BK235.out)) : gb236 ≠ gb235)); clear BK235 HB; have BK235 := n0_; have HB := n1_; have BK236 := n2_; have GW236 := n3_; have GE236 := n4_; have NB235_236 := n5_; have NB236_235 := n6_; clear n0_ n1_ n2_ n3_ n4_ n5_ n6_; clear hb hbox hg; have hnb18 := NB235_236.out; have hnc18 := NB236_235.out; have hcz19_0 := zC BK235.out 0 (.int .i64 a0_0); have hcz19_1 := zC BK235.out 1 (.string a0_1); have hcz19_2 := zC BK235.out 2 (.slice A0_2 l0_2.length c0_2); have hcz19_3 := zC BK235.out 3 (.string a0_3); have hcz19_4 := zC BK235.out 4 (.slice A0_4 l0_4.length c0_4); have hfz19_0 := bF BK235.out 0; have hfz19_1 := bF BK235.out 1; have hfz19_2 := bF BK235.out 2; have hfz19_3 := bF BK235.out 3; have hfz19_4 := bF BK235.out 4; have hcz20_0 := zC BK236.out 0 (.int .i64 a1_0); have hcz20_1 := zC BK236.out 1 (.string a1_1); have hcz20_2 := zC BK236.out 2 (.slice A1_2 l1_2.length c1_2); have hcz20_3 := zC BK236.out 3 (.string a1_3); have hcz20_4 := zC BK236.out 4 (.slice A1_4 l1_4.length c1_4); have hfz20_0 := bF BK236.out 0; have hfz20_1 := bF BK236.out 1; have hfz20_2 := bF BK236.out 2; have hfz20_3 := bF BK236.out 3; have hfz20_4 := bF BK236.out 4) | (go_at_call 28; (with_reducible refine (bureauref04_Same.calls k a0_1 _ _ l0_2 a1_1 _ _ l1_2 false _ ?side1 ?side2 ?side3 ?side4 A4.out).mono ?_); (case side1 => repeat (first | exact (cB_ HR0_2.out HB.out) | (with_reducible refine Kd.C_alloc ?_ _) | (with_reducible refine Kd.C_drewN ?_ _) | (with_reducible refine Kd.C_drew ?_))); (case side2 => exact HC0_2.out); (case side3 => repeat (first | exact (cB_ HR1_2.out HB.out) | (with_reducible refine Kd.C_alloc ?_ _) | (with_reducible refine Kd.C_drewN ?_ _) | (with_reducible refine Kd.C_drew ?_))); (case side4 => exact HC1_2.out); rintro e w21 ⟨rfl, hb⟩; have n0_ := aM (bB (g := gb235) (qy BK235.out) hb); have n1_ := aM (bB (g := gb236) (qy BK236.out) hb); have n2_ := aM (bP (by repeat (first | (with_reducible first | exact HB.out | apply ea | apply en | apply ed | refine es ?_ GE235.out | refine es ?_ GE236.out) | exact HB.out)) hb); clear BK235 BK236 HB; have BK235 := n0_; have BK236 := n1_; have HB := n2_; clear n0_ n1_ n2_; (try clear hb); (try clear hb2); (try clear hk); (try clear hi)))
   go_ret
   exact ⟨by first | rfl | (simp [errW_none, errW_some] <;> rfl) | (simp [*, errW_none, errW_some] <;> rfl), by repeat (first | (with_reducible first | exact HB.out | apply ea | apply en | apply ed | refine es ?_ GE235.out | refine es ?_ GE236.out) | exact HB.out)⟩
 ·rw [if_neg c3] at H
  have c3b0 : (a0_0 == a1_0) = false := beq_eq_false_iff_ne.mpr c3
  have c3b1 : (a0_0 != a1_0) = true := bne_iff_ne.mpr c3
  obtain rfl := Option.some.inj H
  go_enter Try.func14, Try.ntmps14
  go_wp2_with (first | ((with_reducible refine gate_dst (N := 2) rfl ?_); refine box_event ?hg (N := 2) ?hd (cs := #[.int .i64 a0_0, .string a0_1, .slice A0_2 l0_2.length c0_2, .string a0_3, .slice A0_4 l0_4.length c0_4]) (t := 34) ?hr ?_; (case hd | hg => rfl); (case hr => first | (go_simp; done) | (go_simp; rfl)); intro gb235 hg w22 hbox hb; have n0_ := aM (bP (ey HB.out) hb); have n1_ := aM (hbox); have n2_ := aM ((by rw [hg]; exact (bZ (ey HB.out)) : w.heap.size ≤ gb235)); have n3_ := n2_; clear HB; have HB := n0_; have BK235 := n1_; have GW235 := n2_; have GE235 := n3_; clear n0_ n1_ n2_ n3_; clear hb hbox hg) | ((with_reducible refine gate_dst (N := 3) rfl ?_); refine box_event ?hg (N := 3) ?hd (cs := #[.int .i64 a1_0, .string a1_1, .slice A1_2 l1_2.length c1_2, .string a1_3, .slice A1_4 l1_4.length c1_4]) (t := 34) ?hr ?_; (case hd | hg => rfl); (case hr => first | (go_simp; done) | (go_simp; rfl)); intro gb236 hg w23 hbox hb; have n0_ := aM (bB (g := gb235) (qy BK235.out) hb); have n1_ := aM (bP (by repeat (first | (with_reducible first | exact HB.out | apply ea | apply en | apply ed | refine es ?_ GE235.out) | exact HB.out)) hb); have n2_ := aM (hbox); have n3_ := aM ((by rw [hg]; exact (bZ (by repeat (first | (with_reducible first | exact HB.out | apply ea | apply en | apply ed | refine es ?_ GE235.out) | exact HB.out))) : w.heap.size ≤ gb236)); have n4_ := n3_; have n5_ := aM ((by rw [hg]; exact Nat.ne_of_lt (blk_lt (g := gb235) (qy BK235.out)) : gb235 ≠ gb236)); have n6_ := aM ((by rw [hg]; exact Nat.ne_of_gt (blk_lt (g := gb235) (qy BK235.out)) : gb236 ≠ gb235)); clear BK235 HB; have BK235 := n0_; have HB := n1_; have BK236 := n2_; have GW236 := n3_; have GE236 := n4_; have NB235_236 := n5_; have NB236_235 := n6_; clear n0_ n1_ n2_ n3_ n4_ n5_ n6_; clear hb hbox hg; have hnb24 := NB235_236.out; have hnc24 := NB236_235.out; have hcz25_0 := zC BK235.out 0 (.int .i64 a0_0); have hcz25_1 := zC BK235.out 1 (.string a0_1); have hcz25_2 := zC BK235.out 2 (.slice A0_2 l0_2.length c0_2); have hcz25_3 := zC BK235.out 3 (.string a0_3); have hcz25_4 := zC BK235.out 4 (.slice A0_4 l0_4.length c0_4); have hfz25_0 := bF BK235.out 0; have hfz25_1 := bF BK235.out 1; have hfz25_2 := bF BK235.out 2; have hfz25_3 := bF BK235.out 3; have hfz25_4 := bF BK235.out 4; have hcz26_0 := zC BK236.out 0 (.int .i64 a1_0); have hcz26_1 := zC BK236.out 1 (.string a1_1); have hcz26_2 := zC BK236.out 2 (.slice A1_2 l1_2.length c1_2); have hcz26_3 := zC BK236.out 3 (.string a1_3); have hcz26_4 := zC BK236.out 4 (.slice A1_4 l1_4.length c1_4); have hfz26_0 := bF BK236.out 0; have hfz26_1 := bF BK236.out 1; have hfz26_2 := bF BK236.out 2; have hfz26_3 := bF BK236.out 3; have hfz26_4 := bF BK236.out 4))
  go_ret
  exact ⟨by first | rfl | (simp [errW_none, errW_some] <;> rfl) | (simp [*, errW_none, errW_some] <;> rfl), by repeat (first | (with_reducible first | exact HB.out | apply ea | apply en | apply ed | refine es ?_ GE235.out | refine es ?_ GE236.out) | exact HB.out)⟩
end Go.Proofs.Ytbbgpfjeobdogaa.PB
end

section
namespace Go.Proofs.Ytbbgpfjeobdogaa.PB
open Go.RowKit Go.Maps Go.Proofs.YtbbgpfjeobdogaaW.PrintWords Go.Proofs.YtbbgpfjeobdogaaW.PrintLast Go.Proofs.YtbbgpfjeobdogaaW.PrintMore
set_option maxRecDepth 100000
set_option linter.unusedVariables false
set_option linter.unusedSimpArgs false
abbrev fitY (y : Ed) : Prop := y.f1.f1.length ≤ 100000 ∧ y.f2.f1.length ≤ 100000
theorem sameE_ev (y : Ed) (h : fitY y) : Ev (fun k => bureauref07_Same.f k y.f0 y.f1.f0 y.f1.f1 y.f2.f0 y.f2.f1 y.f0 y.f1.f0 y.f1.f1 y.f2.f0 y.f2.f1) true := by
  unfold bureauref07_Same.f
  have h1 := rsame4_ev y.f1.f0 y.f1.f1 y.f1.f0 y.f1.f1 (Nat.le_trans h.1 (by decide))
  have h2 := rsame4_ev y.f2.f0 y.f2.f1 y.f2.f0 y.f2.f1 (Nat.le_trans h.2 (by decide))
  rw [sameT_self] at h1 h2
  exact Ev.pos rfl (Ev.bind h1 (Ev.pos rfl (Ev.bind h2 (Ev.now _))))
theorem sameE_ok {w : World} {ok ok' : Nat → Prop} {y : Ed} {A2 A4 A2' A4' : Option Addr} {c2 c4 c2' c4' : Nat} (h : EdIn w ok y A2 c2 A4 c4) (h' : EdIn w ok' y A2' c2' A4' c4') :
    Calls Try.prog 14 #[edV y A2 c2 A4 c4, edV y A2' c2' A4' c4'] w fun e w' => e = .returned (.bool true) ∧ Below w.heap.size w w' := by
  obtain ⟨k, hk⟩ := (sameE_ev y h.fit).rounds
  exact bureauref07_Same.calls k y.f0 y.f1.f0 A2 c2 y.f1.f1 y.f2.f0 A4 c4 y.f2.f1 y.f0 y.f1.f0 A2' c2' y.f1.f1 y.f2.f0 A4' c4' y.f2.f1 true w (Kd.F_now h.f1) h.g1 (Kd.F_now h.f2) h.g2 (Kd.F_now h'.f1) h'.g1 (Kd.F_now h'.f2) h'.g2 hk
theorem ed_in {w : World} {ok : Nat → Prop} {y : Ed} {cs : List Value} (h : Kd.FK k34 w ok y cs) (hf : fitY y) : ∃ A2 c2 A4 c4, cs = [.int .i64 y.f0, .string y.f1.f0, .slice A2 y.f1.f1.length c2, .string y.f2.f0, .slice A4 y.f2.f1.length c4] ∧ EdIn w ok y A2 c2 A4 c4 := by
  obtain ⟨A2, c2, A4, c4, e, l2, F2, l4, F4⟩ := k34_openF h
  exact ⟨A2, c2, A4, c4, e, F2, l2, F4, l4, hf⟩
theorem redo_fit {L : List St} {now next : Int} (hw : Wf L now next) : fitY (redoEd L now) := by
  unfold redoEd
  cases hr : redoL L now with
  | none => exact ⟨Nat.zero_le _, Nat.zero_le _⟩
  | some x => exact hw.fit x (redoL_in hr).1
theorem redo_both {B : Nat} {S : Nat → Prop} {g bm : Nat} {w : World} {L : List St} {now next depth : Int} (h : HistAt B S g bm w L now next depth) (hw : Wf L now next) :
    Calls Try.prog 15 #[.pointer (some ⟨g, 0, none⟩)] w fun e w' => ∃ A2 c2 A4 c4, e = .returned (.tuple #[edV (redoEd L now) A2 c2 A4 c4, .int .i64 (redoCode L now)]) ∧ EdIn w' (fun k => w.heap.size ≤ k) (redoEd L now) A2 c2 A4 c4 ∧ HistAt B S g bm w' L (redoNow L now) next depth ∧ Turn B (hb g bm) w w' := by
  refine (redo_ok h hw).mono ?_
  rintro e w' ⟨v, rfl, ⟨cs, rfl, hf⟩, hh, ht⟩
  obtain ⟨A2, c2, A4, c4, rfl, hE⟩ := ed_in hf (redo_fit hw)
  exact ⟨A2, c2, A4, c4, rfl, hE, hh, ht⟩
theorem HistAt.turn {B : Nat} {S S' : Nat → Prop} {g bm : Nat} {w W : World} {L : List St} {now next depth : Int} (h : HistAt B S g bm w L now next depth) (ht : Turn 0 S' w W) (hg : ¬ S' g) (hbm : ¬ S' bm) (hS : ∀ k, S' k → S k) : HistAt B S g bm W L now next depth := by
  obtain ⟨⟨f, h1⟩, ⟨D, h2⟩, h3, h4, h5, h6⟩ := h
  exact ⟨⟨f, ht.blk h1 hg⟩, ⟨D, h2.turn ht hbm (fun k hk hs => hk (hS k hs))⟩, h3, h4, h5, h6⟩
theorem HistAt.grow {B : Nat} {S S' : Nat → Prop} {g bm : Nat} {w : World} {L : List St} {now next depth : Int} (h : HistAt B S g bm w L now next depth) (h1 : ∀ k, S k → S' k) (h2 : ∀ k, S' k → S k ∨ w.heap.size ≤ k) : HistAt B S' g bm w L now next depth := by
  obtain ⟨hg, ⟨D, hD⟩, h3, h4, h5, h6⟩ := h
  exact ⟨hg, ⟨D, hD.ok' (fun k hk hlt hs => by rcases h2 k hs with h | h; exact hk h; omega)⟩, h1 _ h3, h1 _ h4, h5, h6⟩
abbrev s6 (g bm g6 : Nat) : Nat → Prop := fun k => k = g ∨ k = bm ∨ k = g6
abbrev okQ (g bm g6 : Nat) : Nat → Prop := fun k => ¬ s6 g bm g6 k
structure Aq (g bm g6 : Nat) (w : World) (s : Hs) (depth : Int) (A : Option Addr) (c : Nat) (W : World) : Prop where
  hist : HistAt w.heap.size (s6 g bm g6) g bm W s.L s.now s.next depth
  inv : Inv s.L s.now s.next depth
  box : W.heap[g6]? = some (.cells #[.slice A s.L.length c, .int .i64 s.now, .int .i64 s.next, .int .i64 depth] 28 (0, 0))
  list : Kd.V kL 76 W 0 (okQ g bm g6) (.slice A s.L.length c) s.L
  below : Below w.heap.size w W
theorem Aq.later {g bm g6 : Nat} {w W W2 : World} {s : Hs} {depth : Int} {A : Option Addr} {c : Nat} (h : Aq g bm g6 w s depth A c W) (hb : Below W.heap.size W W2) : Aq g bm g6 w s depth A c W2 :=
  ⟨h.hist.below hb, h.inv, bB h.box hb, Kd.V_below h.list hb, h.below.trans (hb.mono h.below.size)⟩
theorem Aq.hS {g bm g6 : Nat} {w W : World} {s : Hs} {depth : Int} {A : Option Addr} {c : Nat} (h : Aq g bm g6 w s depth A c W) : ∀ k, s6 g bm g6 k → k < W.heap.size := by
  have h1 := h.hist.lt
  have h2 := blk_lt h.box
  rintro k (rfl | rfl | rfl) <;> omega
end Go.Proofs.Ytbbgpfjeobdogaa.PB
end

section
namespace Go.Proofs.Ytbbgpfjeobdogaa.PB
open Go.RowKit Go.Maps Go.Proofs.YtbbgpfjeobdogaaW.PrintWords
set_option linter.unusedVariables false
set_option linter.unusedSimpArgs false
abbrev Tt := S32
def apT (t : Tt) (e : Ed) : TX := applyT t.f0 t.f1 e.f0 e.f1.f0 e.f1.f1 e.f2.f0 e.f2.f1
theorem ap_good {t : Tt} {e : Ed} {u : Tt} (h : apT t e = (u.f0, u.f1, 0)) : goodEd e = true ∧ goodT t.f0 t.f1 = true ∧ goodT u.f0 u.f1 = true := by
  have h0 : (applyT t.f0 t.f1 e.f0 e.f1.f0 e.f1.f1 e.f2.f0 e.f2.f1).2.2 = 0 := by
    show (apT t e).2.2 = 0
    rw [h]
  obtain ⟨P, Q, X, Z, ha, hs, hl, hX, hZ, hg, h1, h2, hr⟩ := applyT_ok h0
  obtain ⟨g1, g2, g3, g4⟩ := goodE_iff.1 hg
  obtain ⟨_, _, o3, _, _⟩ := goodT_facts g1
  obtain ⟨_, _, n3, _, _⟩ := goodT_facts g2
  have h' : (u.f0, u.f1, (0 : Int)) = (P ++ e.f2.f0 ++ Q, pack (X ++ bytes e.f2.f1 ++ Z), 0) := h.symm.trans hr
  have e1 : u.f0 = P ++ e.f2.f0 ++ Q := by injection h'
  have e2 : u.f1 = pack (X ++ bytes e.f2.f1 ++ Z) := by injection h' with _ h'; injection h'
  refine ⟨hg, ?_, ?_⟩
  · rw [hs, hl]
    exact goodT_pack (by rw [ByteArray.size_append, ByteArray.size_append, List.length_append, List.length_append]; omega) (by rw [ByteArray.size_append, ByteArray.size_append]; omega)
  · rw [e1, e2]
    exact goodT_pack (by rw [ByteArray.size_append, ByteArray.size_append, List.length_append, List.length_append]; omega) (by rw [ByteArray.size_append, ByteArray.size_append]; omega)
end Go.Proofs.Ytbbgpfjeobdogaa.PB
end

section
namespace Go.Proofs.Ytbbgpfjeobdogaa.PB
open Go.RowKit Go.Maps Go.Proofs.YtbbgpfjeobdogaaW.PrintWords
set_option linter.unusedVariables false
set_option linter.unusedSimpArgs false
def tAt (T : List Tt) (n : Int) : Tt := T.getD n.toNat z32
theorem tAt_old {T : List Tt} {u : Tt} {n : Int} (h0 : 0 ≤ n) (h : n < T.length) : tAt (T ++ [u]) n = tAt T n := by
  unfold tAt
  rw [List.getD_eq_getElem?_getD, List.getD_eq_getElem?_getD, List.getElem?_append_left (by omega)]
theorem tAt_new {T : List Tt} {u : Tt} {n : Int} (h : n = T.length) : tAt (T ++ [u]) n = u := by
  unfold tAt
  subst h
  rw [Int.toNat_natCast, List.getD_eq_getElem?_getD, List.getElem?_append_right (Nat.le_refl _)]
  simp
def onWay (L : List St) (n q : Int) : Prop := ∃ k, q ∈ upL L k n
theorem onWay_self {L : List St} {n : Int} (h : 0 ≤ n) : onWay L n n := ⟨1, by unfold upL; rw [if_neg (by omega)]; exact List.mem_cons_self⟩
theorem onWay_up {L : List St} {now next : Int} (h : Wf L now next) {x : St} (hx : x ∈ L) {q : Int} : onWay L x.f0 q ↔ q = x.f0 ∨ onWay L x.f1 q := by
  constructor
  · rintro ⟨k, hk⟩
    cases k with
    | zero => simp [upL] at hk
    | succ k =>
      rw [up_step h hx k] at hk
      rcases List.mem_cons.1 hk with h | h
      · exact .inl h
      · exact .inr ⟨k, h⟩
  · rintro (rfl | ⟨k, hk⟩)
    · exact onWay_self (h.low x hx).1
    · exact ⟨k + 1, by rw [up_step h hx k]; exact List.mem_cons_of_mem _ hk⟩
theorem onWay_le {L : List St} {now next : Int} (h : Wf L now next) {x : St} (hx : x ∈ L) {q : Int} (hq : onWay L x.f0 q) : q ≤ x.f0 ∧ ∃ z ∈ L, z.f0 = q := by
  obtain ⟨k, hk⟩ := hq
  exact (up_sorted h k x hx).2 q hk
structure Txs (L : List St) (now next depth : Int) (T : List Tt) : Prop where
  inv : Inv L now next depth
  len : (T.length : Int) = next
  good : ∀ u ∈ T, goodT u.f0 u.f1 = true
  edge : ∀ x ∈ L, 0 ≤ x.f1 → apT (tAt T x.f1) x.f2 = ((tAt T x.f0).f0, (tAt T x.f0).f1, 0)
  young : ∀ q, onWay L now q → ∀ x ∈ L, x.f0 = q → 0 ≤ x.f1 → ∀ y ∈ L, y.f1 = x.f1 → y.f0 ≤ x.f0
section
variable {L : List St} {now next depth : Int} {T : List Tt}
theorem up_app {x : St} (h : Wf L now next) (hx : x.f0 = next) : ∀ (k : Nat) (y : St), y ∈ L → upL (L ++ [x]) k y.f0 = upL L k y.f0
  | 0, y, hy => rfl
  | k + 1, y, hy => by
    have hl := h.low y hy
    have hf : (L ++ [x]).find? (fun z => z.f0 == y.f0) = some y := by rw [List.find?_append, find_mem h.inc hy]; rfl
    have e1 : upL (L ++ [x]) (k + 1) y.f0 = y.f0 :: upL (L ++ [x]) k y.f1 := by
      rw [upL, if_neg (by omega), hf]
      rfl
    rw [up_step h hy k, e1]
    rcases h.up y hy with hn | ⟨z, hz, he⟩
    · rw [up_none _ _ hn, up_none _ _ hn]
    · rw [← he, up_app h hx k z hz]
theorem onWay_below {q : Int} (h : Wf L now next) {y0 : St} (hy0 : y0 ∈ L) (hq : y0.f0 = q) (hw : Wf (belowL q L) now next) : ∀ (k : Nat) (x : St), x ∈ belowL q L → ∀ p ∈ upL (belowL q L) k x.f0, onWay L x.f0 p
  | 0, x, hx, p, hp => by simp [upL] at hp
  | k + 1, x, hx, p, hp => by
    have hmem := (rootL_mem (h.inc.sublist (keepL_sub q L)) (keepL_root hy0 hq) hq x).1 hx
    rw [up_step hw hx k] at hp
    rcases List.mem_cons.1 hp with rfl | hp
    · exact onWay_self (hw.low x hx).1
    · rcases hmem with rfl | ⟨h1, h2⟩
      · rw [up_none _ _ (show (-1 : Int) < 0 by decide)] at hp
        cases hp
      · have hxL := (keepL_sub q L).subset h1
        rcases hw.up x hx with hn | ⟨y, hy, he⟩
        · rw [up_none _ _ hn] at hp; cases hp
        · rw [← he] at hp
          exact (onWay_up h hxL).2 (.inr (he ▸ onWay_below h hy0 hq hw k y hy p hp))
theorem Txs.add (h : Txs L now next depth T) (hn : next + 1 ≤ 1000) {e : Ed} (he : e.f1.f1.length ≤ 100000 ∧ e.f2.f1.length ≤ 100000) {u : Tt} (ha : apT (tAt T now) e = (u.f0, u.f1, 0)) : Txs (addL e L now next depth) next (next + 1) depth (T ++ [u]) := by
  have hi2 := add_inv h.inv hn he
  obtain ⟨x0, hx0, hn0⟩ := h.inv.wf.now
  have hl0 := h.inv.wf.low x0 hx0
  have hd1 := h.inv.d1
  have hd2 := h.inv.d2
  have hcap := h.inv.cap
  have hlen := h.len
  have hw := wf_add h.inv.wf hn (by omega) he
  have hedge : ∀ x ∈ L ++ [(⟨next, now, e⟩ : St)], 0 ≤ x.f1 → apT (tAt (T ++ [u]) x.f1) x.f2 = ((tAt (T ++ [u]) x.f0).f0, (tAt (T ++ [u]) x.f0).f1, 0) := by
    intro x hx h1
    rcases List.mem_append.1 hx with hx | hx
    · have hl := h.inv.wf.low x hx
      rw [tAt_old h1 (by omega), tAt_old hl.1 (by omega)]
      exact h.edge x hx h1
    · obtain rfl := List.mem_singleton.1 hx
      show apT (tAt (T ++ [u]) now) e = ((tAt (T ++ [u]) next).f0, (tAt (T ++ [u]) next).f1, 0)
      rw [tAt_old (by omega) (by omega), tAt_new hlen.symm]
      exact ha
  have hyoung : ∀ q, onWay (L ++ [(⟨next, now, e⟩ : St)]) next q → ∀ x ∈ L ++ [(⟨next, now, e⟩ : St)], x.f0 = q → 0 ≤ x.f1 → ∀ y ∈ L ++ [(⟨next, now, e⟩ : St)], y.f1 = x.f1 → y.f0 ≤ x.f0 := by
    intro q hq x hx hxq h1 y hy hyx
    have hnew : (⟨next, now, e⟩ : St) ∈ L ++ [(⟨next, now, e⟩ : St)] := List.mem_append.2 (.inr List.mem_cons_self)
    rcases (onWay_up hw hnew).1 hq with hqn | hq
    · rw [hxq, hqn]
      have := hw.low y hy
      show y.f0 ≤ next
      omega
    · have hq' : onWay L now q := by
        obtain ⟨k, hk⟩ := hq
        refine ⟨k, ?_⟩
        have := up_app (x := (⟨next, now, e⟩ : St)) h.inv.wf rfl k x0 hx0
        rw [hn0] at this
        rw [← this]
        exact hk
      have hqle := (onWay_le h.inv.wf hx0 (hn0 ▸ hq')).1
      rcases List.mem_append.1 hx with hx | hx
      · rcases List.mem_append.1 hy with hy | hy
        · exact h.young q hq' x hx hxq h1 y hy hyx
        · obtain rfl := List.mem_singleton.1 hy
          have hl := h.inv.wf.low x hx
          have : now = x.f1 := hyx
          omega
      · obtain rfl := List.mem_singleton.1 hx
        have : next = q := hxq
        omega
  have hgood : ∀ v ∈ T ++ [u], goodT v.f0 v.f1 = true := by
    intro v hv
    rcases List.mem_append.1 hv with hv | hv
    · exact h.good v hv
    · obtain rfl := List.mem_singleton.1 hv
      exact (ap_good ha).2.2
  refine ⟨hi2, by rw [List.length_append, List.length_singleton]; omega, hgood, ?_, ?_⟩
  · unfold addL
    split
    case isFalse => exact hedge
    case isTrue ht =>
      obtain ⟨q, y0, hq, _, hy0, hyq, hk, hlt⟩ := path_two hw (List.mem_append.2 (.inr List.mem_cons_self)) rfl (show 0 ≤ now by omega)
      rw [hq]
      intro x hx h1
      rcases (rootL_mem (hw.inc.sublist (keepL_sub q _)) (keepL_root hy0 hyq) hyq x).1 hx with rfl | ⟨h2, _⟩
      · exact absurd h1 (by show ¬ (0 : Int) ≤ -1; omega)
      · exact hedge x ((keepL_sub q _).subset h2) h1
  · have hi3 := hi2
    unfold addL at hi3 ⊢
    split
    case isFalse => exact hyoung
    case isTrue ht =>
      rw [if_pos ht] at hi3
      obtain ⟨q, y0, hq, _, hy0, hyq, hk, hlt⟩ := path_two hw (List.mem_append.2 (.inr List.mem_cons_self)) rfl (show 0 ≤ now by omega)
      rw [hq] at hi3 ⊢
      have hmem := fun x => rootL_mem (hw.inc.sublist (keepL_sub q _)) (keepL_root hy0 hyq) hyq x
      obtain ⟨z0, hz0, hzn⟩ := hi3.wf.now
      intro p hp x hx hxp h1 y hy hyx
      have hp' : onWay (L ++ [(⟨next, now, e⟩ : St)]) next p := by
        obtain ⟨k, hk⟩ := hp
        have h5 := onWay_below hw hy0 hyq hi3.wf k z0 hz0 p (by rw [hzn]; exact hk)
        rw [hzn] at h5
        exact h5
      have hx' : x ∈ L ++ [(⟨next, now, e⟩ : St)] := by
        rcases (hmem x).1 hx with rfl | ⟨h2, _⟩
        · exact absurd h1 (by show ¬ (0 : Int) ≤ -1; omega)
        · exact (keepL_sub q _).subset h2
      have hy' : y ∈ L ++ [(⟨next, now, e⟩ : St)] := by
        rcases (hmem y).1 hy with rfl | ⟨h2, _⟩
        · have : (-1 : Int) = x.f1 := hyx
          omega
        · exact (keepL_sub q _).subset h2
      exact hyoung p hp' x hx' hxp h1 y hy' hyx
end
end Go.Proofs.Ytbbgpfjeobdogaa.PB
end

section
namespace Go.Proofs.Ytbbgpfjeobdogaa.PB
open Go.RowKit Go.Maps Go.Proofs.YtbbgpfjeobdogaaW.PrintWords Go.Proofs.YtbbgpfjeobdogaaW.PrintLast Go.Proofs.YtbbgpfjeobdogaaW.PrintMore
set_option maxRecDepth 100000
set_option linter.unusedVariables false
set_option linter.unusedSimpArgs false
theorem good_len {s : ByteArray} {l : List S71} (h : goodT s l = true) : l.length ≤ 4096 := by
  obtain ⟨_, _, h3, h4, _⟩ := goodT_facts h
  have := pack_len (bytes l)
  rw [← good_pack_bytes h] at this
  omega
structure TxIn (w : World) (ok : Nat → Prop) (t : Tt) (A : Option Addr) (c : Nat) : Prop where
  f : Kd.F k71 w ok A t.f1.length t.f1
  g : t.f1.length ≤ c
theorem TxIn.turn {B : Nat} {S ok : Nat → Prop} {w W : World} {t : Tt} {A : Option Addr} {c : Nat} (h : TxIn w ok t A c) (ht : Turn B S w W) (hok : ∀ k, ok k → ¬ S k) : TxIn W ok t A c := ⟨ht.f h.f hok, h.g⟩
theorem TxIn.below {ok : Nat → Prop} {w W : World} {t : Tt} {A : Option Addr} {c : Nat} (h : TxIn w ok t A c) (hb : Below w.heap.size w W) : TxIn W ok t A c := ⟨Kd.F_below h.f hb, h.g⟩
theorem TxIn.mono {ok ok' : Nat → Prop} {w : World} {t : Tt} {A : Option Addr} {c : Nat} (h : TxIn w ok t A c) (hk : ∀ k, ok k → ok' k) : TxIn w ok' t A c := ⟨Kd.F_mono h.f hk, h.g⟩
abbrev txV (t : Tt) (A : Option Addr) (c : Nat) : Value := .agg #[.string t.f0, .slice A t.f1.length c]
theorem same4_ok {w : World} {ok ok' : Nat → Prop} {t : Tt} {A A' : Option Addr} {c c' : Nat} (h : TxIn w ok t A c) (h' : TxIn w ok' t A' c') (hg : goodT t.f0 t.f1 = true) :
    Calls Try.prog 28 #[txV t A c, txV t A' c'] w fun r w' => r = .returned (.bool true) ∧ Below w.heap.size w w' := by
  have h1 := rsame4_ev t.f0 t.f1 t.f0 t.f1 (Nat.le_trans (good_len hg) (by decide))
  rw [sameT_self] at h1
  obtain ⟨k, hk⟩ := h1.rounds
  exact bureauref04_Same.calls k t.f0 A c t.f1 t.f0 A' c' t.f1 true w (Kd.F_now h.f) h.g (Kd.F_now h'.f) h'.g hk
theorem redo_yes {B : Nat} {S : Nat → Prop} {g bm : Nat} {w : World} {L : List St} {now next depth : Int} (h : HistAt B S g bm w L now next depth) (hw : Wf L now next) {y : St} (hr : redoL L now = some y) :
    Calls Try.prog 15 #[.pointer (some ⟨g, 0, none⟩)] w fun e w' => ∃ A2 c2 A4 c4, e = .returned (.tuple #[edV y.f2 A2 c2 A4 c4, .int .i64 0]) ∧ EdIn w' (fun k => w.heap.size ≤ k) y.f2 A2 c2 A4 c4 ∧ HistAt B S g bm w' L y.f0 next depth ∧ Turn B (hb g bm) w w' := by
  have h1 : redoEd L now = y.f2 := by unfold redoEd; rw [hr]; rfl
  have h2 : redoNow L now = y.f0 := by unfold redoNow; rw [hr]; rfl
  have h3 : redoCode L now = 0 := by unfold redoCode; rw [hr]; rfl
  have := redo_both h hw
  rw [h1, h2, h3] at this
  exact this
abbrev kTx := k32
structure Bq (g bm g8 : Nat) (S : Nat → Prop) (w : World) (s : Hs) (depth : Int) (T : List Tt) (A : Option Addr) (c : Nat) (v : Value) (W : World) : Prop where
  hist : HistAt w.heap.size S g bm W s.L s.now s.next depth
  sub : ∀ k, s6 g bm g8 k → S k
  own : ∀ k, v.ownBlock = some k → S k
  lo : ∀ k, S k → w.heap.size ≤ k
  lt : ∀ k, S k → k < W.heap.size
  txs : Txs s.L s.now s.next depth T
  box : W.heap[g8]? = some (.cells #[.string (tAt T s.now).f0, .slice A (tAt T s.now).f1.length c] 32 (0, 0))
  text : TxIn W (fun k => ¬ S k) (tAt T s.now) A c
  row : Kd.N kTx 32 W w.heap.size (okQ g bm g8) v T
  below : Below w.heap.size w W
section
variable {g bm g8 : Nat} {S : Nat → Prop} {w W W2 : World} {s s' : Hs} {depth : Int} {T : List Tt} {A : Option Addr} {c : Nat} {v : Value}
theorem Bq.later (h : Bq g bm g8 S w s depth T A c v W) (hb : Below W.heap.size W W2) : Bq g bm g8 S w s depth T A c v W2 :=
  ⟨h.hist.below hb, h.sub, h.own, h.lo, fun k hk => Nat.lt_of_lt_of_le (h.lt k hk) hb.size, h.txs, bB h.box hb, h.text.below hb, Kd.N_below h.row hb, h.below.trans (hb.mono h.below.size)⟩
theorem hb_s6 {k : Nat} (h : hb g bm k) : s6 g bm g8 k := by rcases h with e | e; exact .inl e; exact .inr (.inl e)
theorem Bq.step (h : Bq g bm g8 S w s depth T A c v W) (hn : g8 ≠ g ∧ g8 ≠ bm) (hh : HistAt w.heap.size S g bm W2 s'.L s'.now s'.next depth) (ht : Turn w.heap.size (hb g bm) W W2) :
    W2.heap[g8]? = some (.cells #[.string (tAt T s.now).f0, .slice A (tAt T s.now).f1.length c] 32 (0, 0)) ∧ TxIn W2 (fun k => ¬ S k) (tAt T s.now) A c ∧ Kd.N kTx 32 W2 w.heap.size (okQ g bm g8) v T ∧ Below w.heap.size w W2 :=
  ⟨ht.blk h.box (fun e => by rcases e with e | e; exact hn.1 e; exact hn.2 e), h.text.turn ht (fun k hk e => hk (h.sub k (hb_s6 e))), Kd.N_kept h.row ht.kept (fun k hk e => hk (hb_s6 e)), h.below.trans ht.bel⟩
end
end Go.Proofs.Ytbbgpfjeobdogaa.PB
end

section
namespace Go.Proofs.Ytbbgpfjeobdogaa.PB
open Go.RowKit Go.Maps Go.Proofs.YtbbgpfjeobdogaaW.PrintWords Go.Proofs.YtbbgpfjeobdogaaW.PrintLast Go.Proofs.YtbbgpfjeobdogaaW.PrintMore
set_option maxRecDepth 100000
set_option linter.unusedVariables false
set_option linter.unusedSimpArgs false
theorem blks5 {g t : Nat} {w : World} {u0 u1 u2 u3 u4 : Value} (h : w.heap[g]? = some (.cells #[u0, u1, u2, u3, u4] t (0, 0))) (v0 v1 v2 v3 v4 : Value) : (((((w.setCell ⟨g, 0, none⟩ v0).setCell ⟨g, 1, none⟩ v1).setCell ⟨g, 2, none⟩ v2).setCell ⟨g, 3, none⟩ v3).setCell ⟨g, 4, none⟩ v4).heap[g]? = some (.cells #[v0, v1, v2, v3, v4] t (0, 0)) := (bU (cs' := #[v0, v1, v2, v3, v4]) (bU (cs' := #[v0, v1, v2, v3, u4]) (bU (cs' := #[v0, v1, v2, u3, u4]) (bU (cs' := #[v0, v1, u2, u3, u4]) (bU (cs' := #[v0, u1, u2, u3, u4]) h 0 v0 rfl) 1 v1 rfl) 2 v2 rfl) 3 v3 rfl) 4 v4 rfl)
end Go.Proofs.Ytbbgpfjeobdogaa.PB
end

section
namespace Go.Proofs.Ytbbgpfjeobdogaa.PB
open Go.RowKit Go.Maps Go.Proofs.YtbbgpfjeobdogaaW.PrintWords Go.Proofs.YtbbgpfjeobdogaaW.PrintLast Go.Proofs.YtbbgpfjeobdogaaW.PrintMore
set_option maxRecDepth 100000
set_option linter.unusedVariables false
set_option linter.unusedSimpArgs false
def NoH (w : World) (v : Value) : Prop := v = .pointer none ∨ ∃ g, v = .pointer (some ⟨g, 0, none⟩) ∧ w.heap[g]? = some (.cells #[.map none, .int .i64 0, .int .i64 0, .int .i64 0, .int .i64 0] 67 (0, 0))
theorem NoH.below {w W : World} {v : Value} (h : NoH w v) (hb : Below w.heap.size w W) : NoH W v := by
  rcases h with h | ⟨g, h, hg⟩
  · exact .inl h
  · exact .inr ⟨g, h, bB hg hb⟩
theorem good_no {w : World} {v : Value} (h : NoH w v) : Calls Try.prog 31 #[v] w fun e w' => e = .returned (.bool false) ∧ w' = w := by
  rcases h with rfl | ⟨g, rfl, hg⟩
  · exact good_nil w
  · exact good_none ((bC hg 0).trans rfl)
theorem now_no {w : World} {v : Value} (h : NoH w v) : Calls Try.prog 19 #[v] w fun e w' => e = .returned (.int .i64 0) ∧ w' = w := by
  go_enter Try.func19, Try.ntmps19
  go_wp2_with (first
    | ((with_reducible refine gate_callee (f := 31) rfl ?_); refine goesL_ (some 4) rfl rfl Try.func31 (by kernel_rfl) rfl #[v] rfl (by (try simp only [List.map_toArray, List.map_cons, List.map_nil]); first | done | rfl) ?_; (with_reducible refine (good_no h).mono ?_); rintro e3 w3 ⟨rfl, hw⟩; subst hw; refine ⟨_, rfl, ?_⟩)
    )
  go_ret
  exact ⟨rfl, rfl⟩
theorem states_no {w : World} {v : Value} (h : NoH w v) : Calls Try.prog 21 #[v] w fun e w' => e = .returned (.slice none 0 0) ∧ w' = w := by
  go_enter Try.func21, Try.ntmps21
  go_wp2_with (first
    | ((with_reducible refine gate_callee (f := 31) rfl ?_); refine goesL_ (some 6) rfl rfl Try.func31 (by kernel_rfl) rfl #[v] rfl (by (try simp only [List.map_toArray, List.map_cons, List.map_nil]); first | done | rfl) ?_; (with_reducible refine (good_no h).mono ?_); rintro e3 w3 ⟨rfl, hw⟩; subst hw; refine ⟨_, rfl, ?_⟩)
    )
  go_ret
  exact ⟨rfl, rfl⟩
theorem path_no {w : World} {v : Value} (h : NoH w v) : Calls Try.prog 23 #[v] w fun e w' => e = .returned (.slice none 0 0) ∧ w' = w := by
  go_enter Try.func23, Try.ntmps23
  go_wp2_with (first
    | ((with_reducible refine gate_callee (f := 31) rfl ?_); refine goesL_ (some 6) rfl rfl Try.func31 (by kernel_rfl) rfl #[v] rfl (by (try simp only [List.map_toArray, List.map_cons, List.map_nil]); first | done | rfl) ?_; (with_reducible refine (good_no h).mono ?_); rintro e3 w3 ⟨rfl, hw⟩; subst hw; refine ⟨_, rfl, ?_⟩)
    )
  go_ret
  exact ⟨rfl, rfl⟩
theorem copy_no {w : World} {v : Value} (h : NoH w v) : Calls Try.prog 29 #[v] w fun e w' => e = .returned (.pointer none) ∧ w' = w := by
  go_enter Try.func29, Try.ntmps29
  go_wp2_with (first
    | ((with_reducible refine gate_callee (f := 31) rfl ?_); refine goesL_ (some 7) rfl rfl Try.func31 (by kernel_rfl) rfl #[v] rfl (by (try simp only [List.map_toArray, List.map_cons, List.map_nil]); first | done | rfl) ?_; (with_reducible refine (good_no h).mono ?_); rintro e3 w3 ⟨rfl, hw⟩; subst hw; refine ⟨_, rfl, ?_⟩)
    )
  go_ret
  exact ⟨rfl, rfl⟩
theorem undoN0 {w : World} {v : Value} (h : NoH w v) : Calls Try.prog 12 #[v] w fun e w' => e = .returned (.tuple #[edV z34 none 0 none 0, .int .i64 1]) ∧ Below w.heap.size w w' := by
  have hu34 := Try.underlying34
  have HN := aM h
  clear h
  go_enter Try.func12, Try.ntmps12
  go_wp2_with (first
    | ((with_reducible refine gate_dst (N := 2) rfl ?_); refine box_event ?hg (N := 2) ?hd (cs := zs5) (t := 34) ?hr ?_; (case hd => rfl); (case hg => rfl); (case hr => first | (go_simp; done) | (go_simp; rfl)); intro g2 hg w2 hbox hb; have HB2 := aM hb; have HX2 := aM hbox; have GE2 := aM (Nat.le_of_eq hg.symm); have HN2 := aM (HN.out.below hb); clear hb hbox hg; have hz0 := (bC HX2.out 0).trans (rfl : _ = some (Value.int .i64 0)); have hz1 := (bC HX2.out 1).trans (rfl : _ = some (Value.string ⟨#[]⟩)); have hz2 := (bC HX2.out 2).trans (rfl : _ = some (Value.slice none 0 0)); have hz3 := (bC HX2.out 3).trans (rfl : _ = some (Value.string ⟨#[]⟩)); have hz4 := (bC HX2.out 4).trans (rfl : _ = some (Value.slice none 0 0)); have hfz0 := bF HX2.out 0; have hfz1 := bF HX2.out 1; have hfz2 := bF HX2.out 2; have hfz3 := bF HX2.out 3; have hfz4 := bF HX2.out 4)
    | ((with_reducible refine gate_callee (f := 31) rfl ?_); refine goesL_ (some 6) rfl rfl Try.func31 (by kernel_rfl) rfl #[v] rfl (by (try simp only [List.map_toArray, List.map_cons, List.map_nil]); first | done | rfl) ?_; (with_reducible refine (good_no HN2.out).mono ?_); rintro e3 w3 ⟨rfl, hw⟩; subst hw; refine ⟨_, rfl, ?_⟩)
    )
  refine bodyPost_ret (results_ct rfl _ _ g2 34 zs5 (0, 0) _ rfl ((blk_set (blk_set (blk_set (blk_set (blk_set HX2.out 0 _) 1 _) 2 _) 3 _) 4 _).trans rfl) Try.underlying34 rfl (by kernel_rfl)) rfl ?_
  exact ⟨rfl, set5 HB2.out GE2.out _ _ _ _ _⟩
theorem redoN0 {w : World} {v : Value} (h : NoH w v) : Calls Try.prog 15 #[v] w fun e w' => e = .returned (.tuple #[edV z34 none 0 none 0, .int .i64 1]) ∧ Below w.heap.size w w' := by
  have hu34 := Try.underlying34
  have HN := aM h
  clear h
  go_enter Try.func15, Try.ntmps15
  go_wp2_with (first
    | ((with_reducible refine gate_dst (N := 2) rfl ?_); refine box_event ?hg (N := 2) ?hd (cs := zs5) (t := 34) ?hr ?_; (case hd => rfl); (case hg => rfl); (case hr => first | (go_simp; done) | (go_simp; rfl)); intro g2 hg w2 hbox hb; have HB2 := aM hb; have HX2 := aM hbox; have GE2 := aM (Nat.le_of_eq hg.symm); have HN2 := aM (HN.out.below hb); clear hb hbox hg; have hz0 := (bC HX2.out 0).trans (rfl : _ = some (Value.int .i64 0)); have hz1 := (bC HX2.out 1).trans (rfl : _ = some (Value.string ⟨#[]⟩)); have hz2 := (bC HX2.out 2).trans (rfl : _ = some (Value.slice none 0 0)); have hz3 := (bC HX2.out 3).trans (rfl : _ = some (Value.string ⟨#[]⟩)); have hz4 := (bC HX2.out 4).trans (rfl : _ = some (Value.slice none 0 0)); have hfz0 := bF HX2.out 0; have hfz1 := bF HX2.out 1; have hfz2 := bF HX2.out 2; have hfz3 := bF HX2.out 3; have hfz4 := bF HX2.out 4)
    | ((with_reducible refine gate_callee (f := 31) rfl ?_); refine goesL_ (some 8) rfl rfl Try.func31 (by kernel_rfl) rfl #[v] rfl (by (try simp only [List.map_toArray, List.map_cons, List.map_nil]); first | done | rfl) ?_; (with_reducible refine (good_no HN2.out).mono ?_); rintro e3 w3 ⟨rfl, hw⟩; subst hw; refine ⟨_, rfl, ?_⟩)
    )
  refine bodyPost_ret (results_ct rfl _ _ g2 34 zs5 (0, 0) _ rfl ((blk_set (blk_set (blk_set (blk_set (blk_set HX2.out 0 _) 1 _) 2 _) 3 _) 4 _).trans rfl) Try.underlying34 rfl (by kernel_rfl)) rfl ?_
  exact ⟨rfl, set5 HB2.out GE2.out _ _ _ _ _⟩
theorem add_no {w : World} {v : Value} (h : NoH w v) (e : Ed) (A1 : Option Addr) (c1 : Nat) (A2 : Option Addr) (c2 : Nat) : Calls Try.prog 17 #[v, edV e A1 c1 A2 c2] w fun e w' => e = .returned (.tuple #[.int .i64 0, .int .i64 1]) ∧ Below w.heap.size w w' := by
  have hu34 := Try.underlying34
  have HN := aM h
  clear h
  go_enter Try.func17, Try.ntmps17
  go_wp2_with (first
    | ((with_reducible refine gate_dst (N := 3) rfl ?_); refine box_event ?hg (N := 3) ?hd (cs := edC e A1 c1 A2 c2) (t := 34) ?hr ?_; (case hd => rfl); (case hg => rfl); (case hr => first | (go_simp; done) | (go_simp; rfl)); intro g3 hg w2 hbox hb; have HB3 := aM hb; have HN3 := aM (HN.out.below hb); clear hb hbox hg)
    | ((with_reducible refine gate_callee (f := 31) rfl ?_); refine goesL_ (some 10) rfl rfl Try.func31 (by kernel_rfl) rfl #[v] rfl (by (try simp only [List.map_toArray, List.map_cons, List.map_nil]); first | done | rfl) ?_; (with_reducible refine (good_no HN3.out).mono ?_); rintro e3 w3 ⟨rfl, hw⟩; subst hw; refine ⟨_, rfl, ?_⟩)
    )
  refine bodyPost_ret (results_tmp2 rfl _ _ _) rfl ?_
  exact ⟨rfl, HB3.out⟩
end Go.Proofs.Ytbbgpfjeobdogaa.PB
end

section
namespace Go.Proofs.Ytbbgpfjeobdogaa.PB
open Go.RowKit Go.Maps Go.Proofs.YtbbgpfjeobdogaaW.PrintWords Go.Proofs.YtbbgpfjeobdogaaW.PrintLast Go.Proofs.YtbbgpfjeobdogaaW.PrintMore
set_option maxRecDepth 100000
set_option linter.unusedVariables false
set_option linter.unusedSimpArgs false
def OwnA (w : World) (B : Nat) (A : Option Addr) : Prop := ∃ (b : Nat) (cs : Array Value), A = some ⟨b, 0, none⟩ ∧ B ≤ b ∧ w.heap[b]? = some (.cells cs 71 (0, 0))
theorem OwnA.of {w : World} {B : Nat} {ok : Nat → Prop} {A : Option Addr} {n c : Nat} {xs : List S71} (h : Kd.R k71 71 w B ok (.slice A n c) xs) (hx : xs ≠ []) : OwnA w B A := by
  obtain ⟨inner, _, h⟩ := Kd.R_own h
  rcases h with ⟨_, h0⟩ | ⟨g, cap, cur, hv, hb, hg, _⟩
  · exact absurd (List.eq_nil_of_length_eq_zero h0) hx
  · simp only [Value.slice.injEq] at hv
    exact ⟨g, cur, hv.1, hb, hg⟩
set_option maxHeartbeats 8000000 in
theorem undo_own {B : Nat} {S : Nat → Prop} {g bm : Nat} {w : World} {L : List St} {now next depth : Int} (h : HistAt B S g bm w L now next depth) (hw : Wf L now next) {x : St} (hx : x ∈ L) (hxn : x.f0 = now) :
    Calls Try.prog 12 #[.pointer (some ⟨g, 0, none⟩)] w fun e w' => ∃ v, e = .returned (.tuple #[v, .int .i64 (if x.f1 < 0 then 6 else 0)]) ∧ EdAt w' (fun k => w.heap.size ≤ k) v (if x.f1 < 0 then z34 else invE x.f2) ∧ HistAt B S g bm w' L (if x.f1 < 0 then now else x.f1) next depth ∧ Turn B (hb g bm) w w' ∧ (0 ≤ x.f1 → ∃ A2 c2 A4 c4, v = .agg #[.int .i64 (invE x.f2).f0, .string (invE x.f2).f1.f0, .slice A2 (invE x.f2).f1.f1.length c2, .string (invE x.f2).f2.f0, .slice A4 (invE x.f2).f2.f1.length c4] ∧ ((invE x.f2).f1.f1 ≠ [] → OwnA w' w.heap.size A2)) := by
  have hu34 := Try.underlying34
  have hu74 := Try.underlying74
  have HH := aM h
  have HW := aM hw
  have HX := aM hx
  have hlow := aM (hw.low x hx)
  have htop := aM hw.top
  have hfit := aM (hw.fit x hx)
  subst hxn
  obtain ⟨f0, hg0⟩ := h.hg
  obtain ⟨D, hD⟩ := h.hm
  obtain ⟨cs, hcs⟩ := hD.val x hx
  obtain ⟨A3, c3, A5, c5, rfl, l3, F3, l5, F5⟩ := cells_open hcs.2
  have HLK : Aside0 (∀ W : World, Below w.heap.size w W → (Instr.lookup 65 (.map (some bm)) (.int .i64 x.f0) false).run Try.prog W = .ok (.agg #[.int .i64 x.f1, .int .i64 x.f2.f0, .string x.f2.f1.f0, .slice A3 x.f2.f1.f1.length c3, .string x.f2.f2.f0, .slice A5 x.f2.f2.f1.length c5]) W) := ⟨fun W hb =>
    look_in (hD.turn (Turn.of_below (B := 0) (S := fun _ => False) hb (Nat.zero_le _)) (fun h => h) (fun _ _ h => h)) hx (by have := hw.low x hx; omega) (by have := hw.low x hx; have := hw.top; omega) ⟨hcs.1, Kd.FK_below hcs.2 hb⟩⟩
  have HG := aM hg0
  have HF := aM (And.intro (And.intro l3 l5) (And.intro F3 F5))
  clear h hw hx hg0 hD hcs l3 l5 F3 F5
  go_enter Try.func12, Try.ntmps12
  go_wp2_with (first
    | ((with_reducible refine gate_dst (N := 2) rfl ?_); refine box_event ?hg (N := 2) ?hd (cs := zs5) (t := 34) ?hr ?_; (case hd => rfl); (case hg => rfl); (case hr => first | (go_simp; done) | (go_simp; rfl)); intro g2 hg w2 hbox hb; have HB2 := aM hb; have HX2 := aM hbox; have GE2 := aM (Nat.le_of_eq hg.symm); have HH2 := aM (HH.out.below hb); clear hb hbox hg)
    | ((with_reducible refine gate_callee (f := 31) rfl ?_); refine goesL_ (some 6) rfl rfl Try.func31 (by kernel_rfl) rfl #[.pointer (some ⟨g, 0, none⟩)] rfl (by (try simp only [List.map_toArray, List.map_cons, List.map_nil]); first | done | rfl) ?_; (with_reducible refine (good_ok HH2.out).mono ?_); rintro e w3 ⟨rfl, hw⟩; subst w3; refine ⟨_, rfl, ?_⟩)
    )
  refine start_ (n := 11) (S := fun w' => w'.cell? ⟨g, 0, none⟩ = some (.map (some bm)) ∧ w'.cell? ⟨g, 2, none⟩ = some (.int .i64 x.f0) ∧ (Instr.lookup 65 (.map (some bm)) (.int .i64 x.f0) false).run Try.prog w' = .ok (.agg #[.int .i64 x.f1, .int .i64 x.f2.f0, .string x.f2.f1.f0, .slice A3 x.f2.f1.f1.length c3, .string x.f2.f2.f0, .slice A5 x.f2.f2.f1.length c5]) w') (ds := [10]) #[tF,tF,tF,tF,tF,tF,tF,tF,tF,tF,tF] (by kernel_rfl) rfl rfl ⟨(bC (bB HG.out (below_drew1 HB2.out)) 0).trans rfl, (bC (bB HG.out (below_drew1 HB2.out)) 2).trans rfl, HLK.out _ (below_drew1 HB2.out)⟩ (fun hHeld => ?_)
  have HX3 := aM (blk_drew HX2.out)
  have HB3 := aM (below_drew1 HB2.out)
  clear HX2 HB2 HH2
  generalize w2.drew = w3 at HX3 HB3 hHeld ⊢
  refine sv 0 9 #[tT,tF,tF,tF,tF,tF,tF,tF,tF,tF,tF] ?_
  refine sv 1 10 #[tT,tT,tF,tF,tF,tF,tF,tF,tF,tF,tF] ?_
  refine sv 2 11 #[tT,tT,tT,tF,tF,tF,tF,tF,tF,tF,tF] ?_
  refine sv 4 13 #[tT,tT,tT,tF,tT,tF,tF,tF,tF,tF,tF] ?_
  refine sv 5 14 #[tT,tT,tT,tF,tT,tT,tF,tF,tF,tF,tF] ?_
  refine sv 6 15 #[tT,tT,tT,tF,tT,tT,tT,tF,tF,tF,tF] ?_
  refine st 3 12 #[tT,tT,tT,tT,tT,tT,tT,tF,tF,tF,tF] hHeld ?_
  refine st 7 16 #[tT,tT,tT,tT,tT,tT,tT,tT,tF,tF,tF] hHeld ?_
  refine st 8 17 #[tT,tT,tT,tT,tT,tT,tT,tT,tT,tF,tF] hHeld ?_
  refine one_ (i := 9) (N := some 4) #[tT,tT,tT,tT,tT,tT,tT,tT,tT,tT,tF] rfl rfl (by kernel_rfl) (by decide) (fun K hK => ?_)
  refine value_ (v := .pointer (some ⟨w3.heap.size, 0, none⟩)) (w1 := w3.alloc (.cells zs6 74)) (by rfl) rfl ?_ ?_
  · first | (go_simp; done) | (go_simp; rfl)
  have HB4 := aM (below_alloc HB3.out (.cells zs6 74))
  have HX4 := aM (blk_alloc HX3.out (.cells zs6 74))
  have HY4 := aM (blk_new w3 (.cells zs6 74))
  have NE2 := aM (show w3.heap.size ≠ g2 from fun e => by have := blk_lt HX3.out; omega)
  have GE4 := aM HB3.out.size
  refine hK.out _ _ ⟨(bC (bB HG.out HB4.out) 0).trans rfl, (bC (bB HG.out HB4.out) 2).trans rfl, HLK.out _ HB4.out⟩ (fun hHeld => ?_)
  clear hK K HX3 HB3
  generalize w3.alloc _ = w4 at HB4 HX4 HY4 hHeld ⊢
  generalize w3.heap.size = g4 at NE2 GE4 HY4 ⊢
  refine norm_ (a' := ?_) ?_ ?_
  rotate_left
  · simp only [Act.put, List.setIfInBounds_toArray, List.set_cons_zero, List.set_cons_succ, i64_w, i32_w]
    rfl
  refine last_ (i := 10) (N := none) #[tT,tT,tT,tT,tT,tT,tT,tT,tT,tT,tT] rfl rfl (by kernel_rfl) (by decide) (fun K hK => ?_)
  have hy0 := (bC HY4.out 0).trans (rfl : _ = some (Value.int .i64 0))
  have hy1 := (bC HY4.out 1).trans (rfl : _ = some (Value.int .i64 0))
  have hy2 := (bC HY4.out 2).trans (rfl : _ = some (Value.string ⟨#[]⟩))
  have hy3 := (bC HY4.out 3).trans (rfl : _ = some (Value.slice none 0 0))
  have hy4 := (bC HY4.out 4).trans (rfl : _ = some (Value.string ⟨#[]⟩))
  have hy5 := (bC HY4.out 5).trans (rfl : _ = some (Value.slice none 0 0))
  have hf0 := bF HY4.out 0
  have hf1 := bF HY4.out 1
  have hf2 := bF HY4.out 2
  have hf3 := bF HY4.out 3
  have hf4 := bF HY4.out 4
  have hf5 := bF HY4.out 5
  refine skip_ (w1 := ?_) (by rfl) rfl ?_ ?_
  rotate_left
  · go_simp
    rfl
  refine hK.out _ _ (done_ (by kernel_rfl) ?_)
  clear hK K hHeld hy0 hy1 hy2 hy3 hy4 hy5 hf0 hf1 hf2 hf3 hf4 hf5
  generalize hw5 : World.setCell _ ⟨g4, 5, none⟩ _ = w5
  have HB5 := aM (show Below w.heap.size w w5 from by subst hw5; exact below_set (below_set (below_set (below_set (below_set (below_set HB4.out GE4.out) GE4.out) GE4.out) GE4.out) GE4.out) GE4.out)
  have HY5 := aM (show w5.heap[g4]? = some (.cells #[.int .i64 x.f1, .int .i64 x.f2.f0, .string x.f2.f1.f0, .slice A3 x.f2.f1.f1.length c3, .string x.f2.f2.f0, .slice A5 x.f2.f2.f1.length c5] 74 (0, 0)) from by subst hw5; exact (blk_set (blk_set (blk_set (blk_set (blk_set (blk_set HY4.out 0 _) 1 _) 2 _) 3 _) 4 _) 5 _).trans rfl)
  have HX5 := aM (show w5.heap[g2]? = some (.cells zs5 34 (0, 0)) from by subst hw5; exact bR (bR (bR (bR (bR (bR HX4.out (fun e => NE2.out e.symm) _) (fun e => NE2.out e.symm) _) (fun e => NE2.out e.symm) _) (fun e => NE2.out e.symm) _) (fun e => NE2.out e.symm) _) (fun e => NE2.out e.symm) _)
  clear hw5 HB4 HY4 HX4
  have HG5 := aM (bB HG.out HB5.out)
  have hz0 := (bC HX5.out 0).trans (rfl : _ = some (Value.int .i64 0))
  have hz1 := (bC HX5.out 1).trans (rfl : _ = some (Value.string ⟨#[]⟩))
  have hz2 := (bC HX5.out 2).trans (rfl : _ = some (Value.slice none 0 0))
  have hz3 := (bC HX5.out 3).trans (rfl : _ = some (Value.string ⟨#[]⟩))
  have hz4 := (bC HX5.out 4).trans (rfl : _ = some (Value.slice none 0 0))
  have hfz0 := bF HX5.out 0
  have hfz1 := bF HX5.out 1
  have hfz2 := bF HX5.out 2
  have hfz3 := bF HX5.out 3
  have hfz4 := bF HX5.out 4
  have hy0 := (bC HY5.out 0).trans (rfl : _ = some (Value.int .i64 x.f1))
  by_cases hup : x.f1 < 0
  · have d1 : decide (x.f1 < 0) = true := decide_eq_true hup
    go_wp2
    refine bodyPost_ret (results_ct rfl _ _ g2 34 zs5 (0, 0) _ rfl ((blk_set (blk_set (blk_set (blk_set (blk_set HX5.out 0 _) 1 _) 2 _) 3 _) 4 _).trans rfl) Try.underlying34 rfl (by kernel_rfl)) rfl ?_
    have HB6 : ∀ W, Below w.heap.size w W → HistAt B S g bm W L x.f0 next depth ∧ Turn B (hb g bm) w W := fun W hb => ⟨HH.out.below hb, Turn.of_below hb HH.out.lt.1⟩
    refine ⟨zEd, rfl, ed_zero _ _, ?_⟩
    obtain ⟨q1, q2⟩ := HB6 _ (below_set (below_set (below_set (below_set (below_set HB5.out GE2.out) GE2.out) GE2.out) GE2.out) GE2.out)
    exact ⟨q1, q2, fun h0 => absurd hup (by omega)⟩
  · have d1 : decide (x.f1 < 0) = false := decide_eq_false hup
    have hcg := (bC HG5.out 2).trans (rfl : _ = some (Value.int .i64 x.f0))
    have hfg := bF HG5.out 2
    have hy1 := (bC HY5.out 1).trans (rfl : _ = some (Value.int .i64 x.f2.f0))
    have hy2 := (bC HY5.out 2).trans (rfl : _ = some (Value.string x.f2.f1.f0))
    have hy3 := (bC HY5.out 3).trans (rfl : _ = some (Value.slice A3 x.f2.f1.f1.length c3))
    have hy4 := (bC HY5.out 4).trans (rfl : _ = some (Value.string x.f2.f2.f0))
    have hy5 := (bC HY5.out 5).trans (rfl : _ = some (Value.slice A5 x.f2.f2.f1.length c5))
    have NG2 := aM (show g ≠ g2 from fun e => by have := HH.out.lt.2.1; have := GE2.out; omega)
    have NG4 := aM (show g ≠ g4 from fun e => by have := HH.out.lt.2.1; have := GE4.out; omega)
    have hn4 := NG4.out
    have hn4' : g4 ≠ g := fun e => hn4 e.symm
    have hn2' : g2 ≠ g := fun e => NG2.out e.symm
    go_wp2_with (first
      | ((with_reducible refine gate_callee (f := 32) rfl ?_); refine goesL_ (some 29) rfl rfl Try.func32 (by kernel_rfl) rfl #[.agg #[.int .i64 x.f2.f0, .string x.f2.f1.f0, .slice A3 x.f2.f1.f1.length c3, .string x.f2.f2.f0, .slice A5 x.f2.f2.f1.length c5]] rfl (by (try simp only [List.map_toArray, List.map_cons, List.map_nil]); first | done | rfl) ?_; have HT6 := aM ((Turn.of_below (S := fun k => k = g) HB5.out HH.out.lt.1).set (p := ⟨g, 2, none⟩) (.inl rfl) HH.out.bg (.int .i64 x.f1)); have HG6 := aM (bU (cs' := #[.map (some bm), .int .i64 f0, .int .i64 x.f1, .int .i64 next, .int .i64 depth]) HG5.out 2 (.int .i64 x.f1) rfl); have hok : ∀ k, ¬ S k → ¬ k = g := fun k hk e => hk (e ▸ HH.out.sg); have HX6 := aM (bR (p := ⟨g, 2, none⟩) HX5.out hn2' (.int .i64 x.f1)); (with_reducible refine (edit_Invert.calls x.f2.f0 x.f2.f1.f0 A3 c3 x.f2.f1.f1 x.f2.f2.f0 A5 c5 x.f2.f2.f1 _ _ _ _ _ _ (Kd.F_now (HT6.out.f HF.out.2.1 hok)) HF.out.1.1 (Kd.F_now (HT6.out.f HF.out.2.2 hok)) HF.out.1.2 (invert_f x.f2 hfit.out.1 hfit.out.2)).mono ?_); rintro e w7 ⟨v2, v4, rfl, h2, h4, hbb⟩; obtain ⟨A7, c7, rfl⟩ := Kd.R_slice h2; obtain ⟨A8, c8, rfl⟩ := Kd.R_slice h4; refine ⟨_, rfl, ?_⟩; have HE7 := aM (Kd.FK_mono (ok' := fun k => w.heap.size ≤ k ∧ k ≠ g2) (ed_of (x := invE x.f2) h2 h4) (fun k hk => ⟨Nat.le_trans HT6.out.size hk, fun e => by have := blk_lt HX6.out; omega⟩)); have HT7 := aM (HT6.out.below hbb (Nat.le_trans HH.out.lt.1 HT6.out.size)); have HG7 := aM (bB HG6.out hbb); have HX7 := aM (bB HX6.out hbb); have HO7 := aM (And.intro (Nat.le_trans HT6.out.size (Nat.le_refl _)) (fun hne : (invE x.f2).f1.f1 ≠ [] => OwnA.of h2 hne)); have HL7 := aM (blk_lt HX6.out); clear h2 h4 hbb hok HX6 HG6 HT6; clear hz0 hz1 hz2 hz3 hz4 hfz0 hfz1 hfz2 hfz3 hfz4; have hz0 := (bC HX7.out 0).trans (rfl : _ = some (Value.int .i64 0)); have hz1 := (bC HX7.out 1).trans (rfl : _ = some (Value.string ⟨#[]⟩)); have hz2 := (bC HX7.out 2).trans (rfl : _ = some (Value.slice none 0 0)); have hz3 := (bC HX7.out 3).trans (rfl : _ = some (Value.string ⟨#[]⟩)); have hz4 := (bC HX7.out 4).trans (rfl : _ = some (Value.slice none 0 0)); have hfz0 := bF HX7.out 0; have hfz1 := bF HX7.out 1; have hfz2 := bF HX7.out 2; have hfz3 := bF HX7.out 3; have hfz4 := bF HX7.out 4)
      )
    refine bodyPost_ret (results_ct rfl _ _ g2 34 _ (0, 0) _ rfl ((blk_set (blk_set (blk_set (blk_set (blk_set HX7.out 0 _) 1 _) 2 _) 3 _) 4 _).trans rfl) Try.underlying34 rfl (by kernel_rfl)) rfl ?_
    have ht : ∀ (i : Nat) (u : Value) (W : World), Turn B (fun k => k = g) w W → Turn B (fun k => k = g) w (W.setCell ⟨g2, i, none⟩ u) := fun i u W h => h.set (p := ⟨g2, i, none⟩) (.inr GE2.out) (Nat.le_trans HH.out.lt.1 GE2.out) u
    have hf : ∀ (i : Nat) (u : Value) (W : World) (cs : List Value), Kd.FK k34 W (fun k => w.heap.size ≤ k ∧ k ≠ g2) (invE x.f2) cs → Kd.FK k34 (W.setCell ⟨g2, i, none⟩ u) (fun k => w.heap.size ≤ k ∧ k ≠ g2) (invE x.f2) cs := fun i u W cs h => Kd.FK_step h (fun k hk _ => Below.heap_setCell W ⟨g2, i, none⟩ u k hk.2)
    refine ⟨_, rfl, ⟨_, rfl, Kd.FK_mono (hf _ _ _ _ (hf _ _ _ _ (hf _ _ _ _ (hf _ _ _ _ (hf _ _ _ _ HE7.out))))) (fun k hk => hk.1)⟩, ?_, (ht _ _ _ (ht _ _ _ (ht _ _ _ (ht _ _ _ (ht _ _ _ HT7.out))))).mono (fun k hk => .inl hk), ⟨A7, ⟨c7, A8, c8, rfl⟩, fun hne => ?_⟩⟩
    rotate_left
    · obtain ⟨b, cs, e1, e2, e3⟩ := HO7.out.2 hne
      have n2 : b ≠ g2 := fun e => by have := HL7.out; omega
      exact ⟨b, cs, e1, Nat.le_trans HO7.out.1 e2, bR (bR (bR (bR (bR e3 n2 _) n2 _) n2 _) n2 _) n2 _⟩
    exact HH.out.of_g (ht _ _ _ (ht _ _ _ (ht _ _ _ (ht _ _ _ (ht _ _ _ HT7.out))))) ⟨f0, bR (bR (bR (bR (bR HG7.out NG2.out _) NG2.out _) NG2.out _) NG2.out _) NG2.out _⟩
end Go.Proofs.Ytbbgpfjeobdogaa.PB
end

section
namespace Go.Proofs.Ytbbgpfjeobdogaa.PB
open Go.RowKit Go.Maps Go.Proofs.YtbbgpfjeobdogaaW.PrintWords Go.Proofs.YtbbgpfjeobdogaaW.PrintLast Go.Proofs.YtbbgpfjeobdogaaW.PrintMore
set_option maxRecDepth 100000
set_option linter.unusedVariables false
set_option linter.unusedSimpArgs false
section
variable {P : Program} {ops : Array Oper} {rest : List Oper} {o : Oper} {a : Act} {Q : Exit → Act → World → Prop}
theorem row_event {W : World} (hgd : o.guard = none) {N : Tmp} (_hd : o.dst = some N) {n : Nat} {cs : Array Value} {t : TypeId}
    (hrun : (execOp a.eval o).run P W = .ok (.value (.slice (some ⟨W.heap.size, 0, none⟩) n n)) (W.alloc (.cells cs t (0, 0))))
    (h : ∀ g, g = W.heap.size → ∀ w1, w1.heap[g]? = some (.cells cs t (0, 0)) → Below W.heap.size W w1 → wpList P ops Q rest (a.put o.dst (.slice (some ⟨g, 0, none⟩) n n)) w1) : wpList P ops Q (o :: rest) a W :=
  Kd.event_run hgd hrun (h _ rfl _ (blk_new W _) (below_alloc (Below.refl _ _) _))
end
theorem run_row {w : World} {b : Nat} {l n : Int} (h : w.heap[b]? = some (.cells #[.int .u64 l, .int .i64 n] 71 (0, 0))) : Kd.F k71 w (fun k => k = b) (some ⟨b, 0, none⟩) 1 [⟨l, n⟩] := by
  intro W hW
  have h' : W.heap[b]? = some (.cells #[.int .u64 l, .int .i64 n] 71 (0, 0)) := (hW b rfl (blk_lt h)).trans h
  refine ⟨rfl, by decide, fun _ => ⟨⟨b, 0, none⟩, rfl, fun j p hj => ?_⟩⟩
  cases j with
  | succ j => simp at hj
  | zero =>
    simp only [List.getElem?_cons_zero, Option.some.injEq] at hj
    subst hj
    refine ⟨[.int .u64 l, .int .i64 n], rfl, k71_mk W _, fun i u hu => ?_⟩
    match i, hu with
    | 0, hu => simp only [List.getElem?_cons_zero, Option.some.injEq] at hu; subst hu; exact (bC h' 0).trans rfl
    | 1, hu => simp only [List.getElem?_cons_succ, List.getElem?_cons_zero, Option.some.injEq] at hu; subst hu; exact (bC h' 1).trans rfl
    | i + 2, hu => simp at hu
abbrev tN : Tt := ⟨⟨#[97]⟩, [⟨1, 1⟩]⟩
abbrev eA1 : Ed := ⟨0, ⟨⟨#[]⟩, []⟩, tN⟩
theorem tN_good : goodT tN.f0 tN.f1 = true := by decide
theorem eA1_good : goodEd eA1 = true := goodE_iff.2 ⟨show goodT ⟨#[]⟩ [] = true from by decide, tN_good, by decide, by decide⟩
abbrev LN : List St := [⟨0, -1, z34⟩, ⟨1, 0, eA1⟩]
theorem LN_add : addL eA1 [st0] 0 1 3 = LN := by kernel_rfl
theorem LN_inv : Inv LN 1 2 3 := by
  have := add_inv (inv0 (depth := 3) (by decide) (by decide)) (by decide) (e := eA1) (by decide)
  rw [LN_add] at this
  exact this
theorem LN_wf0 : Wf LN 0 2 := wf_now LN_inv.wf ⟨⟨0, -1, z34⟩, by simp, rfl⟩
theorem LN_redo : redoL LN 0 = some ⟨1, 0, eA1⟩ := by kernel_rfl
theorem LN_states : statesL LN = [0, 1] := rfl
theorem turn1 (b i : Nat) (w : World) (v : Value) : Turn 0 (fun k => k = b) w (w.setCell ⟨b, i, none⟩ v) := (Turn.refl 0 (fun k => k = b) w).set (p := ⟨b, i, none⟩) (.inl rfl) (Nat.zero_le _) v
theorem add_good1 {B : Nat} {S : Nat → Prop} {g bm : Nat} {w : World} {L : List St} {now next depth : Int} (h : HistAt B S g bm w L now next depth) {e : Ed} {A1 A2 : Option Addr} {c1 c2 : Nat} (he : EdIn w (fun k => k ≠ g) e A1 c1 A2 c2) (hi : Inv L now next depth) (hn : next + 1 ≤ 1000) (hS : ∀ k, S k → k < w.heap.size) (hg : goodEd e = true) :
    Calls Try.prog 17 #[.pointer (some ⟨g, 0, none⟩), edV e A1 c1 A2 c2] w fun r w' => r = .returned (.tuple #[.int .i64 next, .int .i64 0]) ∧ HistAt B S g bm w' (addL e L now next depth) next (next + 1) depth ∧ Turn B (hb g bm) w w' := by
  obtain ⟨h1, h2, h3, h4⟩ := goodE_iff.1 hg
  exact add_go1 h he hi hn hS ⟨(apply_self _ _ _ _).1.2 ⟨h1, h2⟩, h3, h4⟩
theorem addN {B : Nat} {S : Nat → Prop} {g bm g12 : Nat} {w : World} (h : HistAt B S g bm w [st0] 0 1 3) (hS : ∀ k, S k → k < w.heap.size) (hr : w.heap[g12]? = some (.cells #[.int .u64 1, .int .i64 1] 71 (0, 0))) (hne : g12 ≠ g) :
    Calls Try.prog 17 #[.pointer (some ⟨g, 0, none⟩), .agg #[.int .i64 0, .string ⟨#[]⟩, .slice none 0 0, .string ⟨#[97]⟩, .slice (some ⟨g12, 0, none⟩) 1 1]] w fun r w' => r = .returned (.tuple #[.int .i64 1, .int .i64 0]) ∧ HistAt B S g bm w' LN 1 2 3 ∧ Turn B (hb g bm) w w' := by
  have he : EdIn w (fun k => k ≠ g) eA1 none 0 (some ⟨g12, 0, none⟩) 1 := ⟨fun W _ => Kd.C_nil _ W, Nat.le_refl _, Kd.F_mono (run_row hr) (fun k hk => by rw [show k = g12 from hk]; exact hne), Nat.le_refl _, by decide⟩
  have h1 := add_good1 h he (inv0 (by decide) (by decide)) (by decide) hS eA1_good
  rw [LN_add] at h1
  exact h1
theorem undoN {B : Nat} {S : Nat → Prop} {g bm : Nat} {w : World} (h : HistAt B S g bm w LN 1 2 3) :
    Calls Try.prog 12 #[.pointer (some ⟨g, 0, none⟩)] w fun r w' => ∃ b c2 A4 c4, r = .returned (.tuple #[.agg #[.int .i64 0, .string tN.f0, .slice (some ⟨b, 0, none⟩) 1 c2, .string ⟨#[]⟩, .slice A4 0 c4], .int .i64 0]) ∧ w.heap.size ≤ b ∧ (∃ cs, w'.heap[b]? = some (.cells cs 71 (0, 0))) ∧ TxIn w' (fun k => w.heap.size ≤ k) tN (some ⟨b, 0, none⟩) c2 ∧ HistAt B S g bm w' LN 0 2 3 ∧ Turn B (hb g bm) w w' := by
  refine (undo_own h LN_inv.wf (x := ⟨1, 0, eA1⟩) (by simp) rfl).mono ?_
  rintro r w' ⟨v, rfl, ⟨cs, hv, hf⟩, hh, ht, ho⟩
  rw [if_neg (show ¬ (0 : Int) < 0 by decide)] at hh hf
  obtain ⟨A2, c2, A4, c4, e1, hO⟩ := ho (by decide)
  obtain ⟨b, cs', rfl, hb1, hb2⟩ := hO (by decide)
  obtain ⟨A2', c2', A4', c4', rfl, hE⟩ := ed_in hf ⟨by decide, by decide⟩
  rw [e1] at hv
  simp only [Value.agg.injEq, List.toArray_inj, Array.mk.injEq, List.cons.injEq, Value.slice.injEq, and_true, true_and] at hv
  obtain ⟨⟨rfl, rfl⟩, rfl, rfl⟩ := hv
  subst e1
  exact ⟨b, c2, A4, c4, rfl, hb1, ⟨cs', hb2⟩, ⟨hE.f1, hE.g1⟩, hh, ht⟩
theorem redoN {B : Nat} {S : Nat → Prop} {g bm : Nat} {w : World} (h : HistAt B S g bm w LN 0 2 3) :
    Calls Try.prog 15 #[.pointer (some ⟨g, 0, none⟩)] w fun r w' => ∃ A5 c5 A6 c6, r = .returned (.tuple #[.agg #[.int .i64 0, .string ⟨#[]⟩, .slice A5 0 c5, .string tN.f0, .slice A6 1 c6], .int .i64 0]) ∧ TxIn w' (fun k => w.heap.size ≤ k) tN A6 c6 ∧ Turn B (hb g bm) w w' := by
  refine (redo_yes h LN_wf0 LN_redo).mono ?_
  rintro r w' ⟨A2, c2, A4, c4, rfl, hE, hh, ht⟩
  exact ⟨A2, c2, A4, c4, rfl, ⟨hE.f2, hE.g2⟩, ht⟩
theorem sameN {w : World} {ok : Nat → Prop} {A : Option Addr} {c b : Nat} (h : TxIn w ok tN A c) (hr : w.heap[b]? = some (.cells #[.int .u64 1, .int .i64 1] 71 (0, 0))) :
    Calls Try.prog 28 #[.agg #[.string ⟨#[97]⟩, .slice A 1 c], .agg #[.string ⟨#[97]⟩, .slice (some ⟨b, 0, none⟩) 1 1]] w fun r w' => r = .returned (.bool true) ∧ Below w.heap.size w w' := by
  have h2 : TxIn w (fun k => k = b) tN (some ⟨b, 0, none⟩) 1 := ⟨run_row hr, Nat.le_refl _⟩
  have h3 := same4_ok (t := tN) (A := A) (c := c) (A' := some ⟨b, 0, none⟩) (c' := 1) h h2 tN_good
  have e1 : txV tN A c = .agg #[.string ⟨#[97]⟩, .slice A 1 c] := rfl
  have e2 : txV tN (some ⟨b, 0, none⟩) 1 = .agg #[.string ⟨#[97]⟩, .slice (some ⟨b, 0, none⟩) 1 1] := rfl
  rw [e1, e2] at h3
  exact h3
theorem own_int0 {w : World} {B : Nat} {ok : Nat → Prop} {v : Value} (h : Kd.R (Kd.int .i64) 3 w B ok v [0, 1]) : ∃ b c, v = .slice (some ⟨b, 0, none⟩) 2 c ∧ B ≤ b ∧ b < w.heap.size ∧ w.cell? ⟨b, 0, none⟩ = some (.int .i64 0) ∧ w.frozen? ⟨b, 0, none⟩ = false := by
  obtain ⟨inner, _, h2⟩ := Kd.R_own h
  rcases h2 with ⟨_, h0⟩ | ⟨g, cap, cur, rfl, hb, hg, _⟩
  · exact absurd h0 (by decide)
  · have hc := Kd.R_celln (0 : Int) h 0 (by decide) (by decide)
    exact ⟨g, cap, rfl, hb, blk_lt hg, hc.1, hc.2⟩
theorem tN_cell {w : World} {ok : Nat → Prop} {b c : Nat} (h : TxIn w ok tN (some ⟨b, 0, none⟩) c) : w.cell? ⟨b, 1, none⟩ = some (.int .i64 1) := by
  obtain ⟨ad, e, _, h1⟩ := at_T71 (Kd.F_now h.f) 0 (by decide) (by decide)
  injection e with e
  subst e
  exact h1
structure Nq (g1 g22 g23 : Nat) (ac : Array Value) (w W : World) : Prop where
  b1 : W.heap[g1]? = some (.cells ac 36 (0, 0))
  b2 : W.heap[g22]? = some (.cells #[.map none, .int .i64 0, .int .i64 0, .int .i64 0, .int .i64 0] 67 (0, 0))
  b3 : W.heap[g23]? = some (.cells #[.pointer none, .pointer (some ⟨g22, 0, none⟩)] 24 (0, 0))
  below : Below w.heap.size w W
theorem Nq.later {g1 g22 g23 : Nat} {ac : Array Value} {w W W2 : World} (h : Nq g1 g22 g23 ac w W) (hb : Below W.heap.size W W2) : Nq g1 g22 g23 ac w W2 :=
  ⟨bB h.b1 hb, bB h.b2 hb, bB h.b3 hb, h.below.trans (hb.mono h.below.size)⟩
theorem Nq.nil {g1 g22 g23 : Nat} {ac : Array Value} {w W : World} (h : Nq g1 g22 g23 ac w W) : NoH W (.pointer none) := .inl rfl
theorem Nq.zero {g1 g22 g23 : Nat} {ac : Array Value} {w W : World} (h : Nq g1 g22 g23 ac w W) : NoH W (.pointer (some ⟨g22, 0, none⟩)) := .inr ⟨g22, rfl, h.b2⟩
theorem zE_in (w : World) : EdIn w (fun _ => False) z34 none 0 none 0 := eN_in w _ 0
def bureaulaw08_HistNobody.f (k : Nat) (a0_0 a0_1 : Int) (a0_2 : ByteArray) (l0_3 : List S71) (a0_4 : ByteArray) (l0_5 : List S71) (a0_6 : Bool) : Option Bool := some true
set_option maxHeartbeats 16000000 in
theorem bureaulaw08_HistNobody.calls (k : Nat) (a0_0 a0_1 : Int) (a0_2 : ByteArray) (A0_3 : Option Addr) (c0_3 : Nat) (l0_3 : List S71) (a0_4 : ByteArray) (A0_5 : Option Addr) (c0_5 : Nat) (l0_5 : List S71) (a0_6 : Bool) (r : Bool) (w : World) (hr0_3 : Kd.C k71 w A0_3 l0_3.length l0_3) (hc0_3 : l0_3.length ≤ c0_3) (hr0_5 : Kd.C k71 w A0_5 l0_5.length l0_5) (hc0_5 : l0_5.length ≤ c0_5) (h : bureaulaw08_HistNobody.f k a0_0 a0_1 a0_2 l0_3 a0_4 l0_5 a0_6 = some r) :
    Calls Try.prog 7 #[.agg #[.int .u8 a0_0, .int .i64 a0_1, .string a0_2, .slice A0_3 l0_3.length c0_3, .string a0_4, .slice A0_5 l0_5.length c0_5, .bool a0_6]] w fun e w' => e = .returned (.bool r) ∧ Below w.heap.size w w' := by
  obtain rfl : true = r := Option.some.inj h
  clear h hr0_3 hc0_3 hr0_5 hc0_5
  have hu36 := Try.underlying36
  have hu34 := Try.underlying34
  have hu32 := Try.underlying32
  have hu71 := Try.underlying71
  have hu67 := Try.underlying67
  obtain ⟨e, he0, he1, he2, he3, he4⟩ : ∃ e : Ed, e.f0 = a0_1 ∧ e.f1.f0 = a0_2 ∧ e.f1.f1 = l0_3 ∧ e.f2.f0 = a0_4 ∧ e.f2.f1 = l0_5 := ⟨⟨a0_1, ⟨a0_2, l0_3⟩, ⟨a0_4, l0_5⟩⟩, rfl, rfl, rfl, rfl, rfl⟩
  subst he0 he1 he2 he3 he4
  have NEW := aM (new_ok 3 (by decide) (by decide))
  go_enter Try.func7, Try.ntmps7
  go_wp2_with (first
    | ((with_reducible refine gate_dst (N := 1) rfl ?_); refine box_event ?hg (N := 1) ?hd (cs := #[.int .u8 a0_0, .int .i64 e.f0, .string e.f1.f0, .slice A0_3 e.f1.f1.length c0_3, .string e.f2.f0, .slice A0_5 e.f2.f1.length c0_5, .bool a0_6]) (t := 36) ?hr ?_; (case hd => rfl); (case hg => rfl); (case hr => first | (go_simp; done) | (go_simp; rfl)); intro g1 hg w0 hbox hb; have HB0 := aM hb; have HX0 := aM hbox; clear hb hbox hg)
    | ((with_reducible refine gate_callee (f := 8) rfl ?_); refine goesL_ (some 19) rfl rfl Try.func8 (by kernel_rfl) rfl #[] rfl (by (try simp only [List.map_toArray, List.map_cons, List.map_nil]); first | done | rfl) ?_; (with_reducible refine (bureaulaw08_alive.calls true _ rfl).mono ?_); rintro r1 w1 ⟨rfl, hb⟩; refine ⟨_, rfl, ?_⟩; have HB1 := aM (HB0.out.trans (hb.mono HB0.out.size)); have HX1 := aM (bB HX0.out hb); clear hb)
    | ((with_reducible refine gate_dst (N := 22) rfl ?_); refine box_event ?hg (N := 22) ?hd (cs := #[.map none, .int .i64 0, .int .i64 0, .int .i64 0, .int .i64 0]) (t := 67) ?hr ?_; (case hd => rfl); (case hg => rfl); (case hr => first | (go_simp; done) | (go_simp; rfl)); intro g22 hg w2 hbox hb; have HB2 := aM (HB1.out.trans (hb.mono HB1.out.size)); have HX2 := aM (bB HX1.out hb); have HY2 := aM hbox; clear hb hbox hg)
    | ((with_reducible refine gate_dst (N := 23) rfl ?_); refine row_event ?hg (N := 23) ?hd (n := 2) (cs := #[.pointer none, .pointer (some ⟨g22, 0, none⟩)]) (t := 24) ?hr ?_; (case hd => rfl); (case hg => rfl); (case hr => first | (go_simp; done) | (go_simp; rfl)); intro g23 hg w3 hbox hb; have HQ := aM (Nq.mk (bB HX2.out hb) (bB HY2.out hb) hbox (HB2.out.trans (hb.mono HB2.out.size)) : Nq g1 g22 g23 _ w w3); clear hb hbox hg)
    )
  go_loopg [25] 2 (fun kq v25 w' => ∃ i : Int, v25 = .int .i64 i ∧ Aside0 (0 ≤ i ∧ i + (kq : Int) = 2) ∧ Aside0 (Nq g1 g22 g23 #[.int .u8 a0_0, .int .i64 e.f0, .string e.f1.f0, .slice A0_3 e.f1.f1.length c0_3, .string e.f2.f0, .slice A0_5 e.f2.f1.length c0_5, .bool a0_6] w w'))
  case atStart => exact ⟨0, rfl, ⟨by decide⟩, HQ⟩
  case round =>
    clear HQ
    obtain ⟨i, rfl, HI, HQ⟩ := hrel
    have hp0 := (bC HQ.out.b3 0).trans (rfl : _ = some (Value.pointer none))
    have hp1 := (bC HQ.out.b3 1).trans (rfl : _ = some (Value.pointer (some ⟨g22, 0, none⟩)))
    cases gk with
    | succ k1 =>
      cases k1 with
      | succ k2 =>
        obtain rfl : k2 = 0 := by have := HI.out; omega
        obtain rfl : i = 0 := by have := HI.out; omega
        have hx0 := (bC HQ.out.b1 0).trans (rfl : _ = some (Value.int .u8 a0_0))
        have hx1 := (bC HQ.out.b1 1).trans (rfl : _ = some (Value.int .i64 e.f0))
        have hx2 := (bC HQ.out.b1 2).trans (rfl : _ = some (Value.string e.f1.f0))
        have hx3 := (bC HQ.out.b1 3).trans (rfl : _ = some (Value.slice A0_3 e.f1.f1.length c0_3))
        have hx4 := (bC HQ.out.b1 4).trans (rfl : _ = some (Value.string e.f2.f0))
        have hx5 := (bC HQ.out.b1 5).trans (rfl : _ = some (Value.slice A0_5 e.f2.f1.length c0_5))
        have hx6 := (bC HQ.out.b1 6).trans (rfl : _ = some (Value.bool a0_6))
        have HN := aM HQ.out.nil
        clear hp0 hp1
        have hp := (bC HQ.out.b3 0).trans (rfl : _ = some (Value.pointer none))
        go_wp2_with (first
          | ((with_reducible refine gate_callee (f := 17) rfl ?_); refine goesL_ (some 33) rfl rfl Try.func17 (by kernel_rfl) rfl #[.pointer none, edV e A0_3 c0_3 A0_5 c0_5] rfl (by (try simp only [List.map_toArray, List.map_cons, List.map_nil]); first | done | rfl) ?_; (with_reducible refine (add_no HN.out e A0_3 c0_3 A0_5 c0_5).mono ?_); rintro r4 w4 ⟨rfl, hb⟩; refine ⟨_, rfl, ?_⟩; have HQ4 := aM (HQ.out.later hb); have HN4 := aM (HN.out.below hb); clear hb hp hx0 hx1 hx2 hx3 hx4 hx5 hx6)
          | ((with_reducible refine gate_callee (f := 12) rfl ?_); refine goesL_ (some 38) rfl rfl Try.func12 (by kernel_rfl) rfl #[.pointer none] rfl (by (try simp only [List.map_toArray, List.map_cons, List.map_nil]); first | done | rfl) ?_; (with_reducible refine (undoN0 HN4.out).mono ?_); rintro r5 w5 ⟨rfl, hb⟩; refine ⟨_, rfl, ?_⟩; have HQ5 := aM (HQ4.out.later hb); have HN5 := aM (HN4.out.below hb); clear hb)
          | ((with_reducible refine gate_dst (N := 7) rfl ?_); refine box_event ?hg (N := 7) ?hd (cs := zs5) (t := 34) ?hr ?_; (case hd => rfl); (case hg => rfl); (case hr => first | (go_simp; done) | (go_simp; rfl)); intro g7 hg w6 hbox hb; have HD6 := aM hb; have G7 := aM (Nat.le_of_eq hg.symm); have HY6 := aM hbox; clear hb hbox hg; have hy0 := (bC HY6.out 0).trans (rfl : _ = some (Value.int .i64 0)); have hy1 := (bC HY6.out 1).trans (rfl : _ = some (Value.string ⟨#[]⟩)); have hy2 := (bC HY6.out 2).trans (rfl : _ = some (Value.slice none 0 0)); have hy3 := (bC HY6.out 3).trans (rfl : _ = some (Value.string ⟨#[]⟩)); have hy4 := (bC HY6.out 4).trans (rfl : _ = some (Value.slice none 0 0)); have hfy0 := bF HY6.out 0; have hfy1 := bF HY6.out 1; have hfy2 := bF HY6.out 2; have hfy3 := bF HY6.out 3; have hfy4 := bF HY6.out 4)
          | ((with_reducible refine gate_callee (f := 15) rfl ?_); refine goesL_ (some 43) rfl rfl Try.func15 (by kernel_rfl) rfl #[.pointer none] rfl (by (try simp only [List.map_toArray, List.map_cons, List.map_nil]); first | done | rfl) ?_; have HD7 := aM (set5 HD6.out G7.out (.int .i64 (z34).f0) (.string (z34).f1.f0) (.slice none (z34).f1.f1.length 0) (.string (z34).f2.f0) (.slice none (z34).f2.f1.length 0)); have HY7 := aM (blks5 HY6.out (.int .i64 (z34).f0) (.string (z34).f1.f0) (.slice none (z34).f1.f1.length 0) (.string (z34).f2.f0) (.slice none (z34).f2.f1.length 0)); (with_reducible refine (redoN0 (HN5.out.below HD7.out)).mono ?_); rintro r8 w8 ⟨rfl, hb⟩; refine ⟨_, rfl, ?_⟩; have HD8 := aM (HD7.out.trans (hb.mono HD7.out.size)); have HY8 := aM (bB HY7.out hb); clear hb; clear hy0 hfy0 hy1 hfy1 hy2 hfy2 hy3 hfy3 hy4 hfy4)
          | ((with_reducible refine gate_dst (N := 9) rfl ?_); refine box_event ?hg (N := 9) ?hd (cs := zs5) (t := 34) ?hr ?_; (case hd => rfl); (case hg => rfl); (case hr => first | (go_simp; done) | (go_simp; rfl)); intro g9 hg w9 hbox hb; have HD9 := aM hb; have G9 := aM (Nat.le_of_eq hg.symm); have HY9 := aM (bB HY8.out hb); have HU9 := aM hbox; have N79 := aM (show g7 ≠ g9 from fun e => by have := blk_lt HY8.out; omega); clear hb hbox hg; have hy0 := (bC HY9.out 0).trans (rfl : _ = some (Value.int .i64 (z34).f0)); have hy1 := (bC HY9.out 1).trans (rfl : _ = some (Value.string (z34).f1.f0)); have hy2 := (bC HY9.out 2).trans (rfl : _ = some (Value.slice none (z34).f1.f1.length 0)); have hy3 := (bC HY9.out 3).trans (rfl : _ = some (Value.string (z34).f2.f0)); have hy4 := (bC HY9.out 4).trans (rfl : _ = some (Value.slice none (z34).f2.f1.length 0)); have hu0 := (bC HU9.out 0).trans (rfl : _ = some (Value.int .i64 0)); have hu1 := (bC HU9.out 1).trans (rfl : _ = some (Value.string ⟨#[]⟩)); have hu2 := (bC HU9.out 2).trans (rfl : _ = some (Value.slice none 0 0)); have hu3 := (bC HU9.out 3).trans (rfl : _ = some (Value.string ⟨#[]⟩)); have hu4 := (bC HU9.out 4).trans (rfl : _ = some (Value.slice none 0 0)); have hfu0 := bF HU9.out 0; have hfu1 := bF HU9.out 1; have hfu2 := bF HU9.out 2; have hfu3 := bF HU9.out 3; have hfu4 := bF HU9.out 4; have hne := N79.out; have hne' : g9 ≠ g7 := fun e => N79.out e.symm)
          | ((with_reducible refine gate_callee (f := 14) rfl ?_); (try (refine gate_guard (by rfl) ?_; dsimp only)); refine goesL_ (some 63) rfl rfl Try.func14 (by kernel_rfl) rfl #[edV z34 none 0 none 0, edV z34 none 0 none 0] rfl (by (try simp only [List.map_toArray, List.map_cons, List.map_nil]); first | done | rfl) ?_; have HDA := aM (set5 HD9.out G9.out (.int .i64 (z34).f0) (.string (z34).f1.f0) (.slice none (z34).f1.f1.length 0) (.string (z34).f2.f0) (.slice none (z34).f2.f1.length 0)); have HUA := aM (blks5 HU9.out (.int .i64 (z34).f0) (.string (z34).f1.f0) (.slice none (z34).f1.f1.length 0) (.string (z34).f2.f0) (.slice none (z34).f2.f1.length 0)); (with_reducible refine (sameE_ok (zE_in _) (zE_in _)).mono ?_); rintro r10 w10 ⟨rfl, hb⟩; refine ⟨_, rfl, ?_⟩; have HDB := aM (HDA.out.trans (hb.mono HDA.out.size)); have HUB := aM (bB HUA.out hb); clear hb; clear hy0 hy1 hy2 hy3 hy4 hu0 hfu0 hu1 hfu1 hu2 hfu2 hu3 hfu3 hu4 hfu4 hne hne'; have hu0 := (bC HUB.out 0).trans (rfl : _ = some (Value.int .i64 (z34).f0)); have hu1 := (bC HUB.out 1).trans (rfl : _ = some (Value.string (z34).f1.f0)); have hu2 := (bC HUB.out 2).trans (rfl : _ = some (Value.slice none (z34).f1.f1.length 0)); have hu3 := (bC HUB.out 3).trans (rfl : _ = some (Value.string (z34).f2.f0)); have hu4 := (bC HUB.out 4).trans (rfl : _ = some (Value.slice none (z34).f2.f1.length 0)))
          | ((with_reducible refine gate_callee (f := 14) rfl ?_); (try (refine gate_guard (by rfl) ?_; dsimp only)); refine goesL_ (some 69) rfl rfl Try.func14 (by kernel_rfl) rfl #[edV z34 none 0 none 0, edV z34 none 0 none 0] rfl (by (try simp only [List.map_toArray, List.map_cons, List.map_nil]); first | done | rfl) ?_; (with_reducible refine (sameE_ok (zE_in _) (zE_in _)).mono ?_); rintro r11 w11 ⟨rfl, hb⟩; refine ⟨_, rfl, ?_⟩; have HDC := aM (HDB.out.trans (hb.mono HDB.out.size)); have HQC := aM ((HQ5.out.later HD8.out).later HDC.out); have HNC := aM ((HN5.out.below HD8.out).below HDC.out); clear hb; clear hu0 hu1 hu2 hu3 hu4)
          | ((with_reducible refine gate_callee (f := 19) rfl ?_); (try (refine gate_guard (by rfl) ?_; dsimp only)); refine goesL_ (some 74) rfl rfl Try.func19 (by kernel_rfl) rfl #[.pointer none] rfl (by (try simp only [List.map_toArray, List.map_cons, List.map_nil]); first | done | rfl) ?_; (with_reducible refine (now_no HNC.out).mono ?_); rintro r12 w12 ⟨rfl, hw⟩; subst hw; refine ⟨_, rfl, ?_⟩)
          | ((with_reducible refine gate_callee (f := 21) rfl ?_); (try (refine gate_guard (by rfl) ?_; dsimp only)); refine goesL_ (some 79) rfl rfl Try.func21 (by kernel_rfl) rfl #[.pointer none] rfl (by (try simp only [List.map_toArray, List.map_cons, List.map_nil]); first | done | rfl) ?_; (with_reducible refine (states_no HNC.out).mono ?_); rintro r12 w12 ⟨rfl, hw⟩; subst hw; refine ⟨_, rfl, ?_⟩)
          | ((with_reducible refine gate_callee (f := 23) rfl ?_); (try (refine gate_guard (by rfl) ?_; dsimp only)); refine goesL_ (some 85) rfl rfl Try.func23 (by kernel_rfl) rfl #[.pointer none] rfl (by (try simp only [List.map_toArray, List.map_cons, List.map_nil]); first | done | rfl) ?_; (with_reducible refine (path_no HNC.out).mono ?_); rintro r12 w12 ⟨rfl, hw⟩; subst hw; refine ⟨_, rfl, ?_⟩)
          | ((with_reducible refine gate_callee (f := 29) rfl ?_); (try (refine gate_guard (by rfl) ?_; dsimp only)); refine goesL_ (some 91) rfl rfl Try.func29 (by kernel_rfl) rfl #[.pointer none] rfl (by (try simp only [List.map_toArray, List.map_cons, List.map_nil]); first | done | rfl) ?_; (with_reducible refine (copy_no HNC.out).mono ?_); rintro r12 w12 ⟨rfl, hw⟩; subst hw; refine ⟨_, rfl, ?_⟩)
          )
        go_roundg 1
        case measure => omega
        case rel => exact ⟨1, rfl, ⟨by decide⟩, HQC⟩
      | zero =>
        obtain rfl : i = 1 := by have := HI.out; omega
        have hx0 := (bC HQ.out.b1 0).trans (rfl : _ = some (Value.int .u8 a0_0))
        have hx1 := (bC HQ.out.b1 1).trans (rfl : _ = some (Value.int .i64 e.f0))
        have hx2 := (bC HQ.out.b1 2).trans (rfl : _ = some (Value.string e.f1.f0))
        have hx3 := (bC HQ.out.b1 3).trans (rfl : _ = some (Value.slice A0_3 e.f1.f1.length c0_3))
        have hx4 := (bC HQ.out.b1 4).trans (rfl : _ = some (Value.string e.f2.f0))
        have hx5 := (bC HQ.out.b1 5).trans (rfl : _ = some (Value.slice A0_5 e.f2.f1.length c0_5))
        have hx6 := (bC HQ.out.b1 6).trans (rfl : _ = some (Value.bool a0_6))
        have HN := aM HQ.out.zero
        clear hp0 hp1
        have hp := (bC HQ.out.b3 1).trans (rfl : _ = some (Value.pointer (some ⟨g22, 0, none⟩)))
        go_wp2_with (first
          | ((with_reducible refine gate_callee (f := 17) rfl ?_); refine goesL_ (some 33) rfl rfl Try.func17 (by kernel_rfl) rfl #[.pointer (some ⟨g22, 0, none⟩), edV e A0_3 c0_3 A0_5 c0_5] rfl (by (try simp only [List.map_toArray, List.map_cons, List.map_nil]); first | done | rfl) ?_; (with_reducible refine (add_no HN.out e A0_3 c0_3 A0_5 c0_5).mono ?_); rintro r4 w4 ⟨rfl, hb⟩; refine ⟨_, rfl, ?_⟩; have HQ4 := aM (HQ.out.later hb); have HN4 := aM (HN.out.below hb); clear hb hp hx0 hx1 hx2 hx3 hx4 hx5 hx6)
          | ((with_reducible refine gate_callee (f := 12) rfl ?_); refine goesL_ (some 38) rfl rfl Try.func12 (by kernel_rfl) rfl #[.pointer (some ⟨g22, 0, none⟩)] rfl (by (try simp only [List.map_toArray, List.map_cons, List.map_nil]); first | done | rfl) ?_; (with_reducible refine (undoN0 HN4.out).mono ?_); rintro r5 w5 ⟨rfl, hb⟩; refine ⟨_, rfl, ?_⟩; have HQ5 := aM (HQ4.out.later hb); have HN5 := aM (HN4.out.below hb); clear hb)
          | ((with_reducible refine gate_dst (N := 7) rfl ?_); refine box_event ?hg (N := 7) ?hd (cs := zs5) (t := 34) ?hr ?_; (case hd => rfl); (case hg => rfl); (case hr => first | (go_simp; done) | (go_simp; rfl)); intro g7 hg w6 hbox hb; have HD6 := aM hb; have G7 := aM (Nat.le_of_eq hg.symm); have HY6 := aM hbox; clear hb hbox hg; have hy0 := (bC HY6.out 0).trans (rfl : _ = some (Value.int .i64 0)); have hy1 := (bC HY6.out 1).trans (rfl : _ = some (Value.string ⟨#[]⟩)); have hy2 := (bC HY6.out 2).trans (rfl : _ = some (Value.slice none 0 0)); have hy3 := (bC HY6.out 3).trans (rfl : _ = some (Value.string ⟨#[]⟩)); have hy4 := (bC HY6.out 4).trans (rfl : _ = some (Value.slice none 0 0)); have hfy0 := bF HY6.out 0; have hfy1 := bF HY6.out 1; have hfy2 := bF HY6.out 2; have hfy3 := bF HY6.out 3; have hfy4 := bF HY6.out 4)
          | ((with_reducible refine gate_callee (f := 15) rfl ?_); refine goesL_ (some 43) rfl rfl Try.func15 (by kernel_rfl) rfl #[.pointer (some ⟨g22, 0, none⟩)] rfl (by (try simp only [List.map_toArray, List.map_cons, List.map_nil]); first | done | rfl) ?_; have HD7 := aM (set5 HD6.out G7.out (.int .i64 (z34).f0) (.string (z34).f1.f0) (.slice none (z34).f1.f1.length 0) (.string (z34).f2.f0) (.slice none (z34).f2.f1.length 0)); have HY7 := aM (blks5 HY6.out (.int .i64 (z34).f0) (.string (z34).f1.f0) (.slice none (z34).f1.f1.length 0) (.string (z34).f2.f0) (.slice none (z34).f2.f1.length 0)); (with_reducible refine (redoN0 (HN5.out.below HD7.out)).mono ?_); rintro r8 w8 ⟨rfl, hb⟩; refine ⟨_, rfl, ?_⟩; have HD8 := aM (HD7.out.trans (hb.mono HD7.out.size)); have HY8 := aM (bB HY7.out hb); clear hb; clear hy0 hfy0 hy1 hfy1 hy2 hfy2 hy3 hfy3 hy4 hfy4)
          | ((with_reducible refine gate_dst (N := 9) rfl ?_); refine box_event ?hg (N := 9) ?hd (cs := zs5) (t := 34) ?hr ?_; (case hd => rfl); (case hg => rfl); (case hr => first | (go_simp; done) | (go_simp; rfl)); intro g9 hg w9 hbox hb; have HD9 := aM hb; have G9 := aM (Nat.le_of_eq hg.symm); have HY9 := aM (bB HY8.out hb); have HU9 := aM hbox; have N79 := aM (show g7 ≠ g9 from fun e => by have := blk_lt HY8.out; omega); clear hb hbox hg; have hy0 := (bC HY9.out 0).trans (rfl : _ = some (Value.int .i64 (z34).f0)); have hy1 := (bC HY9.out 1).trans (rfl : _ = some (Value.string (z34).f1.f0)); have hy2 := (bC HY9.out 2).trans (rfl : _ = some (Value.slice none (z34).f1.f1.length 0)); have hy3 := (bC HY9.out 3).trans (rfl : _ = some (Value.string (z34).f2.f0)); have hy4 := (bC HY9.out 4).trans (rfl : _ = some (Value.slice none (z34).f2.f1.length 0)); have hu0 := (bC HU9.out 0).trans (rfl : _ = some (Value.int .i64 0)); have hu1 := (bC HU9.out 1).trans (rfl : _ = some (Value.string ⟨#[]⟩)); have hu2 := (bC HU9.out 2).trans (rfl : _ = some (Value.slice none 0 0)); have hu3 := (bC HU9.out 3).trans (rfl : _ = some (Value.string ⟨#[]⟩)); have hu4 := (bC HU9.out 4).trans (rfl : _ = some (Value.slice none 0 0)); have hfu0 := bF HU9.out 0; have hfu1 := bF HU9.out 1; have hfu2 := bF HU9.out 2; have hfu3 := bF HU9.out 3; have hfu4 := bF HU9.out 4; have hne := N79.out; have hne' : g9 ≠ g7 := fun e => N79.out e.symm)
          | ((with_reducible refine gate_callee (f := 14) rfl ?_); (try (refine gate_guard (by rfl) ?_; dsimp only)); refine goesL_ (some 63) rfl rfl Try.func14 (by kernel_rfl) rfl #[edV z34 none 0 none 0, edV z34 none 0 none 0] rfl (by (try simp only [List.map_toArray, List.map_cons, List.map_nil]); first | done | rfl) ?_; have HDA := aM (set5 HD9.out G9.out (.int .i64 (z34).f0) (.string (z34).f1.f0) (.slice none (z34).f1.f1.length 0) (.string (z34).f2.f0) (.slice none (z34).f2.f1.length 0)); have HUA := aM (blks5 HU9.out (.int .i64 (z34).f0) (.string (z34).f1.f0) (.slice none (z34).f1.f1.length 0) (.string (z34).f2.f0) (.slice none (z34).f2.f1.length 0)); (with_reducible refine (sameE_ok (zE_in _) (zE_in _)).mono ?_); rintro r10 w10 ⟨rfl, hb⟩; refine ⟨_, rfl, ?_⟩; have HDB := aM (HDA.out.trans (hb.mono HDA.out.size)); have HUB := aM (bB HUA.out hb); clear hb; clear hy0 hy1 hy2 hy3 hy4 hu0 hfu0 hu1 hfu1 hu2 hfu2 hu3 hfu3 hu4 hfu4 hne hne'; have hu0 := (bC HUB.out 0).trans (rfl : _ = some (Value.int .i64 (z34).f0)); have hu1 := (bC HUB.out 1).trans (rfl : _ = some (Value.string (z34).f1.f0)); have hu2 := (bC HUB.out 2).trans (rfl : _ = some (Value.slice none (z34).f1.f1.length 0)); have hu3 := (bC HUB.out 3).trans (rfl : _ = some (Value.string (z34).f2.f0)); have hu4 := (bC HUB.out 4).trans (rfl : _ = some (Value.slice none (z34).f2.f1.length 0)))
          | ((with_reducible refine gate_callee (f := 14) rfl ?_); (try (refine gate_guard (by rfl) ?_; dsimp only)); refine goesL_ (some 69) rfl rfl Try.func14 (by kernel_rfl) rfl #[edV z34 none 0 none 0, edV z34 none 0 none 0] rfl (by (try simp only [List.map_toArray, List.map_cons, List.map_nil]); first | done | rfl) ?_; (with_reducible refine (sameE_ok (zE_in _) (zE_in _)).mono ?_); rintro r11 w11 ⟨rfl, hb⟩; refine ⟨_, rfl, ?_⟩; have HDC := aM (HDB.out.trans (hb.mono HDB.out.size)); have HQC := aM ((HQ5.out.later HD8.out).later HDC.out); have HNC := aM ((HN5.out.below HD8.out).below HDC.out); clear hb; clear hu0 hu1 hu2 hu3 hu4)
          | ((with_reducible refine gate_callee (f := 19) rfl ?_); (try (refine gate_guard (by rfl) ?_; dsimp only)); refine goesL_ (some 74) rfl rfl Try.func19 (by kernel_rfl) rfl #[.pointer (some ⟨g22, 0, none⟩)] rfl (by (try simp only [List.map_toArray, List.map_cons, List.map_nil]); first | done | rfl) ?_; (with_reducible refine (now_no HNC.out).mono ?_); rintro r12 w12 ⟨rfl, hw⟩; subst hw; refine ⟨_, rfl, ?_⟩)
          | ((with_reducible refine gate_callee (f := 21) rfl ?_); (try (refine gate_guard (by rfl) ?_; dsimp only)); refine goesL_ (some 79) rfl rfl Try.func21 (by kernel_rfl) rfl #[.pointer (some ⟨g22, 0, none⟩)] rfl (by (try simp only [List.map_toArray, List.map_cons, List.map_nil]); first | done | rfl) ?_; (with_reducible refine (states_no HNC.out).mono ?_); rintro r12 w12 ⟨rfl, hw⟩; subst hw; refine ⟨_, rfl, ?_⟩)
          | ((with_reducible refine gate_callee (f := 23) rfl ?_); (try (refine gate_guard (by rfl) ?_; dsimp only)); refine goesL_ (some 85) rfl rfl Try.func23 (by kernel_rfl) rfl #[.pointer (some ⟨g22, 0, none⟩)] rfl (by (try simp only [List.map_toArray, List.map_cons, List.map_nil]); first | done | rfl) ?_; (with_reducible refine (path_no HNC.out).mono ?_); rintro r12 w12 ⟨rfl, hw⟩; subst hw; refine ⟨_, rfl, ?_⟩)
          | ((with_reducible refine gate_callee (f := 29) rfl ?_); (try (refine gate_guard (by rfl) ?_; dsimp only)); refine goesL_ (some 91) rfl rfl Try.func29 (by kernel_rfl) rfl #[.pointer (some ⟨g22, 0, none⟩)] rfl (by (try simp only [List.map_toArray, List.map_cons, List.map_nil]); first | done | rfl) ?_; (with_reducible refine (copy_no HNC.out).mono ?_); rintro r12 w12 ⟨rfl, hw⟩; subst hw; refine ⟨_, rfl, ?_⟩)
          )
        go_roundg 0
        case measure => omega
        case rel => exact ⟨2, rfl, ⟨by decide⟩, HQC⟩
    | zero =>
      obtain rfl : i = 2 := by have := HI.out; omega
      go_wp2_with (first
        | ((with_reducible refine gate_callee (f := 9) rfl ?_); refine goesL_ (some 95) rfl rfl Try.func9 (by kernel_rfl) rfl #[.int .i64 3] rfl (by (try simp only [List.map_toArray, List.map_cons, List.map_nil]); first | done | rfl) ?_; (with_reducible refine (NEW.out _).mono ?_); rintro r2 w10 ⟨g, bm, rfl, hh, hb⟩; refine ⟨_, rfl, ?_⟩; have HH10 := aM (show HistAt w.heap.size (fun k => k = g ∨ k = bm) g bm w10 [st0] 0 1 3 from hh.lower HQ.out.below.size); have HB10 := aM (HQ.out.below.trans (hb.mono HQ.out.below.size)); clear hh hb hp0 hp1)
        | ((with_reducible refine gate_dst (N := 99) rfl ?_); refine row_event ?hg (N := 99) ?hd (n := 1) (cs := #[.int .u64 1, .int .i64 1]) (t := 71) ?hr ?_; (case hd => rfl); (case hg => rfl); (case hr => first | (go_simp; done) | (go_simp; rfl)); intro g12 hg w11 hbox hb; have HH11 := aM ((HH10.out.grow (S' := fun k => (k = g ∨ k = bm) ∨ k = g12) (fun k hk => .inl hk) (fun k hk => hk.elim .inl (fun e => .inr (by omega)))).below hb); have HB11 := aM (HB10.out.trans (hb.mono HB10.out.size)); have HR11 := aM hbox; have N12 := aM (show g12 ≠ g ∧ g12 ≠ bm ∧ w.heap.size ≤ g12 from ⟨fun e => by have := HH10.out.lt.2.1; omega, fun e => by have := HH10.out.lt.2.2.1; omega, by have := HB10.out.size; omega⟩); clear hb hbox hg)
        | ((with_reducible refine gate_callee (f := 17) rfl ?_); refine goesL_ (some 105) rfl rfl Try.func17 (by kernel_rfl) rfl #[.pointer (some ⟨g, 0, none⟩), .agg #[.int .i64 0, .string ⟨#[]⟩, .slice none 0 0, .string ⟨#[97]⟩, .slice (some ⟨g12, 0, none⟩) 1 1]] rfl (by (try simp only [List.map_toArray, List.map_cons, List.map_nil]); first | done | rfl) ?_; (with_reducible refine (addN HH11.out (fun k hk => by rcases hk with (rfl | rfl) | rfl; exact HH11.out.lt.2.1; exact HH11.out.lt.2.2.1; exact blk_lt HR11.out) HR11.out N12.out.1).mono ?_); rintro r12 w12 ⟨rfl, hh, ht⟩; refine ⟨_, rfl, ?_⟩; have HH12 := aM hh; have HB12 := aM (HB11.out.trans ht.bel); have HR12 := aM (ht.blk HR11.out (fun e => by rcases e with e | e; exact N12.out.1 e; exact N12.out.2.1 e)); clear hh ht; have hr0 := (bC HR12.out 0).trans (rfl : _ = some (Value.int .u64 1)); have hr1 := (bC HR12.out 1).trans (rfl : _ = some (Value.int .i64 1)); have hfr0 := bF HR12.out 0; have hfr1 := bF HR12.out 1)
        | ((with_reducible refine gate_callee (f := 21) rfl ?_); refine goesL_ (some 114) rfl rfl Try.func21 (by kernel_rfl) rfl #[.pointer (some ⟨g, 0, none⟩)] rfl (by (try simp only [List.map_toArray, List.map_cons, List.map_nil]); first | done | rfl) ?_; have HT13 := aM (turn1 g12 1 w12 (.int .i64 9)); have HH13 := aM (HH12.out.turn HT13.out (fun e => N12.out.1 e.symm) (fun e => N12.out.2.1 e.symm) (fun k hk => .inr hk)); have HB13 := aM (show Below w.heap.size w (w12.setCell ⟨g12, 1, none⟩ (.int .i64 9)) from below_set HB12.out N12.out.2.2); obtain ⟨N0, hN0⟩ : ∃ n, n = (w12.setCell ⟨g12, 1, none⟩ (.int .i64 9)).heap.size := ⟨_, rfl⟩; have HN0 := aM hN0; clear hN0; have HLN := aM (show g < N0 ∧ bm < N0 ∧ g12 < N0 ∧ w.heap.size ≤ N0 from ⟨by have := HH13.out.lt.2.1; have := HN0.out; omega, by have := HH13.out.lt.2.2.1; have := HN0.out; omega, by have := blk_lt HR12.out; have := HT13.out.size; have := HN0.out; omega, by have := HB13.out.size; have := HN0.out; omega⟩); have HH14 := aM (HH13.out.grow (S' := (fun k => ((k = g ∨ k = bm) ∨ k = g12) ∨ N0 ≤ k)) (fun k hk => .inl hk) (fun k hk => hk.imp id (fun h => by rw [← HN0.out]; exact h))); (with_reducible refine (states_ok HH14.out LN_inv.wf).mono ?_); rintro r14 w14 ⟨v14, rfl, ho, hb⟩; rw [LN_states] at ho; obtain ⟨b14, c14, rfl, hb14, hl14, hc14, hf14⟩ := own_int0 ho; refine ⟨_, rfl, ?_⟩; have HH15 := aM (HH14.out.below hb); have HB15 := aM (HB13.out.trans (hb.mono HB13.out.size)); have HZ15 := aM (show N0 ≤ w14.heap.size from by rw [HN0.out]; exact hb.size); have HN14 := aM (show N0 ≤ b14 from by rw [HN0.out]; exact hb14); clear ho hb hb14 hl14 hr0 hr1 hfr0 hfr1)
        | ((with_reducible refine gate_callee (f := 12) rfl ?_); refine goesL_ (some 118) rfl rfl Try.func12 (by kernel_rfl) rfl #[.pointer (some ⟨g, 0, none⟩)] rfl (by (try simp only [List.map_toArray, List.map_cons, List.map_nil]); first | done | rfl) ?_; have HT16 := aM (turn1 b14 0 w14 (.int .i64 9)); have HH16 := aM (HH15.out.turn HT16.out (fun e => by have := HLN.out.1; have := HN14.out; omega) (fun e => by have := HLN.out.2.1; have := HN14.out; omega) (fun k hk => .inr (by have := HN14.out; rw [show k = b14 from hk]; exact this))); have HB16 := aM (show Below w.heap.size w (w14.setCell ⟨b14, 0, none⟩ (.int .i64 9)) from below_set HB15.out (Nat.le_trans HLN.out.2.2.2 HN14.out)); have HZ16 := aM (show N0 ≤ (w14.setCell ⟨b14, 0, none⟩ (.int .i64 9)).heap.size from by have h1 := HH16.out.lt; have h2 := HT16.out.size; have := HZ15.out; omega); (with_reducible refine (undoN HH16.out).mono ?_); rintro r17 w17 ⟨b, c2, A4, c4, rfl, hbb, ⟨cs, hcs⟩, htx, hh, ht⟩; refine ⟨_, rfl, ?_⟩; have HH17 := aM hh; have HB17 := aM (HB16.out.trans ht.bel); have HCS17 := aM hcs; have HTX17 := aM htx; have HNb := aM (Nat.le_trans HZ16.out hbb); clear hbb hcs htx hh ht hc14 hf14)
        | ((with_reducible refine gate_dst (N := 15) rfl ?_); refine box_event ?hg (N := 15) ?hd (cs := zs5) (t := 34) ?hr ?_; (case hd => rfl); (case hg => rfl); (case hr => first | (go_simp; done) | (go_simp; rfl)); intro g15 hg w18 hbox hb; have HD18 := aM hb; have G15 := aM (Nat.le_of_eq hg.symm); have HY18 := aM hbox; clear hb hbox hg; have hz0 := (bC HY18.out 0).trans (rfl : _ = some (Value.int .i64 0)); have hz1 := (bC HY18.out 1).trans (rfl : _ = some (Value.string ⟨#[]⟩)); have hz2 := (bC HY18.out 2).trans (rfl : _ = some (Value.slice none 0 0)); have hz3 := (bC HY18.out 3).trans (rfl : _ = some (Value.string ⟨#[]⟩)); have hz4 := (bC HY18.out 4).trans (rfl : _ = some (Value.slice none 0 0)); have hfz0 := bF HY18.out 0; have hfz1 := bF HY18.out 1; have hfz2 := bF HY18.out 2; have hfz3 := bF HY18.out 3; have hfz4 := bF HY18.out 4)
        | ((with_reducible refine gate_dst (N := 127) rfl ?_); (try (refine gate_guard (by rfl) ?_; dsimp only)); refine row_event ?hg (N := 127) ?hd (n := 1) (cs := #[.int .u64 1, .int .i64 1]) (t := 71) ?hr ?_; (case hd => rfl); (case hg => rfl); (case hr => first | (go_simp; done) | (go_simp; rfl)); intro g127 hg w20 hbox hb; have HS19 := aM (set5 HD18.out G15.out (.int .i64 0) (.string ⟨#[97]⟩) (.slice (some ⟨b, 0, none⟩) 1 c2) (.string ⟨#[]⟩) (.slice A4 0 c4)); have HD20 := aM (HS19.out.trans (hb.mono HS19.out.size)); have HY20 := aM (bB (blks5 HY18.out (.int .i64 0) (.string ⟨#[97]⟩) (.slice (some ⟨b, 0, none⟩) 1 c2) (.string ⟨#[]⟩) (.slice A4 0 c4)) hb); have HR20 := aM hbox; clear hb hbox hg; clear hz0 hfz0 hz1 hfz1 hz2 hfz2 hz3 hfz3 hz4 hfz4)
        | ((with_reducible refine gate_callee (f := 28) rfl ?_); (try (refine gate_guard (by rfl) ?_; dsimp only)); refine goesL_ (some 129) rfl rfl Try.func28 (by kernel_rfl) rfl #[.agg #[.string ⟨#[97]⟩, .slice (some ⟨b, 0, none⟩) 1 c2], .agg #[.string ⟨#[97]⟩, .slice (some ⟨g127, 0, none⟩) 1 1]] rfl (by (try simp only [List.map_toArray, List.map_cons, List.map_nil]); first | done | rfl) ?_; (with_reducible refine (sameN (HTX17.out.below HD20.out) HR20.out).mono ?_); rintro r21 w21 ⟨rfl, hb⟩; refine ⟨_, rfl, ?_⟩; have HD21 := aM (HD20.out.trans (hb.mono HD20.out.size)); have HY21 := aM (bB HY20.out hb); clear hb; have HCS21 := aM (bB HCS17.out HD21.out); have HTX21 := aM (HTX17.out.below HD21.out); have hz0 := (bC HY21.out 0).trans (rfl : _ = some (Value.int .i64 0)); have hz1 := (bC HY21.out 1).trans (rfl : _ = some (Value.string ⟨#[97]⟩)); have hz2 := (bC HY21.out 2).trans (rfl : _ = some (Value.slice (some ⟨b, 0, none⟩) 1 c2)); have hz3 := (bC HY21.out 3).trans (rfl : _ = some (Value.string ⟨#[]⟩)); have hz4 := (bC HY21.out 4).trans (rfl : _ = some (Value.slice A4 0 c4)); have hq1 := tN_cell HTX21.out; have hfq1 := bF HCS21.out 1)
        | ((with_reducible refine gate_callee (f := 15) rfl ?_); refine goesL_ (some 139) rfl rfl Try.func15 (by kernel_rfl) rfl #[.pointer (some ⟨g, 0, none⟩)] rfl (by (try simp only [List.map_toArray, List.map_cons, List.map_nil]); first | done | rfl) ?_; have HT22 := aM (turn1 b 1 w21 (.int .i64 7)); have HH22 := aM ((HH17.out.below HD21.out).turn HT22.out (fun e => by have := HLN.out.1; have := HNb.out; omega) (fun e => by have := HLN.out.2.1; have := HNb.out; omega) (fun k hk => .inr (by have := HNb.out; rw [show k = b from hk]; exact this))); have HB21 := aM (HB17.out.trans (HD21.out.mono HB17.out.size)); have HB22 := aM (show Below w.heap.size w (w21.setCell ⟨b, 1, none⟩ (.int .i64 7)) from below_set HB21.out (Nat.le_trans HLN.out.2.2.2 HNb.out)); (with_reducible refine (redoN HH22.out).mono ?_); rintro r23 w23 ⟨A5, c5, A6, c6, rfl, htx, ht⟩; refine ⟨_, rfl, ?_⟩; have HB23 := aM (HB22.out.trans ht.bel); have HTX23 := aM htx; clear htx ht hq1 hfq1; clear hz0 hz1 hz2 hz3 hz4)
        | ((with_reducible refine gate_dst (N := 17) rfl ?_); refine box_event ?hg (N := 17) ?hd (cs := zs5) (t := 34) ?hr ?_; (case hd => rfl); (case hg => rfl); (case hr => first | (go_simp; done) | (go_simp; rfl)); intro g17 hg w24 hbox hb; have HD24 := aM hb; have G17 := aM (Nat.le_of_eq hg.symm); have HY24 := aM hbox; clear hb hbox hg; have hz0 := (bC HY24.out 0).trans (rfl : _ = some (Value.int .i64 0)); have hz1 := (bC HY24.out 1).trans (rfl : _ = some (Value.string ⟨#[]⟩)); have hz2 := (bC HY24.out 2).trans (rfl : _ = some (Value.slice none 0 0)); have hz3 := (bC HY24.out 3).trans (rfl : _ = some (Value.string ⟨#[]⟩)); have hz4 := (bC HY24.out 4).trans (rfl : _ = some (Value.slice none 0 0)); have hfz0 := bF HY24.out 0; have hfz1 := bF HY24.out 1; have hfz2 := bF HY24.out 2; have hfz3 := bF HY24.out 3; have hfz4 := bF HY24.out 4)
        | ((with_reducible refine gate_dst (N := 148) rfl ?_); (try (refine gate_guard (by rfl) ?_; dsimp only)); refine row_event ?hg (N := 148) ?hd (n := 1) (cs := #[.int .u64 1, .int .i64 1]) (t := 71) ?hr ?_; (case hd => rfl); (case hg => rfl); (case hr => first | (go_simp; done) | (go_simp; rfl)); intro g148 hg w26 hbox hb; have HS25 := aM (set5 HD24.out G17.out (.int .i64 0) (.string ⟨#[]⟩) (.slice A5 0 c5) (.string ⟨#[97]⟩) (.slice A6 1 c6)); have HD26 := aM (HS25.out.trans (hb.mono HS25.out.size)); have HR26 := aM hbox; clear hb hbox hg)
        | ((with_reducible refine gate_callee (f := 28) rfl ?_); (try (refine gate_guard (by rfl) ?_; dsimp only)); refine goesL_ (some 150) rfl rfl Try.func28 (by kernel_rfl) rfl #[.agg #[.string ⟨#[97]⟩, .slice A6 1 c6], .agg #[.string ⟨#[97]⟩, .slice (some ⟨g148, 0, none⟩) 1 1]] rfl (by (try simp only [List.map_toArray, List.map_cons, List.map_nil]); first | done | rfl) ?_; (with_reducible refine (sameN (HTX23.out.below HD26.out) HR26.out).mono ?_); rintro r27 w27 ⟨rfl, hb⟩; refine ⟨_, rfl, ?_⟩; have HB27 := aM (HB23.out.trans ((HD26.out.trans (hb.mono HD26.out.size)).mono HB23.out.size)); clear hb)
        )
      go_ret
      exact ⟨rfl, HB27.out⟩
end Go.Proofs.Ytbbgpfjeobdogaa.PB
end

section
namespace Go.Proofs.Ytbbgpfjeobdogaa.PB
open Go.RowKit Go.Proofs.YtbbgpfjeobdogaaW.PrintWords
set_option linter.unusedVariables false
theorem HistNobody_pure (x0 : S36) (w0 : wf36 x0) : ∃ k, bureaulaw08_HistNobody.f k x0.f0 x0.f1.f0 x0.f1.f1.f0 x0.f1.f1.f1 x0.f1.f2.f0 x0.f1.f2.f1 x0.f2 = some true := ⟨0, rfl⟩
end Go.Proofs.Ytbbgpfjeobdogaa.PB
end

section
namespace Go.Proofs.Ytbbgpfjeobdogaa.PB
open Go.ChangeShapes Go.WideShapes Go.ChangeAt Go.RowKit Go.Proofs.YtbbgpfjeobdogaaW.PrintWords
open Go.ChangeMaps (open_string shut_string)
set_option linter.unusedVariables false
namespace histNobody
open Go.Proofs.Ytbbgpfjeobdogaa
theorem own : ownKnob Try.prog.godebug = none := by kernel_rfl
theorem laidOut : laidOutB Try.prog = true := by kernel_rfl
set_option maxRecDepth 100000 in
theorem lifted (os : Os) (started : os.Started) (H : Type) (enc : TypeId × Value → H) :
    ReturnsInHanded {} Try.checked os 7 .any (Rows.histNobodySpec.pre6 enc Try.prog Try.f7 Rows.histNobodyRow.domain false) (Rows.histNobodySpec.post enc Try.prog Try.f7 false true false false) := by
  refine returnsInHanded_of_change_sized (C := Try.checked) own started (by kernel_rfl) Try.func7
    (ChangeSpec.witness6 (enc := enc) (C := Try.checked) false ⟨#[], #[.agg #[.int .u8 0, .int .i64 0, .string ByteArray.empty, .slice none 0 0, .string ByteArray.empty, .slice none 0 0, .bool false]], []⟩ 8 (by kernel_rfl) (by kernel_rfl) (by kernel_rfl) (by kernel_rfl)) ?_
  intro W base args ds gs before hval0 hW hcnd hsz0 _
  have hsz : (DataW.weightsEach Try.prog (Try.f7.params.toList ++ Rows.histNobodySpec.plain.varTypes Try.prog) (ds ++ gs)).all (· ≤ reachBytes) = true := hsz0
  have hval : ∀ (j : Nat) t v, Try.f7.params[j]? = some t → args[j]? = some v → Value.okWide Try.prog W .any base t v := hval0
  have hW' := hW
  obtain ⟨p, q, hA0, hV, rfl, hfz, hnd⟩ := hW
  have hA : DataW.TrodAll enc Try.prog W 0 (fun _ => true) true Try.f7.params.toList args.toList ds p := hA0
  rw [Try.params7] at hA hval hsz
  obtain ⟨v0, vs0, d0, ds0, p0, q0, hargs, rfl, rfl, h0, r0⟩ := trodAll_cons hA
  obtain ⟨rfl, rfl, rfl⟩ := trodAll_nil r0
  obtain rfl : args = #[v0] := by cases args; simp_all
  obtain ⟨rfl, rfl⟩ := trodVars_none hV
  have hz0 : ∀ n ∈ d0.weights Try.prog 36, n ≤ reachBytes := fun n hn => by have z := List.all_eq_true.1 hsz n (DataW.weights_mem_each (j := 0) rfl rfl n hn); simpa using z
  have kk0 := h0
  have lt0 : ∀ x ∈ p0, x.block < W.heap.size := by obtain ⟨m, hm⟩ := kk0; exact DataW.trod_lt m _ _ _ hm
  obtain ⟨cs0, rfl, cz0⟩ := okWide_struct Try.underlying36 (hval 0 36 v0 rfl rfl)
  obtain ⟨x0, hK0, w0⟩ : ∃ x : S36, k36.K W x cs0.toList ∧ wf36 x := by
    obtain ⟨fuel, hf⟩ := h0
    exact opn36 H enc _ _ _ fuel _ _ hf hz0
  obtain ⟨A0_3, c0_3, A0_5, c0_5, hcs0, hc0_3, hr0_3, hc0_5, hr0_5⟩ := k36_open hK0
  obtain rfl : cs0 = #[.int .u8 x0.f0, .int .i64 x0.f1.f0, .string x0.f1.f1.f0, .slice A0_3 x0.f1.f1.f1.length c0_3, .string x0.f1.f2.f0, .slice A0_5 x0.f1.f2.f1.length c0_5, .bool x0.f2] := Array.toList_inj.1 hcs0
  clear hA0 hval0 hsz0 hsz
  obtain ⟨k, hk⟩ := HistNobody_pure x0 w0
  refine (bureaulaw08_HistNobody.calls k x0.f0 x0.f1.f0 x0.f1.f1.f0 _ _ x0.f1.f1.f1 x0.f1.f2.f0 _ _ x0.f1.f2.f1 x0.f2 true W hr0_3 hc0_3 hr0_5 hc0_5 hk).mono fun e W' ⟨he, bel⟩ => ?_
  subst he
  exact ⟨_, rfl, _, _, _, [], _, [], hW', trodAll_mk1 (shut_bool Try.underlying4 _), (trodAll_cons_mk (Below.trod laidOut (by kernel_rfl) (of_decide_eq_true (by kernel_rfl)) kk0 bel lt0) trodAll_mk0), rfl, bel.frame _, fun h => by cases h⟩
theorem over : Rows.histNobodyRow.holds Try.pinned (OpenSpec.ofChange Rows.histNobodySpec) :=
  OpenClaim.holds_of_wide 7 Try.f7 rfl rfl rfl rfl rfl rfl rfl ⟨rfl, rfl, rfl, rfl, rfl⟩ rfl rfl rfl rfl rfl (by kernel_rfl) Try.func7 (by kernel_rfl)
    (of_decide_eq_true (by kernel_rfl)) (by unfold Func.isWrapper; first | (rw [if_pos (by decide +kernel)]; kernel_rfl) | (rw [if_neg (by decide +kernel)]; exact ⟨rfl, rfl⟩))
    (fun os started H enc _ => lifted os started H enc)
theorem proved : Rows.HistNobodySaid := over
end histNobody
end Go.Proofs.Ytbbgpfjeobdogaa.PB
namespace Go.Proofs.Ytbbgpfjeobdogaa
theorem histNobody_holds : Rows.HistNobodySaid := PB.histNobody.proved
#print axioms histNobody_holds
end Go.Proofs.Ytbbgpfjeobdogaa
end
