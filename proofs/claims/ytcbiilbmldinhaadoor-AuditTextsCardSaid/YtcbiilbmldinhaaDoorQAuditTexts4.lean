/- The row of a law out of its contract and its pure theorem. No condition. -/
import Derived.Lib.JoinLaws
import Derived.Lib.SplitLaws
import Derived.OpenShut
import Derived.ChangeArms
import Derived.Deep.Slices
import Derived.SizedLaws
import Derived.Test.YtcbiilbmldinhaaDoorRows
import Derived.Stop.LaidErr
import Derived.Lib.LaidTab
import Derived.MakeChecks
import Derived.Test.YtcbiilbmldinhaaDoorRows
import Derived.Test.YtcbiilbmldinhaaDoorTie
import Derived.Test.YtcbiilbmldinhaaDoorCards
import Derived.LaidMore
import Derived.Lay
import Derived.Stop.Joined
import Derived.SevenTiedAt
import Derived.ProofKit
import Derived.OpenShut
import Derived.ShutString
import Derived.ChangeOld
import Derived.SizedLaws
import Derived.Carry
import Derived.Test.YtcbiilbmldinhaaDoorQAuditTexts3
section
namespace Go.Proofs.YtcbiilbmldinhaaDoor.PB
open Go.RowKit Go.Proofs.YtcbiilbmldinhaaDoorW.PrintWords Go.Proofs.YtcbiilbmldinhaaDoorW.PrintLast Go.Proofs.YtcbiilbmldinhaaDoorW.PrintMore
attribute [local go_sem] max2_int min2_int max_two min_two max_three min_three max_four min_four   
set_option linter.unusedVariables false
set_option linter.unusedSimpArgs false
attribute [local go_sem high] eqA36
def audit_Record_36.l0 : Nat → List (S36) → List (S36) → Int → Int → Option (Bool)
 | 0, _, _, _, _ => none
 | k + 1, x0, x1, x12, x13 => if x13 < x12 then (if 0 ≤ x13 then (if x13 < (x0.length : Int) then (if x13 < (x1.length : Int) then (if (!(((rd_T36 x0 x13).f0) == ((rd_T36 x1 x13).f0)) || (!(((rd_T36 x0 x13).f1) == ((rd_T36 x1 x13).f1)) || (!(((rd_T36 x0 x13).f2) == ((rd_T36 x1 x13).f2)) || (!(((rd_T36 x0 x13).f3) == ((rd_T36 x1 x13).f3)) || (!(((rd_T36 x0 x13).f4) == ((rd_T36 x1 x13).f4))))))) = true then (some false) else (audit_Record_36.l0 k x0 x1 x12 (wrap64 (x13 + 1)))) else (none)) else (none)) else (none)) else (some true)
def audit_Record_36.f (k : Nat) (l0 : List (S36)) (l1 : List (S36)) : Option (Bool) := if (l0.length : Int) = (l1.length : Int) then (audit_Record_36.l0 k l0 l1 (l0.length : Int) 0) else (some false)
set_option maxHeartbeats 8000000 in
set_option maxRecDepth 100000 in
theorem audit_Record_36.calls (k : Nat) (A0 : Option Addr) (c0 : Nat) (l0 : List (S36)) (A1 : Option Addr) (c1 : Nat) (l1 : List (S36)) (r : Bool) (w : World) (hr0 : Kd.C k36 w A0 l0.length l0) (hc0 : l0.length ≤ c0) (hr1 : Kd.C k36 w A1 l1.length l1) (hc1 : l1.length ≤ c1) (h : audit_Record_36.f k l0 l1 = some r) :
  Calls Tryd.prog 36 #[.slice A0 l0.length c0, .slice A1 l1.length c1] w fun e w' => e = .returned (.bool r) ∧ Drawn0 w w' := by
 have hu36 := Tryd.underlying36
 have HR0 := aM hr0
 have HC0 := aM hc0
 clear hr0 hc0
 have HR1 := aM hr1
 have HC1 := aM hc1
 clear hr1 hc1
 have H : (if (l0.length : Int) = (l1.length : Int) then (audit_Record_36.l0 k l0 l1 (l0.length : Int) 0) else (some false)) = some r := h
 clear h
 by_cases c3 : (l0.length : Int) = (l1.length : Int)
 ·rw [if_pos c3] at H
  have c3b0 : ((l0.length : Int) == (l1.length : Int)) = true := beq_iff_eq.mpr c3
  have c3b1 : ((l0.length : Int) != (l1.length : Int)) = false := bne_eq_false_iff_eq.mpr c3
  have c3b2 : (l0.length == l1.length) = true := by first | simpa using c3 | (simp at c3 ⊢; omega)
  clear c3
  have H' := aM H
  clear H
  go_enter Tryd.func36, Tryd.ntmps36
  go_wp2
  repeat (go_quiet (fail); try go_wp2)
  go_loopg [13] k (fun kq v13 w' => ∃ (x13_1 : Int), v13 = .int .i64 x13_1 ∧ Aside0 (audit_Record_36.l0 kq l0 l1 (l0.length : Int) x13_1 = some r) ∧ Aside0 (kq ≤ k) ∧ Drawn0 w w')
  case atStart => exact ⟨(0), (by first | rfl | (simp; done) | (simp [*]; done)), H', ⟨Nat.le_refl _⟩, by repeat (first | exact Drawn0.refl _ | apply Drawn0.step)⟩
  case round =>
   clear H'
   try clear c1
   try clear p2
   try clear c3
   try clear c3b0
   try clear c3b1
   try clear c3b2
   obtain ⟨x13_1, rfl, HA, HK1, ⟨m1, rfl⟩⟩ := hrel
   cases gk with
   | zero => exact absurd HA.out (by simp [audit_Record_36.l0])
   | succ k1 =>
    have H := HA.out
    clear HA
    simp only [audit_Record_36.l0] at H
    by_cases c4 : x13_1 < (l0.length : Int)
    ·rw [if_pos c4] at H
     have c4b0 : decide (x13_1 < (l0.length : Int)) = true := decide_eq_true c4
     clear c4
     by_cases c5 : 0 ≤ x13_1
     ·rw [if_pos c5] at H
      have c5b0 : decide (0 ≤ x13_1) = true := decide_eq_true c5
      clear c5
      by_cases c6 : x13_1 < (l0.length : Int)
      ·rw [if_pos c6] at H
       have c6b0 : decide (x13_1 < (l0.length : Int)) = true := decide_eq_true c6
       clear c6
       by_cases c7 : x13_1 < (l1.length : Int)
       ·rw [if_pos c7] at H
        have c7b0 : decide (x13_1 < (l1.length : Int)) = true := decide_eq_true c7
        clear c7
        by_cases c8 : (!(((rd_T36 l0 x13_1).f0) == ((rd_T36 l1 x13_1).f0)) || (!(((rd_T36 l0 x13_1).f1) == ((rd_T36 l1 x13_1).f1)) || (!(((rd_T36 l0 x13_1).f2) == ((rd_T36 l1 x13_1).f2)) || (!(((rd_T36 l0 x13_1).f3) == ((rd_T36 l1 x13_1).f3)) || (!(((rd_T36 l0 x13_1).f4) == ((rd_T36 l1 x13_1).f4))))))) = true
        ·rw [if_pos c8] at H
         have c8b0 : (!(((rd_T36 l0 x13_1).f0) == ((rd_T36 l1 x13_1).f0)) || (!(((rd_T36 l0 x13_1).f1) == ((rd_T36 l1 x13_1).f1)) || (!(((rd_T36 l0 x13_1).f2) == ((rd_T36 l1 x13_1).f2)) || (!(((rd_T36 l0 x13_1).f3) == ((rd_T36 l1 x13_1).f3)) || (!(((rd_T36 l0 x13_1).f4) == ((rd_T36 l1 x13_1).f4))))))) = true := c8
         clear c8
         obtain rfl := Option.some.inj H
         have p107 : 0 ≤ (x13_1 : Int) := of_decide_eq_true (by first | (with_reducible assumption) | assumption)
         have q107 : x13_1 < (l0.length : Int) := of_decide_eq_true (by first | (with_reducible assumption) | assumption)
         obtain ⟨ad107, e107, hx107_0, hx107_1, hx107_2, hx107_3, hx107_4⟩ := at_T36 HR0.out x13_1 p107 q107
         cases e107
         replace p107 := eq_true p107
         replace q107 := eq_true q107
         have p108 : 0 ≤ (x13_1 : Int) := of_decide_eq_true (by first | (with_reducible assumption) | assumption)
         have q108 : x13_1 < (l1.length : Int) := of_decide_eq_true (by first | (with_reducible assumption) | assumption)
         obtain ⟨ad108, e108, hx108_0, hx108_1, hx108_2, hx108_3, hx108_4⟩ := at_T36 HR1.out x13_1 p108 q108
         cases e108
         replace p108 := eq_true p108
         replace q108 := eq_true q108
         go_wp2
         repeat (go_quiet (fail); try go_wp2)
         go_ret
         exact ⟨by first | rfl | (simp; done) | (simp [*]; done), by repeat (first | exact Drawn0.refl _ | apply Drawn0.step)⟩
        ·rw [if_neg c8] at H
         have c8b0 : (!(((rd_T36 l0 x13_1).f0) == ((rd_T36 l1 x13_1).f0)) || (!(((rd_T36 l0 x13_1).f1) == ((rd_T36 l1 x13_1).f1)) || (!(((rd_T36 l0 x13_1).f2) == ((rd_T36 l1 x13_1).f2)) || (!(((rd_T36 l0 x13_1).f3) == ((rd_T36 l1 x13_1).f3)) || (!(((rd_T36 l0 x13_1).f4) == ((rd_T36 l1 x13_1).f4))))))) = false := by simpa using c8
         clear c8
         have H' := aM H
         clear H
         have p107 : 0 ≤ (x13_1 : Int) := of_decide_eq_true (by first | (with_reducible assumption) | assumption)
         have q107 : x13_1 < (l0.length : Int) := of_decide_eq_true (by first | (with_reducible assumption) | assumption)
         obtain ⟨ad107, e107, hx107_0, hx107_1, hx107_2, hx107_3, hx107_4⟩ := at_T36 HR0.out x13_1 p107 q107
         cases e107
         replace p107 := eq_true p107
         replace q107 := eq_true q107
         have p108 : 0 ≤ (x13_1 : Int) := of_decide_eq_true (by first | (with_reducible assumption) | assumption)
         have q108 : x13_1 < (l1.length : Int) := of_decide_eq_true (by first | (with_reducible assumption) | assumption)
         obtain ⟨ad108, e108, hx108_0, hx108_1, hx108_2, hx108_3, hx108_4⟩ := at_T36 HR1.out x13_1 p108 q108
         cases e108
         replace p108 := eq_true p108
         replace q108 := eq_true q108
         go_wp2
         repeat (go_quiet (fail); try go_wp2)
         go_roundg k1
         case measure => have := HK1.out; omega
         case rel => exact ⟨(wrap64 (x13_1 + 1)), (by first | rfl | (simp; done) | (simp [*]; done)), H', ⟨by have := HK1.out; omega⟩, by repeat (first | exact Drawn0.refl _ | apply Drawn0.step)⟩
       ·rw [if_neg c7] at H
        exact absurd H (by simp)
      ·rw [if_neg c6] at H
       exact absurd H (by simp)
     ·rw [if_neg c5] at H
      exact absurd H (by simp)
    ·rw [if_neg c4] at H
     have c4b0 : decide (x13_1 < (l0.length : Int)) = false := decide_eq_false c4
     clear c4
     obtain rfl := Option.some.inj H
     go_wp2
     repeat (go_quiet (fail); try go_wp2)
     go_ret
     exact ⟨by first | rfl | (simp; done) | (simp [*]; done), by repeat (first | exact Drawn0.refl _ | apply Drawn0.step)⟩
 ·rw [if_neg c3] at H
  have c3b0 : ((l0.length : Int) == (l1.length : Int)) = false := beq_eq_false_iff_ne.mpr c3
  have c3b1 : ((l0.length : Int) != (l1.length : Int)) = true := bne_iff_ne.mpr c3
  have c3b2 : (l0.length == l1.length) = false := by first | simpa using c3 | (simp at c3 ⊢; omega)
  obtain rfl := Option.some.inj H
  go_enter Tryd.func36, Tryd.ntmps36
  go_wp2
  repeat (go_quiet (fail); try go_wp2)
  go_ret
  exact ⟨by first | rfl | (simp; done) | (simp [*]; done), by repeat (first | exact Drawn0.refl _ | apply Drawn0.step)⟩
end Go.Proofs.YtcbiilbmldinhaaDoor.PB
end

section
namespace Go.Proofs.YtcbiilbmldinhaaDoor.PB
open Go.RowKit Go.Proofs.YtcbiilbmldinhaaDoorW.PrintWords Go.Proofs.YtcbiilbmldinhaaDoorW.PrintLast Go.Proofs.YtcbiilbmldinhaaDoorW.PrintMore
attribute [local go_sem] max2_int min2_int max_two min_two max_three min_three max_four min_four   
set_option linter.unusedVariables false
set_option linter.unusedSimpArgs false
def audit_Extends.f (k : Nat) (l0 : List (S36)) (l1 : List (S36)) : Option (Bool) := if (l1.length : Int) ≤ (l0.length : Int) then (if 0 ≤ (l1.length : Int) then ((audit_Record_36.f k (l0.take ((l1.length : Int) : Int).toNat) l1).bind fun t113 => (some t113)) else (none)) else (some false)
set_option maxHeartbeats 8000000 in
set_option maxRecDepth 100000 in
theorem audit_Extends.calls (k : Nat) (A0 : Option Addr) (c0 : Nat) (l0 : List (S36)) (A1 : Option Addr) (c1 : Nat) (l1 : List (S36)) (r : Bool) (w : World) (hr0 : Kd.C k36 w A0 l0.length l0) (hc0 : l0.length ≤ c0) (hr1 : Kd.C k36 w A1 l1.length l1) (hc1 : l1.length ≤ c1) (h : audit_Extends.f k l0 l1 = some r) :
  Calls Tryd.prog 23 #[.slice A0 l0.length c0, .slice A1 l1.length c1] w fun e w' => e = .returned (.bool r) ∧ Drawn0 w w' := by
 have HR0 := aM hr0
 have HC0 := aM hc0
 clear hr0 hc0
 have HR1 := aM hr1
 have HC1 := aM hc1
 clear hr1 hc1
 have H : (if (l1.length : Int) ≤ (l0.length : Int) then (if 0 ≤ (l1.length : Int) then ((audit_Record_36.f k (l0.take ((l1.length : Int) : Int).toNat) l1).bind fun t113 => (some t113)) else (none)) else (some false)) = some r := h
 clear h
 by_cases c3 : (l1.length : Int) ≤ (l0.length : Int)
 ·rw [if_pos c3] at H
  have c3b0 : decide ((l1.length : Int) ≤ (l0.length : Int)) = true := decide_eq_true c3
  have c3b1 : decide (l1.length ≤ l0.length) = true := decide_eq_true (Int.ofNat_le.mp c3)
  clear c3
  by_cases c4 : 0 ≤ (l1.length : Int)
  ·rw [if_pos c4] at H
   have c4b0 := eq_true c4
   have c4b1 : decide (0 ≤ (l1.length : Int)) = true := decide_eq_true c4
   clear c4
   have c5b0 := eq_true (of_decide_eq_true (by first | (with_reducible assumption) | assumption) : (l1.length : Int) ≤ (l0.length : Int))
   obtain ⟨y109, hy109⟩ : ∃ y_ : List (S36), y_ = (l0.take ((l1.length : Int) : Int).toNat) := ⟨_, rfl⟩
   replace H : ((audit_Record_36.f k y109 l1).bind fun t113 => (some t113)) = some r := by first | (rw [hy109]; with_reducible exact H) | (have H2_ := (Option.bind_some _ _).symm.trans H; rw [hy109]; with_reducible exact H2_) | (have H2_ := (Option.bind_some _ _).symm.trans H; with_reducible exact H2_) | with_reducible exact H | (rw [hy109]; exact H) | exact H
   have Ny109 := aM hy109
   clear hy109
   replace H := Option.bind_eq_some_iff.mp H
   obtain ⟨t113, A60, H⟩ := H
   replace H : (some t113) = some r := H
   have A6 := aM A60
   clear A60
   obtain rfl := Option.some.inj H
   have q7 : ((l1.length : Int) : Int) ≤ ((l0.length : Int) : Int) := of_decide_eq_true (by first | (with_reducible assumption) | assumption)
   obtain ⟨i07, hi07, _, hsz7, _⟩ := info_parts info36
   have hroom7 : l0.length ≤ c0 := HC0.out
   have hC7 : Kd.C k36 _ A0 l0.length l0 := HR0.out
   have hcut7 := cut_to (P := Tryd.prog) 43 36 .i64 Tryd.underlying43 hi07 A0 l0.length c0 (l1.length : Int) (of_decide_eq_true (by first | (with_reducible assumption) | assumption)) q7 hroom7
   have hr7 := Kd.C_take (m := ((l1.length : Int) : Int).toNat) hC7 (by omega)
   have hy7 : y109.length = ((l1.length : Int) : Int).toNat := (by rw [Ny109.out, List.length_take]; omega)
   rw [← Ny109.out] at hr7
   rw [← hy7] at hcut7
   have HR112 := aM hr7
   have HC112 := aM (show y109.length ≤ c0 from by omega)
   clear hr7 hC7 hroom7 hi07 hsz7
   have KY7 := aM hy7
   clear hy7
   replace q7 := eq_true q7
   go_enter Tryd.func23, Tryd.ntmps23
   go_wp2_with (first | (go_at_call 36; (with_reducible refine (audit_Record_36.calls k _ _ y109 _ _ l1 t113 _ ?side1 ?side2 ?side3 ?side4 A6.out).mono ?_); (case side1 => repeat (first | exact HR112.out | (with_reducible refine Kd.C_alloc ?_ _) | (with_reducible refine Kd.C_drewN ?_ _) | (with_reducible refine Kd.C_drew ?_))); (case side2 => exact HC112.out); (case side3 => repeat (first | exact HR1.out | (with_reducible refine Kd.C_alloc ?_ _) | (with_reducible refine Kd.C_drewN ?_ _) | (with_reducible refine Kd.C_drew ?_))); (case side4 => exact HC1.out); rintro e w' ⟨rfl, ⟨nd, rfl⟩⟩))
   go_ret
   exact ⟨by first | rfl | (simp; done) | (simp [*]; done), by repeat (first | exact Drawn0.refl _ | apply Drawn0.step)⟩
  ·rw [if_neg c4] at H
   exact absurd H (by simp)
 ·rw [if_neg c3] at H
  have c3b0 : decide ((l1.length : Int) ≤ (l0.length : Int)) = false := decide_eq_false c3
  have c3b1 : decide (l1.length ≤ l0.length) = false := decide_eq_false (fun h => c3 (Int.ofNat_le.mpr h))
  clear c3
  obtain rfl := Option.some.inj H
  go_enter Tryd.func23, Tryd.ntmps23
  go_wp2
  go_ret
  exact ⟨by first | rfl | (simp; done) | (simp [*]; done), by repeat (first | exact Drawn0.refl _ | apply Drawn0.step)⟩
end Go.Proofs.YtcbiilbmldinhaaDoor.PB
end

section
namespace Go.Proofs.YtcbiilbmldinhaaDoor.PB
open Go.RowKit Go.Maps Go.Proofs.YtcbiilbmldinhaaDoorW.PrintWords Go.Proofs.YtcbiilbmldinhaaDoorW.PrintLast Go.Proofs.YtcbiilbmldinhaaDoorW.PrintMore
set_option maxRecDepth 100000
set_option linter.unusedVariables false
set_option linter.unusedSimpArgs false
def bureaulaw18_alive.f : Option Bool := some true
theorem print_alive : audit_Print.f 100 5 4 2 5 8 = some (⟨#[100, 101, 110, 121, 32, 50, 32, 53, 32, 56, 32, 48, 46, 50]⟩, 0) := by decide +kernel
theorem may_a1 : audit_Record_may.f 100 3 1 0 0 0 = some true := by decide +kernel
theorem may_a2 : audit_Record_may.f 100 1 4 2 5 8 = some true := by decide +kernel
abbrev Da0 : DataW Unit := newD [1, 3] 1
abbrev Da1 : DataW Unit := Da0.put (kL 3) (iL (wrap64 (1 - 1)))
abbrev Da2 : DataW Unit := Da1.put (kL 1) (iL (wrap64 (1 - 1)))
theorem da1 : Maps.size Da0 = 2 := by rfl
theorem da2 : Maps.has Da0 (kL 3) = true := by rfl
theorem da3 : Da0.atKey (kL 3) (iL 0) = iL 1 := by rfl
theorem da4 : Maps.has Da1 (kL 1) = true := by rfl
theorem da5 : Da1.atKey (kL 1) (iL 0) = iL 1 := by rfl
theorem da6 : Da2.atKey (kL 3) (iL 0) = iL 0 := by kernel_rfl
abbrev xsA : List S36 := [⟨3, 1, 0, 0, 0⟩, ⟨1, 4, 2, 5, 8⟩]
theorem seen_a : (seenL xsA 1).length = 1 := by decide +kernel
theorem all_a : xsA.length = 2 := rfl
theorem ext_alive : audit_Extends.f 100 xsA [] = some true := by decide +kernel
theorem extA {A : Option Addr} {c : Nat} {w : World} (hc : 2 ≤ c) (hC : Kd.C k36 w A xsA.length xsA) :
    Calls Tryd.prog 23 #[.slice A 2 c, .slice none 0 0] w fun e w' => e = .returned (.bool true) ∧ Drawn0 w w' :=
  audit_Extends.calls 100 A c xsA none 0 [] true w hC hc (Kd.C_nil _ w) (Nat.le_refl _) ext_alive
theorem iL_inj {a b : Int} (h : (iL a : DataW Unit) = iL b) : a = b := by
  injection h with h
  injection h with _ h
theorem newA {A : Option Addr} {c : Nat} {w : World} (hc : 2 ≤ c) (hC : Kd.C (Kd.int .u64) w A ([1, 3] : List Int).length [1, 3]) :
    Calls Tryd.prog 11 #[.slice A 2 c, .int .i64 1] w fun e w' => ∃ g bm, e = .returned (.pointer (some ⟨g, 0, none⟩)) ∧ LogAt w.heap.size g bm (.slice none 0 0) w' Da0 [] ∧ Below w.heap.size w w' :=
  new_ok (l0 := [1, 3]) (q := 1) hC hc (by decide) (by decide) (by decide) (by decide) (by decide) true ⟨fun _ => rfl, fun _ => da1⟩
set_option maxHeartbeats 8000000 in
theorem bureaulaw18_alive.calls (r : Bool) (w : World) (h : bureaulaw18_alive.f = some r) :
    Calls Tryd.prog 10 #[] w fun e w' => e = .returned (.bool r) ∧ Below w.heap.size w w' := by
  obtain rfl : true = r := Option.some.inj h
  clear h
  have hu36 := Tryd.underlying36
  go_enter Tryd.func10, Tryd.ntmps10
  go_wp2_with (first
    | ((with_reducible refine gate_dst (N := 8) rfl ?_); refine Kd.R_lit (Kd.int .u64) _ 34 ?hg (N := 8) ?hd (xs := ([1, 3] : List Int)) (inner := [.int .u64 1, .int .u64 3]) (ok := fun _ => True) (okp := fun _ => True) ?hr ?hp (fun _ hk => hk) trivial (Below.refl _ _) (Nat.le_refl _) (by simp) ?_; (case hd => rfl); (case hg => rfl); (case hr => first | (go_simp; done) | (go_simp; rfl)); (case hp => exact (Reps.one (show Kd.M (Kd.int .u64) _ _ _ 1 [.int .u64 1] from rfl) (Reps.one (show Kd.M (Kd.int .u64) _ _ _ 3 [.int .u64 3] from rfl) (Reps.none _ _)))); intro v1 w1 ho hb hg_ hnew_; clear hg_ hnew_; obtain ⟨A, c, e⟩ := Kd.R_slice ho; rw [show ([1, 3] : List Int).length = 2 from rfl] at e; subst e; have HO := aM ho; have HB := aM hb; clear ho hb)
    | ((with_reducible refine gate_callee (f := 11) rfl ?_); (try (refine gate_guard (by rfl) ?_; dsimp only)); refine goesL_ (some 9) rfl rfl Tryd.func11 (by kernel_rfl) rfl #[.slice A 2 c, .int .i64 1] rfl (by (try simp only [List.map_toArray, List.map_cons, List.map_nil]); first | done | rfl) ?_; (with_reducible refine Calls.mono (newA (rR HO.out).2.1 (rR HO.out).2.2) ?_); rintro e w2 ⟨g, bm, rfl, hl, hb⟩; refine ⟨_, rfl, ?_⟩; have HA0 := aM hl; have HS0 := aM hb.size; have HBB := aM (bZ HB.out); have HB0 := aM (bP HB.out hb); clear hl hb HB HO)
    | ((with_reducible refine gate_callee (f := 13) rfl ?_); (try (refine gate_guard (by rfl) ?_; dsimp only)); refine goesL_ (some 15) rfl rfl Tryd.func13 (by kernel_rfl) rfl #[.pointer (some ⟨g, 0, none⟩), .agg #[.int .u64 3, .int .i64 1, .int .i64 0, .int .i64 0, .int .i64 0]] rfl (by (try simp only [List.map_toArray, List.map_cons, List.map_nil]); first | done | rfl) ?_; (with_reducible refine Calls.mono (add_ok 100 HA0.out HS0.out 3 1 0 0 0 (by decide) may_a1 da2 1 da3 (by decide) (by decide)) ?_); rintro e w3 ⟨rfl, v3, hl, hb, hk⟩; refine ⟨_, rfl, ?_⟩; have HA1 := aM hl; have HS1 := aM (Nat.le_trans HS0.out hb.size); have HB1 := aM (HB0.out.trans (hb.mono HBB.out)); clear hl hb hk HA0 HS0 HB0)
    | ((with_reducible refine gate_callee (f := 13) rfl ?_); (try (refine gate_guard (by rfl) ?_; dsimp only)); refine goesL_ (some 21) rfl rfl Tryd.func13 (by kernel_rfl) rfl #[.pointer (some ⟨g, 0, none⟩), .agg #[.int .u64 1, .int .i64 4, .int .i64 2, .int .i64 5, .int .i64 8]] rfl (by (try simp only [List.map_toArray, List.map_cons, List.map_nil]); first | done | rfl) ?_; (with_reducible refine Calls.mono (add_ok 100 HA1.out HS1.out 1 4 2 5 8 (by decide) may_a2 da4 1 da5 (by decide) (by decide)) ?_); rintro e w4 ⟨rfl, v4, hl, hb, hk⟩; refine ⟨_, rfl, ?_⟩; have HA2 := aM (show LogAt _ _ _ _ _ Da2 xsA from hl); have HB2 := aM (HB1.out.trans (hb.mono HBB.out)); clear hl hb hk HA1 HS1 HB1)
    | ((with_reducible refine gate_callee (f := 26) rfl ?_); (try (refine gate_guard (by rfl) ?_; dsimp only)); refine goesL_ (some 26) rfl rfl Tryd.func26 (by kernel_rfl) rfl #[.agg #[.int .u64 5, .int .i64 4, .int .i64 2, .int .i64 5, .int .i64 8]] rfl (by (try simp only [List.map_toArray, List.map_cons, List.map_nil]); first | done | rfl) ?_; (with_reducible refine Calls.mono (audit_Print.calls 100 5 4 2 5 8 _ _ _ print_alive) ?_); rintro e w5 ⟨rfl, hb⟩; refine ⟨_, rfl, ?_⟩; have HA3 := aM (HA2.out.below hb); have HB3 := aM (bP HB2.out hb); clear hb HA2 HB2)
    | ((with_reducible refine gate_callee (f := 19) rfl ?_); (try (refine gate_guard (by rfl) ?_; dsimp only)); refine goesL_ (some 45) rfl rfl Tryd.func19 (by kernel_rfl) rfl #[.pointer (some ⟨g, 0, none⟩), .int .u64 1] rfl (by (try simp only [List.map_toArray, List.map_cons, List.map_nil]); first | done | rfl) ?_; (with_reducible refine Calls.mono (seen_ok HA3.out (by decide) 1) ?_); rintro e w6 ⟨v6, rfl, ho, hb⟩; refine ⟨_, rfl, ?_⟩; obtain ⟨A6, c6, e6⟩ := Kd.R_slice ho; rw [seen_a] at e6; subst e6; have HA4 := aM (HA3.out.below hb); have HB4 := aM (bP HB3.out hb); clear ho hb HA3 HB3)
    | ((with_reducible refine gate_callee (f := 21) rfl ?_); (try (refine gate_guard (by rfl) ?_; dsimp only)); refine goesL_ (some 51) rfl rfl Tryd.func21 (by kernel_rfl) rfl #[.pointer (some ⟨g, 0, none⟩), .int .u64 3] rfl (by (try simp only [List.map_toArray, List.map_cons, List.map_nil]); first | done | rfl) ?_; (with_reducible refine Calls.mono (room_ok HA4.out 3 (by decide)) ?_); rintro e w7 ⟨c7, rfl, h7, hw⟩; refine ⟨_, rfl, ?_⟩; subst w7; obtain rfl : c7 = 0 := iL_inj (h7.symm.trans da6))
    | ((with_reducible refine gate_callee (f := 18) rfl ?_); (try (refine gate_guard (by rfl) ?_; dsimp only)); refine goesL_ (some 64) rfl rfl Tryd.func18 (by kernel_rfl) rfl #[.pointer (some ⟨g, 0, none⟩)] rfl (by (try simp only [List.map_toArray, List.map_cons, List.map_nil]); first | done | rfl) ?_; (with_reducible refine Calls.mono (all_ok HA4.out (by decide)) ?_); rintro e w8 ⟨v8, rfl, ho, hb⟩; refine ⟨_, rfl, ?_⟩; obtain ⟨A8, c8, e8⟩ := Kd.R_slice ho; rw [all_a] at e8; subst e8; have HO8 := aM ho; have HB5 := aM (bP HB4.out hb); clear ho hb HB4 HA4)
    | ((with_reducible refine gate_callee (f := 23) rfl ?_); (try (refine gate_guard (by rfl) ?_; dsimp only)); refine goesL_ (some 65) rfl rfl Tryd.func23 (by kernel_rfl) rfl #[.slice A8 2 c8, .slice none 0 0] rfl (by (try simp only [List.map_toArray, List.map_cons, List.map_nil]); first | done | rfl) ?_; (with_reducible refine Calls.mono (extA (rR HO8.out).2.1 (rR HO8.out).2.2) ?_); rintro e w9 ⟨rfl, nd, rfl⟩; refine ⟨_, rfl, ?_⟩; have HB6 := aM (pw_below_drewN HB5.out nd); clear HB5)
    )
  go_ret
  exact ⟨rfl, HB6.out⟩
end Go.Proofs.YtcbiilbmldinhaaDoor.PB
end

section
namespace Go.Proofs.YtcbiilbmldinhaaDoor.PB
open Go.RowKit Go.Proofs.YtcbiilbmldinhaaDoorW.PrintWords Go.Proofs.YtcbiilbmldinhaaDoorW.PrintLast Go.Proofs.YtcbiilbmldinhaaDoorW.PrintMore
attribute [local go_sem] max2_int min2_int max_two min_two max_three min_three max_four min_four   
set_option linter.unusedVariables false
set_option linter.unusedSimpArgs false
attribute [local go_sem high] eqA36
def bureaulaw18_AuditTexts.f (k : Nat) (a0_0 : Int) (a0_1 : Int) (a0_2 : Int) (a0_3 : Int) (a0_4 : Int) (a1 : ByteArray) : Option (Bool) := (bureaulaw18_alive.f).bind fun t295 => (if t295 = true then (if (a1.size : Int) > 4096 then (some true) else ((bureaulaw18_theirs.f a0_0 a0_1 a0_2 a0_3 a0_4).bind fun bt296 => ((audit_Print2.f k bt296.1 bt296.2.1 bt296.2.2.1 bt296.2.2.2.1 bt296.2.2.2.2).bind fun bt301 => ((bureauref18_Print.f k a0_0 a0_1 a0_2 a0_3 a0_4).bind fun bt303 => ((audit_Parse.f k a1).bind fun bt305 => ((bureauref18_Parse.f k a1).bind fun bt312 => (if bt301.1.toList = bt303.1.toList then (if bt301.2 = bt303.2 then ((bureaulaw18_theirs.f bt312.1 bt312.2.1 bt312.2.2.1 bt312.2.2.2.1 bt312.2.2.2.2.1).bind fun bt319 => (if (bt305.1 == bt319.1 && (bt305.2.1 == bt319.2.1 && (bt305.2.2.1 == bt319.2.2.1 && (bt305.2.2.2.1 == bt319.2.2.2.1 && (bt305.2.2.2.2.1 == bt319.2.2.2.2))))) = true then (some (bt305.2.2.2.2.2 == bt312.2.2.2.2.2)) else (some false))) else (some false)) else (some false)))))))) else (some false))
def bureaulaw18_AuditTexts.T9 : Bool × List (List Nat × List Nat) := (true, [([], []), ([], []), ([0, 1], [0, 1]), ([2], [2]), ([3], [3]), ([3], [3]), ([4, 5, 3], [3, 4, 5]), ([3, 6], [3, 6]), ([7, 3], [7]), ([8], [8]), ([8], [8]), ([10, 8, 8], [8, 10]), ([9, 11, 8], [8, 9, 11]), ([8, 12], [8, 12]), ([13, 11], [13]), ([14], [14]), ([14], [14]), ([15, 16, 14], [14, 15, 16]), ([14, 17], [14, 17]), ([18, 14, 0, 1, 2, 3, 4, 5, 6, 7, 8, 9, 10, 11, 12, 13, 14, 15, 16, 17, 18], [18])])
def bureaulaw18_AuditTexts.B9 : List Nat := [0, 0, 3, 7, 15, 15, 63, 127, 255, 511, 511, 1535, 4095, 8191, 16383, 32767, 32767, 131071, 262143, 524287]
theorem bureaulaw18_AuditTexts.tab9 : rtab .any (opsOf Tryd.f8 9) = bureaulaw18_AuditTexts.T9 := by kernel_rfl
theorem bureaulaw18_AuditTexts.bits9 : waitsOk bureaulaw18_AuditTexts.T9.2 bureaulaw18_AuditTexts.B9 = true := by kernel_rfl
set_option maxHeartbeats 8000000 in
set_option maxRecDepth 100000 in
theorem bureaulaw18_AuditTexts.calls (k : Nat) (a0_0 : Int) (a0_1 : Int) (a0_2 : Int) (a0_3 : Int) (a0_4 : Int) (a1 : ByteArray) (r : Bool) (w : World) (hMX : NumOk w) (h : bureaulaw18_AuditTexts.f k a0_0 a0_1 a0_2 a0_3 a0_4 a1 = some r) (hrt : r = true := by rfl) :
  Calls Tryd.prog 8 #[.agg #[.int .u64 a0_0, .int .i64 a0_1, .int .i64 a0_2, .int .i64 a0_3, .int .i64 a0_4], .string a1] w fun e w' => e = .returned (.bool r) ∧ Below w.heap.size w w' := by
 have HMX := aM hMX
 clear hMX
 have hu38 := Tryd.underlying38
 have hu36 := Tryd.underlying36
 have HB := aM (Below.refl w.heap.size w)
 have H : ((bureaulaw18_alive.f).bind fun t295 => (if t295 = true then (if (a1.size : Int) > 4096 then (some true) else ((bureaulaw18_theirs.f a0_0 a0_1 a0_2 a0_3 a0_4).bind fun bt296 => ((audit_Print2.f k bt296.1 bt296.2.1 bt296.2.2.1 bt296.2.2.2.1 bt296.2.2.2.2).bind fun bt301 => ((bureauref18_Print.f k a0_0 a0_1 a0_2 a0_3 a0_4).bind fun bt303 => ((audit_Parse.f k a1).bind fun bt305 => ((bureauref18_Parse.f k a1).bind fun bt312 => (if bt301.1.toList = bt303.1.toList then (if bt301.2 = bt303.2 then ((bureaulaw18_theirs.f bt312.1 bt312.2.1 bt312.2.2.1 bt312.2.2.2.1 bt312.2.2.2.2.1).bind fun bt319 => (if (bt305.1 == bt319.1 && (bt305.2.1 == bt319.2.1 && (bt305.2.2.1 == bt319.2.2.1 && (bt305.2.2.2.1 == bt319.2.2.2.1 && (bt305.2.2.2.2.1 == bt319.2.2.2.2))))) = true then (some (bt305.2.2.2.2.2 == bt312.2.2.2.2.2)) else (some false))) else (some false)) else (some false)))))))) else (some false))) = some r := h
 clear h
 replace H := Option.bind_eq_some_iff.mp H
 obtain ⟨t295, A30, H⟩ := H
 replace H : (if t295 = true then (if (a1.size : Int) > 4096 then (some true) else ((bureaulaw18_theirs.f a0_0 a0_1 a0_2 a0_3 a0_4).bind fun bt296 => ((audit_Print2.f k bt296.1 bt296.2.1 bt296.2.2.1 bt296.2.2.2.1 bt296.2.2.2.2).bind fun bt301 => ((bureauref18_Print.f k a0_0 a0_1 a0_2 a0_3 a0_4).bind fun bt303 => ((audit_Parse.f k a1).bind fun bt305 => ((bureauref18_Parse.f k a1).bind fun bt312 => (if bt301.1.toList = bt303.1.toList then (if bt301.2 = bt303.2 then ((bureaulaw18_theirs.f bt312.1 bt312.2.1 bt312.2.2.1 bt312.2.2.2.1 bt312.2.2.2.2.1).bind fun bt319 => (if (bt305.1 == bt319.1 && (bt305.2.1 == bt319.2.1 && (bt305.2.2.1 == bt319.2.2.1 && (bt305.2.2.2.1 == bt319.2.2.2.1 && (bt305.2.2.2.2.1 == bt319.2.2.2.2))))) = true then (some (bt305.2.2.2.2.2 == bt312.2.2.2.2.2)) else (some false))) else (some false)) else (some false)))))))) else (some false)) = some r := H
 have A3 := aM A30
 clear A30
 by_cases c4 : t295 = true
 ·subst c4
  have H1 : (if (a1.size : Int) > 4096 then (some true) else ((bureaulaw18_theirs.f a0_0 a0_1 a0_2 a0_3 a0_4).bind fun bt296 => ((audit_Print2.f k bt296.1 bt296.2.1 bt296.2.2.1 bt296.2.2.2.1 bt296.2.2.2.2).bind fun bt301 => ((bureauref18_Print.f k a0_0 a0_1 a0_2 a0_3 a0_4).bind fun bt303 => ((audit_Parse.f k a1).bind fun bt305 => ((bureauref18_Parse.f k a1).bind fun bt312 => (if bt301.1.toList = bt303.1.toList then (if bt301.2 = bt303.2 then ((bureaulaw18_theirs.f bt312.1 bt312.2.1 bt312.2.2.1 bt312.2.2.2.1 bt312.2.2.2.2.1).bind fun bt319 => (if (bt305.1 == bt319.1 && (bt305.2.1 == bt319.2.1 && (bt305.2.2.1 == bt319.2.2.1 && (bt305.2.2.2.1 == bt319.2.2.2.1 && (bt305.2.2.2.2.1 == bt319.2.2.2.2))))) = true then (some (bt305.2.2.2.2.2 == bt312.2.2.2.2.2)) else (some false))) else (some false)) else (some false)))))))) = some r := by rw [if_pos rfl] at H; exact H
  clear H
  have H := H1
  clear H1
  by_cases c5 : (a1.size : Int) > 4096
  ·rw [if_pos c5] at H
   have c5b0 : decide (4096 < (a1.size : Int)) = true := decide_eq_true c5
   have c5b1 : decide (4096 < a1.size) = true := decide_eq_true (by omega)
   clear c5
   obtain rfl := Option.some.inj H
   go_enter Tryd.func8, Tryd.ntmps8
   go_wp2_with (first | ((with_reducible refine gate_dst (N := 2) rfl ?_); refine box_event ?hg (N := 2) ?hd (cs := #[.int .u64 a0_0, .int .i64 a0_1, .int .i64 a0_2, .int .i64 a0_3, .int .i64 a0_4]) (t := 38) ?hr ?_; (case hd | hg => rfl); (case hr => first | (go_simp; done) | (go_simp; rfl)); intro gb294 hg w6 hbox hb; have n0_ := aM (bP (ey HB.out) hb); have n1_ := aM (hbox); have n2_ := aM ((by rw [hg]; exact (bZ (ey HB.out)) : w.heap.size ≤ gb294)); have n3_ := n2_; clear HB; have HB := n0_; have BK294 := n1_; have GW294 := n2_; have GE294 := n3_; clear n0_ n1_ n2_ n3_; clear hb hbox hg) | ((with_reducible refine gate_callee (f := 10) rfl ?_); refine goesL_ (some 13) rfl rfl Tryd.func10 (by kernel_rfl) rfl #[] rfl (by (try simp only [mT, mC, mN]); first | done | rfl | (simp only [lD, lT]; rfl)) ?_; (with_reducible refine (bureaulaw18_alive.calls  true _ A3.out).mono ?_); rintro e w7 ⟨rfl, hb⟩; refine ⟨_, rfl, ?_⟩; have n0_ := aM (bB (g := gb294) (qy BK294.out) hb); have n1_ := aM (bP (by repeat (first | (with_reducible first | exact HB.out | apply ea | apply en | apply ed | refine es ?_ GE294.out) | exact HB.out)) hb); clear BK294 HB; have BK294 := n0_; have HB := n1_; clear n0_ n1_; (try clear hb); (try clear hb2); (try clear hk); (try clear hi)))
   go_ret
   exact ⟨by first | rfl | (simp [errW_none, errW_some] <;> rfl) | (simp [*, errW_none, errW_some] <;> rfl), by repeat (first | (with_reducible first | exact HB.out | apply ea | apply en | apply ed | refine es ?_ GE294.out) | exact HB.out)⟩
  ·rw [if_neg c5] at H
   have c5b0 : decide (4096 < (a1.size : Int)) = false := decide_eq_false c5
   have c5b1 : decide (4096 < a1.size) = false := decide_eq_false (by omega)
   clear c5
   replace H := Option.bind_eq_some_iff.mp H
   obtain ⟨⟨t296, t297, t298, t299, t300⟩, A80, H⟩ := H
   replace H : ((audit_Print2.f k t296 t297 t298 t299 t300).bind fun bt301 => ((bureauref18_Print.f k a0_0 a0_1 a0_2 a0_3 a0_4).bind fun bt303 => ((audit_Parse.f k a1).bind fun bt305 => ((bureauref18_Parse.f k a1).bind fun bt312 => (if bt301.1.toList = bt303.1.toList then (if bt301.2 = bt303.2 then ((bureaulaw18_theirs.f bt312.1 bt312.2.1 bt312.2.2.1 bt312.2.2.2.1 bt312.2.2.2.2.1).bind fun bt319 => (if (bt305.1 == bt319.1 && (bt305.2.1 == bt319.2.1 && (bt305.2.2.1 == bt319.2.2.1 && (bt305.2.2.2.1 == bt319.2.2.2.1 && (bt305.2.2.2.2.1 == bt319.2.2.2.2))))) = true then (some (bt305.2.2.2.2.2 == bt312.2.2.2.2.2)) else (some false))) else (some false)) else (some false)))))) = some r := H
   have A8 := aM A80
   clear A80
   replace H := Option.bind_eq_some_iff.mp H
   obtain ⟨⟨t301, t302⟩, A90, H⟩ := H
   replace H : ((bureauref18_Print.f k a0_0 a0_1 a0_2 a0_3 a0_4).bind fun bt303 => ((audit_Parse.f k a1).bind fun bt305 => ((bureauref18_Parse.f k a1).bind fun bt312 => (if t301.toList = bt303.1.toList then (if t302 = bt303.2 then ((bureaulaw18_theirs.f bt312.1 bt312.2.1 bt312.2.2.1 bt312.2.2.2.1 bt312.2.2.2.2.1).bind fun bt319 => (if (bt305.1 == bt319.1 && (bt305.2.1 == bt319.2.1 && (bt305.2.2.1 == bt319.2.2.1 && (bt305.2.2.2.1 == bt319.2.2.2.1 && (bt305.2.2.2.2.1 == bt319.2.2.2.2))))) = true then (some (bt305.2.2.2.2.2 == bt312.2.2.2.2.2)) else (some false))) else (some false)) else (some false))))) = some r := H
   have A9 := aM A90
   clear A90
   replace H := Option.bind_eq_some_iff.mp H
   obtain ⟨⟨t303, t304⟩, A100, H⟩ := H
   replace H : ((audit_Parse.f k a1).bind fun bt305 => ((bureauref18_Parse.f k a1).bind fun bt312 => (if t301.toList = t303.toList then (if t302 = t304 then ((bureaulaw18_theirs.f bt312.1 bt312.2.1 bt312.2.2.1 bt312.2.2.2.1 bt312.2.2.2.2.1).bind fun bt319 => (if (bt305.1 == bt319.1 && (bt305.2.1 == bt319.2.1 && (bt305.2.2.1 == bt319.2.2.1 && (bt305.2.2.2.1 == bt319.2.2.2.1 && (bt305.2.2.2.2.1 == bt319.2.2.2.2))))) = true then (some (bt305.2.2.2.2.2 == bt312.2.2.2.2.2)) else (some false))) else (some false)) else (some false)))) = some r := H
   have A10 := aM A100
   clear A100
   replace H := Option.bind_eq_some_iff.mp H
   obtain ⟨⟨t305, t306, t307, t308, t309, t310⟩, A110, H⟩ := H
   replace H : ((bureauref18_Parse.f k a1).bind fun bt312 => (if t301.toList = t303.toList then (if t302 = t304 then ((bureaulaw18_theirs.f bt312.1 bt312.2.1 bt312.2.2.1 bt312.2.2.2.1 bt312.2.2.2.2.1).bind fun bt319 => (if (t305 == bt319.1 && (t306 == bt319.2.1 && (t307 == bt319.2.2.1 && (t308 == bt319.2.2.2.1 && (t309 == bt319.2.2.2.2))))) = true then (some (t310 == bt312.2.2.2.2.2)) else (some false))) else (some false)) else (some false))) = some r := H
   have A11 := aM A110
   clear A110
   replace H := Option.bind_eq_some_iff.mp H
   obtain ⟨⟨t312, t313, t314, t315, t316, t317⟩, A120, H⟩ := H
   replace H : (if t301.toList = t303.toList then (if t302 = t304 then ((bureaulaw18_theirs.f t312 t313 t314 t315 t316).bind fun bt319 => (if (t305 == bt319.1 && (t306 == bt319.2.1 && (t307 == bt319.2.2.1 && (t308 == bt319.2.2.2.1 && (t309 == bt319.2.2.2.2))))) = true then (some (t310 == t317)) else (some false))) else (some false)) else (some false)) = some r := H
   have A12 := aM A120
   clear A120
   by_cases c13 : t301.toList = t303.toList
   ·rw [if_pos c13] at H
    have c13b0 : (t301.toList == t303.toList) = true := beq_iff_eq.mpr c13
    have c13b1 : (t301.toList != t303.toList) = false := bne_eq_false_iff_eq.mpr c13
    clear c13
    by_cases c14 : t302 = t304
    ·rw [if_pos c14] at H
     have c14b0 : (t302 == t304) = true := beq_iff_eq.mpr c14
     have c14b1 : (t302 != t304) = false := bne_eq_false_iff_eq.mpr c14
     clear c14
     replace H := Option.bind_eq_some_iff.mp H
     obtain ⟨⟨t319, t320, t321, t322, t323⟩, A150, H⟩ := H
     replace H : (if (t305 == t319 && (t306 == t320 && (t307 == t321 && (t308 == t322 && (t309 == t323))))) = true then (some (t310 == t317)) else (some false)) = some r := H
     have A15 := aM A150
     clear A150
     by_cases c16 : (t305 == t319 && (t306 == t320 && (t307 == t321 && (t308 == t322 && (t309 == t323))))) = true
     ·rw [if_pos c16] at H
      have c16b0 : (t305 == t319 && (t306 == t320 && (t307 == t321 && (t308 == t322 && (t309 == t323))))) = true := c16
      (try (have c16b1 : decide (t305 = t319 && (t306 == t320 && (t307 == t321 && (t308 == t322 && (t309 == t323))))) = true := by simpa using c16))
      (try (have c16b2 : (t305 == t319 && (t306 == t320 && (t307 == t321 && (t308 == t322 && (t309 == t323))))) = true := by simpa using c16))
      clear c16
      obtain rfl := Option.some.inj H
      go_enter Tryd.func8, Tryd.ntmps8
      try go_wp2_with (first | ((with_reducible refine gate_dst (N := 2) rfl ?_); refine box_event ?hg (N := 2) ?hd (cs := #[.int .u64 a0_0, .int .i64 a0_1, .int .i64 a0_2, .int .i64 a0_3, .int .i64 a0_4]) (t := 38) ?hr ?_; (case hd | hg => rfl); (case hr => first | (go_simp; done) | (go_simp; rfl)); intro gb294 hg w17 hbox hb; have n0_ := aM (bP (ey HB.out) hb); have n1_ := aM (hbox); have n2_ := aM ((by rw [hg]; exact (bZ (ey HB.out)) : w.heap.size ≤ gb294)); have n3_ := n2_; clear HB; have HB := n0_; have BK294 := n1_; have GW294 := n2_; have GE294 := n3_; clear n0_ n1_ n2_ n3_; clear hb hbox hg) | ((with_reducible refine gate_callee (f := 10) rfl ?_); refine goesL_ (some 13) rfl rfl Tryd.func10 (by kernel_rfl) rfl #[] rfl (by (try simp only [mT, mC, mN]); first | done | rfl | (simp only [lD, lT]; rfl)) ?_; (with_reducible refine (bureaulaw18_alive.calls  true _ A3.out).mono ?_); rintro e w18 ⟨rfl, hb⟩; refine ⟨_, rfl, ?_⟩; have n0_ := aM (bB (g := gb294) (qy BK294.out) hb); have n1_ := aM (bP (by repeat (first | (with_reducible first | exact HB.out | apply ea | apply en | apply ed | refine es ?_ GE294.out) | exact HB.out)) hb); clear BK294 HB; have BK294 := n0_; have HB := n1_; clear n0_ n1_; (try clear hb); (try clear hb2); (try clear hk); (try clear hi); have hcz19_0 := zC BK294.out 0 (.int .u64 a0_0); have hcz19_1 := zC BK294.out 1 (.int .i64 a0_1); have hcz19_2 := zC BK294.out 2 (.int .i64 a0_2); have hcz19_3 := zC BK294.out 3 (.int .i64 a0_3); have hcz19_4 := zC BK294.out 4 (.int .i64 a0_4); have hfz19_0 := bF BK294.out 0; have hfz19_1 := bF BK294.out 1; have hfz19_2 := bF BK294.out 2; have hfz19_3 := bF BK294.out 3; have hfz19_4 := bF BK294.out 4) | ((with_reducible refine gate_callee (f := 14) rfl ?_); refine goesL_ (some 20) rfl rfl Tryd.func14 (by kernel_rfl) rfl #[.agg #[.int .u64 a0_0, .int .i64 a0_1, .int .i64 a0_2, .int .i64 a0_3, .int .i64 a0_4]] rfl (by (try simp only [mT, mC, mN]); first | done | rfl | (simp only [lD, lT]; rfl)) ?_; (with_reducible refine (bureaulaw18_theirs.calls a0_0 a0_1 a0_2 a0_3 a0_4 t296 t297 t298 t299 t300 _ A8.out).mono ?_); rintro e w20 ⟨rfl, hb⟩; refine ⟨_, rfl, ?_⟩; have n0_ := aM (bB (g := gb294) (qy BK294.out) hb); have n1_ := aM (bP (by repeat (first | (with_reducible first | exact HB.out | apply ea | apply en | apply ed | refine es ?_ GE294.out) | exact HB.out)) hb); clear BK294 HB; have BK294 := n0_; have HB := n1_; clear n0_ n1_; (try clear hb); (try clear hb2); (try clear hk); (try clear hi)) | ((with_reducible refine gate_callee (f := 26) rfl ?_); refine goesL_ (some 21) rfl rfl Tryd.func26 (by kernel_rfl) rfl #[.agg #[.int .u64 t296, .int .i64 t297, .int .i64 t298, .int .i64 t299, .int .i64 t300]] rfl (by (try simp only [mT, mC, mN]); first | done | rfl | (simp only [lD, lT]; rfl)) ?_; (with_reducible refine (audit_Print2.calls k t296 t297 t298 t299 t300 t301 t302 _ ?mx1 A9.out).mono ?_); (case mx1 => exact NumOk.below HMX.out (by repeat (first | (with_reducible first | exact HB.out | apply ea | apply en | apply ed | refine es ?_ GE294.out) | exact HB.out))); rintro e w21 ⟨rfl, hb⟩; refine ⟨_, rfl, ?_⟩; have n0_ := aM (bB (g := gb294) (qy BK294.out) hb); have n1_ := aM (bP (by repeat (first | (with_reducible first | exact HB.out | apply ea | apply en | apply ed | refine es ?_ GE294.out) | exact HB.out)) hb); clear BK294 HB; have BK294 := n0_; have HB := n1_; clear n0_ n1_; (try clear hb); (try clear hb2); (try clear hk); (try clear hi); have hcz22_0 := zC BK294.out 0 (.int .u64 a0_0); have hcz22_1 := zC BK294.out 1 (.int .i64 a0_1); have hcz22_2 := zC BK294.out 2 (.int .i64 a0_2); have hcz22_3 := zC BK294.out 3 (.int .i64 a0_3); have hcz22_4 := zC BK294.out 4 (.int .i64 a0_4); have hfz22_0 := bF BK294.out 0; have hfz22_1 := bF BK294.out 1; have hfz22_2 := bF BK294.out 2; have hfz22_3 := bF BK294.out 3; have hfz22_4 := bF BK294.out 4) | ((with_reducible refine gate_callee (f := 27) rfl ?_); refine goesL_ (some 26) rfl rfl Tryd.func27 (by kernel_rfl) rfl #[.agg #[.int .u64 a0_0, .int .i64 a0_1, .int .i64 a0_2, .int .i64 a0_3, .int .i64 a0_4]] rfl (by (try simp only [mT, mC, mN]); first | done | rfl | (simp only [lD, lT]; rfl)) ?_; (with_reducible refine (bureauref18_Print.calls k a0_0 a0_1 a0_2 a0_3 a0_4 t303 t304 _ A10.out).mono ?_); rintro e w23 ⟨rfl, hb⟩; refine ⟨_, rfl, ?_⟩; have n0_ := aM (bB (g := gb294) (qy BK294.out) hb); have n1_ := aM (bP (by repeat (first | (with_reducible first | exact HB.out | apply ea | apply en | apply ed | refine es ?_ GE294.out) | exact HB.out)) hb); clear BK294 HB; have BK294 := n0_; have HB := n1_; clear n0_ n1_; (try clear hb); (try clear hb2); (try clear hk); (try clear hi)) | ((with_reducible refine gate_callee (f := 28) rfl ?_); refine goesL_ (some 31) rfl rfl Tryd.func28 (by kernel_rfl) rfl #[.string a1] rfl (by (try simp only [mT, mC, mN]); first | done | rfl | (simp only [lD, lT]; rfl)) ?_; (with_reducible refine (audit_Parse.calls k a1 t305 t306 t307 t308 t309 t310 _ ?mx2 A11.out).mono ?_); (case mx2 => exact NumOk.below HMX.out (by repeat (first | (with_reducible first | exact HB.out | apply ea | apply en | apply ed | refine es ?_ GE294.out) | exact HB.out))); rintro e w24 ⟨rfl, hb⟩; refine ⟨_, rfl, ?_⟩; have n0_ := aM (bB (g := gb294) (qy BK294.out) hb); have n1_ := aM (bP (by repeat (first | (with_reducible first | exact HB.out | apply ea | apply en | apply ed | refine es ?_ GE294.out) | exact HB.out)) hb); clear BK294 HB; have BK294 := n0_; have HB := n1_; clear n0_ n1_; (try clear hb); (try clear hb2); (try clear hk); (try clear hi)) | ((with_reducible refine gate_dst (N := 9) rfl ?_); refine box_event ?hg (N := 9) ?hd (cs := #[.int .u64 0, .int .i64 0, .int .i64 0, .int .i64 0, .int .i64 0]) (t := 36) ?hr ?_; (case hd | hg => rfl); (case hr => first | (go_simp; done) | (go_simp; rfl)); intro gb311 hg w25 hbox hb; have n0_ := aM (bB (g := gb294) (qy BK294.out) hb); have n1_ := aM (bP (by repeat (first | (with_reducible first | exact HB.out | apply ea | apply en | apply ed | refine es ?_ GE294.out) | exact HB.out)) hb); have n2_ := aM (hbox); have n3_ := aM ((by rw [hg]; exact (bZ (by repeat (first | (with_reducible first | exact HB.out | apply ea | apply en | apply ed | refine es ?_ GE294.out) | exact HB.out))) : w.heap.size ≤ gb311)); have n4_ := n3_; have n5_ := aM ((by rw [hg]; exact Nat.ne_of_lt (blk_lt (g := gb294) (qy BK294.out)) : gb294 ≠ gb311)); have n6_ := aM ((by rw [hg]; exact Nat.ne_of_gt (blk_lt (g := gb294) (qy BK294.out)) : gb311 ≠ gb294)); clear BK294 HB; have BK294 := n0_; have HB := n1_; have BK311 := n2_; have GW311 := n3_; have GE311 := n4_; have NB294_311 := n5_; have NB311_294 := n6_; clear n0_ n1_ n2_ n3_ n4_ n5_ n6_; clear hb hbox hg; have hnb26 := NB311_294.out; have hnc26 := NB294_311.out; have hcz27_0 := zC BK311.out 0 (.int .u64 0); have hcz27_1 := zC BK311.out 1 (.int .i64 0); have hcz27_2 := zC BK311.out 2 (.int .i64 0); have hcz27_3 := zC BK311.out 3 (.int .i64 0); have hcz27_4 := zC BK311.out 4 (.int .i64 0); have hfz27_0 := bF BK311.out 0; have hfz27_1 := bF BK311.out 1; have hfz27_2 := bF BK311.out 2; have hfz27_3 := bF BK311.out 3; have hfz27_4 := bF BK311.out 4) | ((with_reducible refine gate_callee (f := 29) rfl ?_); refine goesL_ (some 36) rfl rfl Tryd.func29 (by kernel_rfl) rfl #[.string a1] rfl (by (try simp only [mT, mC, mN]); first | done | rfl | (simp only [lD, lT]; rfl)) ?_; (with_reducible refine (bureauref18_Parse.calls k a1 t312 t313 t314 t315 t316 t317 _ A12.out).mono ?_); rintro e w28 ⟨rfl, hb⟩; refine ⟨_, rfl, ?_⟩; have n0_ := aM (bB (g := gb294) (o := .cells #[.int .u64 a0_0, .int .i64 a0_1, .int .i64 a0_2, .int .i64 a0_3, .int .i64 a0_4] 38 (0, 0)) (by (with_reducible repeat (first | apply qn | apply qd | apply qa)); refine bR ?_ NB294_311.out _; (with_reducible repeat (first | apply qn | apply qd | apply qa)); refine bR ?_ NB294_311.out _; (with_reducible repeat (first | apply qn | apply qd | apply qa)); refine bR ?_ NB294_311.out _; (with_reducible repeat (first | apply qn | apply qd | apply qa)); refine bR ?_ NB294_311.out _; (with_reducible repeat (first | apply qn | apply qd | apply qa)); refine bR ?_ NB294_311.out _; exact qy BK294.out) hb); have n1_ := aM (bB (g := gb311) (o := .cells #[.int .u64 t305, .int .i64 t306, .int .i64 t307, .int .i64 t308, .int .i64 t309] 36 (0, 0)) (by (with_reducible repeat (first | apply qn | apply qd | apply qa)); refine bU (cs := #[.int .u64 t305, .int .i64 t306, .int .i64 t307, .int .i64 t308, .int .i64 0]) ?_ 4 _ rfl; (with_reducible repeat (first | apply qn | apply qd | apply qa)); refine bU (cs := #[.int .u64 t305, .int .i64 t306, .int .i64 t307, .int .i64 0, .int .i64 0]) ?_ 3 _ rfl; (with_reducible repeat (first | apply qn | apply qd | apply qa)); refine bU (cs := #[.int .u64 t305, .int .i64 t306, .int .i64 0, .int .i64 0, .int .i64 0]) ?_ 2 _ rfl; (with_reducible repeat (first | apply qn | apply qd | apply qa)); refine bU (cs := #[.int .u64 t305, .int .i64 0, .int .i64 0, .int .i64 0, .int .i64 0]) ?_ 1 _ rfl; (with_reducible repeat (first | apply qn | apply qd | apply qa)); refine bU (cs := #[.int .u64 0, .int .i64 0, .int .i64 0, .int .i64 0, .int .i64 0]) ?_ 0 _ rfl; exact qy BK311.out) hb); have n2_ := aM (bP (by repeat (first | (with_reducible first | exact HB.out | apply ea | apply en | apply ed | refine es ?_ GE294.out | refine es ?_ GE311.out) | exact HB.out)) hb); clear BK294 BK311 HB; have BK294 := n0_; have BK311 := n1_; have HB := n2_; clear n0_ n1_ n2_; (try clear hb); (try clear hb2); (try clear hk); (try clear hi)) | ((with_reducible refine gate_dst (N := 11) rfl ?_); refine box_event ?hg (N := 11) ?hd (cs := #[.int .u64 0, .int .i64 0, .int .i64 0, .int .i64 0, .int .i64 0]) (t := 38) ?hr ?_; (case hd | hg => rfl); (case hr => first | (go_simp; done) | (go_simp; rfl)); intro gb318 hg w29 hbox hb; have n0_ := aM (bB (g := gb294) (qy BK294.out) hb); have n1_ := aM (bB (g := gb311) (qy BK311.out) hb); have n2_ := aM (bP (by repeat (first | (with_reducible first | exact HB.out | apply ea | apply en | apply ed | refine es ?_ GE294.out | refine es ?_ GE311.out) | exact HB.out)) hb); have n3_ := aM (hbox); have n4_ := aM ((by rw [hg]; exact (bZ (by repeat (first | (with_reducible first | exact HB.out | apply ea | apply en | apply ed | refine es ?_ GE294.out | refine es ?_ GE311.out) | exact HB.out))) : w.heap.size ≤ gb318)); have n5_ := n4_; have n6_ := aM ((by rw [hg]; exact Nat.ne_of_lt (blk_lt (g := gb294) (qy BK294.out)) : gb294 ≠ gb318)); have n7_ := aM ((by rw [hg]; exact Nat.ne_of_gt (blk_lt (g := gb294) (qy BK294.out)) : gb318 ≠ gb294)); have n8_ := aM ((by rw [hg]; exact Nat.ne_of_lt (blk_lt (g := gb311) (qy BK311.out)) : gb311 ≠ gb318)); have n9_ := aM ((by rw [hg]; exact Nat.ne_of_gt (blk_lt (g := gb311) (qy BK311.out)) : gb318 ≠ gb311)); clear BK294 BK311 HB; have BK294 := n0_; have BK311 := n1_; have HB := n2_; have BK318 := n3_; have GW318 := n4_; have GE318 := n5_; have NB294_318 := n6_; have NB318_294 := n7_; have NB311_318 := n8_; have NB318_311 := n9_; clear n0_ n1_ n2_ n3_ n4_ n5_ n6_ n7_ n8_ n9_; clear hb hbox hg; have hnb30 := NB318_294.out; have hnc30 := NB294_318.out; have hnb31 := NB318_311.out; have hnc31 := NB311_318.out; have hcz32_0 := zC BK318.out 0 (.int .u64 0); have hcz32_1 := zC BK318.out 1 (.int .i64 0); have hcz32_2 := zC BK318.out 2 (.int .i64 0); have hcz32_3 := zC BK318.out 3 (.int .i64 0); have hcz32_4 := zC BK318.out 4 (.int .i64 0); have hfz32_0 := bF BK318.out 0; have hfz32_1 := bF BK318.out 1; have hfz32_2 := bF BK318.out 2; have hfz32_3 := bF BK318.out 3; have hfz32_4 := bF BK318.out 4))
      have n0_ : Aside0 ((((((w29.setCell ⟨gb318, 0, none⟩ (.int .u64 t312)).setCell ⟨gb318, 1, none⟩ (.int .i64 t313)).setCell ⟨gb318, 2, none⟩ (.int .i64 t314)).setCell ⟨gb318, 3, none⟩ (.int .i64 t315)).setCell ⟨gb318, 4, none⟩ (.int .i64 t316)).heap[gb294]? = some (.cells #[.int .u64 a0_0, .int .i64 a0_1, .int .i64 a0_2, .int .i64 a0_3, .int .i64 a0_4] 38 (0, 0))) := ⟨by (with_reducible repeat (first | apply qn | apply qd | apply qa)); refine bR ?_ NB294_318.out _; (with_reducible repeat (first | apply qn | apply qd | apply qa)); refine bR ?_ NB294_318.out _; (with_reducible repeat (first | apply qn | apply qd | apply qa)); refine bR ?_ NB294_318.out _; (with_reducible repeat (first | apply qn | apply qd | apply qa)); refine bR ?_ NB294_318.out _; (with_reducible repeat (first | apply qn | apply qd | apply qa)); refine bR ?_ NB294_318.out _; exact qy BK294.out⟩
      have n1_ : Aside0 ((((((w29.setCell ⟨gb318, 0, none⟩ (.int .u64 t312)).setCell ⟨gb318, 1, none⟩ (.int .i64 t313)).setCell ⟨gb318, 2, none⟩ (.int .i64 t314)).setCell ⟨gb318, 3, none⟩ (.int .i64 t315)).setCell ⟨gb318, 4, none⟩ (.int .i64 t316)).heap[gb311]? = some (.cells #[.int .u64 t305, .int .i64 t306, .int .i64 t307, .int .i64 t308, .int .i64 t309] 36 (0, 0))) := ⟨by (with_reducible repeat (first | apply qn | apply qd | apply qa)); refine bR ?_ NB311_318.out _; (with_reducible repeat (first | apply qn | apply qd | apply qa)); refine bR ?_ NB311_318.out _; (with_reducible repeat (first | apply qn | apply qd | apply qa)); refine bR ?_ NB311_318.out _; (with_reducible repeat (first | apply qn | apply qd | apply qa)); refine bR ?_ NB311_318.out _; (with_reducible repeat (first | apply qn | apply qd | apply qa)); refine bR ?_ NB311_318.out _; exact qy BK311.out⟩
      have n2_ : Aside0 ((((((w29.setCell ⟨gb318, 0, none⟩ (.int .u64 t312)).setCell ⟨gb318, 1, none⟩ (.int .i64 t313)).setCell ⟨gb318, 2, none⟩ (.int .i64 t314)).setCell ⟨gb318, 3, none⟩ (.int .i64 t315)).setCell ⟨gb318, 4, none⟩ (.int .i64 t316)).heap[gb318]? = some (.cells #[.int .u64 t312, .int .i64 t313, .int .i64 t314, .int .i64 t315, .int .i64 t316] 38 (0, 0))) := ⟨by (with_reducible repeat (first | apply qn | apply qd | apply qa)); refine bU (cs := #[.int .u64 t312, .int .i64 t313, .int .i64 t314, .int .i64 t315, .int .i64 0]) ?_ 4 _ rfl; (with_reducible repeat (first | apply qn | apply qd | apply qa)); refine bU (cs := #[.int .u64 t312, .int .i64 t313, .int .i64 t314, .int .i64 0, .int .i64 0]) ?_ 3 _ rfl; (with_reducible repeat (first | apply qn | apply qd | apply qa)); refine bU (cs := #[.int .u64 t312, .int .i64 t313, .int .i64 0, .int .i64 0, .int .i64 0]) ?_ 2 _ rfl; (with_reducible repeat (first | apply qn | apply qd | apply qa)); refine bU (cs := #[.int .u64 t312, .int .i64 0, .int .i64 0, .int .i64 0, .int .i64 0]) ?_ 1 _ rfl; (with_reducible repeat (first | apply qn | apply qd | apply qa)); refine bU (cs := #[.int .u64 0, .int .i64 0, .int .i64 0, .int .i64 0, .int .i64 0]) ?_ 0 _ rfl; exact qy BK318.out⟩
      have n3_ : Aside0 (Below w.heap.size w (((((w29.setCell ⟨gb318, 0, none⟩ (.int .u64 t312)).setCell ⟨gb318, 1, none⟩ (.int .i64 t313)).setCell ⟨gb318, 2, none⟩ (.int .i64 t314)).setCell ⟨gb318, 3, none⟩ (.int .i64 t315)).setCell ⟨gb318, 4, none⟩ (.int .i64 t316))) := ⟨by repeat (first | (with_reducible first | exact HB.out | apply ea | apply en | apply ed | refine es ?_ GE294.out | refine es ?_ GE311.out | refine es ?_ GE318.out) | exact HB.out)⟩
      (try clear BK294)
      (try clear BK311)
      (try clear BK318)
      (try clear HB)
      generalize (((((w29.setCell ⟨gb318, 0, none⟩ (.int .u64 t312)).setCell ⟨gb318, 1, none⟩ (.int .i64 t313)).setCell ⟨gb318, 2, none⟩ (.int .i64 t314)).setCell ⟨gb318, 3, none⟩ (.int .i64 t315)).setCell ⟨gb318, 4, none⟩ (.int .i64 t316)) = w33 at n0_ n1_ n2_ n3_ ⊢
      have BK294 := n0_
      have BK311 := n1_
      have BK318 := n2_
      have HB := n3_
      clear n0_ n1_ n2_ n3_
      have n0_ := aM (blk_drew BK294.out)
      have n1_ := aM (blk_drew BK311.out)
      have n2_ := aM (blk_drew BK318.out)
      have n3_ := aM (below_drew1 HB.out)
      clear BK294
      clear BK311
      clear BK318
      clear HB
      have BK294 := n0_
      have BK311 := n1_
      have BK318 := n2_
      have HB := n3_
      clear n0_ n1_ n2_ n3_
      refine start_ (n := 20) (S := fun w' => w'.cell? ⟨gb311, 0, none⟩ = some (.int .u64 t305) ∧ w'.cell? ⟨gb311, 1, none⟩ = some (.int .i64 t306) ∧ w'.cell? ⟨gb311, 2, none⟩ = some (.int .i64 t307) ∧ w'.cell? ⟨gb311, 3, none⟩ = some (.int .i64 t308) ∧ w'.cell? ⟨gb311, 4, none⟩ = some (.int .i64 t309) ∧ w'.cell? ⟨gb318, 0, none⟩ = some (.int .u64 t312) ∧ w'.cell? ⟨gb318, 1, none⟩ = some (.int .i64 t313) ∧ w'.cell? ⟨gb318, 2, none⟩ = some (.int .i64 t314) ∧ w'.cell? ⟨gb318, 3, none⟩ = some (.int .i64 t315) ∧ w'.cell? ⟨gb318, 4, none⟩ = some (.int .i64 t316)) (ds := []) b68_ (by kernel_rfl) rfl rfl ⟨(bC BK311.out 0).trans rfl, (bC BK311.out 1).trans rfl, (bC BK311.out 2).trans rfl, (bC BK311.out 3).trans rfl, (bC BK311.out 4).trans rfl, (bC BK318.out 0).trans rfl, (bC BK318.out 1).trans rfl, (bC BK318.out 2).trans rfl, (bC BK318.out 3).trans rfl, (bC BK318.out 4).trans rfl⟩ (fun hHeld => ?_); refine with_tabW bureaulaw18_AuditTexts.tab9 bureaulaw18_AuditTexts.bits9 (fun HT_ HW_ => ?_)
      generalize w33.drew = w34 at BK294 BK311 BK318 HB hHeld ⊢
      refine pure_ (i := 0) (N := some 39) (v := ?_) (a' := ?_) b69_ rfl rfl (any_of HT_.out (by kernel_rfl)) (fun _ _ _ h => h) (Or.inl ⟨by rfl, ?_⟩) ?_ ?_
      rotate_left
      ·intro w'
       go_simp
       with_reducible rfl
      rotate_left
      ·simp only [Act.put, sA, sZ, sS, i64_w, i32_w]
       rfl
      refine pure_ (i := 1) (N := some 40) (v := ?_) (a' := ?_) b70_ rfl rfl (any_of HT_.out (by kernel_rfl)) (fun _ _ _ h => h) (Or.inl ⟨by rfl, ?_⟩) ?_ ?_
      rotate_left
      ·intro w'
       go_simp
       with_reducible rfl
      rotate_left
      ·simp only [Act.put, sA, sZ, sS, i64_w, i32_w]
       rfl
      refine pure_ (i := 2) (N := some 41) (v := ?_) (a' := ?_) b71_ rfl rfl (any_of HT_.out (by kernel_rfl)) (fun _ _ _ h => h) (Or.inl ⟨by rfl, ?_⟩) ?_ ?_
      rotate_left
      ·intro w'
       go_simp
       with_reducible rfl
      rotate_left
      ·simp only [Act.put, sA, sZ, sS, i64_w, i32_w]
       rfl
      refine pure_ (i := 3) (N := some 42) (v := ?_) (a' := ?_) b72_ rfl rfl (any_of HT_.out (by kernel_rfl)) (fun _ _ _ h => h) (Or.inl ⟨by rfl, ?_⟩) ?_ ?_
      rotate_left
      ·intro w'
       go_simp
       with_reducible rfl
      rotate_left
      ·simp only [Act.put, sA, sZ, sS, i64_w, i32_w]
       rfl
      refine pure_ (i := 4) (N := some 43) (v := ?_) (a' := ?_) b73_ rfl rfl (any_of HT_.out (by kernel_rfl)) (fun _ _ _ h => h) (Or.inl ⟨by rfl, ?_⟩) ?_ ?_
      rotate_left
      ·intro w'
       go_simp
       with_reducible rfl
      rotate_left
      ·simp only [Act.put, sA, sZ, sS, i64_w, i32_w]
       rfl
      refine pure_ (i := 5) (N := some 44) (v := ?_) (a' := ?_) b74_ rfl rfl (any_of HT_.out (by kernel_rfl)) (fun _ _ _ h => h) (Or.inl ⟨by rfl, ?_⟩) ?_ ?_
      rotate_left
      ·intro w'
       go_simp
       with_reducible rfl
      rotate_left
      ·simp only [Act.put, sA, sZ, sS, i64_w, i32_w]
       rfl
      refine pure_ (i := 6) (N := some 45) (v := ?_) (a' := ?_) b75_ rfl rfl (any_of HT_.out (by kernel_rfl)) (fun _ _ _ h => h) (Or.inl ⟨by rfl, ?_⟩) ?_ ?_
      rotate_left
      ·intro w'
       go_simp
       with_reducible rfl
      rotate_left
      ·simp only [Act.put, sA, sZ, sS, i64_w, i32_w]
       rfl
      refine pure_ (i := 7) (N := some 46) (v := ?_) (a' := ?_) b76_ rfl rfl (any_of HT_.out (by kernel_rfl)) (fun _ _ _ h => h) (Or.inl ⟨by rfl, ?_⟩) ?_ ?_
      rotate_left
      ·intro w'
       go_simp
       with_reducible rfl
      rotate_left
      ·simp only [Act.put, sA, sZ, sS, i64_w, i32_w]
       rfl
      refine pure_ (i := 8) (N := some 47) (v := ?_) (a' := ?_) b77_ rfl rfl (any_of HT_.out (by kernel_rfl)) (fun _ _ _ h => h) (Or.inl ⟨by rfl, ?_⟩) ?_ ?_
      rotate_left
      ·intro w'
       go_simp
       with_reducible rfl
      rotate_left
      ·simp only [Act.put, sA, sZ, sS, i64_w, i32_w]
       rfl
      refine take_ (i := 9) (N := some 48) (v := ?_) (a' := ?_) b78_ rfl rfl (take_ofW HT_.out HW_.out (by kernel_rfl)) (fun _ _ _ h => h) (Or.inl ⟨by rfl, ?_⟩) hHeld ?_ ?_
      rotate_left
      ·rintro w' ⟨s0, s1, s2, s3, s4, s5, s6, s7, s8, s9⟩
       go_simp
       with_reducible rfl
      rotate_left
      ·simp only [Act.put, sA, sZ, sS, i64_w, i32_w]
       rfl
      refine take_ (i := 10) (N := some 49) (v := ?_) (a' := ?_) b79_ rfl rfl (take_ofW HT_.out HW_.out (by kernel_rfl)) (fun _ _ _ h => h) (Or.inl ⟨by rfl, ?_⟩) hHeld ?_ ?_
      rotate_left
      ·rintro w' ⟨s0, s1, s2, s3, s4, s5, s6, s7, s8, s9⟩
       go_simp
       with_reducible rfl
      rotate_left
      ·simp only [Act.put, sA, sZ, sS, i64_w, i32_w]
       rfl
      refine one_ (i := 11) (N := some 50) b80_ rfl rfl (one_of HT_.out (by kernel_rfl)) (by decide) (fun K hK => ?_)
      refine goes_ Tryd.func14 (by kernel_rfl) rfl #[.agg #[.int .u64 t312, .int .i64 t313, .int .i64 t314, .int .i64 t315, .int .i64 t316]] (by rfl) rfl rfl (by (try simp only [mT, mC, mN]); first | done | rfl | (simp only [lD, lT]; rfl)) ?_
      with_reducible refine (bureaulaw18_theirs.calls t312 t313 t314 t315 t316 t319 t320 t321 t322 t323 _ A15.out).mono ?_
      rintro e w35 ⟨rfl, hb⟩
      refine ⟨_, rfl, ?_⟩
      have n0_ := aM (bB (g := gb294) (qy BK294.out) hb)
      have n1_ := aM (bB (g := gb311) (qy BK311.out) hb)
      have n2_ := aM (bB (g := gb318) (qy BK318.out) hb)
      have n3_ := aM (bP (by repeat (first | (with_reducible first | exact HB.out | apply ea | apply en | apply ed | refine es ?_ GE294.out | refine es ?_ GE311.out | refine es ?_ GE318.out) | exact HB.out)) hb)
      clear BK294
      clear BK311
      clear BK318
      clear HB
      have BK294 := n0_
      have BK311 := n1_
      have BK318 := n2_
      have HB := n3_
      clear n0_ n1_ n2_ n3_
      (try clear hb)
      (try clear hb2)
      (try clear hk)
      (try clear hi)
      refine hK.out _ _ ⟨(bC BK311.out 0).trans rfl, (bC BK311.out 1).trans rfl, (bC BK311.out 2).trans rfl, (bC BK311.out 3).trans rfl, (bC BK311.out 4).trans rfl, (bC BK318.out 0).trans rfl, (bC BK318.out 1).trans rfl, (bC BK318.out 2).trans rfl, (bC BK318.out 3).trans rfl, (bC BK318.out 4).trans rfl⟩ (fun hHeld => ?_)
      clear hK K
      refine norm_ (a' := ?_) ?_ ?_
      rotate_left
      ·show Act.put _ (some 50) _ = _
       simp only [Act.put, sA, sZ, sS, i64_w, i32_w]
       rfl
      refine pure_ (i := 12) (N := some 51) (v := ?_) (a' := ?_) b81_ rfl rfl (any_of HT_.out (by kernel_rfl)) (fun _ _ _ h => h) (Or.inl ⟨by rfl, ?_⟩) ?_ ?_
      rotate_left
      ·intro w'
       go_simp
       with_reducible rfl
      rotate_left
      ·simp only [Act.put, sA, sZ, sS, i64_w, i32_w]
       rfl
      refine pure_ (i := 13) (N := some 52) (v := ?_) (a' := ?_) b82_ rfl rfl (any_of HT_.out (by kernel_rfl)) (fun _ _ _ h => h) (Or.inl ⟨by rfl, ?_⟩) ?_ ?_
      rotate_left
      ·intro w'
       go_simp
       with_reducible rfl
      rotate_left
      ·simp only [Act.put, sA, sZ, sS, i64_w, i32_w]
       rfl
      refine pure_ (i := 14) (N := some 53) (v := ?_) (a' := ?_) b83_ rfl rfl (any_of HT_.out (by kernel_rfl)) (fun _ _ _ h => h) (Or.inl ⟨by rfl, ?_⟩) ?_ ?_
      rotate_left
      ·intro w'
       go_simp
       with_reducible rfl
      rotate_left
      ·simp only [Act.put, sA, sZ, sS, i64_w, i32_w]
       rfl
      refine pure_ (i := 15) (N := some 54) (v := ?_) (a' := ?_) b84_ rfl rfl (any_of HT_.out (by kernel_rfl)) (fun _ _ _ h => h) (Or.inl ⟨by rfl, ?_⟩) ?_ ?_
      rotate_left
      ·intro w'
       go_simp
       with_reducible rfl
      rotate_left
      ·simp only [Act.put, sA, sZ, sS, i64_w, i32_w]
       rfl
      refine pure_ (i := 16) (N := some 55) (v := ?_) (a' := ?_) b85_ rfl rfl (any_of HT_.out (by kernel_rfl)) (fun _ _ _ h => h) (Or.inl ⟨by rfl, ?_⟩) ?_ ?_
      rotate_left
      ·intro w'
       go_simp
       with_reducible rfl
      rotate_left
      ·simp only [Act.put, sA, sZ, sS, i64_w, i32_w]
       rfl
      refine pure_ (i := 17) (N := some 56) (v := ?_) (a' := ?_) b86_ rfl rfl (any_of HT_.out (by kernel_rfl)) (fun _ _ _ h => h) (Or.inl ⟨by rfl, ?_⟩) ?_ ?_
      rotate_left
      ·intro w'
       go_simp
       with_reducible rfl
      rotate_left
      ·simp only [Act.put, sA, sZ, sS, i64_w, i32_w]
       rfl
      refine pure_ (i := 18) (N := some 57) (v := ?_) (a' := ?_) b87_ rfl rfl (any_of HT_.out (by kernel_rfl)) (fun _ _ _ h => h) (Or.inl ⟨by rfl, ?_⟩) ?_ ?_
      rotate_left
      ·intro w'
       go_simp
       with_reducible rfl
      rotate_left
      ·simp only [Act.put, sA, sZ, sS, i64_w, i32_w]
       rfl
      refine pure_ (i := 19) (N := some 4) (v := ?_) (a' := ?_) b88_ rfl rfl (any_of HT_.out (by kernel_rfl)) (fun _ _ _ h => h) (Or.inl ⟨by rfl, ?_⟩) ?_ ?_
      rotate_left
      ·intro w'
       go_simp
       with_reducible rfl
      rotate_left
      ·simp only [Act.put, sA, sZ, sS, i64_w, i32_w]
       rfl
      refine done_ (done_of HT_.out (by kernel_rfl)) ?_
      try go_wp2
      go_ret
      exact ⟨by first | rfl | (simp [errW_none, errW_some] <;> rfl) | (simp [*, errW_none, errW_some] <;> rfl), by repeat (first | (with_reducible first | exact HB.out | apply ea | apply en | apply ed | refine es ?_ GE294.out | refine es ?_ GE311.out | refine es ?_ GE318.out) | exact HB.out)⟩
     ·rw [if_neg c16] at H
      have c16b0 : (t305 == t319 && (t306 == t320 && (t307 == t321 && (t308 == t322 && (t309 == t323))))) = false := by simpa using c16
      (try (have c16b1 : decide (t305 = t319 && (t306 == t320 && (t307 == t321 && (t308 == t322 && (t309 == t323))))) = false := by simpa using c16))
      (try (have c16b2 : (t305 == t319 && (t306 == t320 && (t307 == t321 && (t308 == t322 && (t309 == t323))))) = false := by simpa using c16))
      (try (have c16b3 : ¬ (t305 = t319 && (t306 == t320 && (t307 == t321 && (t308 == t322 && (t309 == t323))))) := by simpa using c16))
      clear c16
      exact absurd (Option.some.inj H) (by rw [hrt]; decide)
    ·rw [if_neg c14] at H
     have c14b0 : (t302 == t304) = false := beq_eq_false_iff_ne.mpr c14
     have c14b1 : (t302 != t304) = true := bne_iff_ne.mpr c14
     exact absurd (Option.some.inj H) (by rw [hrt]; decide)
   ·rw [if_neg c13] at H
    have c13b0 : (t301.toList == t303.toList) = false := beq_eq_false_iff_ne.mpr c13
    have c13b1 : (t301.toList != t303.toList) = true := bne_iff_ne.mpr c13
    exact absurd (Option.some.inj H) (by rw [hrt]; decide)
 ·replace c4 := Bool.eq_false_iff.mpr c4
  subst c4
  have H1 : (some false) = some r := by rw [if_neg (show ¬ (false = true) by decide)] at H; exact H
  clear H
  have H := H1
  clear H1
  exact absurd (Option.some.inj H) (by rw [hrt]; decide)
end Go.Proofs.YtcbiilbmldinhaaDoor.PB
end

section
namespace Go.Proofs.YtcbiilbmldinhaaDoor.PB
open Go.Proofs.YtcbiilbmldinhaaDoorW.PrintWords
theorem Ev.pos {α : Type} {c : Prop} [Decidable c] {A B : Nat → Option α} {r : α} (h : c) (k : Ev A r) : Ev (fun n => if c then A n else B n) r := by
  obtain ⟨K, hK⟩ := k
  exact ⟨K, fun n hn => by show (if c then A n else B n) = _; rw [if_pos h]; exact hK n hn⟩
theorem Ev.neg {α : Type} {c : Prop} [Decidable c] {A B : Nat → Option α} {r : α} (h : ¬ c) (k : Ev B r) : Ev (fun n => if c then A n else B n) r := by
  obtain ⟨K, hK⟩ := k
  exact ⟨K, fun n hn => by show (if c then A n else B n) = _; rw [if_neg h]; exact hK n hn⟩
theorem Ev.ite' {α : Type} {c : Prop} [Decidable c] {A B : Nat → Option α} {r : α} (h1 : c → Ev A r) (h2 : ¬ c → Ev B r) : Ev (fun n => if c then A n else B n) r := by
  by_cases h : c
  · exact Ev.pos h (h1 h)
  · exact Ev.neg h (h2 h)
theorem ev_val {α : Type} {g : Nat → Option α} {a b : α} (h : Ev g a) (e : a = b) : Ev g b := e ▸ h
end Go.Proofs.YtcbiilbmldinhaaDoor.PB
end

section
namespace Go.Proofs.YtcbiilbmldinhaaDoor.PB
open Go.RowKit Go.Proofs.YtcbiilbmldinhaaDoorW.PrintWords
set_option linter.unusedVariables false
theorem w1' {i n : Nat} (h : i < n) (hn : n ≤ 1000000000000000) : wrap64 ((i : Int) + 1) = ((i + 1 : Nat) : Int) := by unfold wrap64; omega
theorem wf_u64 {n : Int} (h : (Lit.int .u64 n).wf = true) : 0 ≤ n ∧ n < 18446744073709551616 := by
  have hmin : IntKind.u64.min = 0 := rfl
  have hmax : IntKind.u64.max = 18446744073709551615 := rfl
  simp only [Lit.wf, Bool.and_eq_true, decide_eq_true_eq, hmin, hmax] at h
  omega
theorem nat_of {a : Int} (h : 0 ≤ a ∧ a < 18446744073709551616) : ∃ n : Nat, a = (n : Int) ∧ n < 18446744073709551616 := by
  obtain ⟨n, rfl⟩ := Int.eq_ofNat_of_zero_le h.1
  exact ⟨n, rfl, by omega⟩
theorem rdN (l : List Int) (i : Nat) : rd l (i : Int) = l.getD i 0 := by unfold rd; rw [Int.toNat_natCast]
theorem ofBits_snoc (l : List Int) (m : Nat) (hm : m < 64) : ofBits (catsOf (l ++ [(m : Int)])) = ofBits (catsOf l) ||| 2 ^ m := by
  apply Nat.eq_of_testBit_eq
  intro i
  rw [ofBits_testBit, Nat.testBit_or, ofBits_testBit, Nat.testBit_two_pow]
  by_cases hi : i < 64
  · rw [catsOf_getD _ _ hi, catsOf_getD _ _ hi]
    have : decide (m = i) = decide ((i : Int) = (m : Int)) := by rw [decide_eq_decide]; omega
    rw [this]
    simp
  · have h1 : ∀ q : List Int, (catsOf q).getD i false = false := fun q => by
      rw [List.getD_eq_getElem?_getD, List.getElem?_eq_none (by rw [catsOf_len]; omega)]; rfl
    rw [h1, h1]
    simp; omega
theorem shl_one (m : Nat) (hm : m < 64) : shl .u64 1 (m : Int) = ((2 ^ m : Nat) : Int) := by
  unfold shl
  rw [Int.toNat_natCast, Nat.min_eq_left (by show m ≤ 64; omega), Int.one_mul, IntKind.wrap_u64, show (2 : Int) ^ m = ((2 ^ m : Nat) : Int) by rw [Int.natCast_pow]; rfl]
  have h : (2 : Nat) ^ m < 2 ^ 64 := Nat.pow_lt_pow_right (by decide) hm
  generalize (2 : Nat) ^ m = q at *
  omega
theorem ofBits_u64 (l : List Bool) (h : l.length = 64) : ofBits l < 18446744073709551616 := by
  have := ofBits_lt l
  rw [h] at this
  exact this
theorem or_shl (l : List Int) (m : Nat) (hm : m < 64) : Go.bits .or .u64 ((ofBits (catsOf l) : Nat) : Int) (shl .u64 1 (m : Int)) = ((ofBits (catsOf (l ++ [(m : Int)])) : Nat) : Int) := by
  have h : (2 : Nat) ^ m < 2 ^ 64 := Nat.pow_lt_pow_right (by decide) hm
  rw [shl_one m hm, u64_or_nat _ _ (ofBits_u64 _ (catsOf_len l)) h, ofBits_snoc l m hm]
theorem ofBits_none : ofBits (catsOf []) = 0 := by rw [catsOf_nil]; decide
theorem cats_contains (n i : Nat) (hi : i < 64) : (catsTo n 64).contains (i : Int) = n.testBit i := by
  unfold catsTo
  rw [Bool.eq_iff_iff, List.contains_iff_mem, List.mem_map]
  constructor
  · rintro ⟨j, hj, he⟩
    obtain rfl : j = i := by omega
    exact (List.mem_filter.1 hj).2
  · intro h
    exact ⟨i, List.mem_filter.2 ⟨List.mem_range.2 hi, h⟩, rfl⟩
theorem cats_mem (n : Nat) : ∀ x ∈ catsTo n 64, 0 ≤ x ∧ x < 64 := by
  intro x hx
  obtain ⟨j, hj, rfl⟩ := List.mem_map.1 hx
  have := List.mem_range.1 (List.mem_filter.1 hj).1
  omega
theorem of_cats (n : Nat) (hn : n < 18446744073709551616) : ofI (catsTo n 64) = ((n : Int), 0) := by
  rw [ofI_yes (cats_mem n)]
  have : ofBits (catsOf (catsTo n 64)) = n := ofBits_eq _ _ (catsOf_len _) hn (fun i hi => by rw [catsOf_getD _ _ hi, cats_contains n i hi])
  rw [this]
end Go.Proofs.YtcbiilbmldinhaaDoor.PB
end

section
namespace Go.Proofs.YtcbiilbmldinhaaDoor.PB
open Go.RowKit Go.Proofs.YtcbiilbmldinhaaDoorW.PrintWords
set_option linter.unusedVariables false
def bs (l : List UInt8) : ByteArray := ⟨l.toArray⟩
theorem bs_data (l : List UInt8) : (bs l).data.toList = l := rfl
theorem bs_size (l : List UInt8) : (bs l).size = l.length := by unfold bs ByteArray.size; simp
theorem bs_of (s : ByteArray) : bs s.data.toList = s := by unfold bs; simp
theorem bs_inj {a b : List UInt8} (h : bs a = bs b) : a = b := by have := congrArg (·.data.toList) h; exact this
theorem bs_append (a b : List UInt8) : bs a ++ bs b = bs (a ++ b) := by
  have : (bs a ++ bs b).data = (bs (a ++ b)).data := by simp [bs]
  exact ByteArray.ext this
theorem bs_toList (l : List UInt8) : (bs l).toList = l := (ByteArray.toList_eq _).trans (bs_data l)
theorem toList_inj {a b : ByteArray} (h : a.toList = b.toList) : a = b := by
  rw [ByteArray.toList_eq, ByteArray.toList_eq] at h
  rw [← bs_of a, ← bs_of b, h]
def dig2 (n : Nat) : List UInt8 := if n < 10 then [UInt8.ofNat (48 + n)] else [UInt8.ofNat (48 + n / 10), UInt8.ofNat (48 + n % 10)]
theorem dig2_is (n : Nat) (h : n < 64) : Lib.decDigits n = dig2 n := by
  unfold dig2
  rw [Lib.decDigits]
  split
  · rfl
  · rw [Lib.decDigits, dif_pos (by omega)]
    rfl
theorem dig2_len (n : Nat) : (dig2 n).length ≤ 2 := by unfold dig2; split <;> simp
theorem digits_ev : ∀ n : Nat, n < 64 → bureauref01_digits.f (n : Int) = some (bs (dig2 n)) := by
  have : ∀ n : Fin 64, bureauref01_digits.f ((n.val : Nat) : Int) = some (bs (dig2 n.val)) := by decide +kernel
  exact fun n h => this ⟨n, h⟩
theorem itoa_ev (n : Nat) (h : n < 64) : strconv_Itoa_40.f (n : Int) = some (bs (dig2 n)) := by
  unfold strconv_Itoa_40.f
  rw [if_pos (by omega), Int.toNat_natCast, dig2_is n h]; rfl
def tailD (cs : List Nat) : List UInt8 := cs.flatMap (fun c => 46 :: dig2 c)
def textOf : List Nat → List UInt8
  | [] => [45]
  | c :: r => dig2 c ++ tailD r
theorem tailD_len (cs : List Nat) : (tailD cs).length ≤ 3 * cs.length := by
  induction cs with
  | nil => simp [tailD]
  | cons c r ih =>
    have := dig2_len c
    unfold tailD at ih ⊢
    simp only [List.flatMap_cons, List.length_append, List.length_cons]
    omega
theorem textOf_len (cs : List Nat) : (textOf cs).length ≤ 3 * cs.length + 1 := by
  cases cs with
  | nil => simp [textOf]
  | cons c r =>
    have := dig2_len c
    have := tailD_len r
    simp only [textOf, List.length_append, List.length_cons]
    omega
theorem join_is (c : Nat) (r : List Nat) : Lib.join ((c :: r).map dig2) [46] = textOf (c :: r) := by
  have h : ∀ (r : List Nat) (c : Nat), [(46 : UInt8)].intercalate ((c :: r).map dig2) = dig2 c ++ tailD r := by
    intro r
    induction r with
    | nil => intro c; simp [List.intercalate, tailD]
    | cons d r ih =>
      intro c
      have := ih d
      simp only [List.map_cons, List.intercalate, tailD] at this ⊢
      simp [List.intersperse, this]
  exact h r c
def cats (n : Nat) : List Nat := (List.range 64).filter (fun i => n.testBit i)
theorem cats_is (n : Nat) : catsTo n 64 = (cats n).map (fun i : Nat => (i : Int)) := rfl
theorem cats_lt (n : Nat) : ∀ c ∈ cats n, c < 64 := fun c hc => List.mem_range.1 (List.mem_filter.1 hc).1
theorem cats_len (n : Nat) : (cats n).length ≤ 64 := Nat.le_trans (List.length_filter_le _ _) (by simp)
theorem cats_zero : cats 0 = [] := by unfold cats; simp
theorem cats_none {n : Nat} (hn : n < 18446744073709551616) (h : cats n = []) : n = 0 := by
  have h2 := of_cats n hn
  rw [cats_is, h] at h2
  have h3 : ofI ([] : List Int) = (0, 0) := by
    rw [ofI_yes (fun x hx => absurd hx (by simp)), ofBits_none]; rfl
  rw [List.map_nil, h3] at h2
  have := congrArg Prod.fst h2
  simp only at this
  omega
theorem takeS {α : Type} (l : List α) (i : Nat) (h : i < l.length) : l.take (i + 1) = l.take i ++ [l[i]] := by
  rw [List.take_add_one, List.getElem?_eq_getElem h]; rfl
theorem print_ev (n : Nat) (hn : n < 18446744073709551616) : Ev (fun k => label_Print.f k (n : Int)) (bs (textOf (cats n))) := by
  unfold label_Print.f
  by_cases h0 : (n : Int) = 0
  · refine Ev.pos h0 ?_
    obtain rfl : n = 0 := by omega
    rw [cats_zero]
    exact Ev.now _
  · refine Ev.neg h0 ?_
    have hcl := cats_len n
    have hclt := cats_lt n
    have hne : cats n ≠ [] := fun e => h0 (by rw [cats_none hn e]; rfl)
    refine Ev.bind (a := (cats n).map (fun i : Nat => (i : Int))) (by unfold label_Cats.f; rw [if_pos (by omega), Int.toNat_natCast, cats_is]; exact Ev.now _) ?_
    generalize cats n = cs at *
    have loop : ∀ (d i : Nat), i + d = cs.length → Ev (fun k => label_Print.l0 k ((cs.take i).map (fun c => bs (dig2 c))) (cs.map (fun i : Nat => (i : Int))) ((cs.map (fun i : Nat => (i : Int))).length : Int) (i : Int)) (bs (textOf cs)) := by
      intro d
      induction d with
      | zero =>
        intro i hi
        refine Ev.step (fun k => by simp only [label_Print.l0]; rfl) ?_
        refine Ev.neg (by rw [List.length_map]; omega) ?_
        rw [List.take_of_length_le (by omega)]
        refine Ev.bind (a := bs (textOf cs)) ?_ (Ev.now _)
        unfold strings_Join.f
        obtain ⟨c, r, rfl⟩ : ∃ c r, cs = c :: r := by cases cs with | nil => exact absurd rfl hne | cons c r => exact ⟨c, r, rfl⟩
        have e : ((c :: r).map (fun c => bs (dig2 c))).map (fun x : ByteArray => x.data.toList) = (c :: r).map dig2 := by rw [List.map_map]; rfl
        rw [e, show (⟨#[46]⟩ : ByteArray).data.toList = [46] from rfl, join_is]
        have := textOf_len (c :: r)
        rw [if_pos ⟨by rw [List.length_map]; omega, by omega⟩]
        exact Ev.now _
      | succ d ih =>
        intro i hi
        have hlt : i < cs.length := by omega
        refine Ev.step (fun k => by simp only [label_Print.l0]; rfl) ?_
        refine Ev.pos (by rw [List.length_map]; omega) (Ev.pos (by omega) (Ev.pos (by rw [List.length_map]; omega) ?_))
        have hr : rd (cs.map (fun i : Nat => (i : Int))) (i : Int) = ((cs[i] : Nat) : Int) := by
          rw [rdN, List.getD_eq_getElem?_getD, List.getElem?_map, List.getElem?_eq_getElem hlt]; rfl
        rw [hr, itoa_ev _ (hclt _ (List.getElem_mem hlt))]
        refine Ev.bind (Ev.now _) (Ev.pos (by rw [List.length_map, List.length_take]; omega) ?_)
        rw [w1' hlt (by omega)]
        have := ih (i + 1) (by omega)
        rw [takeS cs i hlt, List.map_append] at this
        exact this
    exact loop cs.length 0 (by omega)
theorem tailD_snoc (l : List Nat) (c : Nat) : tailD (l ++ [c]) = tailD l ++ 46 :: dig2 c := by unfold tailD; rw [List.flatMap_append]; simp
theorem rprint_ev (n : Nat) (hn : n < 18446744073709551616) : Ev (fun k => bureauref01_Print.f k (n : Int)) (bs (textOf (cats n))) := by
  unfold bureauref01_Print.f
  have hcl := cats_len n
  have hclt := cats_lt n
  refine Ev.bind (a := (cats n).map (fun i : Nat => (i : Int))) (by unfold bureauref01_Cats.f; rw [if_pos (by omega), Int.toNat_natCast, cats_is]; exact Ev.now _) ?_
  generalize cats n = cs at *
  cases cs with
  | nil => exact Ev.pos rfl (Ev.now _)
  | cons c r =>
    refine Ev.neg (by simp; omega) (Ev.pos (by simp) ?_)
    have hr0 : rd ((c :: r).map (fun i : Nat => (i : Int))) 0 = (c : Int) := rfl
    rw [hr0, digits_ev c (hclt c List.mem_cons_self)]
    refine Ev.bind (Ev.now _) ?_
    have loop : ∀ (d i : Nat), i + d = r.length → Ev (fun k => bureauref01_Print.l0 k ((c :: r).map (fun i : Nat => (i : Int))) (bs (dig2 c ++ tailD (r.take i))) ((i : Int) + 1)) (bs (textOf (c :: r))) := by
      intro d
      induction d with
      | zero =>
        intro i hi
        refine Ev.step (fun k => by simp only [bureauref01_Print.l0]; rfl) ?_
        refine Ev.neg (by rw [List.length_map, List.length_cons]; omega) ?_
        rw [List.take_of_length_le (by omega)]
        exact Ev.now _
      | succ d ih =>
        intro i hi
        have hlt : i < r.length := by omega
        have hlc : r.length ≤ 63 := by simp at hcl; omega
        have hd := dig2_len c
        have ht := tailD_len (r.take i)
        rw [List.length_take] at ht
        refine Ev.step (fun k => by simp only [bureauref01_Print.l0]; rfl) ?_
        refine Ev.pos (by rw [List.length_map, List.length_cons]; omega) (Ev.pos (by rw [bs_size, List.length_append]; omega) (Ev.pos (by omega) ?_))
        have hr : rd ((c :: r).map (fun i : Nat => (i : Int))) ((i : Int) + 1) = ((r[i] : Nat) : Int) := by
          rw [show ((i : Int) + 1) = ((i + 1 : Nat) : Int) by omega, rdN, List.getD_eq_getElem?_getD, List.getElem?_map, List.getElem?_cons_succ, List.getElem?_eq_getElem hlt]; rfl
        rw [hr, digits_ev _ (hclt _ (List.mem_cons_of_mem _ (List.getElem_mem hlt)))]
        have hd2 := dig2_len r[i]
        have e1 : (bs (dig2 c ++ tailD (r.take i)) ++ (⟨#[46]⟩ : ByteArray)) ++ bs (dig2 r[i]) = bs (dig2 c ++ tailD (r.take (i + 1))) := by
          rw [show (⟨#[46]⟩ : ByteArray) = bs [46] from rfl, bs_append, bs_append, takeS r i hlt, tailD_snoc]
          simp
        refine Ev.bind (Ev.now _) (Ev.pos ?_ ?_)
        · rw [show (⟨#[46]⟩ : ByteArray) = bs [46] from rfl, bs_append, bs_size, bs_size]
          simp only [List.length_append, List.length_cons, List.length_nil]; omega
        · rw [e1, show wrap64 ((i : Int) + 1 + 1) = ((i + 1 : Nat) : Int) + 1 by unfold wrap64; omega]
          exact ih (i + 1) (by omega)
    have := loop r.length 0 (by omega)
    rw [List.take_zero, show tailD [] = [] from rfl, List.append_nil] at this
    exact this
end Go.Proofs.YtcbiilbmldinhaaDoor.PB
end

section
namespace Go.Proofs.YtcbiilbmldinhaaDoor.PB
open Go.RowKit Go.Proofs.YtcbiilbmldinhaaDoorW.PrintWords
set_option linter.unusedVariables false
theorem ofNat_toNat (k : Nat) (h : k < 256) : (UInt8.ofNat k).toNat = k := by simp [UInt8.toNat_ofNat']; omega
theorem scan_digit (d : Bool) (c n : Nat) (r : List UInt8) (m : List Bool) (hc : c < 10) (hn : n < 1000) : scanMarks d (UInt8.ofNat (48 + c) :: r) n m = scanMarks d r (n * 10 + c) m := by
  rw [scanMarks, ofNat_toNat _ (by omega), if_pos ⟨by omega, by omega, hn⟩]
  congr 1; omega
theorem scan_dig (d : Bool) (c : Nat) (r : List UInt8) (m : List Bool) (hc : c < 64) : scanMarks d (dig2 c ++ r) 0 m = scanMarks d r c m := by
  unfold dig2
  split
  · rw [List.cons_append, List.nil_append, scan_digit d c 0 r m (by omega) (by omega)]; congr 1; omega
  · rw [List.cons_append, List.cons_append, List.nil_append, scan_digit d (c / 10) 0 _ m (by omega) (by omega), scan_digit d (c % 10) _ r m (by omega) (by omega)]
    congr 1; omega
theorem scan_dot (c : Nat) (r : List UInt8) (m : List Bool) (hc : c < 64) : scanMarks false (46 :: r) c m = scanMarks false r 0 (m.set c true) := by
  rw [scanMarks, if_neg (by decide +revert), putMark_yes _ _ hc]
theorem scan_tail : ∀ (cs : List Nat) (c : Nat) (l : List Int), c < 64 → (∀ x ∈ cs, x < 64) → scanMarks false (tailD cs) c (catsOf l) = catsOf (l ++ ((c :: cs).map (fun i : Nat => (i : Int))))
  | [], c, l, hc, _ => by
    show scanMarks false [] c (catsOf l) = _
    rw [scanMarks, putMark_yes _ _ hc, catsOf_snoc _ _ hc]; rfl
  | x :: cs, c, l, hc, h => by
    have hx := h x List.mem_cons_self
    have e : tailD (x :: cs) = 46 :: (dig2 x ++ tailD cs) := by unfold tailD; rw [List.flatMap_cons]; rfl
    rw [e, scan_dot c _ _ hc, scan_dig _ _ _ _ hx, catsOf_snoc _ _ hc, scan_tail cs x _ hx (fun y hy => h y (List.mem_cons_of_mem _ hy))]
    simp
theorem dig2_head (c : Nat) (r : List UInt8) : ∃ a q, dig2 c ++ r = a :: q ∧ (c < 64 → 48 ≤ a.toNat) := by
  unfold dig2
  split
  · exact ⟨_, _, rfl, fun h => by rw [ofNat_toNat _ (by omega)]; omega⟩
  · exact ⟨_, _, rfl, fun h => by rw [ofNat_toNat _ (by omega)]; omega⟩
theorem not_dash (c : Nat) (r : List UInt8) (hc : c < 64) : ((bs (dig2 c ++ r)).toList == ([45] : List UInt8)) = false := by
  rw [bs_toList]
  obtain ⟨a, q, e, ha⟩ := dig2_head c r
  rw [e, beq_eq_false_iff_ne]
  intro he
  injection he with h1 _
  have := ha hc
  rw [h1] at this
  exact absurd this (by decide)
theorem scan_text (c : Nat) (cs : List Nat) (h : ∀ x ∈ c :: cs, x < 64) : labelScan (bs (textOf (c :: cs))) = ((ofBits (catsOf ((c :: cs).map (fun i : Nat => (i : Int)))) : Nat) : Int) := by
  have hc := h c List.mem_cons_self
  unfold labelScan scanAll
  rw [show textOf (c :: cs) = dig2 c ++ tailD cs from rfl, not_dash c _ hc, bs_data, scan_dig _ _ _ _ hc, ← catsOf_nil, scan_tail cs c [] hc (fun y hy => h y (List.mem_cons_of_mem _ hy)), List.nil_append]
theorem scan_zero : labelScan (bs (textOf [])) = 0 := by decide +kernel
theorem bits_cats (n : Nat) (hn : n < 18446744073709551616) : ofBits (catsOf ((cats n).map (fun i : Nat => (i : Int)))) = n := by
  rw [← cats_is]
  exact ofBits_eq _ _ (catsOf_len _) hn (fun i hi => by rw [catsOf_getD _ _ hi, cats_contains n i hi])
theorem scan_print (n : Nat) (hn : n < 18446744073709551616) : labelScan (bs (textOf (cats n))) = (n : Int) := by
  cases h : cats n with
  | nil => rw [scan_zero, cats_none hn h]; rfl
  | cons c r => rw [scan_text c r (fun x hx => cats_lt n x (by rw [h]; exact hx)), ← h, bits_cats n hn]
theorem text_inj {a b : Nat} (ha : a < 18446744073709551616) (hb : b < 18446744073709551616) (h : textOf (cats a) = textOf (cats b)) : a = b := by
  have h1 := scan_print a ha
  rw [h, scan_print b hb] at h1
  omega
def IsText (s : ByteArray) (n : Nat) : Prop := n < 18446744073709551616 ∧ s = bs (textOf (cats n))
theorem labelScan_nat (s : ByteArray) (h : (scanAll s).length = 64) : ∃ n : Nat, labelScan s = (n : Int) ∧ n < 18446744073709551616 := ⟨_, rfl, ofBits_u64 _ h⟩
theorem scanMarks_len (d : Bool) : ∀ (l : List UInt8) (n : Nat) (m : List Bool), (scanMarks d l n m).length = m.length
  | [], n, m => by rw [scanMarks, putMark_len]
  | c :: r, n, m => by
    rw [scanMarks]
    split
    · exact scanMarks_len d r _ m
    · rw [scanMarks_len d r 0 _, putMark_len]
theorem scanAll_len (s : ByteArray) : (scanAll s).length = 64 := by unfold scanAll; rw [scanMarks_len]; simp
theorem rparse_yes {s : ByteArray} {n : Nat} (h : IsText s n) : Ev (fun k => bureauref01_Parse.f k s) ((n : Int), 0) := by
  obtain ⟨hn, rfl⟩ := h
  unfold bureauref01_Parse.f
  have hl := textOf_len (cats n)
  have hc := cats_len n
  by_cases h192 : (bs (textOf (cats n))).size ≤ 192
  · refine Ev.pos h192 ?_
    rw [scan_print n hn]
    refine Ev.bind (rprint_ev n hn) ?_
    rw [if_pos rfl, if_pos rfl]
    exact Ev.now _
  · exfalso
    rw [bs_size] at h192
    have : (textOf (cats n)).length ≤ 192 := by
      cases hq : cats n with
      | nil => simp [textOf]
      | cons c r =>
        rw [hq] at hc
        have := dig2_len c
        have := tailD_len r
        simp only [textOf, List.length_append]
        simp only [List.length_cons] at hc
        omega
    omega
theorem rparse_no {s : ByteArray} (h : ∀ n, ¬ IsText s n) : Ev (fun k => bureauref01_Parse.f k s) (0, 5) := by
  unfold bureauref01_Parse.f
  refine Ev.ite' (fun h192 => ?_) (fun _ => Ev.now _)
  obtain ⟨n, hn, hlt⟩ := labelScan_nat s (scanAll_len s)
  rw [hn]
  refine Ev.bind (rprint_ev n hlt) ?_
  have : ¬ (bs (textOf (cats n))).toList = s.toList := fun e => h n ⟨hlt, (toList_inj e).symm⟩
  rw [if_neg this, if_neg this]
  exact Ev.now _
def sp : List UInt8 → List (List UInt8)
  | [] => [[]]
  | x :: r => if x = 46 then [] :: sp r else match sp r with | [] => [[x]] | p :: ps => (x :: p) :: ps
theorem sp_ne (l : List UInt8) : sp l ≠ [] := by
  cases l with
  | nil => simp [sp]
  | cons x r => unfold sp; split; simp; split <;> simp
theorem sp_cut : ∀ (x y : List UInt8), (∀ c ∈ x, c ≠ 46) → sp (x ++ 46 :: y) = x :: sp y
  | [], y, _ => by simp [sp]
  | a :: x, y, h => by
    rw [List.cons_append, sp, if_neg (h a List.mem_cons_self), sp_cut x y (fun c hc => h c (List.mem_cons_of_mem _ hc))]
theorem sp_one : ∀ (x : List UInt8), (∀ c ∈ x, c ≠ 46) → sp x = [x]
  | [], _ => rfl
  | a :: x, h => by
    rw [sp, if_neg (h a List.mem_cons_self), sp_one x (fun c hc => h c (List.mem_cons_of_mem _ hc))]
def un : List (List UInt8) → List UInt8
  | [] => []
  | [x] => x
  | x :: y :: r => x ++ 46 :: un (y :: r)
theorem un_sp : ∀ l, un (sp l) = l
  | [] => rfl
  | x :: r => by
    have ih := un_sp r
    unfold sp
    split
    · rename_i h
      cases hs : sp r with
      | nil => exact absurd hs (sp_ne r)
      | cons p ps => rw [hs] at ih; rw [un, ih, h]; rfl
    · cases hs : sp r with
      | nil => exact absurd hs (sp_ne r)
      | cons p ps =>
        rw [hs] at ih
        cases ps with
        | nil => show un [x :: p] = _; rw [un] at ih ⊢; rw [ih]
        | cons q qs => show un ((x :: p) :: q :: qs) = _; rw [un] at ih ⊢; rw [List.cons_append, ih]
theorem split_is : ∀ (n : Nat) (l : List UInt8), l.length ≤ n → Lib.splitK [46] 0 (Lib.count l [46]) l = sp l := by
  intro n
  induction n with
  | zero =>
    intro l hl
    obtain rfl : l = [] := List.length_eq_zero_iff.1 (by omega)
    rfl
  | succ n ih =>
    intro l hl
    rcases (show Lib.index l [46] = -1 ∨ ∃ i : Nat, Lib.index l [46] = i by
      have := Lib.indexByte_ge l 46
      rw [← Lib.index_one] at this
      rcases Int.lt_or_le (Lib.index l [46]) 0 with h | h
      · left; omega
      · right; exact ⟨(Lib.index l [46]).toNat, by omega⟩) with h | ⟨i, h⟩
    · rw [Lib.count_miss h]
      show [l] = sp l
      rw [Lib.index_one] at h
      refine (sp_one l (fun c hc e => ?_)).symm
      obtain ⟨k, hk⟩ := List.getElem?_of_mem hc
      exact Lib.indexByte_none h k (by rw [hk, e])
    · rw [Lib.count_hit (by simp) h, Nat.add_comm]
      have hne : ¬ (Lib.index l [46] == -1) = true := fun e => by have := beq_iff_eq.1 e; omega
      rw [Lib.splitK, if_neg hne, h, Int.toNat_natCast]
      rw [Lib.index_one] at h
      obtain ⟨h1, h2⟩ := Lib.indexByte_some h
      have hlt := (List.getElem?_eq_some_iff.1 h1).1
      have e : l = l.take i ++ 46 :: l.drop (i + 1) := by
        have hd : l.drop i = 46 :: l.drop (i + 1) := by
          rw [List.drop_eq_getElem_cons hlt]
          congr 1
          have := List.getElem?_eq_getElem hlt
          rw [h1] at this
          exact (Option.some.inj this).symm
        rw [← hd, List.take_append_drop]
      conv => rhs; rw [e]
      rw [sp_cut _ _ (fun c hc e => ?_)]
      · show (l.take (i + 0)) :: Lib.splitK [46] 0 (Lib.count (l.drop (i + 1)) [46]) (l.drop (i + 1)) = _
        rw [ih (l.drop (i + 1)) (by rw [List.length_drop]; omega), Nat.add_zero]
      · obtain ⟨k, hk⟩ := List.getElem?_of_mem hc
        have hk2 := (List.getElem?_eq_some_iff.1 hk).1
        rw [List.length_take] at hk2
        rw [List.getElem?_take_of_lt (by omega), e] at hk
        exact h2 k (by omega) hk
theorem split_ev (s : ByteArray) (hs : s.size ≤ 4096) : strings_Split.f s (⟨#[46]⟩ : ByteArray) = some ((sp s.data.toList).map bs) := by
  unfold strings_Split.f
  rw [if_pos ⟨rfl, by omega⟩]
  congr 1
  have h := Lib.splitB_data ⟨#[46]⟩ 0 (Lib.countB s ⟨#[46]⟩) s
  rw [show (⟨#[46]⟩ : ByteArray).data.toList = [46] from rfl] at h
  rw [show Lib.countB s ⟨#[46]⟩ = Lib.count s.data.toList [46] from rfl] at h ⊢
  rw [split_is _ _ (Nat.le_refl _)] at h
  rw [← h, List.map_map]
  conv => lhs; rw [← List.map_id (Lib.splitB ⟨#[46]⟩ 0 (Lib.count s.data.toList [46]) s)]
  apply List.map_congr_left
  intro x _
  exact (bs_of x).symm
theorem dig2_nodot (c : Nat) (h : c < 64) : ∀ x ∈ dig2 c, x ≠ 46 := by
  intro x hx e
  subst e
  unfold dig2 at hx
  have : ∀ k, k < 10 → (46 : UInt8) ≠ UInt8.ofNat (48 + k) := by decide
  split at hx
  · exact this c (by omega) (List.mem_singleton.1 hx)
  · rcases List.mem_cons.1 hx with hx | hx
    · exact this (c / 10) (by omega) hx
    · exact this (c % 10) (by omega) (List.mem_singleton.1 hx)
theorem sp_text : ∀ (cs : List Nat) (c : Nat), (∀ x ∈ c :: cs, x < 64) → sp (dig2 c ++ tailD cs) = (c :: cs).map dig2
  | [], c, h => by
    rw [show tailD [] = [] from rfl, List.append_nil]
    exact sp_one _ (dig2_nodot c (h c List.mem_cons_self))
  | x :: cs, c, h => by
    have e : tailD (x :: cs) = 46 :: (dig2 x ++ tailD cs) := by unfold tailD; rw [List.flatMap_cons]; rfl
    rw [e, sp_cut _ _ (dig2_nodot c (h c List.mem_cons_self)), sp_text cs x (fun y hy => h y (List.mem_cons_of_mem _ hy))]
    rfl
theorem un_text : ∀ (cs : List Nat) (c : Nat), un ((c :: cs).map dig2) = dig2 c ++ tailD cs
  | [], c => by simp [un, tailD]
  | x :: cs, c => by
    have e : tailD (x :: cs) = 46 :: (dig2 x ++ tailD cs) := by unfold tailD; rw [List.flatMap_cons]; rfl
    show un (dig2 c :: dig2 x :: cs.map dig2) = _
    rw [un, e]
    have := un_text cs x
    rw [List.map_cons] at this
    rw [this]
end Go.Proofs.YtcbiilbmldinhaaDoor.PB
end

section
namespace Go.Proofs.YtcbiilbmldinhaaDoor.PB
open Go.RowKit Go.Proofs.YtcbiilbmldinhaaDoorW.PrintWords
set_option linter.unusedVariables false
theorem dig2_one {a : UInt8} {c : Nat} (hc : c < 64) (h : [a] = dig2 c) : c < 10 ∧ a.toNat = 48 + c := by
  unfold dig2 at h
  split at h
  · injection h with h _
    exact ⟨by assumption, by rw [h, ofNat_toNat _ (by omega)]⟩
  · injection h with _ h
    cases h
theorem dig2_two {a b : UInt8} {c : Nat} (hc : c < 64) (h : [a, b] = dig2 c) : 10 ≤ c ∧ a.toNat = 48 + c / 10 ∧ b.toNat = 48 + c % 10 := by
  unfold dig2 at h
  split at h
  · injection h with _ h
    cases h
  · injection h with h h2
    injection h2 with h2 _
    exact ⟨by omega, by rw [h, ofNat_toNat _ (by omega)], by rw [h2, ofNat_toNat _ (by omega)]⟩
theorem ofNat_is {a : UInt8} {k : Nat} (h : a.toNat = k) : a = UInt8.ofNat k := by
  have hk : k < 256 := by rw [← h]; exact a.toNat_lt
  exact UInt8.toNat_inj.1 (by rw [ofNat_toNat k hk, h])
theorem bt_bs (l : List UInt8) (i : Nat) (h : i < l.length) : bt (bs l) (i : Int) = ((l.getD i 0).toNat : Int) := by
  unfold bt
  rw [dif_pos (by rw [bs_size, Int.toNat_natCast]; exact h)]
  congr 2
  show (l.toArray)[i] = _
  rw [List.getElem_toArray, List.getD_eq_getElem?_getD, List.getElem?_eq_getElem h]; rfl
theorem cat_bad (k0 : Nat → Option (Int × Bool)) (p : ByteArray) (h : ∀ k, k0 k = label_category.j0 k p true) : Ev k0 (0, false) := by
  refine Ev.congr h (Ev.step (fun k => by simp only [label_category.j0]; rfl) ?_)
  exact Ev.pos (by simp) (Ev.now _)
theorem cat_ev (l : List UInt8) : (∃ c, c < 64 ∧ l = dig2 c ∧ Ev (fun k => label_category.f k (bs l)) ((c : Int), true)) ∨ ((∀ c, c < 64 → l ≠ dig2 c) ∧ ∃ x, Ev (fun k => label_category.f k (bs l)) (x, false)) := by
  have bad : ∀ {p : ByteArray}, Ev (fun k => label_category.j0 k p true) (0, false) := fun {p} => cat_bad _ p (fun _ => rfl)
  unfold label_category.f
  match l with
  | [] =>
    refine .inr ⟨fun c hc h => ?_, 0, ?_⟩
    · unfold dig2 at h; split at h <;> cases h
    · exact Ev.pos (by rw [bs_size]; simp) bad
  | [a] =>
    have hb : bt (bs [a]) 0 = (a.toNat : Int) := bt_bs [a] 0 (by simp)
    have ha : a.toNat < 256 := a.toNat_lt
    have go : ∀ r, Ev (fun k => label_category.l0 k (bs [a]) 0 ((bs [a]).size : Int) 0) r → Ev (fun k => if ((bs [a]).size : Int) < 1 then label_category.j0 k (bs [a]) true else if ((bs [a]).size : Int) > 2 then label_category.j0 k (bs [a]) true else if ((bs [a]).size : Int) = 2 then (if 0 < ((bs [a]).size : Int) then label_category.j0 k (bs [a]) (bt (bs [a]) 0 == 48) else none) else label_category.j0 k (bs [a]) false) r := fun r hr => by
      refine Ev.neg (by rw [bs_size]; simp) (Ev.neg (by rw [bs_size]; simp) (Ev.neg (by rw [bs_size]; simp) ?_))
      refine Ev.step (fun k => by simp only [label_category.j0]; rfl) ?_
      exact Ev.neg (by simp) hr
    by_cases h1 : (a.toNat : Int) < 48
    · refine .inr ⟨fun c hc h => by have := dig2_one hc h; omega, 0, go _ ?_⟩
      refine Ev.step (fun k => by simp only [label_category.l0]; rfl) ?_
      refine Ev.pos (by rw [bs_size]; simp) (Ev.pos (by omega) (Ev.pos (by rw [bs_size]; simp) ?_))
      rw [hb]
      exact Ev.pos h1 (Ev.now _)
    · by_cases h2 : (a.toNat : Int) > 57
      · refine .inr ⟨fun c hc h => by have := dig2_one hc h; omega, 0, go _ ?_⟩
        refine Ev.step (fun k => by simp only [label_category.l0]; rfl) ?_
        refine Ev.pos (by rw [bs_size]; simp) (Ev.pos (by omega) (Ev.pos (by rw [bs_size]; simp) ?_))
        rw [hb]
        exact Ev.neg h1 (Ev.pos h2 (Ev.now _))
      · refine .inl ⟨a.toNat - 48, by omega, ?_, go _ ?_⟩
        · unfold dig2
          rw [if_pos (by omega)]
          congr 1
          exact ofNat_is (by omega)
        · refine Ev.step (fun k => by simp only [label_category.l0]; rfl) ?_
          refine Ev.pos (by rw [bs_size]; simp) (Ev.pos (by omega) (Ev.pos (by rw [bs_size]; simp) ?_))
          rw [hb]
          refine Ev.neg h1 (Ev.neg h2 ?_)
          refine Ev.step (fun k => by simp only [label_category.l0]; rfl) ?_
          refine Ev.neg (by rw [bs_size]; show ¬ wrap64 (0 + 1) < ((1 : Nat) : Int); unfold wrap64; omega) ?_
          exact ev_val (Ev.now _) (by
            have e : wrap64 (wrap64 (0 * 10) + ((a.toNat : Int) - 48) % 256) = ((a.toNat - 48 : Nat) : Int) := by unfold wrap64; omega
            rw [e, decide_eq_true (by omega)])
  | [a, b] =>
    have hb0 : bt (bs [a, b]) 0 = (a.toNat : Int) := bt_bs [a, b] 0 (by simp)
    have hb1 : bt (bs [a, b]) 1 = (b.toNat : Int) := bt_bs [a, b] 1 (by simp)
    have ha : a.toNat < 256 := a.toNat_lt
    have hbb : b.toNat < 256 := b.toNat_lt
    have go : ∀ r, (bt (bs [a, b]) 0 == 48) = false → Ev (fun k => label_category.l0 k (bs [a, b]) 0 ((bs [a, b]).size : Int) 0) r → Ev (fun k => if ((bs [a, b]).size : Int) < 1 then label_category.j0 k (bs [a, b]) true else if ((bs [a, b]).size : Int) > 2 then label_category.j0 k (bs [a, b]) true else if ((bs [a, b]).size : Int) = 2 then (if 0 < ((bs [a, b]).size : Int) then label_category.j0 k (bs [a, b]) (bt (bs [a, b]) 0 == 48) else none) else label_category.j0 k (bs [a, b]) false) r := fun r h0 hr => by
      refine Ev.neg (by rw [bs_size]; simp) (Ev.neg (by rw [bs_size]; simp) (Ev.pos (by rw [bs_size]; simp) (Ev.pos (by rw [bs_size]; simp) ?_)))
      rw [h0]
      refine Ev.step (fun k => by simp only [label_category.j0]; rfl) ?_
      exact Ev.neg (by simp) hr
    by_cases h0 : a.toNat = 48
    · refine .inr ⟨fun c hc h => by have := dig2_two hc h; omega, 0, ?_⟩
      refine Ev.neg (by rw [bs_size]; simp) (Ev.neg (by rw [bs_size]; simp) (Ev.pos (by rw [bs_size]; simp) (Ev.pos (by rw [bs_size]; simp) ?_)))
      rw [hb0, h0]
      exact bad
    · have h0' : (bt (bs [a, b]) 0 == 48) = false := by rw [hb0, beq_eq_false_iff_ne]; omega
      by_cases h1 : (a.toNat : Int) < 48
      · refine .inr ⟨fun c hc h => by have := dig2_two hc h; omega, 0, go _ h0' ?_⟩
        refine Ev.step (fun k => by simp only [label_category.l0]; rfl) ?_
        refine Ev.pos (by rw [bs_size]; simp) (Ev.pos (by omega) (Ev.pos (by rw [bs_size]; simp) ?_))
        rw [hb0]
        exact Ev.pos h1 (Ev.now _)
      · by_cases h2 : (a.toNat : Int) > 57
        · refine .inr ⟨fun c hc h => by have := dig2_two hc h; omega, 0, go _ h0' ?_⟩
          refine Ev.step (fun k => by simp only [label_category.l0]; rfl) ?_
          refine Ev.pos (by rw [bs_size]; simp) (Ev.pos (by omega) (Ev.pos (by rw [bs_size]; simp) ?_))
          rw [hb0]
          exact Ev.neg h1 (Ev.pos h2 (Ev.now _))
        · have e1 : wrap64 (wrap64 (0 * 10) + ((a.toNat : Int) - 48) % 256) = (a.toNat : Int) - 48 := by unfold wrap64; omega
          have first : ∀ r, Ev (fun k => label_category.l0 k (bs [a, b]) ((a.toNat : Int) - 48) ((bs [a, b]).size : Int) 1) r → Ev (fun k => label_category.l0 k (bs [a, b]) 0 ((bs [a, b]).size : Int) 0) r := fun r hr => by
            refine Ev.step (fun k => by simp only [label_category.l0]; rfl) ?_
            refine Ev.pos (by rw [bs_size]; simp) (Ev.pos (by omega) (Ev.pos (by rw [bs_size]; simp) ?_))
            rw [hb0]
            refine Ev.neg h1 (Ev.neg h2 ?_)
            rw [e1, show wrap64 (0 + 1) = 1 by unfold wrap64; omega]
            exact hr
          by_cases h3 : (b.toNat : Int) < 48
          · refine .inr ⟨fun c hc h => by have := dig2_two hc h; omega, 0, go _ h0' (first _ ?_)⟩
            refine Ev.step (fun k => by simp only [label_category.l0]; rfl) ?_
            refine Ev.pos (by rw [bs_size]; simp) (Ev.pos (by omega) (Ev.pos (by rw [bs_size]; simp) ?_))
            rw [hb1]
            exact Ev.pos h3 (Ev.now _)
          · by_cases h4 : (b.toNat : Int) > 57
            · refine .inr ⟨fun c hc h => by have := dig2_two hc h; omega, 0, go _ h0' (first _ ?_)⟩
              refine Ev.step (fun k => by simp only [label_category.l0]; rfl) ?_
              refine Ev.pos (by rw [bs_size]; simp) (Ev.pos (by omega) (Ev.pos (by rw [bs_size]; simp) ?_))
              rw [hb1]
              exact Ev.neg h3 (Ev.pos h4 (Ev.now _))
            · have e2 : wrap64 (wrap64 (((a.toNat : Int) - 48) * 10) + ((b.toNat : Int) - 48) % 256) = ((10 * (a.toNat - 48) + (b.toNat - 48) : Nat) : Int) := by unfold wrap64; omega
              have last : Ev (fun k => label_category.f k (bs [a, b])) (((10 * (a.toNat - 48) + (b.toNat - 48) : Nat) : Int), decide (((10 * (a.toNat - 48) + (b.toNat - 48) : Nat) : Int) < 64)) := by
                refine go _ h0' (first _ ?_)
                refine Ev.step (fun k => by simp only [label_category.l0]; rfl) ?_
                refine Ev.pos (by rw [bs_size]; simp) (Ev.pos (by omega) (Ev.pos (by rw [bs_size]; simp) ?_))
                rw [hb1]
                refine Ev.neg h3 (Ev.neg h4 ?_)
                rw [e2]
                refine Ev.step (fun k => by simp only [label_category.l0]; rfl) ?_
                refine Ev.neg (by rw [bs_size]; show ¬ wrap64 (1 + 1) < ((2 : Nat) : Int); unfold wrap64; omega) ?_
                exact Ev.now _
              by_cases h5 : 10 * (a.toNat - 48) + (b.toNat - 48) < 64
              · refine .inl ⟨10 * (a.toNat - 48) + (b.toNat - 48), h5, ?_, ?_⟩
                · unfold dig2
                  rw [if_neg (by omega)]
                  congr 1
                  · exact ofNat_is (by omega)
                  · congr 1
                    exact ofNat_is (by omega)
                · exact ev_val last (by rw [decide_eq_true (by omega)])
              · refine .inr ⟨fun c hc h => by have := dig2_two hc h; omega, ((10 * (a.toNat - 48) + (b.toNat - 48) : Nat) : Int), ?_⟩
                exact ev_val last (by rw [decide_eq_false (by omega)])
  | a :: b :: c :: r =>
    refine .inr ⟨fun q hq h => ?_, 0, ?_⟩
    · have := dig2_len q
      rw [← h] at this
      simp at this
    · exact Ev.neg (by rw [bs_size]; simp; omega) (Ev.pos (by rw [bs_size]; simp; omega) bad)
def rising : Int → List Nat → Prop
  | _, [] => True
  | lo, c :: r => lo < (c : Int) ∧ c < 64 ∧ rising (c : Int) r
theorem rising_lt : ∀ {cs : List Nat} {lo : Int}, rising lo cs → ∀ x ∈ cs, lo < (x : Int) ∧ x < 64
  | [], _, _, x, hx => absurd hx (by simp)
  | c :: r, lo, h, x, hx => by
    rcases List.mem_cons.1 hx with rfl | hx
    · exact ⟨h.1, h.2.1⟩
    · have := rising_lt h.2.2 x hx
      have := h.1
      omega
theorem rising_filter (p : Nat → Bool) : ∀ (d a : Nat) (lo : Int), lo < (a : Int) → a + d ≤ 64 → rising lo ((List.range' a d).filter p)
  | 0, a, lo, _, _ => by simp [rising]
  | d + 1, a, lo, h, hd => by
    rw [List.range'_succ, List.filter_cons]
    split
    · exact ⟨h, by omega, rising_filter p d (a + 1) _ (by omega) (by omega)⟩
    · exact rising_filter p d (a + 1) lo (by omega) (by omega)
theorem filter_rising : ∀ (d a : Nat) (cs : List Nat) (lo : Int), lo + 1 = (a : Int) → a + d = 64 → rising lo cs → (List.range' a d).filter (fun i => cs.contains i) = cs
  | 0, a, cs, lo, h1, h2, hr => by
    cases cs with
    | nil => rfl
    | cons c r => have := rising_lt hr c List.mem_cons_self; omega
  | d + 1, a, cs, lo, h1, h2, hr => by
    rw [List.range'_succ, List.filter_cons]
    cases cs with
    | nil => simp
    | cons c r =>
      have hc := hr.1
      by_cases e : c = a
      · subst e
        rw [if_pos (by simp)]
        congr 1
        have ih := filter_rising d (c + 1) r (c : Int) (by omega) (by omega) hr.2.2
        refine (List.filter_congr (fun x hx => ?_)).trans ih
        have := List.mem_range'_1.1 hx
        have hne : ¬ x = c := by omega
        simp [hne]
      · have hna : ¬ (c :: r).contains a = true := by
          rw [List.contains_iff_mem]
          intro hm
          rcases List.mem_cons.1 hm with rfl | hm
          · exact e rfl
          · have := rising_lt hr.2.2 a hm; omega
        rw [if_neg hna]
        refine filter_rising d (a + 1) (c :: r) (a : Int) (by omega) (by omega) ⟨by omega, hr.2.1, hr.2.2⟩
theorem cats_rising (n : Nat) : rising (-1) (cats n) := by
  unfold cats
  rw [List.range_eq_range']
  exact rising_filter _ 64 0 (-1) (by omega) (by omega)
theorem contains_map (cs : List Nat) (i : Nat) : (cs.map (fun i : Nat => (i : Int))).contains (i : Int) = cs.contains i := by
  rw [Bool.eq_iff_iff, List.contains_iff_mem, List.contains_iff_mem, List.mem_map]
  constructor
  · rintro ⟨j, hj, he⟩
    obtain rfl : j = i := by omega
    exact hj
  · intro h; exact ⟨i, h, rfl⟩
theorem cats_of {cs : List Nat} (h : rising (-1) cs) : cats (ofBits (catsOf (cs.map (fun i : Nat => (i : Int))))) = cs := by
  unfold cats
  rw [List.range_eq_range']
  refine (List.filter_congr (fun i hi => ?_)).trans (filter_rising 64 0 cs (-1) (by omega) (by omega) h)
  have := List.mem_range'_1.1 hi
  rw [ofBits_testBit, catsOf_getD _ _ (by omega), contains_map]
theorem rdS (l : List ByteArray) (i : Nat) (h : i < l.length) : rdOf ByteArray.empty l (i : Int) = l[i] := by
  unfold rdOf; rw [Int.toNat_natCast, List.getD_eq_getElem?_getD, List.getElem?_eq_getElem h]; rfl
theorem parse_loop (ps : List (List UInt8)) (hl : ps.length ≤ 100000) : ∀ (d i : Nat) (done : List Nat) (lo : Int), i + d = ps.length →
    (∃ cs, rising lo cs ∧ ps.drop i = cs.map dig2 ∧ Ev (fun k => label_Parse.l0 k ((ofBits (catsOf (done.map (fun i : Nat => (i : Int)))) : Nat) : Int) lo (ps.map bs) ((ps.map bs).length : Int) (i : Int)) (((ofBits (catsOf ((done ++ cs).map (fun i : Nat => (i : Int)))) : Nat) : Int), 0)) ∨
    ((∀ cs, rising lo cs → ps.drop i ≠ cs.map dig2) ∧ Ev (fun k => label_Parse.l0 k ((ofBits (catsOf (done.map (fun i : Nat => (i : Int)))) : Nat) : Int) lo (ps.map bs) ((ps.map bs).length : Int) (i : Int)) (0, 5)) := by
  intro d
  induction d with
  | zero =>
    intro i done lo hi
    refine .inl ⟨[], trivial, by rw [List.drop_eq_nil_of_le (by omega)]; rfl, ?_⟩
    refine Ev.step (fun k => by simp only [label_Parse.l0]; rfl) ?_
    refine Ev.neg (by rw [List.length_map]; omega) ?_
    rw [List.append_nil]
    exact Ev.now _
  | succ d ih =>
    intro i done lo hi
    have hlt : i < ps.length := by omega
    have hrd : rdOf ByteArray.empty (ps.map bs) (i : Int) = bs ps[i] := by rw [rdS _ _ (by rw [List.length_map]; exact hlt), List.getElem_map]
    have hdrop : ps.drop i = ps[i] :: ps.drop (i + 1) := List.drop_eq_getElem_cons hlt
    have step : ∀ {x : Int} {b : Bool} {r : Int × Int}, Ev (fun k => label_category.f k (bs ps[i])) (x, b) →
        Ev (fun k => if b = true then (if x ≤ lo then some (0, 5) else (if 0 ≤ x then label_Parse.l0 k (Go.bits .or .u64 ((ofBits (catsOf (done.map (fun i : Nat => (i : Int)))) : Nat) : Int) (shl .u64 1 x)) x (ps.map bs) ((ps.map bs).length : Int) ((i + 1 : Nat) : Int) else none)) else some (0, 5)) r →
        Ev (fun k => label_Parse.l0 k ((ofBits (catsOf (done.map (fun i : Nat => (i : Int)))) : Nat) : Int) lo (ps.map bs) ((ps.map bs).length : Int) (i : Int)) r := by
      intro x b r hc hr
      refine Ev.step (fun k => by simp only [label_Parse.l0]; rfl) ?_
      refine Ev.pos (by rw [List.length_map]; omega) (Ev.pos (by omega) (Ev.pos (by rw [List.length_map]; omega) ?_))
      rw [hrd, w1' hlt (by omega)]
      exact Ev.bind hc hr
    rcases cat_ev ps[i] with ⟨c, hc, he, hev⟩ | ⟨hno, x, hev⟩
    · by_cases hle : (c : Int) ≤ lo
      · refine .inr ⟨fun cs hr h => ?_, step hev (Ev.pos rfl (Ev.pos hle (Ev.now _)))⟩
        rw [hdrop, he] at h
        cases cs with
        | nil => cases h
        | cons q r =>
          rw [List.map_cons] at h
          injection h with h _
          have hq := hr.2.1
          have : c = q := by
            by_cases h10 : c < 10
            · have e : dig2 c = [UInt8.ofNat (48 + c)] := by unfold dig2; rw [if_pos h10]
              rw [e] at h
              have := dig2_one hq h
              rw [ofNat_toNat _ (by omega)] at this
              omega
            · have e : dig2 c = [UInt8.ofNat (48 + c / 10), UInt8.ofNat (48 + c % 10)] := by unfold dig2; rw [if_neg h10]
              rw [e] at h
              have := dig2_two hq h
              rw [ofNat_toNat _ (by omega), ofNat_toNat _ (by omega)] at this
              omega
          have := hr.1
          omega
      · have hacc : Go.bits .or .u64 ((ofBits (catsOf (done.map (fun i : Nat => (i : Int)))) : Nat) : Int) (shl .u64 1 (c : Int)) = ((ofBits (catsOf ((done ++ [c]).map (fun i : Nat => (i : Int)))) : Nat) : Int) := by
          rw [or_shl _ c hc, List.map_append]; rfl
        rcases ih (i + 1) (done ++ [c]) (c : Int) (by omega) with ⟨cs, hr, hd, hev2⟩ | ⟨hno, hev2⟩
        · refine .inl ⟨c :: cs, ⟨by omega, hc, hr⟩, by rw [hdrop, he, hd]; rfl, step hev (Ev.pos rfl (Ev.neg hle (Ev.pos (by omega) ?_)))⟩
          rw [hacc, show done ++ c :: cs = (done ++ [c]) ++ cs by simp]
          exact hev2
        · refine .inr ⟨fun cs hr h => ?_, step hev (Ev.pos rfl (Ev.neg hle (Ev.pos (by omega) ?_)))⟩
          · rw [hdrop, he] at h
            cases cs with
            | nil => cases h
            | cons q r =>
              rw [List.map_cons] at h
              injection h with h h2
              have hq := hr.2.1
              have : c = q := by
                by_cases h10 : c < 10
                · have e : dig2 c = [UInt8.ofNat (48 + c)] := by unfold dig2; rw [if_pos h10]
                  rw [e] at h
                  have := dig2_one hq h
                  rw [ofNat_toNat _ (by omega)] at this
                  omega
                · have e : dig2 c = [UInt8.ofNat (48 + c / 10), UInt8.ofNat (48 + c % 10)] := by unfold dig2; rw [if_neg h10]
                  rw [e] at h
                  have := dig2_two hq h
                  rw [ofNat_toNat _ (by omega), ofNat_toNat _ (by omega)] at this
                  omega
              subst this
              exact hno r hr.2.2 h2
          · rw [hacc]
            exact hev2
    · refine .inr ⟨fun cs hr h => ?_, step hev (Ev.neg (by simp) (Ev.now _))⟩
      rw [hdrop] at h
      cases cs with
      | nil => cases h
      | cons q r =>
        rw [List.map_cons] at h
        injection h with h _
        exact hno q hr.2.1 h
theorem sp_len (l : List UInt8) : (sp l).length ≤ l.length + 1 := by
  induction l with
  | nil => simp [sp]
  | cons x r ih =>
    unfold sp
    split
    · simp only [List.length_cons]; omega
    · split <;> (rename_i h; rw [h] at ih; simp only [List.length_cons] at ih ⊢; omega)
theorem parse_ev (s : ByteArray) (hs : s.size ≤ 4096) : (∃ n, IsText s n ∧ Ev (fun k => label_Parse.f k s) ((n : Int), 0)) ∨ ((∀ n, ¬ IsText s n) ∧ Ev (fun k => label_Parse.f k s) (0, 5)) := by
  unfold label_Parse.f
  by_cases h45 : s.toList = ([45] : List UInt8)
  · refine .inl ⟨0, ⟨by decide, ?_⟩, Ev.pos h45 (Ev.now _)⟩
    rw [cats_zero]
    exact toList_inj (by rw [h45]; exact (bs_toList _).symm)
  · have hsl : s.data.toList.length = s.size := (Lib.size_eq s).symm
    have hln := sp_len s.data.toList
    rcases parse_loop (sp s.data.toList) (by omega) (sp s.data.toList).length 0 [] (-1) (by omega) with ⟨cs, hr, hd, hev⟩ | ⟨hno, hev⟩
    · rw [List.drop_zero] at hd
      refine .inl ⟨ofBits (catsOf (cs.map (fun i : Nat => (i : Int)))), ⟨ofBits_u64 _ (catsOf_len _), ?_⟩, Ev.neg h45 ?_⟩
      · rw [cats_of hr]
        cases cs with
        | nil => exact absurd hd (sp_ne _)
        | cons c r =>
          have := un_sp s.data.toList
          rw [hd, un_text] at this
          rw [show textOf (c :: r) = dig2 c ++ tailD r from rfl, this, bs_of]
      · rw [split_ev s hs]
        refine Ev.bind (Ev.now _) ?_
        rw [List.nil_append, List.map_nil, ofBits_none] at hev
        exact hev
    · refine .inr ⟨fun n ⟨hn, hst⟩ => ?_, Ev.neg h45 ?_⟩
      · cases hc : cats n with
        | nil =>
          rw [hc] at hst
          exact h45 (by rw [hst]; exact bs_toList _)
        | cons c r =>
          have hlt : ∀ x ∈ c :: r, x < 64 := fun x hx => cats_lt n x (by rw [hc]; exact hx)
          refine hno (cats n) (cats_rising n) ?_
          rw [List.drop_zero, hst, hc, bs_data]
          exact sp_text r c hlt
      · rw [split_ev s hs]
        refine Ev.bind (Ev.now _) ?_
        rw [List.map_nil, ofBits_none] at hev
        exact hev
end Go.Proofs.YtcbiilbmldinhaaDoor.PB
end

section
namespace Go.Proofs.YtcbiilbmldinhaaDoor.PB
open Go.RowKit Go.Maps Go.Proofs.YtcbiilbmldinhaaDoorW.PrintWords Go.Proofs.YtcbiilbmldinhaaDoorW.PrintLast Go.Proofs.YtcbiilbmldinhaaDoorW.PrintMore
set_option maxRecDepth 100000
set_option linter.unusedVariables false
set_option linter.unusedSimpArgs false
def NoLog (w : World) (p : Value) : Prop := p = .pointer none ∨ ∃ g, p = .pointer (some ⟨g, 0, none⟩) ∧ w.heap[g]? = some (.cells #[.map none, .slice none 0 0] 55 (0, 0))
theorem NoLog.below {w W : World} {p : Value} (h : NoLog w p) (hb : Below w.heap.size w W) : NoLog W p := by
  rcases h with h | ⟨g, h1, h2⟩
  · exact .inl h
  · exact .inr ⟨g, h1, bB h2 hb⟩
end Go.Proofs.YtcbiilbmldinhaaDoor.PB
end

section
namespace Go.Proofs.YtcbiilbmldinhaaDoor.PB
open Go.RowKit Go.Maps Go.Proofs.YtcbiilbmldinhaaDoorW.PrintWords Go.Proofs.YtcbiilbmldinhaaDoorW.PrintLast Go.Proofs.YtcbiilbmldinhaaDoorW.PrintMore
set_option maxRecDepth 100000
set_option linter.unusedVariables false
set_option linter.unusedSimpArgs false
def withinB (n : Int) : Bool := decide (0 ≤ n) && decide (n ≤ 65535)
def mayB (a1 a2 a3 a4 : Int) : Bool := (decide (1 ≤ a1) && decide (a1 ≤ 4)) && (withinB a2 && (withinB a3 && withinB a4))
theorem word_ev (a1 : Int) : ∃ s, audit_word.f a1 = some s ∧ (s.toList != ([] : List UInt8)) = (decide (1 ≤ a1) && decide (a1 ≤ 4)) := by
  unfold audit_word.f
  by_cases h1 : a1 = 1
  · subst h1; exact ⟨_, rfl, by decide +kernel⟩
  by_cases h2 : a1 = 2
  · subst h2; exact ⟨_, rfl, by decide +kernel⟩
  by_cases h3 : a1 = 3
  · subst h3; exact ⟨_, rfl, by decide +kernel⟩
  by_cases h4 : a1 = 4
  · subst h4; exact ⟨_, rfl, by decide +kernel⟩
  refine ⟨⟨#[]⟩, by simp [h1, h2, h3, h4], ?_⟩
  have : ¬ (1 ≤ a1 ∧ a1 ≤ 4) := by omega
  have e : (decide (1 ≤ a1) && decide (a1 ≤ 4)) = false := by
    rw [Bool.and_eq_false_iff, decide_eq_false_iff_not, decide_eq_false_iff_not]
    omega
  rw [e]; decide +kernel
theorem may_ev (a0 a1 a2 a3 a4 : Int) : Ev (fun k => audit_Record_may.f k a0 a1 a2 a3 a4) (mayB a1 a2 a3 a4) := by
  obtain ⟨s, hs, hw⟩ := word_ev a1
  unfold audit_Record_may.f
  refine Ev.bind (Ev.now _) ?_
  have loop : ∀ (d i : Nat), i + d = 3 → Ev (fun k => audit_Record_may.l0 k [a2, a3, a4] (([a2, a3, a4] : List Int).length : Int) (i : Int) a0 a1 a2 a3 a4) ((([a2, a3, a4] : List Int).drop i).all withinB && (decide (1 ≤ a1) && decide (a1 ≤ 4))) := by
    intro d
    induction d with
    | zero =>
      intro i hi
      obtain rfl : i = 3 := by omega
      refine Ev.step (fun k => by simp only [audit_Record_may.l0]; rfl) ?_
      refine Ev.neg (by simp) ?_
      rw [hs]
      refine Ev.bind (Ev.now s) (ev_val (Ev.now _) ?_)
      rw [hw]; simp
    | succ d ih =>
      intro i hi
      have hlt : i < ([a2, a3, a4] : List Int).length := by simp; omega
      refine Ev.step (fun k => by simp only [audit_Record_may.l0]; rfl) ?_
      refine Ev.pos (by omega) (Ev.pos (by omega) (Ev.pos (by omega) ?_))
      have hr : rd ([a2, a3, a4] : List Int) (i : Int) = ([a2, a3, a4] : List Int).getD i 0 := by unfold rd; rw [Int.toNat_natCast]
      have hd : ([a2, a3, a4] : List Int).drop i = ([a2, a3, a4] : List Int).getD i 0 :: ([a2, a3, a4] : List Int).drop (i + 1) := by
        rw [List.drop_eq_getElem_cons hlt, List.getD_eq_getElem?_getD, List.getElem?_eq_getElem hlt]; rfl
      rw [hr, hd, List.all_cons, w1n hlt (by simp)]
      generalize ([a2, a3, a4] : List Int).getD i 0 = x
      refine Ev.ite' (fun h => ev_val (Ev.now _) ?_) (fun h => Ev.ite' (fun h2 => ev_val (Ev.now _) ?_) (fun h2 => ev_val (ih (i + 1) (by omega)) ?_))
      · rw [show withinB x = false by unfold withinB; rw [decide_eq_false (by omega)]; rfl]; rfl
      · rw [show withinB x = false by unfold withinB; rw [decide_eq_false (show ¬ x ≤ 65535 by omega)]; simp]; rfl
      · rw [show withinB x = true by unfold withinB; rw [decide_eq_true (show 0 ≤ x by omega), decide_eq_true (show x ≤ 65535 by omega)]; rfl]; rfl
  refine ev_val (loop 3 0 rfl) ?_
  unfold mayB
  simp only [List.drop_zero, List.all_cons, List.all_nil, Bool.and_true]
  exact Bool.and_comm _ _
end Go.Proofs.YtcbiilbmldinhaaDoor.PB
end

section
namespace Go.Proofs.YtcbiilbmldinhaaDoor.PB
open Go.RowKit Go.Proofs.YtcbiilbmldinhaaDoorW.PrintWords Go.Proofs.YtcbiilbmldinhaaDoorW.PrintLast Go.Proofs.YtcbiilbmldinhaaDoorW.PrintMore
set_option maxRecDepth 100000
set_option linter.unusedVariables false
set_option linter.unusedSimpArgs false
abbrev D10 (n : Nat) : List UInt8 := Lib.decDigits n
theorem d10_lt {n : Nat} (h : n < 10) : D10 n = [UInt8.ofNat (48 + n)] := by unfold D10; rw [Lib.decDigits, dif_pos h]
theorem d10_ge {n : Nat} (h : ¬ n < 10) : D10 n = D10 (n / 10) ++ [UInt8.ofNat (48 + n % 10)] := by unfold D10; rw [Lib.decDigits, dif_neg h]
theorem d10_all : ∀ n : Nat, ∀ c ∈ D10 n, 48 ≤ c.toNat ∧ c.toNat ≤ 57 := by
  intro n
  induction n using Nat.strongRecOn with
  | _ n ih =>
    intro c hc
    by_cases h : n < 10
    · rw [d10_lt h, List.mem_singleton] at hc
      subst hc
      rw [ofNat_toNat _ (by omega)]
      omega
    · rw [d10_ge h, List.mem_append, List.mem_singleton] at hc
      rcases hc with hc | rfl
      · exact ih (n / 10) (by omega) c hc
      · rw [ofNat_toNat _ (by omega)]
        omega
theorem d10_len : ∀ n : Nat, n ≤ 65535 → (D10 n).length ≤ 5 := by
  intro n hn
  have h := Lib.decDigits_length n
  have h0 := Lib.nDigits_pos n
  unfold D10
  rw [h]
  by_cases h1 : n < 10
  · rw [Lib.nDigits_small h1]; omega
  rw [Lib.nDigits_big h1]
  by_cases h2 : n / 10 < 10
  · rw [Lib.nDigits_small h2]; omega
  rw [Lib.nDigits_big h2]
  by_cases h3 : n / 10 / 10 < 10
  · rw [Lib.nDigits_small h3]; omega
  rw [Lib.nDigits_big h3]
  by_cases h4 : n / 10 / 10 / 10 < 10
  · rw [Lib.nDigits_small h4]; omega
  rw [Lib.nDigits_big h4, Lib.nDigits_small (by omega)]
  omega
theorem d10_head (n : Nat) : ∃ c r, D10 n = c :: r ∧ c.toNat ≠ 43 ∧ c.toNat ≠ 45 := by
  have hne : D10 n ≠ [] := by
    intro e
    have h := Lib.decDigits_length n
    have h0 := Lib.nDigits_pos n
    rw [show Lib.decDigits n = [] from e] at h
    simp at h; omega
  cases hd : D10 n with
  | nil => exact absurd hd hne
  | cons c r =>
    have := d10_all n c (by rw [hd]; exact List.mem_cons_self)
    exact ⟨c, r, rfl, by omega, by omega⟩
theorem parse10 : ∀ (n : Nat) (r : List UInt8), n < 1000000 → Lib.parseUint10 0 (D10 n ++ r) = Lib.parseUint10 n r := by
  intro n
  induction n using Nat.strongRecOn with
  | _ n ih =>
    intro r hn
    by_cases h : n < 10
    · rw [d10_lt h, List.singleton_append, Lib.parseUint10, if_pos (by rw [ofNat_toNat _ (by omega)]; omega), if_neg (by omega), ofNat_toNat _ (by omega), if_neg (by omega)]
      congr 1
      omega
    · rw [d10_ge h, List.append_assoc, ih (n / 10) (by omega) _ (by omega), List.singleton_append, Lib.parseUint10, if_pos (by rw [ofNat_toNat _ (by omega)]; omega), if_neg (by omega), ofNat_toNat _ (by omega), if_neg (by omega)]
      congr 1
      omega
theorem atoi_d10 (n : Nat) (hn : n < 1000000) : atoiV (bs (D10 n)) = (n : Int) := by
  obtain ⟨c, r, hd, h43, h45⟩ := d10_head n
  have hp := parse10 n [] hn
  rw [List.append_nil] at hp
  have : Lib.atoiAll (D10 n) = .ok (n : Int) := by
    rw [hd, Lib.atoiAll_plain c r h43 h45, ← hd, Lib.parseMag, if_neg (by rw [hd]; simp), hp, Lib.parseUint10]
    unfold Lib.signless
    simp only
    rw [if_neg (by omega)]
  unfold atoiV
  rw [bs_data, this]
theorem itoa_d10 (n : Nat) (hn : n < 1000000) : Itoa2.f (n : Int) = some (bs (D10 n)) := by
  unfold Itoa2.f
  rw [if_pos ⟨by omega, by omega⟩, Lib.itoa_nonneg]
  rfl
theorem one_dig (n : Nat) (h : n < 10) : strOfNums [wrap64 (48 + (n : Int)) % 256] = bs [UInt8.ofNat (48 + n)] := by
  have : ∀ m : Fin 10, strOfNums [wrap64 (48 + ((m.val : Nat) : Int)) % 256] = bs [UInt8.ofNat (48 + m.val)] := by decide +kernel
  exact this ⟨n, h⟩
theorem rdigits_ev (n : Nat) (hn : n < 1000000) : Ev (fun k => bureauref18_digits.f k (n : Int)) (bs (D10 n)) := by
  unfold bureauref18_digits.f
  have loop : ∀ (n : Nat) (t : List UInt8), n < 1000000 → n + t.length ≤ 1100000 → Ev (fun k => bureauref18_digits.l0 k (n : Int) (bs t)) (bs (D10 n ++ t)) := by
    intro n
    induction n using Nat.strongRecOn with
    | _ n ih =>
      intro t hn ht
      refine Ev.step (fun k => by simp only [bureauref18_digits.l0]; rfl) ?_
      by_cases h : n < 10
      · refine Ev.neg (by omega) (Ev.bind (Ev.now _) (Ev.pos ?_ ?_))
        · rw [one_dig n h, bs_size, bs_size]; simp; omega
        · rw [one_dig n h, bs_append, d10_lt h]; exact Ev.now _
      · have e1 : Int.tmod (n : Int) 10 = ((n % 10 : Nat) : Int) := by rw [Int.tmod_eq_emod_of_nonneg (by omega)]; rfl
        have e2 : wrap64 (Int.tdiv (n : Int) 10) = ((n / 10 : Nat) : Int) := by rw [Int.tdiv_eq_ediv_of_nonneg (by omega)]; unfold wrap64; omega
        rw [e1, e2]
        refine Ev.pos (by omega) (Ev.bind (Ev.now _) (Ev.pos ?_ ?_))
        · rw [one_dig _ (by omega), bs_size, bs_size]; simp; omega
        · rw [one_dig _ (by omega), bs_append]
          refine ev_val (ih (n / 10) (by omega) _ (by omega) ?_) ?_
          · simp; omega
          · rw [d10_ge h, List.append_assoc]
  have := loop n [] hn (by simp; omega)
  rw [List.append_nil] at this
  exact this
def numF : List UInt8 → Nat → Nat
  | [], n => n
  | c :: r, n => if n ≤ 65535 then (if 48 ≤ c.toNat ∧ c.toNat ≤ 57 then numF r (n * 10 + (c.toNat - 48)) else 65536) else n
theorem num_d10 : ∀ (n : Nat) (r : List UInt8), n ≤ 65535 → numF (D10 n ++ r) 0 = numF r n := by
  intro n
  induction n using Nat.strongRecOn with
  | _ n ih =>
    intro r hn
    by_cases h : n < 10
    · rw [d10_lt h, List.singleton_append, numF, if_pos (by omega), if_pos (by rw [ofNat_toNat _ (by omega)]; omega), ofNat_toNat _ (by omega)]
      congr 1
      omega
    · rw [d10_ge h, List.append_assoc, ih (n / 10) (by omega) _ (by omega), List.singleton_append, numF, if_pos (by omega), if_pos (by rw [ofNat_toNat _ (by omega)]; omega), ofNat_toNat _ (by omega)]
      congr 1
      omega
theorem wsmall {x : Int} (h1 : 0 ≤ x) (h2 : x ≤ 1000000000000) : wrap64 x = x := by unfold wrap64; omega
theorem c65536 : (65536 : Int) = ((65536 : Nat) : Int) := by omega
theorem number_ev (s : ByteArray) (hs : s.size ≤ 4096) : Ev (fun k => bureauref18_number.f k s) ((numF s.data.toList 0 : Nat) : Int) := by
  unfold bureauref18_number.f
  have hsl : s.data.toList.length = s.size := (Lib.size_eq s).symm
  have loop : ∀ (d i n : Nat), i + d = s.size → n ≤ 1000000 → Ev (fun k => bureauref18_number.l0 k s (n : Int) (i : Int)) ((numF (s.data.toList.drop i) n : Nat) : Int) := by
    intro d
    induction d with
    | zero =>
      intro i n hi hn
      refine Ev.step (fun k => by simp only [bureauref18_number.l0]; rfl) ?_
      refine Ev.neg (by omega) ?_
      refine Ev.step (fun k => by simp only [bureauref18_number.j1]; rfl) ?_
      rw [List.drop_eq_nil_of_le (by omega)]
      exact Ev.neg (by decide) (Ev.now _)
    | succ d ih =>
      intro i n hi hn
      have hlt : i < s.data.toList.length := by omega
      have hb : bt s (i : Int) = ((s.data.toList[i]).toNat : Int) := by
        have h2 := bt_bs s.data.toList i hlt
        rw [bs_of, List.getD_eq_getElem?_getD, List.getElem?_eq_getElem hlt, Option.getD_some] at h2
        exact h2
      rw [List.drop_eq_getElem_cons hlt]
      generalize s.data.toList[i] = c at hb
      refine Ev.step (fun k => by simp only [bureauref18_number.l0]; rfl) ?_
      refine Ev.pos (by omega) ?_
      refine Ev.step (fun k => by simp only [bureauref18_number.j1]; rfl) ?_
      by_cases h : n ≤ 65535
      · rw [hb, numF, if_pos h]
        refine Ev.pos (decide_eq_true (by omega)) (Ev.pos (by omega) (Ev.pos (by omega) (Ev.ite' (fun h1 => ?_) (fun h1 => Ev.ite' (fun h2 => ?_) (fun h2 => ?_)))))
        · rw [if_neg (by omega)]; exact ev_val (Ev.now _) c65536
        · rw [if_neg (by omega)]; exact ev_val (Ev.now _) c65536
        · rw [if_pos (by omega)]
          have e : wrap64 (wrap64 ((n : Int) * 10) + ((c.toNat : Int) - 48) % 256) = ((n * 10 + (c.toNat - 48) : Nat) : Int) := by
            have : ((c.toNat : Int) - 48) % 256 = ((c.toNat - 48 : Nat) : Int) := by omega
            rw [this, wsmall (x := (n : Int) * 10) (by omega) (by omega), wsmall (by omega) (by omega)]
            omega
          rw [e, w1n (show i < s.size by omega) (by omega)]
          exact ih (i + 1) _ (by omega) (by omega)
      · rw [numF, if_neg h]
        exact Ev.neg (by rw [decide_eq_false (show ¬ (n : Int) ≤ 65535 by omega)]; decide) (Ev.now _)
  have := loop s.size 0 0 (by omega) (by omega)
  exact this
def sq : List UInt8 → List (List UInt8)
  | [] => [[]]
  | x :: r => if x = 32 then [] :: sq r else match sq r with | [] => [[x]] | p :: ps => (x :: p) :: ps
theorem sq_ne (l : List UInt8) : sq l ≠ [] := by
  cases l with
  | nil => simp [sq]
  | cons x r => unfold sq; split; simp; split <;> simp
theorem sq_cut : ∀ (x y : List UInt8), (∀ c ∈ x, c ≠ 32) → sq (x ++ 32 :: y) = x :: sq y
  | [], y, _ => by simp [sq]
  | a :: x, y, h => by
    rw [List.cons_append, sq, if_neg (h a List.mem_cons_self), sq_cut x y (fun c hc => h c (List.mem_cons_of_mem _ hc))]
theorem sq_one : ∀ (x : List UInt8), (∀ c ∈ x, c ≠ 32) → sq x = [x]
  | [], _ => rfl
  | a :: x, h => by
    rw [sq, if_neg (h a List.mem_cons_self), sq_one x (fun c hc => h c (List.mem_cons_of_mem _ hc))]
theorem split32_is : ∀ (n : Nat) (l : List UInt8), l.length ≤ n → Lib.splitK [32] 0 (Lib.count l [32]) l = sq l := by
  intro n
  induction n with
  | zero =>
    intro l hl
    obtain rfl : l = [] := List.length_eq_zero_iff.1 (by omega)
    rfl
  | succ n ih =>
    intro l hl
    rcases (show Lib.index l [32] = -1 ∨ ∃ i : Nat, Lib.index l [32] = i by
      have := Lib.indexByte_ge l 32
      rw [← Lib.index_one] at this
      rcases Int.lt_or_le (Lib.index l [32]) 0 with h | h
      · left; omega
      · right; exact ⟨(Lib.index l [32]).toNat, by omega⟩) with h | ⟨i, h⟩
    · rw [Lib.count_miss h]
      show [l] = sq l
      rw [Lib.index_one] at h
      refine (sq_one l (fun c hc e => ?_)).symm
      obtain ⟨k, hk⟩ := List.getElem?_of_mem hc
      exact Lib.indexByte_none h k (by rw [hk, e])
    · rw [Lib.count_hit (by simp) h, Nat.add_comm]
      have hne : ¬ (Lib.index l [32] == -1) = true := fun e => by have := beq_iff_eq.1 e; omega
      rw [Lib.splitK, if_neg hne, h, Int.toNat_natCast]
      rw [Lib.index_one] at h
      obtain ⟨h1, h2⟩ := Lib.indexByte_some h
      have hlt := (List.getElem?_eq_some_iff.1 h1).1
      have e : l = l.take i ++ 32 :: l.drop (i + 1) := by
        have hd : l.drop i = 32 :: l.drop (i + 1) := by
          rw [List.drop_eq_getElem_cons hlt]
          congr 1
          have := List.getElem?_eq_getElem hlt
          rw [h1] at this
          exact (Option.some.inj this).symm
        rw [← hd, List.take_append_drop]
      conv => rhs; rw [e]
      rw [sq_cut _ _ (fun c hc e => ?_)]
      · show (l.take (i + 0)) :: Lib.splitK [32] 0 (Lib.count (l.drop (i + 1)) [32]) (l.drop (i + 1)) = _
        rw [ih (l.drop (i + 1)) (by rw [List.length_drop]; omega), Nat.add_zero]
      · obtain ⟨k, hk⟩ := List.getElem?_of_mem hc
        have hk2 := (List.getElem?_eq_some_iff.1 hk).1
        rw [List.length_take] at hk2
        rw [List.getElem?_take_of_lt (by omega), e] at hk
        exact h2 k (by omega) hk
theorem split32_ev (s : ByteArray) (hs : s.size ≤ 4096) : strings_Split.f s (⟨#[32]⟩ : ByteArray) = some ((sq s.data.toList).map bs) := by
  unfold strings_Split.f
  rw [if_pos ⟨rfl, by omega⟩]
  congr 1
  have h := Lib.splitB_data ⟨#[32]⟩ 0 (Lib.countB s ⟨#[32]⟩) s
  rw [show (⟨#[32]⟩ : ByteArray).data.toList = [32] from rfl] at h
  rw [show Lib.countB s ⟨#[32]⟩ = Lib.count s.data.toList [32] from rfl] at h ⊢
  rw [split32_is _ _ (Nat.le_refl _)] at h
  rw [← h, List.map_map]
  conv => lhs; rw [← List.map_id (Lib.splitB ⟨#[32]⟩ 0 (Lib.count s.data.toList [32]) s)]
  apply List.map_congr_left
  intro x _
  exact (bs_of x).symm
theorem ext_is (s : ByteArray) (i j : Nat) : s.extract i j = bs ((s.data.toList.take j).drop i) := by
  rw [← bs_of (s.extract i j)]
  congr 1
  rw [ByteArray.data_extract, Array.toList_extract, List.extract_eq_take_drop, List.drop_take]
theorem parts_ev (s : ByteArray) (hs : s.size ≤ 4096) : Ev (fun k => bureauref18_parts.f k s) ((sq s.data.toList).map bs) := by
  unfold bureauref18_parts.f
  have hsl : s.data.toList.length = s.size := (Lib.size_eq s).symm
  have fin : ∀ (out : List ByteArray), Ev (fun k => bureauref18_parts.l0 k s out ((s.size + 1 : Nat) : Int) ((s.size + 1 : Nat) : Int)) out := by
    intro out
    refine Ev.step (fun k => by simp only [bureauref18_parts.l0]; rfl) ?_
    exact Ev.neg (by omega) (Ev.now _)
  have loop : ∀ (d i fr : Nat) (out : List ByteArray), i + d = s.size → fr ≤ i → (∀ c ∈ (s.data.toList.take i).drop fr, c ≠ 32) → out.length ≤ i → Ev (fun k => bureauref18_parts.l0 k s out (fr : Int) (i : Int)) (out ++ (sq (s.data.toList.drop fr)).map bs) := by
    intro d
    induction d with
    | zero =>
      intro i fr out hi hf hno hl
      obtain rfl : i = s.size := by omega
      refine Ev.step (fun k => by simp only [bureauref18_parts.l0]; rfl) ?_
      refine Ev.pos (by omega) (Ev.pos (by first | trivial | rfl) (Ev.pos (by omega) (Ev.pos (by omega) (Ev.pos (by omega) ?_))))
      rw [w1n (n := s.size + 1) (by omega) (by omega), Int.toNat_natCast, Int.toNat_natCast, ext_is]
      rw [List.take_of_length_le (by omega)] at hno ⊢
      rw [sq_one _ hno]
      exact fin _
    | succ d ih =>
      intro i fr out hi hf hno hl
      have hlt : i < s.data.toList.length := by omega
      have hb : bt s (i : Int) = ((s.data.toList[i]).toNat : Int) := by
        have h2 := bt_bs s.data.toList i hlt
        rw [bs_of, List.getD_eq_getElem?_getD, List.getElem?_eq_getElem hlt, Option.getD_some] at h2
        exact h2
      have htk : s.data.toList.take (i + 1) = s.data.toList.take i ++ [s.data.toList[i]] := (List.take_append_getElem hlt).symm
      have hdr : s.data.toList.drop fr = (s.data.toList.take i).drop fr ++ s.data.toList[i] :: s.data.toList.drop (i + 1) := by
        rw [← List.drop_eq_getElem_cons hlt]
        conv => lhs; rw [← List.take_append_drop i s.data.toList]
        rw [List.drop_append_of_le_length (by rw [List.length_take]; omega)]
      refine Ev.step (fun k => by simp only [bureauref18_parts.l0]; rfl) ?_
      refine Ev.pos (by omega) (Ev.neg (by omega) (Ev.pos (by omega) (Ev.pos (by omega) ?_)))
      rw [hb, w1n (n := s.size) (by omega) (by omega)]
      refine Ev.ite' (fun h => ?_) (fun h => ?_)
      · have h32 : s.data.toList[i] = 32 := UInt8.toNat_inj.1 (by have : (32 : UInt8).toNat = 32 := rfl; omega)
        refine Ev.pos (by omega) (Ev.pos (by omega) (Ev.pos (by omega) ?_))
        rw [Int.toNat_natCast, Int.toNat_natCast, ext_is, hdr, h32, sq_cut _ _ hno, List.map_cons]
        refine ev_val (ih (i + 1) (i + 1) _ (by omega) (by omega) ?_ ?_) ?_
        · intro c hc
          rw [List.drop_eq_nil_of_le (by rw [List.length_take]; omega)] at hc
          cases hc
        · rw [List.length_append]; simp; omega
        · rw [List.append_assoc]; rfl
      · refine ih (i + 1) fr out (by omega) (by omega) ?_ (by omega)
        intro c hc
        rw [htk, List.drop_append_of_le_length (by rw [List.length_take]; omega), List.mem_append, List.mem_singleton] at hc
        rcases hc with hc | rfl
        · exact hno c hc
        · intro e
          rw [e] at h
          exact h rfl
  have := loop s.size 0 0 [] (by omega) (by omega) (by simp) (by simp)
  rw [List.drop_zero] at this
  exact this
end Go.Proofs.YtcbiilbmldinhaaDoor.PB
end

section
namespace Go.Proofs.YtcbiilbmldinhaaDoor.PB
open Go.RowKit Go.Proofs.YtcbiilbmldinhaaDoorW.PrintWords Go.Proofs.YtcbiilbmldinhaaDoorW.PrintLast Go.Proofs.YtcbiilbmldinhaaDoorW.PrintMore
set_option maxRecDepth 100000
set_option linter.unusedVariables false
set_option linter.unusedSimpArgs false
abbrev wordL (kd : Int) : List UInt8 := (wordB kd).data.toList
def recT (L : Nat) (kd : Int) (w o e : Nat) : List UInt8 := wordL kd ++ 32 :: (D10 w ++ 32 :: (D10 o ++ 32 :: (D10 e ++ 32 :: textOf (cats L))))
theorem mayB_iff {kd w o e : Int} : mayB kd w o e = true ↔ (1 ≤ kd ∧ kd ≤ 4) ∧ (0 ≤ w ∧ w ≤ 65535) ∧ (0 ≤ o ∧ o ≤ 65535) ∧ 0 ≤ e ∧ e ≤ 65535 := by
  unfold mayB withinB
  simp [and_assoc]
theorem kd_cases {kd : Int} (h : 1 ≤ kd ∧ kd ≤ 4) : kd = 1 ∨ kd = 2 ∨ kd = 3 ∨ kd = 4 := by omega
theorem word_no32 {kd : Int} (h : 1 ≤ kd ∧ kd ≤ 4) : ∀ c ∈ wordL kd, c ≠ 32 := by
  rcases kd_cases h with rfl | rfl | rfl | rfl <;> decide +kernel
theorem word_len {kd : Int} (h : 1 ≤ kd ∧ kd ≤ 4) : (wordL kd).length ≤ 7 := by
  rcases kd_cases h with rfl | rfl | rfl | rfl <;> decide +kernel
theorem kind_word {kd : Int} (h : 1 ≤ kd ∧ kd ≤ 4) : kindUpto (wordB kd) 4 = kd := by
  rcases kd_cases h with rfl | rfl | rfl | rfl <;> decide +kernel
theorem d10_no32 (n : Nat) : ∀ c ∈ D10 n, c ≠ 32 := fun c hc e => by
  have := d10_all n c hc
  subst e
  have : (32 : UInt8).toNat = 32 := rfl
  omega
theorem dig2_no32 (n : Nat) (h : n < 64) : ∀ c ∈ dig2 n, c ≠ 32 := by
  rw [← dig2_is n h]; exact d10_no32 n
theorem text_no32 : ∀ (cs : List Nat), (∀ x ∈ cs, x < 64) → ∀ c ∈ textOf cs, c ≠ 32
  | [], _ => by decide
  | x :: r, h => by
    intro c hc
    simp only [textOf, List.mem_append] at hc
    rcases hc with hc | hc
    · exact dig2_no32 x (h x List.mem_cons_self) c hc
    · unfold tailD at hc
      obtain ⟨y, hy, hc⟩ := List.mem_flatMap.1 hc
      rcases List.mem_cons.1 hc with rfl | hc
      · decide
      · exact dig2_no32 y (h y (List.mem_cons_of_mem _ hy)) c hc
theorem sq_rec {L : Nat} {kd : Int} {w o e : Nat} (h : 1 ≤ kd ∧ kd ≤ 4) : sq (recT L kd w o e) = [wordL kd, D10 w, D10 o, D10 e, textOf (cats L)] := by
  unfold recT
  rw [sq_cut _ _ (word_no32 h), sq_cut _ _ (d10_no32 w), sq_cut _ _ (d10_no32 o), sq_cut _ _ (d10_no32 e), sq_one _ (text_no32 _ (cats_lt L))]
theorem rec_len {L : Nat} {kd : Int} {w o e : Nat} (h : 1 ≤ kd ∧ kd ≤ 4) (hw : w ≤ 65535) (ho : o ≤ 65535) (he : e ≤ 65535) : (recT L kd w o e).length ≤ 300 := by
  have := word_len h
  have := d10_len w hw
  have := d10_len o ho
  have := d10_len e he
  have := textOf_len (cats L)
  have := cats_len L
  unfold recT
  simp only [List.length_append, List.length_cons]
  omega
theorem sq_mem_len : ∀ (l x : List UInt8), x ∈ sq l → x.length ≤ l.length
  | [], x, h => by simp [sq] at h; subst h; simp
  | a :: l, x, h => by
    have ih := sq_mem_len l
    unfold sq at h
    split at h
    · rcases List.mem_cons.1 h with rfl | h
      · simp
      · exact Nat.le_trans (ih x h) (by simp)
    · cases hs : sq l with
      | nil => exact absurd hs (sq_ne l)
      | cons p ps =>
        rw [hs] at h ih
        rcases List.mem_cons.1 h with rfl | h
        · have := ih p List.mem_cons_self; simp; omega
        · exact Nat.le_trans (ih x (List.mem_cons_of_mem _ h)) (by simp)
theorem sq_len (l : List UInt8) : (sq l).length ≤ l.length + 1 := by
  induction l with
  | nil => simp [sq]
  | cons x r ih =>
    unfold sq
    split
    · simp only [List.length_cons]; omega
    · split <;> (rename_i h; rw [h] at ih; simp only [List.length_cons] at ih ⊢; omega)
theorem aprint_yes (L : Nat) (hL : L < 18446744073709551616) (kd : Int) (w o e : Nat) (h : mayB kd w o e = true) : Ev (fun k => audit_Print2.f k (L : Int) kd w o e) (bs (recT L kd w o e), 0) := by
  obtain ⟨hk, hw, ho, he⟩ := mayB_iff.1 h
  have h1 := word_len hk
  have h2 := d10_len w (by omega)
  have h3 := d10_len o (by omega)
  have h4 := d10_len e (by omega)
  have h5 := textOf_len (cats L)
  have h6 := cats_len L
  unfold audit_Print2.f
  refine Ev.bind (ev_val (may_ev _ _ _ _ _) h) (Ev.pos rfl ?_)
  rw [wordB_eq]
  refine Ev.bind (Ev.now _) ?_
  rw [itoa_d10 w (by omega), itoa_d10 o (by omega), itoa_d10 e (by omega)]
  refine Ev.bind (Ev.now _) (Ev.bind (Ev.now _) (Ev.bind (Ev.now _) (Ev.bind (print_ev L hL) ?_)))
  have ej : Lib.join ([wordB kd, bs (D10 w), bs (D10 o), bs (D10 e), bs (textOf (cats L))].map (fun x : ByteArray => x.data.toList)) (⟨#[32]⟩ : ByteArray).data.toList = recT L kd w o e := by
    simp [Lib.join, recT, bs_data, List.append_assoc]
  refine Ev.bind (a := bs (recT L kd w o e)) ?_ (Ev.now _)
  unfold strings_Join.f
  rw [ej, if_pos ⟨by simp, Nat.le_trans (rec_len hk (by omega) (by omega) (by omega)) (by omega)⟩]
  exact Ev.now _
theorem aprint_no (a0 kd w o e : Int) (h : mayB kd w o e = false) : Ev (fun k => audit_Print2.f k a0 kd w o e) (⟨#[]⟩, 2) := by
  unfold audit_Print2.f
  exact Ev.bind (ev_val (may_ev _ _ _ _ _) h) (Ev.neg (by decide) (Ev.now _))
theorem rmay18 (a0 a1 a2 a3 a4 : Int) : bureauref18_May.f a0 a1 a2 a3 a4 = some (mayB a1 a2 a3 a4) := by
  have hw : ∀ n : Int, bureauref18_within.f n = some (withinB n) := by
    intro n
    unfold bureauref18_within.f withinB
    by_cases h : n ≥ 0
    · rw [if_pos h, decide_eq_true (show 0 ≤ n by omega), Bool.true_and]
    · rw [if_neg h, decide_eq_false (show ¬ 0 ≤ n by omega), Bool.false_and]
  unfold bureauref18_May.f mayB
  rw [hw, hw, hw]
  by_cases h1 : a1 ≥ 1
  · rw [if_pos h1, decide_eq_true (show 1 ≤ a1 by omega)]
    by_cases h2 : a1 ≤ 4
    · rw [if_pos h2, decide_eq_true h2]
      cases withinB a2 <;> cases withinB a3 <;> cases withinB a4 <;> rfl
    · rw [if_neg h2, decide_eq_false h2]; rfl
  · rw [if_neg h1, decide_eq_false (show ¬ 1 ≤ a1 by omega)]; rfl
theorem rword18 {kd : Int} (h : 1 ≤ kd ∧ kd ≤ 4) : bureauref18_word.f kd = some (bs (wordL kd)) := by
  rw [bs_of]
  rcases kd_cases h with rfl | rfl | rfl | rfl <;> rfl
theorem rprint18_yes (L : Nat) (hL : L < 18446744073709551616) (kd : Int) (w o e : Nat) (h : mayB kd w o e = true) : Ev (fun k => bureauref18_Print.f k (L : Int) kd w o e) (bs (recT L kd w o e), 0) := by
  obtain ⟨hk, hw, ho, he⟩ := mayB_iff.1 h
  have h1 := word_len hk
  have h2 := d10_len w (by omega)
  have h3 := d10_len o (by omega)
  have h4 := d10_len e (by omega)
  have h5 := textOf_len (cats L)
  have h6 := cats_len L
  unfold bureauref18_Print.f
  rw [rmay18, h]
  refine Ev.bind (Ev.now _) (Ev.pos rfl ?_)
  rw [rword18 hk, show (⟨#[32]⟩ : ByteArray) = bs [32] from rfl]
  refine Ev.bind (Ev.now _) (Ev.pos ?_ (Ev.bind (rdigits_ev w (by omega)) ?_))
  · rw [bs_size]; omega
  rw [bs_append, bs_append, bs_append]
  refine Ev.pos ?_ (Ev.pos ?_ (Ev.bind (rdigits_ev o (by omega)) ?_))
  · simp only [bs_size, List.length_append, List.length_cons, List.length_nil]; omega
  · simp only [bs_size, List.length_append, List.length_cons, List.length_nil]; omega
  rw [bs_append, bs_append]
  refine Ev.pos ?_ (Ev.pos ?_ (Ev.bind (rdigits_ev e (by omega)) ?_))
  · simp only [bs_size, List.length_append, List.length_cons, List.length_nil]; omega
  · simp only [bs_size, List.length_append, List.length_cons, List.length_nil]; omega
  rw [bs_append, bs_append]
  refine Ev.pos ?_ (Ev.pos ?_ (Ev.bind (rprint_ev L hL) ?_))
  · simp only [bs_size, List.length_append, List.length_cons, List.length_nil]; omega
  · simp only [bs_size, List.length_append, List.length_cons, List.length_nil]; omega
  rw [bs_append]
  refine Ev.pos ?_ (ev_val (Ev.now _) ?_)
  · simp only [bs_size, List.length_append, List.length_cons, List.length_nil]; omega
  · unfold recT
    simp [List.append_assoc]
theorem rprint18_no (a0 kd w o e : Int) (h : mayB kd w o e = false) : Ev (fun k => bureauref18_Print.f k a0 kd w o e) (⟨#[]⟩, 2) := by
  unfold bureauref18_Print.f
  rw [rmay18, h]
  exact Ev.bind (Ev.now _) (Ev.neg (by decide) (Ev.now _))
end Go.Proofs.YtcbiilbmldinhaaDoor.PB
end

section
namespace Go.Proofs.YtcbiilbmldinhaaDoor.PB
open Go.RowKit Go.Proofs.YtcbiilbmldinhaaDoorW.PrintWords Go.Proofs.YtcbiilbmldinhaaDoorW.PrintLast Go.Proofs.YtcbiilbmldinhaaDoorW.PrintMore
attribute [local go_sem] max2_int min2_int max_two min_two max_three min_three max_four min_four   
set_option linter.unusedVariables false
set_option linter.unusedSimpArgs false
theorem eqA38 (d : Nat) (w : World) (x0 y0 : Int) (x1 y1 : Int) (x2 y2 : Int) (x3 y3 : Int) (x4 y4 : Int) :
  (Op.equalIn (d + 2) 38 (.agg #[.int .u64 x0, .int .i64 x1, .int .i64 x2, .int .i64 x3, .int .i64 x4]) (.agg #[.int .u64 y0, .int .i64 y1, .int .i64 y2, .int .i64 y3, .int .i64 y4])).run Tryd.prog w = .ok (x0 == y0 && (x1 == y1 && (x2 == y2 && (x3 == y3 && (x4 == y4))))) w := by
 refine eqA_of Tryd.underlying38 (by kernel_rfl) ?_
 refine eqf_cons (by rfl) (by go_simp; rfl) (by go_simp; rfl) (by go_simp) ?_
 refine eqf_cons (by rfl) (by go_simp; rfl) (by go_simp; rfl) (by go_simp) ?_
 refine eqf_cons (by rfl) (by go_simp; rfl) (by go_simp; rfl) (by go_simp) ?_
 refine eqf_cons (by rfl) (by go_simp; rfl) (by go_simp; rfl) (by go_simp) ?_
 exact eqf_last (by rfl) (by go_simp; rfl) (by go_simp; rfl) (by go_simp)
end Go.Proofs.YtcbiilbmldinhaaDoor.PB
end

section
namespace Go.Proofs.YtcbiilbmldinhaaDoor.PB
open Go.RowKit Go.Proofs.YtcbiilbmldinhaaDoorW.PrintWords Go.Proofs.YtcbiilbmldinhaaDoorW.PrintLast Go.Proofs.YtcbiilbmldinhaaDoorW.PrintMore
set_option maxRecDepth 100000
set_option linter.unusedVariables false
set_option linter.unusedSimpArgs false
def okR (L : Nat) (kd : Int) (w o e : Nat) : Prop := L < 18446744073709551616 ∧ mayB kd w o e = true
theorem split_rec {L : Nat} {kd : Int} {w o e : Nat} (h : okR L kd w o e) : strings_Split.f (bs (recT L kd w o e)) (⟨#[32]⟩ : ByteArray) = some [wordB kd, bs (D10 w), bs (D10 o), bs (D10 e), bs (textOf (cats L))] := by
  obtain ⟨hk, hw, ho, he⟩ := mayB_iff.1 h.2
  have hl := rec_len (L := L) hk (w := w) (o := o) (e := e) (by omega) (by omega) (by omega)
  rw [split32_ev _ (by rw [bs_size]; omega), bs_data, sq_rec hk]
  simp [bs_of]
theorem aparse_yes {L : Nat} {kd : Int} {w o e : Nat} (h : okR L kd w o e) : Ev (fun k => audit_Parse.f k (bs (recT L kd w o e))) ((L : Int), kd, (w : Int), (o : Int), (e : Int), 0) := by
  obtain ⟨hk, hw, ho, he⟩ := mayB_iff.1 h.2
  have hl := rec_len (L := L) hk (w := w) (o := o) (e := e) (by omega) (by omega) (by omega)
  have l1 := word_len hk
  have l2 := d10_len w (by omega)
  have l3 := d10_len o (by omega)
  have l4 := d10_len e (by omega)
  have l5 := textOf_len (cats L)
  have l6 := cats_len L
  have hws : (wordB kd).size ≤ 7 := by rw [Lib.size_eq]; exact l1
  unfold audit_Parse.f
  refine Ev.pos (by rw [bs_size]; omega) ?_
  rw [split_rec h]
  refine Ev.bind (Ev.now _) (Ev.pos rfl (Ev.pos ?_ ?_))
  · simp only [List.all_cons, List.all_nil, Bool.and_true, Bool.and_eq_true, decide_eq_true_eq, bs_size]
    omega
  · have hp : Ev (fun k => label_Parse.f k (bs (textOf (cats L)))) ((L : Int), 0) := by
      rcases parse_ev (bs (textOf (cats L))) (by rw [bs_size]; omega) with ⟨n, hn, hev⟩ | ⟨hno, _⟩
      · obtain rfl : n = L := text_inj hn.1 h.1 (bs_inj hn.2.symm)
        exact hev
      · exact absurd ⟨h.1, rfl⟩ (hno L)
    refine Ev.bind hp ?_
    have e1 : kindUpto ([wordB kd, bs (D10 w), bs (D10 o), bs (D10 e), bs (textOf (cats L))].getD 0 ⟨#[]⟩) 4 = kd := kind_word hk
    have e2 : atoiV ([wordB kd, bs (D10 w), bs (D10 o), bs (D10 e), bs (textOf (cats L))].getD 1 ⟨#[]⟩) = w := atoi_d10 w (by omega)
    have e3 : atoiV ([wordB kd, bs (D10 w), bs (D10 o), bs (D10 e), bs (textOf (cats L))].getD 2 ⟨#[]⟩) = o := atoi_d10 o (by omega)
    have e4 : atoiV ([wordB kd, bs (D10 w), bs (D10 o), bs (D10 e), bs (textOf (cats L))].getD 3 ⟨#[]⟩) = e := atoi_d10 e (by omega)
    rw [e1, e2, e3, e4]
    refine Ev.bind (aprint_yes L h.1 kd w o e h.2) ?_
    rw [if_pos ⟨rfl, rfl⟩]
    exact Ev.now _
theorem ev_det {α : Type} {g : Nat → Option α} {a b : α} (h : Ev g a) (k : Ev g b) : a = b := by
  obtain ⟨K, hK⟩ := h
  obtain ⟨K', hK'⟩ := k
  have h1 := hK (max K K') (Nat.le_max_left _ _)
  have h2 := hK' (max K K') (Nat.le_max_right _ _)
  rw [h1] at h2
  exact Option.some.inj h2
theorem rec_inj {L : Nat} {kd : Int} {w o e : Nat} {L' : Nat} {kd' : Int} {w' o' e' : Nat} (h : okR L kd w o e) (h' : okR L' kd' w' o' e') (he : recT L kd w o e = recT L' kd' w' o' e') : L = L' ∧ kd = kd' ∧ w = w' ∧ o = o' ∧ e = e' := by
  have h1 := aparse_yes h
  rw [he] at h1
  have := ev_det h1 (aparse_yes h')
  simp only [Prod.mk.injEq, and_true] at this
  obtain ⟨a, b, c, d, e⟩ := this
  exact ⟨by omega, b, by omega, by omega, by omega⟩
theorem aprint_any (n : Nat) (hn : n < 18446744073709551616) (kd v1 v2 v3 : Int) (s : ByteArray) (hno : ∀ L kd w o e, okR L kd w o e → s ≠ bs (recT L kd w o e)) :
    ∃ t c, Ev (fun k => audit_Print2.f k (n : Int) kd v1 v2 v3) (t, c) ∧ Ev (fun k => bureauref18_Print.f k (n : Int) kd v1 v2 v3) (t, c) ∧ ¬ (c = 0 ∧ t.toList = s.toList) := by
  cases h : mayB kd v1 v2 v3
  · exact ⟨_, _, aprint_no _ _ _ _ _ h, rprint18_no _ _ _ _ _ h, fun e => absurd e.1 (by decide)⟩
  · obtain ⟨hk, hw, ho, he⟩ := mayB_iff.1 h
    obtain ⟨w, rfl⟩ := Int.eq_ofNat_of_zero_le hw.1
    obtain ⟨o, rfl⟩ := Int.eq_ofNat_of_zero_le ho.1
    obtain ⟨e, rfl⟩ := Int.eq_ofNat_of_zero_le he.1
    exact ⟨_, _, aprint_yes n hn kd w o e h, rprint18_yes n hn kd w o e h, fun q => hno n kd w o e ⟨hn, h⟩ (toList_inj q.2.symm)⟩
theorem aparse_no {s : ByteArray} (hs : s.size ≤ 4096) (hno : ∀ L kd w o e, okR L kd w o e → s ≠ bs (recT L kd w o e)) : Ev (fun k => audit_Parse.f k s) (0, 0, 0, 0, 0, 5) := by
  have hsl : s.data.toList.length = s.size := (Lib.size_eq s).symm
  have hq := sq_len s.data.toList
  have hm := sq_mem_len s.data.toList
  unfold audit_Parse.f
  refine Ev.pos hs ?_
  rw [split32_ev _ hs]
  refine Ev.bind (Ev.now _) (Ev.ite' (fun h5 => ?_) (fun h5 => Ev.pos (by rw [List.length_map]; omega) (Ev.now _)))
  have hall : ((sq s.data.toList).map bs).all (fun x => decide (x.size ≤ 4096)) = true := by
    rw [List.all_eq_true]
    intro x hx
    obtain ⟨y, hy, rfl⟩ := List.mem_map.1 hx
    have := hm y hy
    rw [decide_eq_true_eq, bs_size]
    omega
  refine Ev.pos hall ?_
  have h4 : (((sq s.data.toList).map bs).getD 4 ⟨#[]⟩).size ≤ 4096 := by
    rw [List.getD_eq_getElem?_getD, List.getElem?_eq_getElem (by omega), Option.getD_some]
    exact of_decide_eq_true ((List.all_eq_true.1 hall) _ (List.getElem_mem _))
  obtain ⟨n, z, hn, hev⟩ : ∃ (n : Nat) (z : Int), n < 18446744073709551616 ∧ Ev (fun k => label_Parse.f k (((sq s.data.toList).map bs).getD 4 ⟨#[]⟩)) ((n : Int), z) := by
    rcases parse_ev _ h4 with ⟨n, hn, hev⟩ | ⟨_, hev⟩
    · exact ⟨n, 0, hn.1, hev⟩
    · exact ⟨0, 5, by omega, hev⟩
  refine Ev.bind hev ?_
  obtain ⟨t, c, h1, _, h3⟩ := aprint_any n hn (kindUpto (((sq s.data.toList).map bs).getD 0 ⟨#[]⟩) 4) (atoiV (((sq s.data.toList).map bs).getD 1 ⟨#[]⟩)) (atoiV (((sq s.data.toList).map bs).getD 2 ⟨#[]⟩)) (atoiV (((sq s.data.toList).map bs).getD 3 ⟨#[]⟩)) s hno
  refine Ev.bind h1 ?_
  rw [if_neg h3]
  exact Ev.now _
theorem rget (l : List ByteArray) (i : Nat) : rdOf ByteArray.empty l (i : Int) = l.getD i ByteArray.empty := by unfold rdOf; rw [Int.toNat_natCast]
theorem rparse18_no {s : ByteArray} (hs : s.size ≤ 4096) (hno : ∀ L kd w o e, okR L kd w o e → s ≠ bs (recT L kd w o e)) : Ev (fun k => bureauref18_Parse.f k s) (0, 0, 0, 0, 0, 5) := by
  have hsl : s.data.toList.length = s.size := (Lib.size_eq s).symm
  have hm := sq_mem_len s.data.toList
  unfold bureauref18_Parse.f
  refine Ev.bind (parts_ev s hs) (Ev.ite' (fun h5 => ?_) (fun h5 => Ev.now _))
  have h5' : ((sq s.data.toList).map bs).length = 5 := by omega
  have hsz : ∀ i : Nat, i < 5 → (rdOf ByteArray.empty ((sq s.data.toList).map bs) (i : Int)).size ≤ 4096 := by
    intro i hi
    rw [rget, List.getD_eq_getElem?_getD, List.getElem?_eq_getElem (by omega), Option.getD_some]
    obtain ⟨y, hy, e⟩ := List.mem_map.1 (List.getElem_mem (l := (sq s.data.toList).map bs) (n := i) (by omega))
    rw [← e, bs_size]
    have := hm y hy
    omega
  generalize (sq s.data.toList).map bs = p at *
  refine Ev.pos (by omega) ?_
  have hloop : ∀ (n : Nat), n < 18446744073709551616 → ∀ (d i : Nat), i + d = 5 → 1 ≤ i → Ev (fun k => bureauref18_Parse.l0 k s p (n : Int) (i : Int)) (0, 0, 0, 0, 0, 5) := by
    intro n hn d
    induction d with
    | zero =>
      intro i hi h1
      refine Ev.step (fun k => by simp only [bureauref18_Parse.l0]; rfl) ?_
      exact Ev.neg (by omega) (Ev.now _)
    | succ d ih =>
      intro i hi h1
      refine Ev.step (fun k => by simp only [bureauref18_Parse.l0]; rfl) ?_
      refine Ev.pos (by omega) (Ev.pos (by omega) (Ev.bind (number_ev _ (hsz 1 (by omega))) (Ev.pos (by omega) (Ev.bind (number_ev _ (hsz 2 (by omega))) (Ev.pos (by omega) (Ev.bind (number_ev _ (hsz 3 (by omega))) ?_))))))
      generalize ((numF _ 0 : Nat) : Int) = v1
      generalize ((numF _ 0 : Nat) : Int) = v2
      generalize ((numF _ 0 : Nat) : Int) = v3
      obtain ⟨t, c, _, h2, h3⟩ := aprint_any n hn (i : Int) v1 v2 v3 s hno
      refine Ev.bind h2 ?_
      have hnext : Ev (fun k => bureauref18_Parse.l0 k s p (n : Int) (wrap64 ((i : Int) + 1))) (0, 0, 0, 0, 0, 5) := by
        rw [w1n (n := 5) (by omega) (by omega)]
        exact ih (i + 1) (by omega) (by omega)
      exact Ev.ite' (fun hc => Ev.neg (fun ht => h3 ⟨hc, ht⟩) hnext) (fun _ => hnext)
  have hrp : ∀ q : ByteArray, (∃ n, IsText q n ∧ Ev (fun k => bureauref01_Parse.f k q) ((n : Int), 0)) ∨ Ev (fun k => bureauref01_Parse.f k q) (0, 5) := by
    intro q
    by_cases h : ∃ n, IsText q n
    · obtain ⟨n, hn⟩ := h
      exact .inl ⟨n, hn, rparse_yes hn⟩
    · exact .inr (rparse_no (fun n hn => h ⟨n, hn⟩))
  rcases hrp (rdOf ByteArray.empty p 4) with ⟨n, hn, hev⟩ | hev
  · exact Ev.bind hev (Ev.pos rfl (hloop n hn.1 4 1 rfl (by omega)))
  · exact Ev.bind hev (Ev.neg (by decide) (Ev.now _))
theorem num_of (n : Nat) (hn : n ≤ 65535) : numF (bs (D10 n)).data.toList 0 = n := by
  have := num_d10 n [] hn
  rw [List.append_nil] at this
  rw [bs_data, this]
  rfl
theorem rparse18_yes {L : Nat} {kd : Int} {w o e : Nat} (h : okR L kd w o e) : Ev (fun k => bureauref18_Parse.f k (bs (recT L kd w o e))) ((L : Int), kd, (w : Int), (o : Int), (e : Int), 0) := by
  obtain ⟨hk, hw, ho, he⟩ := mayB_iff.1 h.2
  have hl := rec_len (L := L) hk (w := w) (o := o) (e := e) (by omega) (by omega) (by omega)
  have l2 := d10_len w (by omega)
  have l3 := d10_len o (by omega)
  have l4 := d10_len e (by omega)
  unfold bureauref18_Parse.f
  refine Ev.bind (parts_ev _ (by rw [bs_size]; omega)) ?_
  rw [bs_data, sq_rec hk]
  refine Ev.pos rfl (Ev.pos (by simp) (Ev.bind (rparse_yes ⟨h.1, rfl⟩) (Ev.pos rfl ?_)))
  have hloop : ∀ (d i : Nat), i + d = kd.toNat → 1 ≤ i → Ev (fun k => bureauref18_Parse.l0 k (bs (recT L kd w o e)) ([wordL kd, D10 w, D10 o, D10 e, textOf (cats L)].map bs) (L : Int) (i : Int)) ((L : Int), kd, (w : Int), (o : Int), (e : Int), 0) := by
    intro d
    induction d with
    | zero =>
      intro i hi h1
      obtain hik : (i : Int) = kd := by omega
      refine Ev.step (fun k => by simp only [bureauref18_Parse.l0]; rfl) ?_
      refine Ev.pos (by omega) (Ev.pos (by simp) (Ev.bind (number_ev (bs (D10 w)) (by rw [bs_size]; omega)) (Ev.pos (by simp) (Ev.bind (number_ev (bs (D10 o)) (by rw [bs_size]; omega)) (Ev.pos (by simp) (Ev.bind (number_ev (bs (D10 e)) (by rw [bs_size]; omega)) ?_))))))
      rw [num_of w (by omega), num_of o (by omega), num_of e (by omega), hik]
      refine Ev.bind (rprint18_yes L h.1 kd w o e h.2) (Ev.pos rfl (Ev.pos rfl (Ev.now _)))
    | succ d ih =>
      intro i hi h1
      refine Ev.step (fun k => by simp only [bureauref18_Parse.l0]; rfl) ?_
      refine Ev.pos (by omega) (Ev.pos (by simp) (Ev.bind (number_ev (bs (D10 w)) (by rw [bs_size]; omega)) (Ev.pos (by simp) (Ev.bind (number_ev (bs (D10 o)) (by rw [bs_size]; omega)) (Ev.pos (by simp) (Ev.bind (number_ev (bs (D10 e)) (by rw [bs_size]; omega)) ?_))))))
      rw [num_of w (by omega), num_of o (by omega), num_of e (by omega)]
      have hki : mayB (i : Int) w o e = true := mayB_iff.2 ⟨by omega, hw, ho, he⟩
      have hne : ¬ (bs (recT L (i : Int) w o e)).toList = (bs (recT L kd w o e)).toList := fun q => by
        have := (rec_inj ⟨h.1, hki⟩ h (bs_inj (toList_inj q))).2.1
        omega
      refine Ev.bind (rprint18_yes L h.1 (i : Int) w o e hki) (Ev.pos rfl (Ev.neg hne ?_))
      rw [w1n (n := 5) (by omega) (by omega)]
      exact ih (i + 1) (by omega) (by omega)
  exact hloop (kd.toNat - 1) 1 (by omega) (by omega)
theorem nat64 {a : Int} (h : (Lit.int .u64 a).wf = true) : ∃ n : Nat, a = (n : Int) ∧ n < 18446744073709551616 := nat_of (wf_u64 h)
theorem prints_ev (L : Nat) (hL : L < 18446744073709551616) (kd w o e : Int) : ∃ t c, Ev (fun k => audit_Print2.f k (L : Int) kd w o e) (t, c) ∧ Ev (fun k => bureauref18_Print.f k (L : Int) kd w o e) (t, c) := by
  cases h : mayB kd w o e
  · exact ⟨_, _, aprint_no _ _ _ _ _ h, rprint18_no _ _ _ _ _ h⟩
  · obtain ⟨hk, hw, ho, he⟩ := mayB_iff.1 h
    obtain ⟨w, rfl⟩ := Int.eq_ofNat_of_zero_le hw.1
    obtain ⟨o, rfl⟩ := Int.eq_ofNat_of_zero_le ho.1
    obtain ⟨e, rfl⟩ := Int.eq_ofNat_of_zero_le he.1
    exact ⟨_, _, aprint_yes L hL kd w o e h, rprint18_yes L hL kd w o e h⟩
theorem parses_ev (s : ByteArray) (hs : s.size ≤ 4096) : ∃ r, Ev (fun k => audit_Parse.f k s) r ∧ Ev (fun k => bureauref18_Parse.f k s) r := by
  by_cases h : ∃ L kd w o e, okR L kd w o e ∧ s = bs (recT L kd w o e)
  · obtain ⟨L, kd, w, o, e, h, rfl⟩ := h
    exact ⟨_, aparse_yes h, rparse18_yes h⟩
  · have hno : ∀ L kd w o e, okR L kd w o e → s ≠ bs (recT L kd w o e) := fun L kd w o e hr he => h ⟨L, kd, w, o, e, hr, he⟩
    exact ⟨_, aparse_no hs hno, rparse18_no hs hno⟩
theorem ev_get {g : Nat → Option Bool} {r : Bool} (h : Ev g r) : ∃ k, g k = some r := ⟨h.choose, h.choose_spec _ (Nat.le_refl _)⟩
theorem texts_ev (a0 a1 a2 a3 a4 : Int) (s : ByteArray) (w0 : (Lit.int .u64 a0).wf = true) : Ev (fun k => bureaulaw18_AuditTexts.f k a0 a1 a2 a3 a4 s) true := by
  obtain ⟨L, rfl, hL⟩ := nat64 w0
  unfold bureaulaw18_AuditTexts.f
  refine Ev.bind (Ev.now true) (Ev.pos rfl (Ev.ite' (fun _ => Ev.now _) (fun hs => ?_)))
  refine Ev.bind (Ev.now _) ?_
  obtain ⟨t, c, h1, h2⟩ := prints_ev L hL a1 a2 a3 a4
  obtain ⟨r, h3, h4⟩ := parses_ev s (by omega)
  refine Ev.bind h1 (Ev.bind h2 (Ev.bind h3 (Ev.bind h4 (Ev.pos (by first | trivial | rfl) (Ev.pos (by first | trivial | rfl) (Ev.bind (Ev.now _) (Ev.pos ?_ (ev_val (Ev.now _) ?_))))))))
  · simp
  · simp
end Go.Proofs.YtcbiilbmldinhaaDoor.PB
end

section
namespace Go.Proofs.YtcbiilbmldinhaaDoor.Opn
open Go.ChangeShapes Go.WideShapes Go.Deep Go.Proofs.YtcbiilbmldinhaaDoorW.PrintWords
set_option linter.unusedVariables false
def Opn {α : Type} (P : Program) (w : World) (t : TypeId) (d : Kd α) (wf : α → Prop) : Prop :=
  ∀ (H : Type) (enc : TypeId × Value → H) (base : Nat) (spare : Nat → Bool) (held : Bool) (fuel : Nat) (cs : List Value) (x : DataW H × List MemPlace),
    DataW.trod enc P w base spare held fuel t cs = some x → (∀ n ∈ x.1.weights P t, n ≤ reachBytes) → ∃ a : α, d.K w a cs ∧ wf a
section
variable {P : Program} {w : World}
theorem int {t : TypeId} {k : IntKind} (hu : P.underlying t = some (.int k)) : Opn P w t (Kd.int k) (fun n => (Lit.int k n).wf = true) := by
  intro H enc base spare held fuel cs x h _
  obtain ⟨n, rfl, _, hw⟩ := DataW.trod_int hu h
  exact ⟨n, rfl, hw⟩
theorem bool {t : TypeId} (hu : P.underlying t = some .bool) : Opn P w t Kd.bool (fun _ => True) := by
  intro H enc base spare held fuel cs x h _
  obtain ⟨b, rfl, _⟩ := DataW.trod_bool hu h
  exact ⟨b, rfl, trivial⟩
theorem string {t : TypeId} (hu : P.underlying t = some .string) : Opn P w t Kd.string (fun s => s.size ≤ 140737488351232) := by
  intro H enc base spare held fuel cs x h hz
  obtain ⟨s, rfl, rfl, _⟩ := DataW.trod_string hu h
  refine ⟨s, rfl, ?_⟩
  have := hz s.data.toList.length (by simp [DataW.weights])
  rw [data_length] at this
  exact this
theorem weightsAll_mem {H : Type} {e : TypeId} : ∀ {ds : List (DataW H)} {d : DataW H}, d ∈ ds → ∀ n ∈ d.weights P e, n ∈ DataW.weightsAll P e ds
  | d0 :: ds, d, hd, n, hn => by
    simp only [DataW.weightsAll, List.mem_append]
    rcases List.mem_cons.1 hd with rfl | hd
    · exact .inl hn
    · exact .inr (weightsAll_mem hd n hn)
theorem slice {α : Type} {t e : TypeId} {d : Kd α} {wf : α → Prop} (hu : P.underlying t = some (.slice e)) (hc : P.cellsOf e = d.sz) {B : Nat} (hB : P.bytesOf e = B) (ho : Opn P w e d wf) :
    Opn P w t (Kd.slice e d) (fun xs => xs.length * B ≤ 140737488351232 ∧ ∀ x ∈ xs, wf x) := by
  intro H enc base spare held fuel cs x h hz
  rcases open_slice hu h with ⟨rfl, rfl⟩ | ⟨a, len, cap, m, n, D, Pl, rfl, hb, hl, hm, hmm, rfl, hel⟩
  · exact ⟨[], ⟨none, 0, rfl, Nat.le_refl _, Kd.C_nil _ _⟩, by simp, by intro x hx; cases hx⟩
  · simp only [DataW.weights, hu, List.mem_cons, List.mem_append] at hz
    have hlm : len ≤ m := by rw [hmm]; split <;> omega
    have hall : ∀ i, i < len → ∃ a' : α, (∃ cs', w.cells? base (a.add (i * P.cellsOf e)) (P.cellsOf e) = some cs' ∧ d.K w a' cs') ∧ wf a' := fun i hi => by
      obtain ⟨cs', h1, h2⟩ := hel i (by omega)
      obtain ⟨a', h3, h4⟩ := ho H enc base spare held n cs' _ h2 (fun q hq => hz q (.inr (.inl (weightsAll_mem (List.mem_map.2 ⟨i, List.mem_range.2 hi, rfl⟩) q hq))))
      exact ⟨a', ⟨cs', h1, h3⟩, h4⟩
    obtain ⟨xs, hxs, hx⟩ : ∃ xs : List α, xs.length = len ∧ ∀ i, ∀ h : i < xs.length, (∃ cs', w.cells? base (a.add (i * P.cellsOf e)) (P.cellsOf e) = some cs' ∧ d.K w xs[i] cs') ∧ wf xs[i] := by
      clear hz hel hlm hmm hm hl h
      induction len with
      | zero => exact ⟨[], rfl, fun i h => absurd h (by simp)⟩
      | succ q ih =>
        obtain ⟨xs, h1, h2⟩ := ih (fun i hi => hall i (by omega))
        obtain ⟨a', h3⟩ := hall q (by omega)
        refine ⟨xs ++ [a'], by simp [h1], fun i h => ?_⟩
        by_cases hi : i < xs.length
        · rw [List.getElem_append_left hi]; exact h2 i hi
        · have : i = q := by simp at h; omega
          subst this
          rw [List.getElem_append_right (by omega)]
          simpa using h3
    refine ⟨xs, ⟨some a, cap, by rw [hxs], by omega, rfl, by have : cap ≤ 9223372036854775807 := hm; omega, fun hp => ⟨a, rfl, fun i p hp => ?_⟩⟩, ?_, ?_⟩
    · have hi : i < xs.length := (List.getElem?_eq_some_iff.1 hp).1
      have hpe : p = xs[i] := by rw [List.getElem?_eq_getElem hi] at hp; exact (Option.some.inj hp).symm
      obtain ⟨⟨cs', h1, h2⟩, _⟩ := hx i hi
      rw [hc] at h1
      obtain ⟨_, hcl, hat⟩ := World.cells?_some h1
      refine ⟨cs', by rw [hcl], by rw [hpe]; exact h2, fun j u hu => ?_⟩
      have hj : j < d.sz := by have := (List.getElem?_eq_some_iff.1 hu).1; omega
      have := hat j hj
      rw [← Go.Deep.add_add, this, hu]
    · have := hz _ (.inl rfl)
      rw [hB] at this
      simp only [List.length_map, List.length_range] at this
      rw [hxs]
      exact Nat.le_trans (Nat.mul_le_mul_right _ (by omega)) this
    · intro x hxm
      obtain ⟨i, hi, rfl⟩ := List.mem_iff_getElem.1 hxm
      exact (hx i hi).2
end
end Go.Proofs.YtcbiilbmldinhaaDoor.Opn
end

section
namespace Go.Proofs.YtcbiilbmldinhaaDoor.PB
open Go.ChangeShapes Go.WideShapes Go.Proofs.YtcbiilbmldinhaaDoor Go.Proofs.YtcbiilbmldinhaaDoorW.PrintWords
set_option linter.unusedVariables false
def wf38 (x : S38) : Prop := ((Lit.int .u64 x.f0).wf = true) ∧ ((Lit.int .i64 x.f1).wf = true) ∧ ((Lit.int .i64 x.f2).wf = true) ∧ ((Lit.int .i64 x.f3).wf = true) ∧ ((Lit.int .i64 x.f4).wf = true)
theorem opn38 {w : World} : Opn.Opn Tryd.prog w 38 k38 wf38 := by
  intro H enc base spare held fuel cs x h hz
  obtain ⟨xs, n, _, rfl, hlen, hyl, hf⟩ := DataW.trod_struct Tryd.underlying38 h
  have hcl : cs.length = 5 := hlen.trans (by kernel_rfl)
  obtain ⟨y0, y1, y2, y3, y4, rfl⟩ : ∃ y0 y1 y2 y3 y4, xs = [y0, y1, y2, y3, y4] := by
    clear h hz hf hlen hcl; have hyl' : xs.length = 5 := hyl; clear hyl
    match xs, hyl' with | [y0, y1, y2, y3, y4], _ => exact ⟨y0, y1, y2, y3, y4, rfl⟩
  obtain ⟨c0, c1, c2, c3, c4, rfl⟩ : ∃ c0 c1 c2 c3 c4, cs = [c0, c1, c2, c3, c4] := by
    clear h hz hf hlen hyl
    match cs, hcl with | [c0, c1, c2, c3, c4], _ => exact ⟨c0, c1, c2, c3, c4, rfl⟩
  simp only [DataW.weights, Tryd.underlying38] at hz
  have h0 : DataW.trod enc Tryd.prog w base spare held n 34 [c0] = some y0 := by have z := hf 0 _ rfl; rwa [show Tryd.prog.cellsOf _ = 1 from by kernel_rfl] at z
  obtain ⟨a0, k0_, w0⟩ := (Opn.int Tryd.underlying34) H enc base spare held n _ _ h0 (fun q hq => hz q (by simp [DataW.weightsEach, hq]))
  have h1 : DataW.trod enc Tryd.prog w base spare held n 3 [c1] = some y1 := by have z := hf 1 _ rfl; rwa [show Tryd.prog.cellsOf _ = 1 from by kernel_rfl] at z
  obtain ⟨a1, k1_, w1⟩ := (Opn.int Tryd.underlying3) H enc base spare held n _ _ h1 (fun q hq => hz q (by simp [DataW.weightsEach, hq]))
  have h2 : DataW.trod enc Tryd.prog w base spare held n 3 [c2] = some y2 := by have z := hf 2 _ rfl; rwa [show Tryd.prog.cellsOf _ = 1 from by kernel_rfl] at z
  obtain ⟨a2, k2_, w2⟩ := (Opn.int Tryd.underlying3) H enc base spare held n _ _ h2 (fun q hq => hz q (by simp [DataW.weightsEach, hq]))
  have h3 : DataW.trod enc Tryd.prog w base spare held n 3 [c3] = some y3 := by have z := hf 3 _ rfl; rwa [show Tryd.prog.cellsOf _ = 1 from by kernel_rfl] at z
  obtain ⟨a3, k3_, w3⟩ := (Opn.int Tryd.underlying3) H enc base spare held n _ _ h3 (fun q hq => hz q (by simp [DataW.weightsEach, hq]))
  have h4 : DataW.trod enc Tryd.prog w base spare held n 3 [c4] = some y4 := by have z := hf 4 _ rfl; rwa [show Tryd.prog.cellsOf _ = 1 from by kernel_rfl] at z
  obtain ⟨a4, k4_, w4⟩ := (Opn.int Tryd.underlying3) H enc base spare held n _ _ h4 (fun q hq => hz q (by simp [DataW.weightsEach, hq]))
  exact ⟨⟨a0, a1, a2, a3, a4⟩, ⟨_, _, rfl, k0_, ⟨_, _, rfl, k1_, ⟨_, _, rfl, k2_, ⟨_, _, rfl, k3_, k4_⟩⟩⟩⟩, w0, w1, w2, w3, w4⟩
end Go.Proofs.YtcbiilbmldinhaaDoor.PB
end

section
namespace Go.Proofs.YtcbiilbmldinhaaDoor.PB
open Go.RowKit
set_option maxRecDepth 100000
theorem numOk_of (W : World) (h : laidMetH Tryd.prog Rows.auditTextsRow.laid W) : NumOk W := by
  rw [MakeChecks.laidMetH_plain _ _ _ (by kernel_rfl)] at h
  have h0 : laidMet Tryd.prog [("math/bits.deBruijn32tab", Rows.laid_math_bits_deBruijn32tab), ("math/bits.deBruijn64tab", Rows.laid_math_bits_deBruijn64tab), ("internal/strconv.uint64pow10", Lib.tabData .u64 Lib.pow10Tab), ("unicode/utf8.acceptRanges", Rows.laid_unicode_utf8_acceptRanges), ("strconv.ErrRange", Rows.laid_strconv_ErrRange), ("strconv.ErrSyntax", Rows.laid_strconv_ErrSyntax), ("unicode/utf8.first", Rows.laid_unicode_utf8_first)] W := h
  have hrow : ∀ u, Tryd.prog.typeName? 3 u = some "*errors.errorString" → u = 140 := fun u hu =>
    typeName_ptr_named (nm := "errors.errorString") (by rw [show "*" ++ "errors.errorString" = "*errors.errorString" by decide]; kernel_rfl) (by kernel_rfl) (by decide) u (by rw [show "*" ++ "errors.errorString" = "*errors.errorString" by decide]; exact hu)
  refine ⟨Lib.tabIs_of_head (g := 3) (t := 134) (e := 33) (n := 20) (by kernel_rfl) (by kernel_rfl) (by kernel_rfl) (by kernel_rfl) (by kernel_rfl) (by kernel_rfl) h0.tail.tail, ?_, ?_⟩
  · obtain ⟨a, s, hv, _⟩ := laid_sentinel (g := 0) (tp := 140) (te := 142) (ts := 9) h0.tail.tail.tail.tail.tail (by kernel_rfl) (by kernel_rfl) Tryd.underlying82 hrow Tryd.underlying140 Tryd.underlying142 rfl rfl Tryd.underlying9 (by kernel_rfl) (by kernel_rfl)
    exact ⟨_, _, hv⟩
  · obtain ⟨a, s, hv, _⟩ := laid_sentinel (g := 1) (tp := 140) (te := 142) (ts := 9) h0.tail.tail.tail.tail (by kernel_rfl) (by kernel_rfl) Tryd.underlying82 hrow Tryd.underlying140 Tryd.underlying142 rfl rfl Tryd.underlying9 (by kernel_rfl) (by kernel_rfl)
    exact ⟨_, _, hv⟩
end Go.Proofs.YtcbiilbmldinhaaDoor.PB
end

section
namespace Go.Proofs.YtcbiilbmldinhaaDoor.PB
open Go.RowKit Go.Proofs.YtcbiilbmldinhaaDoorW.PrintWords
set_option linter.unusedVariables false
theorem AuditTexts_pure (x : S38) (s : ByteArray) (w0 : wf38 x) (w1 : s.size ≤ 140737488351232) : ∃ k, bureaulaw18_AuditTexts.f k x.f0 x.f1 x.f2 x.f3 x.f4 s = some true :=
  ev_get (texts_ev _ _ _ _ _ s w0.1)
end Go.Proofs.YtcbiilbmldinhaaDoor.PB
end

section
namespace Go.Proofs.YtcbiilbmldinhaaDoor.PB
open Go.ChangeShapes Go.WideShapes Go.ChangeAt Go.RowKit Go.Proofs.YtcbiilbmldinhaaDoorW.PrintWords
open Go.ChangeMaps (open_string shut_string)
set_option linter.unusedVariables false
namespace auditTexts
open Go.Proofs.YtcbiilbmldinhaaDoor
theorem own : ownKnob Tryd.prog.godebug = none := by kernel_rfl
theorem laidOut : laidOutB Tryd.prog = true := by kernel_rfl
set_option maxRecDepth 100000 in
theorem lifted (os : Os) (started : os.Started) (H : Type) (enc : TypeId × Value → H) :
    ReturnsInHanded {} Tryd.checked os 8 .any (fun w args => (Rows.auditTextsSpec.pre enc Tryd.prog Tryd.f8 [] false w args ∧ laidMetH Tryd.prog Rows.auditTextsRow.laid w) ∧ sizedMet enc Tryd.prog Tryd.f8 (OpenSpec.ofChange Rows.auditTextsSpec) false w args) (Rows.auditTextsSpec.post enc Tryd.prog Tryd.f8 false true false false) := by
  refine returnsInHanded_of_change_and (C := Tryd.checked) (X := fun w _ => laidMetH Tryd.prog Rows.auditTextsRow.laid w) (fun _ _ _ hh h => h.of_heap hh) own started (by kernel_rfl) Tryd.func8
    (ChangeSpec.witness_shaped (enc := enc) (C := Tryd.checked) (os := os) (X := fun w _ => laidMetH Tryd.prog Rows.auditTextsRow.laid w) false (World.laidAll Tryd.prog os Rows.auditTextsRow.laid) #[.agg #[.int .u64 0, .int .i64 0, .int .i64 0, .int .i64 0, .int .i64 0], .string ByteArray.empty] 8 (World.laidAll_os _ _ _) (World.shaped_of_ZipB (by kernel_rfl) (by kernel_rfl)) (by kernel_rfl) (by kernel_rfl) (by kernel_rfl) (by rw [MakeChecks.laidMetH_plain _ _ _ (by kernel_rfl)]; exact laidMet_laidAll _ (by kernel_rfl) (by kernel_rfl))) ?_
  intro W base args ds gs before hval0 hW hcnd hsz0 hXL _
  have hsz : (DataW.weightsEach Tryd.prog (Tryd.f8.params.toList ++ Rows.auditTextsSpec.plain.varTypes Tryd.prog) (ds ++ gs)).all (· ≤ reachBytes) = true := hsz0
  have hval : ∀ (j : Nat) t v, Tryd.f8.params[j]? = some t → args[j]? = some v → Value.okWide Tryd.prog W .any base t v := hval0
  have hW' := hW
  obtain ⟨p, q, hA0, hV, rfl, hfz, hnd⟩ := hW
  have hA : DataW.TrodAll enc Tryd.prog W 0 (fun _ => true) true Tryd.f8.params.toList args.toList ds p := hA0
  rw [Tryd.params8] at hA hval hsz
  obtain ⟨v0, vs0, d0, ds0, p0, q0, hargs, rfl, rfl, h0, r0⟩ := trodAll_cons hA
  obtain ⟨v1, vs1, d1, ds1, p1, q1, rfl, rfl, rfl, h1, r1⟩ := trodAll_cons r0
  obtain ⟨rfl, rfl, rfl⟩ := trodAll_nil r1
  obtain rfl : args = #[v0, v1] := by cases args; simp_all
  obtain ⟨rfl, rfl⟩ := trodVars_none hV
  have hz0 : ∀ n ∈ d0.weights Tryd.prog 38, n ≤ reachBytes := fun n hn => by have z := List.all_eq_true.1 hsz n (DataW.weights_mem_each (j := 0) rfl rfl n hn); simpa using z
  have kk0 := h0
  have lt0 : ∀ x ∈ p0, x.block < W.heap.size := by obtain ⟨m, hm⟩ := kk0; exact DataW.trod_lt m _ _ _ hm
  obtain ⟨cs0, rfl, cz0⟩ := okWide_struct Tryd.underlying38 (hval 0 38 v0 rfl rfl)
  obtain ⟨x0, hK0, w0⟩ : ∃ x : S38, k38.K W x cs0.toList ∧ wf38 x := by
    obtain ⟨fuel, hf⟩ := h0
    exact opn38 H enc _ _ _ fuel _ _ hf hz0
  obtain hcs0 := k38_open hK0
  obtain rfl : cs0 = #[.int .u64 x0.f0, .int .i64 x0.f1, .int .i64 x0.f2, .int .i64 x0.f3, .int .i64 x0.f4] := Array.toList_inj.1 hcs0
  obtain ⟨a1, rfl, rfl, rfl, y1⟩ := open_string Tryd.underlying9 (hval 1 9 v1 rfl rfl) h1
  have w1 : a1.size ≤ 140737488351232 := by
    have z := sized_string hsz (j := 1) (t := 9) rfl rfl
    rw [Array.length_toList] at z
    exact z
  clear hA0 hval0 hsz0 hsz
  obtain ⟨k, hk⟩ := AuditTexts_pure x0 a1 w0 w1
  refine (bureaulaw18_AuditTexts.calls k x0.f0 x0.f1 x0.f2 x0.f3 x0.f4 a1 true W (PB.numOk_of W hXL)  hk).mono fun e W' ⟨he, bel⟩ => ?_
  subst he
  exact ⟨_, rfl, _, _, _, [], _, [], hW', trodAll_mk1 (shut_bool Tryd.underlying4 _), (trodAll_cons_mk (Below.trod laidOut (by kernel_rfl) (of_decide_eq_true (by kernel_rfl)) kk0 bel lt0) (trodAll_cons_mk (shut_string Tryd.underlying9 y1) trodAll_mk0)), rfl, bel.frame _, fun h => by cases h⟩
theorem over : Rows.auditTextsRow.holds Tryd.pinned (OpenSpec.ofChange Rows.auditTextsSpec) :=
  OpenClaim.holds_of_wide 8 Tryd.f8 rfl rfl rfl rfl rfl rfl rfl ⟨rfl, rfl, rfl, rfl, rfl⟩ rfl rfl rfl rfl rfl (by kernel_rfl) Tryd.func8 (by kernel_rfl)
    (of_decide_eq_true (by kernel_rfl)) (by unfold Func.isWrapper; first | (rw [if_pos (by decide +kernel)]; kernel_rfl) | (rw [if_neg (by decide +kernel)]; exact ⟨rfl, rfl⟩))
    (fun os started H enc _ => lifted os started H enc)
theorem proved : Rows.AuditTextsSaid := over
end auditTexts
end Go.Proofs.YtcbiilbmldinhaaDoor.PB
namespace Go.Proofs.YtcbiilbmldinhaaDoor
theorem auditTexts_holds : Rows.AuditTextsSaid := PB.auditTexts.proved
theorem auditTexts_card : Rows.AuditTextsCardSaid :=
  Claim7.holds_tied_plain_at .later [] [.data, .data, .data, .data, .sentinel, .sentinel, .pinned] true (true, "8468b460f20b78c7c63af62b12d0e325294c5ee833165461167e575c1ad1b535") true
    auditTexts_holds (fun _ h => by cases h) (by kernel_rfl) (fun _ h => by cases h) auditTexts_row_tie rfl ⟨rfl, rfl⟩ (by kernel_rfl) rfl
    (fun f fn hf hfn => by
      obtain rfl : f = 8 := Option.some.inj ((show Tryd.prog.funcNamed Rows.auditTextsRow.func = some 8 by kernel_rfl).symm.trans hf) |>.symm
      obtain rfl : fn = Tryd.f8 := (Option.some.inj (Tryd.func8.symm.trans hfn)).symm
      exact ⟨by kernel_rfl, fun j t ht => by
        rw [Tryd.params8] at ht
        have hm : t ∈ [38, 9] := by simpa using Array.mem_of_getElem? ht
        have hall : ([38, 9].all fun u => !Tryd.prog.wantsStandIn u) = true := by kernel_rfl
        exact (show Tryd.prog.wantsStandIn t = false by simpa using List.all_eq_true.1 hall t hm)⟩)
    (by kernel_rfl)
#print axioms auditTexts_card
end Go.Proofs.YtcbiilbmldinhaaDoor
end
