/- The row of a law out of its contract and its pure theorem. No condition. -/
import Derived.Test.YthlgilepfbehaaaDoorProg
import Derived.Laws.BitsAllLaws
import Derived.Laws.Bits128
import Derived.Shelf.Strings.Builder1
import Derived.Shelf.Strings.Builder2
import Derived.Shelf.Strings.OnBuilder
import Derived.Shelf.Strconv.Itoa0
import Derived.Shelf.Strconv.Itoa1
import Derived.Shelf.LaysM
import Derived.Shelf.Strconv.Itoa2
import Derived.Shelf.Strconv.Itoa3
import Derived.Shelf.Strings.Search1
import Derived.Shelf.Strings.Search2
import Derived.Shelf.Strings.Search3
import Derived.Shelf.Strings.Count
import Derived.Shelf.Strings.Shaped
import Derived.Shelf.Strings.Split
import Derived.Shelf.Strings.SplitShaped
import Derived.Shelf.Unicode.DecodeSlow
import Derived.Test.YthlgilepfbehaaaDoorProg
import Derived.Shelf.Strings.SplitCore
import Derived.Lib.JoinLaws
import Derived.Lib.SplitLaws
import Derived.Test.YthlgilepfbehaaaDoorRows
import Derived.Test.YthlgilepfbehaaaDoorTie
import Derived.Test.YthlgilepfbehaaaDoorCards
import Derived.LaidMore
import Derived.Lay
import Derived.Stop.Joined
import Derived.SevenTiedAt
import Derived.ProofKit
import Derived.OpenShut
import Derived.ShutString
import Derived.ChangeOld
import Derived.SizedLaws
import Derived.Test.YthlgilepfbehaaaDoorQLabelBack1
section
namespace Go.Proofs.YthlgilepfbehaaaDoor.PB
open Go.RowKit Go.Proofs.YthlgilepfbehaaaDoorW.PrintWords Go.Proofs.YthlgilepfbehaaaDoorW.PrintLast Go.Proofs.YthlgilepfbehaaaDoorW.PrintMore
attribute [local go_sem] max2_int min2_int max_two min_two max_three min_three max_four min_four   
set_option linter.unusedVariables false
set_option linter.unusedSimpArgs false
def errW : Option Int → Value
  | none => .nilIface
  | some c => .iface 0 (.int .i64 c)
theorem errW_none : errW none = .nilIface := rfl
theorem errW_some (c : Int) : errW (some c) = .iface 0 (.int .i64 c) := rfl
theorem info3 : (Tryd.prog.info? 3).map (fun i => (i.zero, i.size, i.bytes)) = some (some (.int .i64 0), 1, 8) := by kernel_rfl
theorem info9 : (Tryd.prog.info? 9).map (fun i => (i.zero, i.size, i.bytes)) = some (some (.string ⟨#[]⟩), 1, 16) := by kernel_rfl
end Go.Proofs.YthlgilepfbehaaaDoor.PB
end

section
namespace Go.Proofs.YthlgilepfbehaaaDoor.PB
open Go.RowKit Go.Proofs.YthlgilepfbehaaaDoorW.PrintWords Go.Proofs.YthlgilepfbehaaaDoorW.PrintLast Go.Proofs.YthlgilepfbehaaaDoorW.PrintMore
attribute [local go_sem] max2_int min2_int max_two min_two max_three min_three max_four min_four   
set_option linter.unusedVariables false
set_option linter.unusedSimpArgs false
def label_Of.l0 : Nat → Int → List Int → Int → Int → Option (Int × Int)
  | 0, _, _, _, _ => none
  | k + 1, x4, x7, x8, x9 => if x9 < x8 then (if 0 ≤ x9 then (if x9 < (x7.length : Int) then (if (rd x7 x9) < 0 then (some (0, 2)) else (if (rd x7 x9) > 63 then (some (0, 2)) else (if 0 ≤ (rd x7 x9) then (label_Of.l0 k (Go.bits .or .u64 x4 (shl .u64 1 (rd x7 x9))) x7 x8 (wrap64 (x9 + 1))) else (none)))) else (none)) else (none)) else (some (x4, 0))
def label_Of.f (k : Nat) (l0 : List Int) : Option (Int × Int) := label_Of.l0 k 0 l0 (l0.length : Int) 0
theorem label_Of.mono_l : ∀ k, (∀ y0 y1 y2 y3, LeO (label_Of.l0 k y0 y1 y2 y3) (label_Of.l0 (k + 1) y0 y1 y2 y3))
  | 0 => fun _ _ _ _ r h => by simp [label_Of.l0] at h
  | k + 1 => by
    have ih0 := label_Of.mono_l k
    · intro y0 y1 y2 y3
      unfold label_Of.l0
      repeat' first
      | (with_reducible exact ih0 _ _ _ _)
      | (with_reducible exact LeO.refl _)
      | (with_reducible exact LeO.none _)
      | (with_reducible refine LeO.ite ?_ ?_)
      | (with_reducible refine LeO.bind ?_ (fun _ => ?_))
      | exact ih0 _ _ _ _
      | exact LeO.none _
      | refine LeO.ite ?_ ?_
      | refine LeO.bind ?_ (fun _ => ?_)
theorem label_Of.mono : ∀ a0 k, LeO (label_Of.f k a0) (label_Of.f (k + 1) a0) := by
  intro a0 k
  have ih0 := label_Of.mono_l k
  unfold label_Of.f
  repeat' first
      | (with_reducible exact ih0 _ _ _ _)
      | (with_reducible exact LeO.refl _)
      | (with_reducible exact LeO.none _)
      | (with_reducible refine LeO.ite ?_ ?_)
      | (with_reducible refine LeO.bind ?_ (fun _ => ?_))
      | exact ih0 _ _ _ _
      | exact LeO.none _
      | refine LeO.ite ?_ ?_
      | refine LeO.bind ?_ (fun _ => ?_)
set_option maxHeartbeats 8000000 in
set_option maxRecDepth 100000 in
theorem label_Of.calls (k : Nat) (A0 : Option Addr) (c0 : Nat) (l0 : List Int) (r1 : Int) (r2 : Int) (w : World) (hr0 : Kd.C (Kd.int .i64) w A0 l0.length l0) (hc0 : l0.length ≤ c0) (h : label_Of.f k l0 = some (r1, r2)) :
    Calls Tryd.prog 11 #[.slice A0 l0.length c0] w fun e w' => e = .returned (.tuple #[.int .u64 r1, .int .i64 r2]) ∧ Drawn0 w w' := by
  have HR0 := Aside0.mk hr0
  have HC0 := Aside0.mk hc0
  clear hr0 hc0
  have H : (label_Of.l0 k 0 l0 (l0.length : Int) 0) = some (r1, r2) := h
  clear h
  have H' := Aside0.mk H
  clear H
  go_enter Tryd.func11, Tryd.ntmps11
  go_wp2
  go_loopg [4, 9] k (fun kq v4 v9 w' => ∃ (x4_1 : Int) (x9_1 : Int), v4 = .int .u64 x4_1 ∧ v9 = .int .i64 x9_1 ∧ Aside0 (label_Of.l0 kq x4_1 l0 (l0.length : Int) x9_1 = some (r1, r2)) ∧ Aside0 (kq ≤ k) ∧ Drawn0 w w')
  case atStart => exact ⟨(0), (0), (by first | rfl | (simp; done) | (simp [*]; done)), (by first | rfl | (simp; done) | (simp [*]; done)), H', ⟨Nat.le_refl _⟩, by repeat (first | exact Drawn0.refl _ | apply Drawn0.step)⟩
  case round =>
    clear H'
    try clear c1
    obtain ⟨x4_1, x9_1, rfl, rfl, HA, HK1, ⟨m1, rfl⟩⟩ := hrel
    cases gk with
    | zero => exact absurd HA.out (by simp [label_Of.l0])
    | succ k1 =>
      have H := HA.out
      clear HA
      simp only [label_Of.l0] at H
      by_cases c2 : x9_1 < (l0.length : Int)
      · rw [if_pos c2] at H
        have c2b0 : decide (x9_1 < (l0.length : Int)) = true := decide_eq_true c2
        clear c2
        by_cases c3 : 0 ≤ x9_1
        · rw [if_pos c3] at H
          have c3b0 : decide (0 ≤ x9_1) = true := decide_eq_true c3
          clear c3
          by_cases c4 : x9_1 < (l0.length : Int)
          · rw [if_pos c4] at H
            have c4b0 : decide (x9_1 < (l0.length : Int)) = true := decide_eq_true c4
            clear c4
            by_cases c5 : (rd l0 x9_1) < 0
            · rw [if_pos c5] at H
              have c5b0 : decide ((rd l0 x9_1) < 0) = true := decide_eq_true c5
              clear c5
              simp only [Option.some.injEq, Prod.mk.injEq] at H
              obtain ⟨rfl, rfl⟩ := H
              have p101 : 0 ≤ (x9_1 : Int) := of_decide_eq_true (by first | (with_reducible assumption) | assumption)
              have q101 : x9_1 < (l0.length : Int) := of_decide_eq_true (by first | (with_reducible assumption) | assumption)
              obtain ⟨ad101, e101, hx101_0⟩ := Kd.at_int HR0.out x9_1 p101 q101
              cases e101
              replace p101 := eq_true p101
              replace q101 := eq_true q101
              go_wp2
              go_ret2
              exact ⟨by first | rfl | (simp; done) | (simp [*]; done), by repeat (first | exact Drawn0.refl _ | apply Drawn0.step)⟩
            · rw [if_neg c5] at H
              have c5b0 : decide ((rd l0 x9_1) < 0) = false := decide_eq_false c5
              clear c5
              by_cases c6 : (rd l0 x9_1) > 63
              · rw [if_pos c6] at H
                have c6b0 : decide (63 < (rd l0 x9_1)) = true := decide_eq_true c6
                clear c6
                simp only [Option.some.injEq, Prod.mk.injEq] at H
                obtain ⟨rfl, rfl⟩ := H
                have p101 : 0 ≤ (x9_1 : Int) := of_decide_eq_true (by first | (with_reducible assumption) | assumption)
                have q101 : x9_1 < (l0.length : Int) := of_decide_eq_true (by first | (with_reducible assumption) | assumption)
                obtain ⟨ad101, e101, hx101_0⟩ := Kd.at_int HR0.out x9_1 p101 q101
                cases e101
                replace p101 := eq_true p101
                replace q101 := eq_true q101
                go_wp2
                go_ret2
                exact ⟨by first | rfl | (simp; done) | (simp [*]; done), by repeat (first | exact Drawn0.refl _ | apply Drawn0.step)⟩
              · rw [if_neg c6] at H
                have c6b0 : decide (63 < (rd l0 x9_1)) = false := decide_eq_false c6
                clear c6
                by_cases c7 : 0 ≤ (rd l0 x9_1)
                · rw [if_pos c7] at H
                  have c7b0 := eq_true c7
                  have c7b1 : decide (0 ≤ (rd l0 x9_1)) = true := decide_eq_true c7
                  clear c7
                  obtain ⟨ji8, hji8⟩ : ∃ j_ : Int, (shl .u64 1 (rd l0 x9_1)) = j_ := ⟨_, rfl⟩
                  replace H : (label_Of.l0 k1 (Go.bits .or .u64 x4_1 (ji8)) l0 (l0.length : Int) (wrap64 (x9_1 + 1))) = some (r1, r2) := by first | (rw [hji8] at H; exact H) | (simp only [hji8] at H ⊢; exact H)
                  have hji8_ : (IntKind.u64.wrap (1 * 2 ^ min (rd l0 x9_1).toNat 64)) = ji8 := hji8
                  have hji8z : (rd l0 x9_1) ≤ 64 → (IntKind.u64.wrap (1 * 2 ^ (rd l0 x9_1).toNat)) = ji8 := shl_small hji8
                  have hji8u : (IntKind.u64.wrap (2 ^ min (rd l0 x9_1).toNat 64)) = ji8 := by have h_ := hji8_; rw [Int.one_mul] at h_; exact h_
                  have hji8v : (rd l0 x9_1) ≤ 64 → (IntKind.u64.wrap (2 ^ (rd l0 x9_1).toNat)) = ji8 := fun hle_ => by have h_ := hji8z hle_; rw [Int.one_mul] at h_; exact h_
                  have H' := Aside0.mk H
                  clear H
                  have p101 : 0 ≤ (x9_1 : Int) := of_decide_eq_true (by first | (with_reducible assumption) | assumption)
                  have q101 : x9_1 < (l0.length : Int) := of_decide_eq_true (by first | (with_reducible assumption) | assumption)
                  obtain ⟨ad101, e101, hx101_0⟩ := Kd.at_int HR0.out x9_1 p101 q101
                  cases e101
                  replace p101 := eq_true p101
                  replace q101 := eq_true q101
                  go_wp2
                  go_roundg k1
                  case measure => have := HK1.out; omega
                  case rel => exact ⟨(Go.bits .or .u64 x4_1 (ji8)), (wrap64 (x9_1 + 1)), (by first | rfl | (simp; done) | (simp only [← hji8] <;> (first | rfl | simp)) | (simp [*]; done)), (by first | rfl | (simp; done) | (simp [*]; done)), H', ⟨by have := HK1.out; omega⟩, by repeat (first | exact Drawn0.refl _ | apply Drawn0.step)⟩
                · rw [if_neg c7] at H
                  exact absurd H (by simp)
          · rw [if_neg c4] at H
            exact absurd H (by simp)
        · rw [if_neg c3] at H
          exact absurd H (by simp)
      · rw [if_neg c2] at H
        have c2b0 : decide (x9_1 < (l0.length : Int)) = false := decide_eq_false c2
        clear c2
        simp only [Option.some.injEq, Prod.mk.injEq] at H
        obtain ⟨rfl, rfl⟩ := H
        go_wp2
        go_ret2
        exact ⟨by first | rfl | (simp; done) | (simp [*]; done), by repeat (first | exact Drawn0.refl _ | apply Drawn0.step)⟩
end Go.Proofs.YthlgilepfbehaaaDoor.PB
end

section
namespace Go.Proofs.YthlgilepfbehaaaDoor.PB
set_option linter.unusedVariables false
def ofBits : List Bool → Nat
  | [] => 0
  | b :: l => 2 * ofBits l + b.toNat
theorem ofBits_testBit (l : List Bool) : ∀ i, (ofBits l).testBit i = l.getD i false := by
  induction l with
  | nil => intro i; simp [ofBits]
  | cons b l ih =>
    intro i
    cases i with
    | zero => cases b <;> simp [ofBits, Nat.testBit_zero] <;> omega
    | succ i =>
      have : (2 * ofBits l + b.toNat) / 2 = ofBits l := by cases b <;> simp <;> omega
      rw [ofBits, Nat.testBit_succ, this, ih i]
      simp
theorem ofBits_lt (l : List Bool) : ofBits l < 2 ^ l.length := by
  induction l with
  | nil => simp [ofBits]
  | cons b l ih =>
    have : b.toNat ≤ 1 := by cases b <;> simp
    simp only [ofBits, List.length_cons, Nat.pow_succ]
    omega
theorem ofBits_eq (l : List Bool) (m : Nat) (hl : l.length = 64) (hm : m < 2 ^ 64) (h : ∀ i, i < 64 → l.getD i false = m.testBit i) : ofBits l = m := by
  apply Nat.eq_of_testBit_eq
  intro i
  rw [ofBits_testBit]
  by_cases hi : i < 64
  · exact h i hi
  · rw [List.getD_eq_getElem?_getD, List.getElem?_eq_none (by omega)]
    exact (Nat.testBit_lt_two_pow (Nat.lt_of_lt_of_le hm (Nat.pow_le_pow_right (by decide) (by omega)))).symm
end Go.Proofs.YthlgilepfbehaaaDoor.PB
end

section
namespace Go.Proofs.YthlgilepfbehaaaDoor.PB
def catsOf (l : List Int) : List Bool := (List.range 64).map (fun i : Nat => l.contains (i : Int))
theorem catsOf_len (l : List Int) : (catsOf l).length = 64 := by simp [catsOf]
theorem catsOf_nil : catsOf [] = List.replicate 64 false := by simp [catsOf]; rfl
theorem catsOf_snoc (l : List Int) (m : Nat) (hm : m < 64) : (catsOf l).set m true = catsOf (l ++ [(m : Int)]) := by
  apply List.ext_getElem?
  intro i
  rw [List.getElem?_set]
  unfold catsOf
  simp only [List.getElem?_map, List.length_map, List.length_range]
  by_cases hi : i < 64
  · rw [List.getElem?_range hi]
    by_cases h : m = i
    · subst h; simp [hm]
    · rw [if_neg h, Option.map_some, Option.map_some]
      have : ¬ ((i : Int) = (m : Int)) := by omega
      simp [this]
  · rw [List.getElem?_eq_none (by simpa using hi), if_neg (by omega)]; rfl
theorem catsOf_getD (l : List Int) (i : Nat) (hi : i < 64) : (catsOf l).getD i false = l.contains (i : Int) := by
  unfold catsOf
  rw [List.getD_eq_getElem?_getD, List.getElem?_map, List.getElem?_range hi]; rfl
def catsTo (n k : Nat) : List Int := ((List.range k).filter (fun i => n.testBit i)).map (fun i : Nat => (i : Int))
theorem catsTo_yes (n k : Nat) (h : n.testBit k = true) : catsTo n (k + 1) = catsTo n k ++ [(k : Int)] := by
  unfold catsTo; rw [List.range_succ, List.filter_append]; simp [h]
theorem catsTo_no (n k : Nat) (h : n.testBit k = false) : catsTo n (k + 1) = catsTo n k := by
  unfold catsTo; rw [List.range_succ, List.filter_append]; simp [h]
theorem catsTo_len (n k : Nat) : (catsTo n k).length ≤ k := by
  unfold catsTo; rw [List.length_map]; exact Nat.le_trans (List.length_filter_le _ _) (by simp)
end Go.Proofs.YthlgilepfbehaaaDoor.PB
end

section
namespace Go.Proofs.YthlgilepfbehaaaDoor.PB
open Go.RowKit Go.Proofs.YthlgilepfbehaaaDoorW.PrintWords Go.Proofs.YthlgilepfbehaaaDoorW.PrintLast Go.Proofs.YthlgilepfbehaaaDoorW.PrintMore
attribute [local go_sem] max2_int min2_int max_two min_two max_three min_three max_four min_four   
set_option linter.unusedVariables false
set_option linter.unusedSimpArgs false
def bits_OnesCount64.f (a0 : Int) : Option (Int) := some (Go.bits .and .i64 (wrap64 (IntKind.u64.wrap ((IntKind.u64.wrap ((IntKind.u64.wrap ((Go.bits .and .u64 (IntKind.u64.wrap (((IntKind.u64.wrap ((Go.bits .and .u64 ((IntKind.u64.wrap ((Go.bits .and .u64 (a0 / 2) 6148914691236517205) + (Go.bits .and .u64 a0 6148914691236517205))) / 4) 3689348814741910323) + (Go.bits .and .u64 (IntKind.u64.wrap ((Go.bits .and .u64 (a0 / 2) 6148914691236517205) + (Go.bits .and .u64 a0 6148914691236517205))) 3689348814741910323))) / 16) + (IntKind.u64.wrap ((Go.bits .and .u64 ((IntKind.u64.wrap ((Go.bits .and .u64 (a0 / 2) 6148914691236517205) + (Go.bits .and .u64 a0 6148914691236517205))) / 4) 3689348814741910323) + (Go.bits .and .u64 (IntKind.u64.wrap ((Go.bits .and .u64 (a0 / 2) 6148914691236517205) + (Go.bits .and .u64 a0 6148914691236517205))) 3689348814741910323))))) 1085102592571150095) + ((Go.bits .and .u64 (IntKind.u64.wrap (((IntKind.u64.wrap ((Go.bits .and .u64 ((IntKind.u64.wrap ((Go.bits .and .u64 (a0 / 2) 6148914691236517205) + (Go.bits .and .u64 a0 6148914691236517205))) / 4) 3689348814741910323) + (Go.bits .and .u64 (IntKind.u64.wrap ((Go.bits .and .u64 (a0 / 2) 6148914691236517205) + (Go.bits .and .u64 a0 6148914691236517205))) 3689348814741910323))) / 16) + (IntKind.u64.wrap ((Go.bits .and .u64 ((IntKind.u64.wrap ((Go.bits .and .u64 (a0 / 2) 6148914691236517205) + (Go.bits .and .u64 a0 6148914691236517205))) / 4) 3689348814741910323) + (Go.bits .and .u64 (IntKind.u64.wrap ((Go.bits .and .u64 (a0 / 2) 6148914691236517205) + (Go.bits .and .u64 a0 6148914691236517205))) 3689348814741910323))))) 1085102592571150095) / 256))) + ((IntKind.u64.wrap ((Go.bits .and .u64 (IntKind.u64.wrap (((IntKind.u64.wrap ((Go.bits .and .u64 ((IntKind.u64.wrap ((Go.bits .and .u64 (a0 / 2) 6148914691236517205) + (Go.bits .and .u64 a0 6148914691236517205))) / 4) 3689348814741910323) + (Go.bits .and .u64 (IntKind.u64.wrap ((Go.bits .and .u64 (a0 / 2) 6148914691236517205) + (Go.bits .and .u64 a0 6148914691236517205))) 3689348814741910323))) / 16) + (IntKind.u64.wrap ((Go.bits .and .u64 ((IntKind.u64.wrap ((Go.bits .and .u64 (a0 / 2) 6148914691236517205) + (Go.bits .and .u64 a0 6148914691236517205))) / 4) 3689348814741910323) + (Go.bits .and .u64 (IntKind.u64.wrap ((Go.bits .and .u64 (a0 / 2) 6148914691236517205) + (Go.bits .and .u64 a0 6148914691236517205))) 3689348814741910323))))) 1085102592571150095) + ((Go.bits .and .u64 (IntKind.u64.wrap (((IntKind.u64.wrap ((Go.bits .and .u64 ((IntKind.u64.wrap ((Go.bits .and .u64 (a0 / 2) 6148914691236517205) + (Go.bits .and .u64 a0 6148914691236517205))) / 4) 3689348814741910323) + (Go.bits .and .u64 (IntKind.u64.wrap ((Go.bits .and .u64 (a0 / 2) 6148914691236517205) + (Go.bits .and .u64 a0 6148914691236517205))) 3689348814741910323))) / 16) + (IntKind.u64.wrap ((Go.bits .and .u64 ((IntKind.u64.wrap ((Go.bits .and .u64 (a0 / 2) 6148914691236517205) + (Go.bits .and .u64 a0 6148914691236517205))) / 4) 3689348814741910323) + (Go.bits .and .u64 (IntKind.u64.wrap ((Go.bits .and .u64 (a0 / 2) 6148914691236517205) + (Go.bits .and .u64 a0 6148914691236517205))) 3689348814741910323))))) 1085102592571150095) / 256))) / 65536))) + ((IntKind.u64.wrap ((IntKind.u64.wrap ((Go.bits .and .u64 (IntKind.u64.wrap (((IntKind.u64.wrap ((Go.bits .and .u64 ((IntKind.u64.wrap ((Go.bits .and .u64 (a0 / 2) 6148914691236517205) + (Go.bits .and .u64 a0 6148914691236517205))) / 4) 3689348814741910323) + (Go.bits .and .u64 (IntKind.u64.wrap ((Go.bits .and .u64 (a0 / 2) 6148914691236517205) + (Go.bits .and .u64 a0 6148914691236517205))) 3689348814741910323))) / 16) + (IntKind.u64.wrap ((Go.bits .and .u64 ((IntKind.u64.wrap ((Go.bits .and .u64 (a0 / 2) 6148914691236517205) + (Go.bits .and .u64 a0 6148914691236517205))) / 4) 3689348814741910323) + (Go.bits .and .u64 (IntKind.u64.wrap ((Go.bits .and .u64 (a0 / 2) 6148914691236517205) + (Go.bits .and .u64 a0 6148914691236517205))) 3689348814741910323))))) 1085102592571150095) + ((Go.bits .and .u64 (IntKind.u64.wrap (((IntKind.u64.wrap ((Go.bits .and .u64 ((IntKind.u64.wrap ((Go.bits .and .u64 (a0 / 2) 6148914691236517205) + (Go.bits .and .u64 a0 6148914691236517205))) / 4) 3689348814741910323) + (Go.bits .and .u64 (IntKind.u64.wrap ((Go.bits .and .u64 (a0 / 2) 6148914691236517205) + (Go.bits .and .u64 a0 6148914691236517205))) 3689348814741910323))) / 16) + (IntKind.u64.wrap ((Go.bits .and .u64 ((IntKind.u64.wrap ((Go.bits .and .u64 (a0 / 2) 6148914691236517205) + (Go.bits .and .u64 a0 6148914691236517205))) / 4) 3689348814741910323) + (Go.bits .and .u64 (IntKind.u64.wrap ((Go.bits .and .u64 (a0 / 2) 6148914691236517205) + (Go.bits .and .u64 a0 6148914691236517205))) 3689348814741910323))))) 1085102592571150095) / 256))) + ((IntKind.u64.wrap ((Go.bits .and .u64 (IntKind.u64.wrap (((IntKind.u64.wrap ((Go.bits .and .u64 ((IntKind.u64.wrap ((Go.bits .and .u64 (a0 / 2) 6148914691236517205) + (Go.bits .and .u64 a0 6148914691236517205))) / 4) 3689348814741910323) + (Go.bits .and .u64 (IntKind.u64.wrap ((Go.bits .and .u64 (a0 / 2) 6148914691236517205) + (Go.bits .and .u64 a0 6148914691236517205))) 3689348814741910323))) / 16) + (IntKind.u64.wrap ((Go.bits .and .u64 ((IntKind.u64.wrap ((Go.bits .and .u64 (a0 / 2) 6148914691236517205) + (Go.bits .and .u64 a0 6148914691236517205))) / 4) 3689348814741910323) + (Go.bits .and .u64 (IntKind.u64.wrap ((Go.bits .and .u64 (a0 / 2) 6148914691236517205) + (Go.bits .and .u64 a0 6148914691236517205))) 3689348814741910323))))) 1085102592571150095) + ((Go.bits .and .u64 (IntKind.u64.wrap (((IntKind.u64.wrap ((Go.bits .and .u64 ((IntKind.u64.wrap ((Go.bits .and .u64 (a0 / 2) 6148914691236517205) + (Go.bits .and .u64 a0 6148914691236517205))) / 4) 3689348814741910323) + (Go.bits .and .u64 (IntKind.u64.wrap ((Go.bits .and .u64 (a0 / 2) 6148914691236517205) + (Go.bits .and .u64 a0 6148914691236517205))) 3689348814741910323))) / 16) + (IntKind.u64.wrap ((Go.bits .and .u64 ((IntKind.u64.wrap ((Go.bits .and .u64 (a0 / 2) 6148914691236517205) + (Go.bits .and .u64 a0 6148914691236517205))) / 4) 3689348814741910323) + (Go.bits .and .u64 (IntKind.u64.wrap ((Go.bits .and .u64 (a0 / 2) 6148914691236517205) + (Go.bits .and .u64 a0 6148914691236517205))) 3689348814741910323))))) 1085102592571150095) / 256))) / 65536))) / 4294967296)))) 127)
set_option maxHeartbeats 8000000 in
set_option maxRecDepth 100000 in
theorem bits_OnesCount64.calls (a0 : Int) (r : Int) (w : World) (h : bits_OnesCount64.f a0 = some r) :
    Calls Tryd.prog 31 #[.int .u64 a0] w fun e w' => e = .returned (.int .i64 r) ∧ Drawn0 w w' := by
  have H : (some (Go.bits .and .i64 (wrap64 (IntKind.u64.wrap ((IntKind.u64.wrap ((IntKind.u64.wrap ((Go.bits .and .u64 (IntKind.u64.wrap (((IntKind.u64.wrap ((Go.bits .and .u64 ((IntKind.u64.wrap ((Go.bits .and .u64 (a0 / 2) 6148914691236517205) + (Go.bits .and .u64 a0 6148914691236517205))) / 4) 3689348814741910323) + (Go.bits .and .u64 (IntKind.u64.wrap ((Go.bits .and .u64 (a0 / 2) 6148914691236517205) + (Go.bits .and .u64 a0 6148914691236517205))) 3689348814741910323))) / 16) + (IntKind.u64.wrap ((Go.bits .and .u64 ((IntKind.u64.wrap ((Go.bits .and .u64 (a0 / 2) 6148914691236517205) + (Go.bits .and .u64 a0 6148914691236517205))) / 4) 3689348814741910323) + (Go.bits .and .u64 (IntKind.u64.wrap ((Go.bits .and .u64 (a0 / 2) 6148914691236517205) + (Go.bits .and .u64 a0 6148914691236517205))) 3689348814741910323))))) 1085102592571150095) + ((Go.bits .and .u64 (IntKind.u64.wrap (((IntKind.u64.wrap ((Go.bits .and .u64 ((IntKind.u64.wrap ((Go.bits .and .u64 (a0 / 2) 6148914691236517205) + (Go.bits .and .u64 a0 6148914691236517205))) / 4) 3689348814741910323) + (Go.bits .and .u64 (IntKind.u64.wrap ((Go.bits .and .u64 (a0 / 2) 6148914691236517205) + (Go.bits .and .u64 a0 6148914691236517205))) 3689348814741910323))) / 16) + (IntKind.u64.wrap ((Go.bits .and .u64 ((IntKind.u64.wrap ((Go.bits .and .u64 (a0 / 2) 6148914691236517205) + (Go.bits .and .u64 a0 6148914691236517205))) / 4) 3689348814741910323) + (Go.bits .and .u64 (IntKind.u64.wrap ((Go.bits .and .u64 (a0 / 2) 6148914691236517205) + (Go.bits .and .u64 a0 6148914691236517205))) 3689348814741910323))))) 1085102592571150095) / 256))) + ((IntKind.u64.wrap ((Go.bits .and .u64 (IntKind.u64.wrap (((IntKind.u64.wrap ((Go.bits .and .u64 ((IntKind.u64.wrap ((Go.bits .and .u64 (a0 / 2) 6148914691236517205) + (Go.bits .and .u64 a0 6148914691236517205))) / 4) 3689348814741910323) + (Go.bits .and .u64 (IntKind.u64.wrap ((Go.bits .and .u64 (a0 / 2) 6148914691236517205) + (Go.bits .and .u64 a0 6148914691236517205))) 3689348814741910323))) / 16) + (IntKind.u64.wrap ((Go.bits .and .u64 ((IntKind.u64.wrap ((Go.bits .and .u64 (a0 / 2) 6148914691236517205) + (Go.bits .and .u64 a0 6148914691236517205))) / 4) 3689348814741910323) + (Go.bits .and .u64 (IntKind.u64.wrap ((Go.bits .and .u64 (a0 / 2) 6148914691236517205) + (Go.bits .and .u64 a0 6148914691236517205))) 3689348814741910323))))) 1085102592571150095) + ((Go.bits .and .u64 (IntKind.u64.wrap (((IntKind.u64.wrap ((Go.bits .and .u64 ((IntKind.u64.wrap ((Go.bits .and .u64 (a0 / 2) 6148914691236517205) + (Go.bits .and .u64 a0 6148914691236517205))) / 4) 3689348814741910323) + (Go.bits .and .u64 (IntKind.u64.wrap ((Go.bits .and .u64 (a0 / 2) 6148914691236517205) + (Go.bits .and .u64 a0 6148914691236517205))) 3689348814741910323))) / 16) + (IntKind.u64.wrap ((Go.bits .and .u64 ((IntKind.u64.wrap ((Go.bits .and .u64 (a0 / 2) 6148914691236517205) + (Go.bits .and .u64 a0 6148914691236517205))) / 4) 3689348814741910323) + (Go.bits .and .u64 (IntKind.u64.wrap ((Go.bits .and .u64 (a0 / 2) 6148914691236517205) + (Go.bits .and .u64 a0 6148914691236517205))) 3689348814741910323))))) 1085102592571150095) / 256))) / 65536))) + ((IntKind.u64.wrap ((IntKind.u64.wrap ((Go.bits .and .u64 (IntKind.u64.wrap (((IntKind.u64.wrap ((Go.bits .and .u64 ((IntKind.u64.wrap ((Go.bits .and .u64 (a0 / 2) 6148914691236517205) + (Go.bits .and .u64 a0 6148914691236517205))) / 4) 3689348814741910323) + (Go.bits .and .u64 (IntKind.u64.wrap ((Go.bits .and .u64 (a0 / 2) 6148914691236517205) + (Go.bits .and .u64 a0 6148914691236517205))) 3689348814741910323))) / 16) + (IntKind.u64.wrap ((Go.bits .and .u64 ((IntKind.u64.wrap ((Go.bits .and .u64 (a0 / 2) 6148914691236517205) + (Go.bits .and .u64 a0 6148914691236517205))) / 4) 3689348814741910323) + (Go.bits .and .u64 (IntKind.u64.wrap ((Go.bits .and .u64 (a0 / 2) 6148914691236517205) + (Go.bits .and .u64 a0 6148914691236517205))) 3689348814741910323))))) 1085102592571150095) + ((Go.bits .and .u64 (IntKind.u64.wrap (((IntKind.u64.wrap ((Go.bits .and .u64 ((IntKind.u64.wrap ((Go.bits .and .u64 (a0 / 2) 6148914691236517205) + (Go.bits .and .u64 a0 6148914691236517205))) / 4) 3689348814741910323) + (Go.bits .and .u64 (IntKind.u64.wrap ((Go.bits .and .u64 (a0 / 2) 6148914691236517205) + (Go.bits .and .u64 a0 6148914691236517205))) 3689348814741910323))) / 16) + (IntKind.u64.wrap ((Go.bits .and .u64 ((IntKind.u64.wrap ((Go.bits .and .u64 (a0 / 2) 6148914691236517205) + (Go.bits .and .u64 a0 6148914691236517205))) / 4) 3689348814741910323) + (Go.bits .and .u64 (IntKind.u64.wrap ((Go.bits .and .u64 (a0 / 2) 6148914691236517205) + (Go.bits .and .u64 a0 6148914691236517205))) 3689348814741910323))))) 1085102592571150095) / 256))) + ((IntKind.u64.wrap ((Go.bits .and .u64 (IntKind.u64.wrap (((IntKind.u64.wrap ((Go.bits .and .u64 ((IntKind.u64.wrap ((Go.bits .and .u64 (a0 / 2) 6148914691236517205) + (Go.bits .and .u64 a0 6148914691236517205))) / 4) 3689348814741910323) + (Go.bits .and .u64 (IntKind.u64.wrap ((Go.bits .and .u64 (a0 / 2) 6148914691236517205) + (Go.bits .and .u64 a0 6148914691236517205))) 3689348814741910323))) / 16) + (IntKind.u64.wrap ((Go.bits .and .u64 ((IntKind.u64.wrap ((Go.bits .and .u64 (a0 / 2) 6148914691236517205) + (Go.bits .and .u64 a0 6148914691236517205))) / 4) 3689348814741910323) + (Go.bits .and .u64 (IntKind.u64.wrap ((Go.bits .and .u64 (a0 / 2) 6148914691236517205) + (Go.bits .and .u64 a0 6148914691236517205))) 3689348814741910323))))) 1085102592571150095) + ((Go.bits .and .u64 (IntKind.u64.wrap (((IntKind.u64.wrap ((Go.bits .and .u64 ((IntKind.u64.wrap ((Go.bits .and .u64 (a0 / 2) 6148914691236517205) + (Go.bits .and .u64 a0 6148914691236517205))) / 4) 3689348814741910323) + (Go.bits .and .u64 (IntKind.u64.wrap ((Go.bits .and .u64 (a0 / 2) 6148914691236517205) + (Go.bits .and .u64 a0 6148914691236517205))) 3689348814741910323))) / 16) + (IntKind.u64.wrap ((Go.bits .and .u64 ((IntKind.u64.wrap ((Go.bits .and .u64 (a0 / 2) 6148914691236517205) + (Go.bits .and .u64 a0 6148914691236517205))) / 4) 3689348814741910323) + (Go.bits .and .u64 (IntKind.u64.wrap ((Go.bits .and .u64 (a0 / 2) 6148914691236517205) + (Go.bits .and .u64 a0 6148914691236517205))) 3689348814741910323))))) 1085102592571150095) / 256))) / 65536))) / 4294967296)))) 127)) = some r := h
  clear h
  obtain rfl := Option.some.inj H
  go_enter Tryd.func31, Tryd.ntmps31
  go_wp2
  go_ret
  exact ⟨by first | rfl | (simp; done) | (simp [*]; done), by repeat (first | exact Drawn0.refl _ | apply Drawn0.step)⟩
end Go.Proofs.YthlgilepfbehaaaDoor.PB
end

section
namespace Go.Proofs.YthlgilepfbehaaaDoor.PB
open Go.RowKit Go.Proofs.YthlgilepfbehaaaDoorW.PrintWords Go.Proofs.YthlgilepfbehaaaDoorW.PrintLast Go.Proofs.YthlgilepfbehaaaDoorW.PrintMore
attribute [local go_sem] max2_int min2_int max_two min_two max_three min_three max_four min_four
set_option linter.unusedVariables false
set_option linter.unusedSimpArgs false
theorem ones_bound (a : Int) : ∃ n : Nat, n ≤ 127 ∧ bits_OnesCount64.f a = some (n : Int) := by
  unfold bits_OnesCount64.f
  generalize wrap64 _ = x
  obtain ⟨h1, h2⟩ : 0 ≤ Go.bits .and .i64 x 127 ∧ Go.bits .and .i64 x 127 ≤ 127 := by
    rw [i64_and127]; omega
  exact ⟨(Go.bits .and .i64 x 127).toNat, by omega, by rw [Int.toNat_of_nonneg h1]⟩
theorem mark_bit (n k : Nat) (hn : n < 2 ^ 64) : (Go.bits .and .u64 ((n : Int) / 2 ^ k) 1 == 1) = n.testBit k := by
  have e : (n : Int) / 2 ^ k = ((n / 2 ^ k : Nat) : Int) := by rw [Int.natCast_ediv, Int.natCast_pow]; rfl
  have hle : n / 2 ^ k ≤ n := Nat.div_le_self _ _
  rw [e]
  have := u64_and_nat (n / 2 ^ k) 1 (by omega) (by decide)
  rw [show ((1 : Nat) : Int) = 1 from rfl] at this
  rw [this, Nat.and_one_is_mod, Nat.testBit_eq_decide_div_mod_eq, Bool.eq_iff_iff, decide_eq_true_iff, beq_iff_eq]
  omega
set_option maxHeartbeats 4000000 in
set_option maxRecDepth 100000 in
theorem label_Cats_calls (n : Nat) (hn : n < 2 ^ 64) (w : World) :
    Calls Tryd.prog 14 #[.int .u64 (n : Int)] w fun e w' => ∃ v0_ : Value, e = .returned (v0_) ∧ Kd.R (Kd.int .i64) 3 w' w.heap.size (fun _ => True) v0_ (catsTo n 64) ∧ Below w.heap.size w w' := by
  obtain ⟨c, hc, h1⟩ := ones_bound (n : Int)
  have HO := Aside0.mk (fun W => bits_OnesCount64.calls (n : Int) (c : Int) W h1)
  have hmk : ∀ W : World, (Instr.makeSlice 22 (.int .i64 0) (.int .i64 (c : Int))).run Tryd.prog W = .ok (.slice (some ⟨W.heap.size, 0, none⟩) 0 c) (W.alloc (.cells (madeCells #[.int .i64 0] c) 3)) := by
    intro W
    obtain ⟨i0, hi, hzz⟩ := Option.map_eq_some_iff.1 info3
    simp only [Prod.mk.injEq] at hzz
    obtain ⟨hz0, hz1, hz2⟩ := hzz
    have hr := run_make (P := Tryd.prog) W 22 3 i0 (.int .i64 0) Tryd.underlying22 hi hz0 .i64 .i64 0 (c : Int) (by omega) (by omega) (by rw [hz2]; omega) (by omega)
    rw [hz1] at hr
    simp only [Int.toNat_natCast, Nat.mul_one] at hr
    exact hr
  have HC := Aside0.mk hc
  clear h1 hc
  go_enter Tryd.func14, Tryd.ntmps14
  go_wp2_with fail
  refine (HO.out _).mono ?_
  rintro e w1 ⟨rfl, hd⟩
  have HB0 := Aside0.mk ((hd.below).alloc (hd.below.size) (.cells (madeCells #[.int .i64 0] c) 3))
  go_wp2
  generalize hW : w1.alloc (.cells (madeCells #[.int .i64 0] c) 3) = w2 at *
  have HR0 : Aside0 (Kd.R (Kd.int .i64) 3 w2 w.heap.size (fun _ => True) (.slice (some ⟨w1.heap.size, 0, none⟩) 0 c) []) := ⟨by
    rw [← hW]
    have := HC.out
    exact Kd.R_of_own (World.ownsRow_made w1 _ c hd.below.size (by unfold maxLen; omega) (by rw [size_madeCells, Nat.mul_one])) (fun _ _ => trivial)⟩
  clear hW
  go_loopw [3, 8] (fun v3 v8 wr => ∃ (k : Nat), k ≤ 64 ∧ v8 = .int .i64 k ∧ Aside0 (Kd.R (Kd.int .i64) 3 wr w.heap.size (fun _ => True) v3 (catsTo n k)) ∧ Aside0 (Below w.heap.size w wr)) (fun _ i _ => 64 - (intOf i).toNat)
  case atStart => exact ⟨0, by omega, rfl, HR0, HB0⟩
  case round =>
    obtain ⟨k, hk, rfl, HO, HB⟩ := hrel
    by_cases hlt : k < 64
    · have hk0 : (0 : Int) ≤ (k : Int) := by omega
      have hk1 : (k : Int) < 64 := by omega
      have HL := Aside0.mk (catsTo_len n k)
      have hb := mark_bit n k hn
      cases hx : n.testBit k
      · have HN := Aside0.mk (catsTo_no n k hx)
        rw [hx] at hb
        clear hx
        go_wp2
        exact ⟨⟨k + 1, by omega, by go_num, ⟨by rw [HN.out]; exact HO.out⟩, HB⟩, by simp [intOf]; omega⟩
      · have HN := Aside0.mk (catsTo_yes n k hx)
        rw [hx] at hb
        clear hx
        generalize catsTo n k = xs at *
        go_wp2_with (first | ((with_reducible refine gate_builtin (b := .append) (xs := #[.tmp 16, .tmp 18]) rfl ?_); at_builtin; refine Kd.R_append (Kd.int .i64) (w0 := w) w.heap.size rfl (.tmp 16) (.tmp 18) 22 3 (.int .i64 0) 8 rfl Tryd.underlying22 info3 rfl (by decide) (by omega) u3 xs (k : Int) [.int .i64 (k : Int)] (fun _ => True) (fun _ => False) rfl rfl ?aP (fun _ hk => hk.elim) ?aF ?aO ?aB ?aS ?aL ?_; (case aP => exact rfl); (case aB => exact (by repeat (first | (with_reducible first | exact HB.out | apply below_alloc | apply pw_below_drewN | apply below_drew1) | exact HB.out))); (case aF => exact (fun _ _ => trivial)); (case aO => exact (by (with_reducible repeat (first | apply Kd.R_alloc | apply Kd.R_drewN | apply Kd.R_drew)); exact HO.out)); (case aS => exact (below_size (by repeat (first | (with_reducible first | exact HB.out | apply below_alloc | apply pw_below_drewN | apply below_drew1) | exact HB.out)))); (case aL => have := HL.out; omega); intro v144 w7 ho hb hg hat; have HBn := Aside0.mk hb; have HOn := Aside0.mk ho; clear ho hb hg hat))
        exact ⟨⟨k + 1, by omega, by go_num, ⟨by rw [HN.out]; exact HOn.out⟩, HBn⟩, by simp [intOf]; omega⟩
    · obtain rfl : k = 64 := by omega
      go_wp2
      go_ret
      exact ⟨_, rfl, HO.out, HB.out⟩
def label_Cats.f (a0 : Int) : Option (List Int) := if 0 ≤ a0 ∧ a0 < 18446744073709551616 then some (catsTo a0.toNat 64) else none
theorem label_Cats.calls (a0 : Int) (r : List Int) (w : World) (h : label_Cats.f a0 = some r) :
    Calls Tryd.prog 14 #[.int .u64 a0] w fun e w' => ∃ v0_ : Value, e = .returned (v0_) ∧ Kd.R (Kd.int .i64) 3 w' w.heap.size (fun _ => True) v0_ r ∧ Below w.heap.size w w' := by
  unfold label_Cats.f at h
  split at h
  case isFalse => cases h
  rename_i hc
  injection h with h
  subst h
  obtain ⟨a, rfl⟩ := Int.eq_ofNat_of_zero_le hc.1
  exact label_Cats_calls a (by omega) w
end Go.Proofs.YthlgilepfbehaaaDoor.PB
end

section
namespace Go.Proofs
open Go.Shelf
def Tryd.lays156_ren : Go.Shelf.Ren := ⟨fun | 156 => 37 | 165 => 41 | 166 => 42 | 169 => 43 | 240 => 48 | 241 => 49 | 276 => 58 | 277 => 59 | n => n, fun | 31 => 50 | 9 => 9 | 3 => 3 | 4 => 4 | 0 => 0 | 20 => 20 | 72 => 61 | 76 => 65 | 70 => 58 | 37 => 59 | 75 => 64 | 127 => 71 | 164 => 80 | 5 => 5 | 80 => 67 | n => n, fun | n => n⟩
theorem Tryd.lays156 : Go.Proofs.Lays.n156 Tryd.prog Tryd.lays156_ren := {
  mixed := by kernel_rfl
  f156 := Tryd.func37.trans (congrArg some (by kernel_rfl))
  f165 := Tryd.func41.trans (congrArg some (by kernel_rfl))
  f166 := Tryd.func42.trans (congrArg some (by kernel_rfl))
  f169 := Tryd.func43.trans (congrArg some (by kernel_rfl))
  f240 := Tryd.func48.trans (congrArg some (by kernel_rfl))
  f241 := Tryd.func49.trans (congrArg some (by kernel_rfl))
  f276 := Tryd.func58.trans (congrArg some (by kernel_rfl))
  f277 := Tryd.func59.trans (congrArg some (by kernel_rfl))
  t0 := Tryd.underlying0
  a0 := Tryd.isAgg0
  z0 := Tryd.sizeOf0
  v0 := Tryd.zeroValue0
  t3 := Tryd.underlying3
  a3 := Tryd.isAgg3
  z3 := Tryd.sizeOf3
  v3 := Tryd.zeroValue3
  t4 := Tryd.underlying4
  a4 := Tryd.isAgg4
  z4 := Tryd.sizeOf4
  v4 := Tryd.zeroValue4
  t9 := Tryd.underlying9
  a9 := Tryd.isAgg9
  z9 := Tryd.sizeOf9
  v9 := Tryd.zeroValue9
  t20 := Tryd.underlying20
  a20 := Tryd.isAgg20
  z20 := Tryd.sizeOf20
  v20 := Tryd.zeroValue20
  t31 := Tryd.underlying50
  a31 := Tryd.isAgg50
  z31 := Tryd.sizeOf50
  v31 := Tryd.zeroValue50
  t37 := Tryd.underlying59
  a37 := Tryd.isAgg59
  z37 := Tryd.sizeOf59
  v37 := Tryd.zeroValue59
  t70 := Tryd.underlying58
  a70 := Tryd.isAgg58
  z70 := Tryd.sizeOf58
  v70 := Tryd.zeroValue58
  t72 := Tryd.underlying61
  a72 := Tryd.isAgg61
  z72 := Tryd.sizeOf61
  v72 := Tryd.zeroValue61
  t75 := Tryd.underlying64
  a75 := Tryd.isAgg64
  z75 := Tryd.sizeOf64
  v75 := Tryd.zeroValue64
  t76 := Tryd.underlying65
  a76 := Tryd.isAgg65
  z76 := Tryd.sizeOf65
  v76 := Tryd.zeroValue65
  t127 := Tryd.underlying71
  a127 := Tryd.isAgg71
  z127 := Tryd.sizeOf71
  v127 := Tryd.zeroValue71
  t164 := Tryd.underlying80
  a164 := Tryd.isAgg80
  z164 := Tryd.sizeOf80
  v164 := Tryd.zeroValue80 }
theorem Tryd.Builder_Extra_156 : Builder.Extra Tryd.prog Tryd.lays156_ren := {
  sizeBuilder := by kernel_rfl
  liesBuilder := by kernel_rfl
  t5 := Tryd.underlying5
  a5 := Tryd.isAgg5
  z5 := Tryd.sizeOf5
  v5 := Tryd.zeroValue5
  infoByte := by kernel_rfl
  cellsByte := by kernel_rfl
  sizeByte := by kernel_rfl
  neB5 := by decide }
open Go.RowKit in

theorem Tryd.strings_Join_none (a : Option Addr) (c : Nat) (sep : ByteArray) (w : World) :
    Calls Tryd.prog 37 #[.slice a 0 c, .string sep] w fun e w' => e = .returned (.string ⟨#[]⟩) ∧ w' = w := Any.strings_Join_none Tryd.lays156 Tryd.Builder_Extra_156 a c sep w
open Go.RowKit in

theorem Tryd.strings_Join (bk o c : Nat) (xs : List ByteArray) (sep : ByteArray) (w : World) (hcells : ∀ (j : Nat) x, xs[j]? = some x → w.cell? ⟨bk, o + j, none⟩ = some (.string x)) (hbk : bk < w.heap.size) (hN : xs.length ≤ 140737488355328) (hcap : xs.length ≤ c) (hlen : (Lib.join (xs.map (·.data.toList)) sep.data.toList).length ≤ 140737488355328) :
    Calls Tryd.prog 37 #[.slice (some ⟨bk, o, none⟩) xs.length c, .string sep] w fun e w' => e = .returned (.string ⟨(Lib.join (xs.map (·.data.toList)) sep.data.toList).toArray⟩) ∧ Below w.heap.size w w' := Any.strings_Join Tryd.lays156 Tryd.Builder_Extra_156 bk o c xs sep w hcells hbk hN hcap hlen
def Tryd.lays171_ren : Go.Shelf.Ren := ⟨fun | 171 => 36 | 243 => 40 | 246 => 47 | 283 => 54 | 284 => 55 | 285 => 56 | 286 => 57 | 129 => 66 | 317 => 65 | 318 => 67 | 319 => 68 | 320 => 69 | 337 => 72 | 338 => 73 | n => n, fun | 3 => 3 | 9 => 9 | 2 => 2 | 4 => 4 | 171 => 76 | 0 => 0 | 53 => 23 | 37 => 59 | 5 => 5 | 173 => 78 | 212 => 85 | 51 => 86 | 20 => 20 | 213 => 87 | 46 => 56 | 232 => 97 | 233 => 98 | n => n, fun | 17 => 1 | 18 => 4 | 19 => 5 | n => n⟩
theorem Tryd.lays171 : Go.Proofs.Lays.n171 Tryd.prog Tryd.lays171_ren := {
  mixed := by kernel_rfl
  f129 := Tryd.func66.trans (congrArg some (by kernel_rfl))
  f171 := Tryd.func36.trans (congrArg some (by kernel_rfl))
  f243 := Tryd.func40.trans (congrArg some (by kernel_rfl))
  f246 := Tryd.func47.trans (congrArg some (by kernel_rfl))
  f283 := Tryd.func54.trans (congrArg some (by kernel_rfl))
  f284 := Tryd.func55.trans (congrArg some (by kernel_rfl))
  f285 := Tryd.func56.trans (congrArg some (by kernel_rfl))
  f286 := Tryd.func57.trans (congrArg some (by kernel_rfl))
  f317 := Tryd.func65.trans (congrArg some (by kernel_rfl))
  f318 := Tryd.func67.trans (congrArg some (by kernel_rfl))
  f319 := Tryd.func68.trans (congrArg some (by kernel_rfl))
  f320 := Tryd.func69.trans (congrArg some (by kernel_rfl))
  f337 := Tryd.func72.trans (congrArg some (by kernel_rfl))
  f338 := Tryd.func73.trans (congrArg some (by kernel_rfl))
  t0 := Tryd.underlying0
  a0 := Tryd.isAgg0
  z0 := Tryd.sizeOf0
  v0 := Tryd.zeroValue0
  t2 := Tryd.underlying2
  a2 := Tryd.isAgg2
  z2 := Tryd.sizeOf2
  v2 := Tryd.zeroValue2
  t3 := Tryd.underlying3
  a3 := Tryd.isAgg3
  z3 := Tryd.sizeOf3
  v3 := Tryd.zeroValue3
  t4 := Tryd.underlying4
  a4 := Tryd.isAgg4
  z4 := Tryd.sizeOf4
  v4 := Tryd.zeroValue4
  t5 := Tryd.underlying5
  a5 := Tryd.isAgg5
  z5 := Tryd.sizeOf5
  v5 := Tryd.zeroValue5
  t9 := Tryd.underlying9
  a9 := Tryd.isAgg9
  z9 := Tryd.sizeOf9
  v9 := Tryd.zeroValue9
  t20 := Tryd.underlying20
  a20 := Tryd.isAgg20
  z20 := Tryd.sizeOf20
  v20 := Tryd.zeroValue20
  t37 := Tryd.underlying59
  a37 := Tryd.isAgg59
  z37 := Tryd.sizeOf59
  v37 := Tryd.zeroValue59
  t46 := Tryd.underlying56
  a46 := Tryd.isAgg56
  z46 := Tryd.sizeOf56
  v46 := Tryd.zeroValue56
  t51 := Tryd.underlying86
  a51 := Tryd.isAgg86
  z51 := Tryd.sizeOf86
  v51 := Tryd.zeroValue86
  t53 := Tryd.underlying23
  a53 := Tryd.isAgg23
  z53 := Tryd.sizeOf23
  v53 := Tryd.zeroValue23
  t171 := Tryd.underlying76
  a171 := Tryd.isAgg76
  z171 := Tryd.sizeOf76
  v171 := Tryd.zeroValue76
  t173 := Tryd.underlying78
  a173 := Tryd.isAgg78
  z173 := Tryd.sizeOf78
  v173 := Tryd.zeroValue78
  t212 := Tryd.underlying85
  a212 := Tryd.isAgg85
  z212 := Tryd.sizeOf85
  v212 := Tryd.zeroValue85
  t213 := Tryd.underlying87
  a213 := Tryd.isAgg87
  z213 := Tryd.sizeOf87
  t232 := Tryd.underlying97
  a232 := Tryd.isAgg97
  z232 := Tryd.sizeOf97
  v232 := Tryd.zeroValue97
  t233 := Tryd.underlying98
  a233 := Tryd.isAgg98
  z233 := Tryd.sizeOf98
  v233 := Tryd.zeroValue98
  g17 := by kernel_rfl
  g18 := by kernel_rfl
  g19 := by kernel_rfl }
open Go.RowKit Go.Sort Go.Lib in

theorem Tryd.strconv_Itoa_small (i : Nat) (hi : i < 100) (w : World) :
    Calls Tryd.prog 36 #[.int .i64 i] w fun e w' => e = .returned (.string ⟨(Lib.decDigits i).toArray⟩) ∧ w' = w := Any.strconv_Itoa_small Tryd.lays171 i hi w
def Tryd.lays143_ren : Go.Shelf.Ren := ⟨fun | 143 => 46 | 219 => 53 | 217 => 61 | 225 => 62 | 224 => 63 | 267 => 64 | 266 => 70 | 314 => 71 | n => n, fun | 9 => 9 | 3 => 3 | 4 => 4 | 5 => 5 | 46 => 56 | 146 => 94 | 51 => 86 | n => n, fun | 1 => 0 | n => n⟩
theorem Tryd.lays143 : Go.Proofs.Lays.n143 Tryd.prog Tryd.lays143_ren := {
  mixed := by kernel_rfl
  f143 := Tryd.func46.trans (congrArg some (by kernel_rfl))
  f217 := Tryd.func61.trans (congrArg some (by kernel_rfl))
  f219 := Tryd.func53.trans (congrArg some (by kernel_rfl))
  f224 := Tryd.func63.trans (congrArg some (by kernel_rfl))
  f225 := Tryd.func62.trans (congrArg some (by kernel_rfl))
  f266 := Tryd.func70.trans (congrArg some (by kernel_rfl))
  f267 := Tryd.func64.trans (congrArg some (by kernel_rfl))
  f314 := Tryd.func71.trans (congrArg some (by kernel_rfl))
  t3 := Tryd.underlying3
  a3 := Tryd.isAgg3
  z3 := Tryd.sizeOf3
  v3 := Tryd.zeroValue3
  t4 := Tryd.underlying4
  a4 := Tryd.isAgg4
  z4 := Tryd.sizeOf4
  v4 := Tryd.zeroValue4
  t5 := Tryd.underlying5
  a5 := Tryd.isAgg5
  z5 := Tryd.sizeOf5
  v5 := Tryd.zeroValue5
  t9 := Tryd.underlying9
  a9 := Tryd.isAgg9
  z9 := Tryd.sizeOf9
  v9 := Tryd.zeroValue9
  t46 := Tryd.underlying56
  a46 := Tryd.isAgg56
  z46 := Tryd.sizeOf56
  v46 := Tryd.zeroValue56
  t51 := Tryd.underlying86
  a51 := Tryd.isAgg86
  z51 := Tryd.sizeOf86
  v51 := Tryd.zeroValue86
  t146 := Tryd.underlying94
  a146 := Tryd.isAgg94
  z146 := Tryd.sizeOf94
  v146 := Tryd.zeroValue94
  g1 := by kernel_rfl }
open Go.RowKit Go.Lib in

theorem Tryd.strings_Index_one (s : ByteArray) (c : UInt8) (w : World) :
    Calls Tryd.prog 46 #[.string s, .string ⟨#[c]⟩] w fun e w' => e = .returned (.int .i64 (Lib.indexByte s.data.toList c)) ∧ w' = w := Any.strings_Index_one Tryd.lays143 s c w
def Tryd.lays138_ren : Go.Shelf.Ren := ⟨fun | 138 => 45 | 195 => 50 | 218 => 52 | 143 => 46 | 219 => 53 | 217 => 61 | 225 => 62 | 224 => 63 | 267 => 64 | 266 => 70 | 314 => 71 | n => n, fun | 9 => 9 | 3 => 3 | 4 => 4 | 5 => 5 | 0 => 0 | 46 => 56 | 146 => 94 | 51 => 86 | n => n, fun | 1 => 0 | n => n⟩
theorem Tryd.lays138 : Go.Proofs.Lays.n138 Tryd.prog Tryd.lays138_ren := {
  mixed := by kernel_rfl
  f138 := Tryd.func45.trans (congrArg some (by kernel_rfl))
  f143 := Tryd.func46.trans (congrArg some (by kernel_rfl))
  f195 := Tryd.func50.trans (congrArg some (by kernel_rfl))
  f217 := Tryd.func61.trans (congrArg some (by kernel_rfl))
  f218 := Tryd.func52.trans (congrArg some (by kernel_rfl))
  f219 := Tryd.func53.trans (congrArg some (by kernel_rfl))
  f224 := Tryd.func63.trans (congrArg some (by kernel_rfl))
  f225 := Tryd.func62.trans (congrArg some (by kernel_rfl))
  f266 := Tryd.func70.trans (congrArg some (by kernel_rfl))
  f267 := Tryd.func64.trans (congrArg some (by kernel_rfl))
  f314 := Tryd.func71.trans (congrArg some (by kernel_rfl))
  t0 := Tryd.underlying0
  a0 := Tryd.isAgg0
  z0 := Tryd.sizeOf0
  v0 := Tryd.zeroValue0
  t3 := Tryd.underlying3
  a3 := Tryd.isAgg3
  z3 := Tryd.sizeOf3
  v3 := Tryd.zeroValue3
  t4 := Tryd.underlying4
  a4 := Tryd.isAgg4
  z4 := Tryd.sizeOf4
  v4 := Tryd.zeroValue4
  t5 := Tryd.underlying5
  a5 := Tryd.isAgg5
  z5 := Tryd.sizeOf5
  v5 := Tryd.zeroValue5
  t9 := Tryd.underlying9
  a9 := Tryd.isAgg9
  z9 := Tryd.sizeOf9
  v9 := Tryd.zeroValue9
  t46 := Tryd.underlying56
  a46 := Tryd.isAgg56
  z46 := Tryd.sizeOf56
  v46 := Tryd.zeroValue56
  t51 := Tryd.underlying86
  a51 := Tryd.isAgg86
  z51 := Tryd.sizeOf86
  v51 := Tryd.zeroValue86
  t146 := Tryd.underlying94
  a146 := Tryd.isAgg94
  z146 := Tryd.sizeOf94
  v146 := Tryd.zeroValue94
  g1 := by kernel_rfl }
open Go.RowKit Go.Lib in

theorem Tryd.strings_Count_one (s : ByteArray) (c : UInt8) (w : World) :
    Calls Tryd.prog 45 #[.string s, .string ⟨#[c]⟩] w fun e w' => e = .returned (.int .i64 (Lib.countByte s.data.toList c)) ∧ w' = w := Any.strings_Count_one Tryd.lays138 s c w
def Tryd.lays221_ren : Go.Shelf.Ren := ⟨fun | 221 => 39 | 268 => 44 | 138 => 45 | 143 => 46 | 195 => 50 | 197 => 51 | 218 => 52 | 219 => 53 | 260 => 60 | 217 => 61 | 225 => 62 | 224 => 63 | 267 => 64 | 266 => 70 | 314 => 71 | n => n, fun | 9 => 9 | 3 => 3 | 31 => 50 | 4 => 4 | 0 => 0 | 105 => 73 | 21 => 21 | 5 => 5 | 46 => 56 | 119 => 90 | 139 => 93 | 138 => 92 | 146 => 94 | 51 => 86 | n => n, fun | 1 => 0 | 3 => 2 | 4 => 3 | n => n⟩
theorem Tryd.lays221 : Go.Proofs.Lays.n221 Tryd.prog Tryd.lays221_ren := {
  mixed := by kernel_rfl
  f138 := Tryd.func45.trans (congrArg some (by kernel_rfl))
  f143 := Tryd.func46.trans (congrArg some (by kernel_rfl))
  f195 := Tryd.func50.trans (congrArg some (by kernel_rfl))
  f197 := Tryd.func51.trans (congrArg some (by kernel_rfl))
  f217 := Tryd.func61.trans (congrArg some (by kernel_rfl))
  f218 := Tryd.func52.trans (congrArg some (by kernel_rfl))
  f219 := Tryd.func53.trans (congrArg some (by kernel_rfl))
  f221 := Tryd.func39.trans (congrArg some (by kernel_rfl))
  f224 := Tryd.func63.trans (congrArg some (by kernel_rfl))
  f225 := Tryd.func62.trans (congrArg some (by kernel_rfl))
  f260 := Tryd.func60.trans (congrArg some (by kernel_rfl))
  f266 := Tryd.func70.trans (congrArg some (by kernel_rfl))
  f267 := Tryd.func64.trans (congrArg some (by kernel_rfl))
  f268 := Tryd.func44.trans (congrArg some (by kernel_rfl))
  f314 := Tryd.func71.trans (congrArg some (by kernel_rfl))
  t0 := Tryd.underlying0
  a0 := Tryd.isAgg0
  z0 := Tryd.sizeOf0
  v0 := Tryd.zeroValue0
  t3 := Tryd.underlying3
  a3 := Tryd.isAgg3
  z3 := Tryd.sizeOf3
  v3 := Tryd.zeroValue3
  t4 := Tryd.underlying4
  a4 := Tryd.isAgg4
  z4 := Tryd.sizeOf4
  v4 := Tryd.zeroValue4
  t5 := Tryd.underlying5
  a5 := Tryd.isAgg5
  z5 := Tryd.sizeOf5
  v5 := Tryd.zeroValue5
  t9 := Tryd.underlying9
  a9 := Tryd.isAgg9
  z9 := Tryd.sizeOf9
  v9 := Tryd.zeroValue9
  t21 := Tryd.underlying21
  a21 := Tryd.isAgg21
  z21 := Tryd.sizeOf21
  v21 := Tryd.zeroValue21
  t31 := Tryd.underlying50
  a31 := Tryd.isAgg50
  z31 := Tryd.sizeOf50
  v31 := Tryd.zeroValue50
  t46 := Tryd.underlying56
  a46 := Tryd.isAgg56
  z46 := Tryd.sizeOf56
  v46 := Tryd.zeroValue56
  t51 := Tryd.underlying86
  a51 := Tryd.isAgg86
  z51 := Tryd.sizeOf86
  v51 := Tryd.zeroValue86
  t105 := Tryd.underlying73
  a105 := Tryd.isAgg73
  z105 := Tryd.sizeOf73
  v105 := Tryd.zeroValue73
  t119 := Tryd.underlying90
  a119 := Tryd.isAgg90
  z119 := Tryd.sizeOf90
  t138 := Tryd.underlying92
  a138 := Tryd.isAgg92
  z138 := Tryd.sizeOf92
  v138 := Tryd.zeroValue92
  t139 := Tryd.underlying93
  a139 := Tryd.isAgg93
  z139 := Tryd.sizeOf93
  v139 := Tryd.zeroValue93
  t146 := Tryd.underlying94
  a146 := Tryd.isAgg94
  z146 := Tryd.sizeOf94
  v146 := Tryd.zeroValue94
  g1 := by kernel_rfl
  g3 := by kernel_rfl
  g4 := by kernel_rfl }
def Tryd.lays146_ren : Go.Shelf.Ren := ⟨fun | 146 => 34 | 221 => 39 | 268 => 44 | 138 => 45 | 143 => 46 | 195 => 50 | 197 => 51 | 218 => 52 | 219 => 53 | 260 => 60 | 217 => 61 | 225 => 62 | 224 => 63 | 267 => 64 | 266 => 70 | 314 => 71 | n => n, fun | 9 => 9 | 31 => 50 | 3 => 3 | 4 => 4 | 0 => 0 | 105 => 73 | 21 => 21 | 5 => 5 | 46 => 56 | 119 => 90 | 139 => 93 | 138 => 92 | 146 => 94 | 51 => 86 | n => n, fun | 1 => 0 | 3 => 2 | 4 => 3 | n => n⟩
theorem Tryd.lays146 : Go.Proofs.Lays.n146 Tryd.prog Tryd.lays146_ren := {
  mixed := by kernel_rfl
  f138 := Tryd.func45.trans (congrArg some (by kernel_rfl))
  f143 := Tryd.func46.trans (congrArg some (by kernel_rfl))
  f146 := Tryd.func34.trans (congrArg some (by kernel_rfl))
  f195 := Tryd.func50.trans (congrArg some (by kernel_rfl))
  f197 := Tryd.func51.trans (congrArg some (by kernel_rfl))
  f217 := Tryd.func61.trans (congrArg some (by kernel_rfl))
  f218 := Tryd.func52.trans (congrArg some (by kernel_rfl))
  f219 := Tryd.func53.trans (congrArg some (by kernel_rfl))
  f221 := Tryd.func39.trans (congrArg some (by kernel_rfl))
  f224 := Tryd.func63.trans (congrArg some (by kernel_rfl))
  f225 := Tryd.func62.trans (congrArg some (by kernel_rfl))
  f260 := Tryd.func60.trans (congrArg some (by kernel_rfl))
  f266 := Tryd.func70.trans (congrArg some (by kernel_rfl))
  f267 := Tryd.func64.trans (congrArg some (by kernel_rfl))
  f268 := Tryd.func44.trans (congrArg some (by kernel_rfl))
  f314 := Tryd.func71.trans (congrArg some (by kernel_rfl))
  t0 := Tryd.underlying0
  a0 := Tryd.isAgg0
  z0 := Tryd.sizeOf0
  v0 := Tryd.zeroValue0
  t3 := Tryd.underlying3
  a3 := Tryd.isAgg3
  z3 := Tryd.sizeOf3
  v3 := Tryd.zeroValue3
  t4 := Tryd.underlying4
  a4 := Tryd.isAgg4
  z4 := Tryd.sizeOf4
  v4 := Tryd.zeroValue4
  t5 := Tryd.underlying5
  a5 := Tryd.isAgg5
  z5 := Tryd.sizeOf5
  v5 := Tryd.zeroValue5
  t9 := Tryd.underlying9
  a9 := Tryd.isAgg9
  z9 := Tryd.sizeOf9
  v9 := Tryd.zeroValue9
  t21 := Tryd.underlying21
  a21 := Tryd.isAgg21
  z21 := Tryd.sizeOf21
  v21 := Tryd.zeroValue21
  t31 := Tryd.underlying50
  a31 := Tryd.isAgg50
  z31 := Tryd.sizeOf50
  v31 := Tryd.zeroValue50
  t46 := Tryd.underlying56
  a46 := Tryd.isAgg56
  z46 := Tryd.sizeOf56
  v46 := Tryd.zeroValue56
  t51 := Tryd.underlying86
  a51 := Tryd.isAgg86
  z51 := Tryd.sizeOf86
  v51 := Tryd.zeroValue86
  t105 := Tryd.underlying73
  a105 := Tryd.isAgg73
  z105 := Tryd.sizeOf73
  v105 := Tryd.zeroValue73
  t119 := Tryd.underlying90
  a119 := Tryd.isAgg90
  z119 := Tryd.sizeOf90
  t138 := Tryd.underlying92
  a138 := Tryd.isAgg92
  z138 := Tryd.sizeOf92
  v138 := Tryd.zeroValue92
  t139 := Tryd.underlying93
  a139 := Tryd.isAgg93
  z139 := Tryd.sizeOf93
  v139 := Tryd.zeroValue93
  t146 := Tryd.underlying94
  a146 := Tryd.isAgg94
  z146 := Tryd.sizeOf94
  v146 := Tryd.zeroValue94
  g1 := by kernel_rfl
  g3 := by kernel_rfl
  g4 := by kernel_rfl }
open Go.RowKit Go.Lib in

theorem Tryd.strings_Split (s sep : ByteArray) (m : Int) (w : World) (hs : s.size < 4294967281) (hm : w.cell? ⟨0, 0, none⟩ = some (.int .i64 m)) (h1 : 1 ≤ sep.size) :
    Calls Tryd.prog 34 #[.string s, .string sep] w fun e w' =>
      e = .returned (.slice (some ⟨w.heap.size, 0, none⟩) (Lib.countB s sep + 1) (Lib.countB s sep + 1)) ∧ w' = w.alloc (.cells ((Lib.splitB sep 0 (Lib.countB s sep) s).map Value.string).toArray 9) := Any.strings_Split Tryd.lays146 (by kernel_rfl) s sep m w hs hm h1
end Go.Proofs
end

section
namespace Go.Proofs.YthlgilepfbehaaaDoor.PB
open Go.RowKit Go.Proofs.YthlgilepfbehaaaDoorW.PrintWords Go.Proofs.YthlgilepfbehaaaDoorW.PrintLast Go.Proofs.YthlgilepfbehaaaDoorW.PrintMore
set_option linter.unusedVariables false
set_option linter.unusedSimpArgs false
def strconv_Itoa_36.f (a0 : Int) : Option ByteArray := if 0 ≤ a0 ∧ a0 < 100 then some ⟨(Lib.decDigits a0.toNat).toArray⟩ else none
theorem strconv_Itoa_36.calls (a0 : Int) (r : ByteArray) (w : World) (h : strconv_Itoa_36.f a0 = some r) :
    Calls Tryd.prog 36 #[.int .i64 a0] w fun e w' => e = .returned (.string r) ∧ Below w.heap.size w w' := by
  unfold strconv_Itoa_36.f at h
  split at h
  case isFalse => cases h
  rename_i hc
  injection h with h
  subst h
  obtain ⟨a, rfl⟩ := Int.eq_ofNat_of_zero_le hc.1
  refine (Tryd.strconv_Itoa_small a (by omega) w).mono fun e w' ⟨he, hw⟩ => ?_
  subst hw
  exact ⟨he, Below.refl _ _⟩
theorem cell_spot {w : World} {a : Addr} {v : Value} (h : w.cell? a = some v) : a.spot = none := by
  unfold World.cell? at h
  split at h
  · split at h
    · cases h
    · rename_i hs
      cases hq : a.spot with
      | none => rfl
      | some x => rw [hq] at hs; simp at hs
  · cases h
def strings_Join.f (l0 : List ByteArray) (a1 : ByteArray) : Option ByteArray := if l0.length ≤ 140737488355328 ∧ (Lib.join (l0.map (fun x : ByteArray => x.data.toList)) a1.data.toList).length ≤ 140737488355328 then some ⟨(Lib.join (l0.map (fun x : ByteArray => x.data.toList)) a1.data.toList).toArray⟩ else none
theorem strings_Join.calls (A0 : Option Addr) (c0 : Nat) (l0 : List ByteArray) (a1 : ByteArray) (r : ByteArray) (w : World) (hr0 : Kd.C Kd.string w A0 l0.length l0) (hc0 : l0.length ≤ c0) (h : strings_Join.f l0 a1 = some r) :
    Calls Tryd.prog 37 #[.slice A0 l0.length c0, .string a1] w fun e w' => e = .returned (.string r) ∧ Below w.heap.size w w' := by
  unfold strings_Join.f at h
  split at h
  case isFalse => cases h
  rename_i hc
  injection h with h
  subst h
  cases l0 with
  | nil =>
    refine (Tryd.strings_Join_none A0 c0 a1 w).mono fun e w' ⟨he, hw⟩ => ?_
    subst hw
    exact ⟨he, Below.refl _ _⟩
  | cons x xs =>
    obtain ⟨ad, rfl, hx0⟩ := Kd.at_string hr0 0 (by omega) (by simp)
    have hs := cell_spot hx0
    obtain ⟨b, o, sp⟩ := ad
    have hsp : sp = none := by
      have : (Addr.add ⟨b, o, sp⟩ (0 : Int).toNat) = ⟨b, o, sp⟩ := rfl
      rw [this] at hs
      exact hs
    subst hsp
    have hcells : ∀ (j : Nat) y, (x :: xs)[j]? = some y → w.cell? ⟨b, o + j, none⟩ = some (.string y) := by
      intro j y hy
      have hj := (List.getElem?_eq_some_iff.1 hy).1
      obtain ⟨ad', e', hx'⟩ := Kd.at_string hr0 (j : Int) (by omega) (by omega)
      obtain rfl : (⟨b, o, none⟩ : Addr) = ad' := by injection e'
      rw [Int.toNat_natCast, Addr.add_lit] at hx'
      rw [hx']
      unfold rdOf
      rw [Int.toNat_natCast, List.getD_eq_getElem?_getD, hy]
      rfl
    have hb := World.block_lt_of_cell? w _ (hcells 0 x rfl)
    exact Tryd.strings_Join b o c0 (x :: xs) a1 w hcells hb hc.1 hc0 hc.2
set_option maxHeartbeats 1000000 in
theorem Split_one (s : ByteArray) (c : UInt8) (w : World) (hs : s.size < 4294967281) :
    Calls Tryd.prog 34 #[.string s, .string ⟨#[c]⟩] w fun e w' =>
      e = .returned (.slice (some ⟨w.heap.size, 0, none⟩) (Lib.countB s ⟨#[c]⟩ + 1) (Lib.countB s ⟨#[c]⟩ + 1)) ∧ w' = w.alloc (.cells ((Lib.splitB ⟨#[c]⟩ 0 (Lib.countB s ⟨#[c]⟩) s).map Value.string).toArray 9) := by
  have h1 : 1 ≤ (⟨#[c]⟩ : ByteArray).size := Nat.le_refl 1
  have hle := Lib.countB_le ⟨#[c]⟩ h1 s.size s (Nat.le_refl _)
  have hlen := Lib.splitB_all ⟨#[c]⟩ h1 0 _ s rfl
  have c0 := Any.strings_genSplit_core Tryd.lays221 (by kernel_rfl) s ⟨#[c]⟩ 0 (-1) (Lib.countB s ⟨#[c]⟩ + 1) w hs h1 (Nat.zero_le _)
    (fun x cs hx => (Tryd.strings_Index_one x c _).mono fun e w' ⟨he, hw⟩ => ⟨by rw [he]; show _ = Ending.returned (Value.int .i64 (Lib.index x.data.toList [c])); rw [Lib.index_one], hw⟩)
    ((Tryd.strings_Count_one s c w).mono fun e w' ⟨he, hw⟩ => ⟨by rw [he]; show _ = Ending.returned (Value.int .i64 ((Lib.count s.data.toList [c] : Nat) : Int)); rw [Lib.count_one]; rfl, hw⟩)
    (by decide) (by decide) (by rw [if_pos (by decide)]; omega)
  rw [Nat.add_sub_cancel, hlen] at c0
  have e2 : Lib.cellsOf (Lib.splitB ⟨#[c]⟩ 0 (Lib.countB s ⟨#[c]⟩) s) (Lib.countB s ⟨#[c]⟩ + 1) = ((Lib.splitB ⟨#[c]⟩ 0 (Lib.countB s ⟨#[c]⟩) s).map Value.string).toArray := by rw [← hlen]; exact Lib.cellsOf_full _
  rw [e2] at c0
  have C0 := Aside0.mk c0
  clear c0 e2 hlen hle h1
  go_enter Tryd.func34, Tryd.ntmps34
  go_wp2_with (go_at_call 39; refine C0.out.mono ?_; rintro e w' ⟨rfl, hw⟩; rw [hw])
  go_ret
  exact ⟨rfl, rfl⟩
def strings_Split.f (a0 a1 : ByteArray) : Option (List ByteArray) := if a1.size = 1 ∧ a0.size < 4294967281 then some (Lib.splitB a1 0 (Lib.countB a0 a1) a0) else none
theorem strings_Split.calls (a0 a1 : ByteArray) (r : List ByteArray) (w : World) (h : strings_Split.f a0 a1 = some r) :
    Calls Tryd.prog 34 #[.string a0, .string a1] w fun e w' => ∃ v0_ : Value, e = .returned (v0_) ∧ Kd.R Kd.string 9 w' w.heap.size (fun _ => True) v0_ r ∧ Below w.heap.size w w' := by
  unfold strings_Split.f at h
  split at h
  case isFalse => cases h
  rename_i hc
  injection h with h
  subst h
  obtain ⟨c, rfl⟩ := Lib.one_byte a1 hc.1
  have hle := Lib.countB_le ⟨#[c]⟩ (Nat.le_refl 1) a0.size a0 (Nat.le_refl _)
  have hlen := Lib.splitB_all ⟨#[c]⟩ (Nat.le_refl 1) 0 _ a0 rfl
  refine (Split_one a0 c w hc.2).mono fun e w' ⟨he, hw⟩ => ?_
  subst hw
  refine ⟨_, he, ?_, (Below.refl _ _).alloc (Nat.le_refl _) _⟩
  have hl2 : Lib.countB a0 ⟨#[c]⟩ + 1 ≤ 9223372036854775807 := by omega
  generalize Lib.splitB ⟨#[c]⟩ 0 (Lib.countB a0 ⟨#[c]⟩) a0 = xs at *
  generalize Lib.countB a0 ⟨#[c]⟩ = n at *
  refine Kd.R_of_own ⟨by simp [encs], Or.inr ⟨w.heap.size, n + 1, (xs.map Value.string).toArray, by rw [hlen], Nat.le_refl _, heap_alloc_new _ _, by omega, by unfold maxLen; exact hl2, by simp [hlen], by simp only [encs]; rw [List.take_of_length_le (by simp [hlen])]⟩⟩ (fun _ _ => trivial)
end Go.Proofs.YthlgilepfbehaaaDoor.PB
end

section
namespace Go.Proofs.YthlgilepfbehaaaDoor.PB
open Go.RowKit Go.Proofs.YthlgilepfbehaaaDoorW.PrintWords Go.Proofs.YthlgilepfbehaaaDoorW.PrintLast Go.Proofs.YthlgilepfbehaaaDoorW.PrintMore
attribute [local go_sem] max2_int min2_int max_two min_two max_three min_three max_four min_four   
set_option linter.unusedVariables false
set_option linter.unusedSimpArgs false
def label_Print.l0 : Nat → List ByteArray → List Int → Int → Int → Option (ByteArray)
  | 0, _, _, _, _ => none
  | k + 1, x3, x9, x10, x11 => if x11 < x10 then (if 0 ≤ x11 then (if x11 < (x9.length : Int) then ((strconv_Itoa_36.f (rd x9 x11)).bind fun t108 => (if x3.length < 8796093022208 then (label_Print.l0 k (x3 ++ [t108]) x9 x10 (wrap64 (x11 + 1))) else (none))) else (none)) else (none)) else ((strings_Join.f x3 (⟨#[46]⟩ : ByteArray)).bind fun t112 => (some t112))
def label_Print.f (k : Nat) (a0 : Int) : Option (ByteArray) := if a0 = 0 then (some (⟨#[45]⟩ : ByteArray)) else ((label_Cats.f a0).bind fun t104 => (label_Print.l0 k ([] : List ByteArray) t104 (t104.length : Int) 0))
theorem label_Print.mono_l : ∀ k, (∀ y0 y1 y2 y3, LeO (label_Print.l0 k y0 y1 y2 y3) (label_Print.l0 (k + 1) y0 y1 y2 y3))
  | 0 => fun _ _ _ _ r h => by simp [label_Print.l0] at h
  | k + 1 => by
    have ih0 := label_Print.mono_l k
    · intro y0 y1 y2 y3
      unfold label_Print.l0
      repeat' first
      | (with_reducible exact ih0 _ _ _ _)
      | (with_reducible exact LeO.refl _)
      | (with_reducible exact LeO.none _)
      | (with_reducible refine LeO.ite ?_ ?_)
      | (with_reducible refine LeO.bind ?_ (fun _ => ?_))
      | exact ih0 _ _ _ _
      | exact LeO.none _
      | refine LeO.ite ?_ ?_
      | refine LeO.bind ?_ (fun _ => ?_)
theorem label_Print.mono : ∀ a0 k, LeO (label_Print.f k a0) (label_Print.f (k + 1) a0) := by
  intro a0 k
  have ih0 := label_Print.mono_l k
  unfold label_Print.f
  repeat' first
      | (with_reducible exact ih0 _ _ _ _)
      | (with_reducible exact LeO.refl _)
      | (with_reducible exact LeO.none _)
      | (with_reducible refine LeO.ite ?_ ?_)
      | (with_reducible refine LeO.bind ?_ (fun _ => ?_))
      | exact ih0 _ _ _ _
      | exact LeO.none _
      | refine LeO.ite ?_ ?_
      | refine LeO.bind ?_ (fun _ => ?_)
set_option maxHeartbeats 8000000 in
set_option maxRecDepth 100000 in
theorem label_Print.calls (k : Nat) (a0 : Int) (r : ByteArray) (w : World) (h : label_Print.f k a0 = some r) :
    Calls Tryd.prog 28 #[.int .u64 a0] w fun e w' => e = .returned (.string r) ∧ Below w.heap.size w w' := by
  have HB := Aside0.mk (Below.refl w.heap.size w)
  have H : (if a0 = 0 then (some (⟨#[45]⟩ : ByteArray)) else ((label_Cats.f a0).bind fun t104 => (label_Print.l0 k ([] : List ByteArray) t104 (t104.length : Int) 0))) = some r := h
  clear h
  by_cases c2 : a0 = 0
  · rw [if_pos c2] at H
    have c2b0 : (a0 == 0) = true := beq_iff_eq.mpr c2
    have c2b1 : (a0 != 0) = false := bne_eq_false_iff_eq.mpr c2
    clear c2
    obtain rfl := Option.some.inj H
    go_enter Tryd.func28, Tryd.ntmps28
    go_wp2
    go_ret
    exact ⟨by first | rfl | (simp [errW_none, errW_some] <;> rfl) | (simp [*, errW_none, errW_some] <;> rfl), by repeat (first | (with_reducible first | exact HB.out | apply below_alloc | apply pw_below_drewN | apply below_drew1) | exact HB.out)⟩
  · rw [if_neg c2] at H
    have c2b0 : (a0 == 0) = false := beq_eq_false_iff_ne.mpr c2
    have c2b1 : (a0 != 0) = true := bne_iff_ne.mpr c2
    replace H := Option.bind_eq_some_iff.mp H
    obtain ⟨t104, A30, H⟩ := H
    replace H : (label_Print.l0 k ([] : List ByteArray) t104 (t104.length : Int) 0) = some r := H
    have A3 := Aside0.mk A30
    clear A30
    have H' := Aside0.mk H
    clear H
    go_enter Tryd.func28, Tryd.ntmps28
    go_wp2_with (first | ((with_reducible refine gate_callee (f := 14) rfl ?_); refine goesL_ (some 9) rfl rfl Tryd.func14 (by kernel_rfl) rfl #[.int .u64 a0] rfl (by (try simp only [List.map_toArray, List.map_cons, List.map_nil]); first | done | rfl | (simp only [List.length_drop, List.length_take]; rfl)) ?_; (with_reducible refine (label_Cats.calls a0 t104 _ A3.out).mono ?_); rintro e w4 ⟨v105, rfl, ho0, hb⟩; refine ⟨_, rfl, ?_⟩; have n0_ := Aside0.mk (Kd.R_lower ho0 (below_size (by repeat (first | (with_reducible first | exact HB.out | apply below_alloc | apply pw_below_drewN | apply below_drew1) | exact HB.out)))); have n1_ := Aside0.mk (below_step (by repeat (first | (with_reducible first | exact HB.out | apply below_alloc | apply pw_below_drewN | apply below_drew1) | exact HB.out)) hb); clear HB; have HO106 := n0_; have HB := n1_; clear n0_ n1_; (try clear hb); (try clear hb2); (try clear hk); (try clear hi); (try clear ho0); obtain ⟨Ao5, co5, eo5⟩ := Kd.R_slice HO106.out; subst eo5))
    go_loopg [3, 11] k (fun kq v3 v11 w' => ∃ (x3_1 : List ByteArray) (x11_1 : Int), v11 = .int .i64 x11_1 ∧ Aside0 (label_Print.l0 kq x3_1 t104 (t104.length : Int) x11_1 = some r) ∧ Aside0 (kq ≤ k) ∧ Aside0 (Kd.R Kd.string 9 w' w.heap.size (fun _ => True) v3 x3_1) ∧ Aside0 (Kd.R (Kd.int .i64) 3 w' w.heap.size (fun _ => True) (.slice Ao5 t104.length co5) t104) ∧ Aside0 (Below w.heap.size w w'))
    case atStart => exact ⟨(([] : List ByteArray)), (0), (by first | rfl | (simp; done) | (simp [*]; done)), H', ⟨Nat.le_refl _⟩, ⟨by first | exact Kd.R_nil _ _ _ _ _ | exact Kd.N_nil _ _ _ _ _ | exact Kd.V_nil _ _ _ _ _ | exact Kd.Q_nil _ _ _ _ _ | exact Kd.S_nil _ _ _ _ _⟩, ⟨by (with_reducible repeat (first | apply Kd.R_alloc | apply Kd.R_drewN | apply Kd.R_drew)); exact HO106.out⟩, ⟨by repeat (first | (with_reducible first | exact HB.out | apply below_alloc | apply pw_below_drewN | apply below_drew1) | exact HB.out)⟩⟩
    case round =>
      clear H'
      try clear c1
      try clear c2
      try clear c2b0
      try clear c2b1
      try clear p2
      obtain ⟨x3_1, x11_1, rfl, HA, HK1, HO_3, HO_9, HB⟩ := hrel
      cases gk with
      | zero => exact absurd HA.out (by simp [label_Print.l0])
      | succ k1 =>
        have H := HA.out
        clear HA
        simp only [label_Print.l0] at H
        by_cases c6 : x11_1 < (t104.length : Int)
        · rw [if_pos c6] at H
          have c6b0 : decide (x11_1 < (t104.length : Int)) = true := decide_eq_true c6
          clear c6
          by_cases c7 : 0 ≤ x11_1
          · rw [if_pos c7] at H
            have c7b0 : decide (0 ≤ x11_1) = true := decide_eq_true c7
            clear c7
            by_cases c8 : x11_1 < (t104.length : Int)
            · rw [if_pos c8] at H
              have c8b0 : decide (x11_1 < (t104.length : Int)) = true := decide_eq_true c8
              clear c8
              replace H := Option.bind_eq_some_iff.mp H
              obtain ⟨t108, A90, H⟩ := H
              replace H : (if x3_1.length < 8796093022208 then (label_Print.l0 k1 (x3_1 ++ [t108]) t104 (t104.length : Int) (wrap64 (x11_1 + 1))) else (none)) = some r := H
              have A9 := Aside0.mk A90
              clear A90
              by_cases c10 : x3_1.length < 8796093022208
              · rw [if_pos c10] at H
                have LMc10 := Aside0.mk c10
                clear c10
                obtain ⟨y109, hy109⟩ : ∃ y_ : List ByteArray, y_ = (x3_1 ++ [t108]) := ⟨_, rfl⟩
                replace H : (label_Print.l0 k1 y109 t104 (t104.length : Int) (wrap64 (x11_1 + 1))) = some r := by first | (rw [hy109]; with_reducible exact H) | (have H2_ := (Option.bind_some _ _).symm.trans H; rw [hy109]; with_reducible exact H2_) | (have H2_ := (Option.bind_some _ _).symm.trans H; with_reducible exact H2_) | with_reducible exact H | (rw [hy109]; exact H) | exact H
                have Ny109 := Aside0.mk hy109
                clear hy109
                have H' := Aside0.mk H
                clear H
                have p107 : 0 ≤ (x11_1 : Int) := of_decide_eq_true (by first | (with_reducible assumption) | assumption)
                have q107 : x11_1 < (t104.length : Int) := of_decide_eq_true (by first | (with_reducible assumption) | assumption)
                obtain ⟨ad107, e107, hx107_0⟩ := Kd.at_int (Kd.R_reads' HO_9.out).2.2 x11_1 p107 q107
                cases e107
                replace p107 := eq_true p107
                replace q107 := eq_true q107
                go_wp2_with (first | ((with_reducible refine gate_callee (f := 36) rfl ?_); refine goesL_ (some 17) rfl rfl Tryd.func36 (by kernel_rfl) rfl #[.int .i64 (rd t104 x11_1)] rfl (by (try simp only [List.map_toArray, List.map_cons, List.map_nil]); first | done | rfl | (simp only [List.length_drop, List.length_take]; rfl)) ?_; (with_reducible refine (strconv_Itoa_36.calls (rd t104 x11_1) t108 _ A9.out).mono ?_); rintro e w11 ⟨rfl, hb⟩; refine ⟨_, rfl, ?_⟩; have n0_ := Aside0.mk (Kd.R_below (by (with_reducible repeat (first | apply Kd.R_alloc | apply Kd.R_drewN | apply Kd.R_drew)); exact HO_3.out) hb); have n1_ := Aside0.mk (Kd.R_below (by (with_reducible repeat (first | apply Kd.R_alloc | apply Kd.R_drewN | apply Kd.R_drew)); exact HO_9.out) hb); have n2_ := Aside0.mk (below_step (by repeat (first | (with_reducible first | exact HB.out | apply below_alloc | apply pw_below_drewN | apply below_drew1) | exact HB.out)) hb); clear HO_3; clear HO_9; clear HB; have HO_3 := n0_; have HO_9 := n1_; have HB := n2_; clear n0_ n1_ n2_; (try clear hb); (try clear hb2); (try clear hk); (try clear hi)) | ((with_reducible refine gate_builtin (b := .append) (xs := #[.tmp 15, .tmp 18]) rfl ?_); at_builtin; refine Kd.R_append Kd.string (w0 := w) w.heap.size rfl (.tmp 15) (.tmp 18) 50 9 (.string ⟨#[]⟩) 16 rfl Tryd.underlying50 info9 rfl (by decide) (by omega) u3 x3_1 t108 [.string t108] (fun _ => True) (fun _ => False) rfl rfl ?aP (fun _ hk => hk.elim) ?aF ?aO ?aB ?aS ?aL ?_; (case aP => exact rfl); (case aB => exact (by repeat (first | (with_reducible first | exact HB.out | apply below_alloc | apply pw_below_drewN | apply below_drew1) | exact HB.out))); (case aF => exact (fun _ _ => trivial)); (case aO => exact (by (with_reducible repeat (first | apply Kd.R_alloc | apply Kd.R_drewN | apply Kd.R_drew)); exact HO_3.out)); (case aS => exact (below_size (by repeat (first | (with_reducible first | exact HB.out | apply below_alloc | apply pw_below_drewN | apply below_drew1) | exact HB.out)))); (case aL => have := LMc10.out; omega); intro v110 w12 ho hb hg hat; rw [← Ny109.out] at ho; have n0_ := Aside0.mk (Kd.R_over' (by (with_reducible repeat (first | apply Kd.R_alloc | apply Kd.R_drewN | apply Kd.R_drew)); exact HO_9.out) (Kd.R_typed (by (with_reducible repeat (first | apply Kd.R_alloc | apply Kd.R_drewN | apply Kd.R_drew)); exact HO_3.out)) (by decide) hg); have n1_ := Aside0.mk (hb); have n2_ := Aside0.mk (ho); clear HO_9; clear HB; clear HO_3; have HO_9 := n0_; have HB := n1_; have HO111 := n2_; clear n0_ n1_ n2_; clear ho hb hg hat))
                go_roundg k1
                case measure => have := HK1.out; omega
                case rel => exact ⟨(y109), (wrap64 (x11_1 + 1)), (by first | rfl | (simp; done) | (simp [*]; done)), H', ⟨by have := HK1.out; omega⟩, ⟨by (with_reducible repeat (first | apply Kd.R_alloc | apply Kd.R_drewN | apply Kd.R_drew)); exact HO111.out⟩, ⟨by (with_reducible repeat (first | apply Kd.R_alloc | apply Kd.R_drewN | apply Kd.R_drew)); exact HO_9.out⟩, ⟨by repeat (first | (with_reducible first | exact HB.out | apply below_alloc | apply pw_below_drewN | apply below_drew1) | exact HB.out)⟩⟩
              · rw [if_neg c10] at H
                exact absurd H (by simp)
            · rw [if_neg c8] at H
              exact absurd H (by simp)
          · rw [if_neg c7] at H
            exact absurd H (by simp)
        · rw [if_neg c6] at H
          have c6b0 : decide (x11_1 < (t104.length : Int)) = false := decide_eq_false c6
          clear c6
          replace H := Option.bind_eq_some_iff.mp H
          obtain ⟨t112, A130, H⟩ := H
          replace H : (some t112) = some r := H
          have A13 := Aside0.mk A130
          clear A130
          obtain rfl := Option.some.inj H
          obtain ⟨Ao14, co14, eo14⟩ := Kd.R_slice HO_3.out
          subst eo14
          go_wp2_with (first | ((with_reducible refine gate_callee (f := 37) rfl ?_); refine goesL_ (some 22) rfl rfl Tryd.func37 (by kernel_rfl) rfl #[.slice Ao14 x3_1.length co14, .string (⟨#[46]⟩ : ByteArray)] rfl (by (try simp only [List.map_toArray, List.map_cons, List.map_nil]); first | done | rfl | (simp only [List.length_drop, List.length_take]; rfl)) ?_; (with_reducible refine (strings_Join.calls _ _ x3_1 (⟨#[46]⟩ : ByteArray) t112 _ ?side1 ?side2 A13.out).mono ?_); (case side1 => repeat (first | exact (Kd.R_reads' HO_3.out).2.2 | (with_reducible refine Kd.C_alloc ?_ _) | (with_reducible refine Kd.C_drewN ?_ _) | (with_reducible refine Kd.C_drew ?_))); (case side2 => exact (Kd.R_reads' HO_3.out).2.1); rintro e w15 ⟨rfl, hb⟩; refine ⟨_, rfl, ?_⟩; have n0_ := Aside0.mk (Kd.R_below (by (with_reducible repeat (first | apply Kd.R_alloc | apply Kd.R_drewN | apply Kd.R_drew)); exact HO_3.out) hb); have n1_ := Aside0.mk (Kd.R_below (by (with_reducible repeat (first | apply Kd.R_alloc | apply Kd.R_drewN | apply Kd.R_drew)); exact HO_9.out) hb); have n2_ := Aside0.mk (below_step (by repeat (first | (with_reducible first | exact HB.out | apply below_alloc | apply pw_below_drewN | apply below_drew1) | exact HB.out)) hb); clear HO_3; clear HO_9; clear HB; have HO_3 := n0_; have HO_9 := n1_; have HB := n2_; clear n0_ n1_ n2_; (try clear hb); (try clear hb2); (try clear hk); (try clear hi)))
          go_ret
          exact ⟨by first | rfl | (simp [errW_none, errW_some] <;> rfl) | (simp [*, errW_none, errW_some] <;> rfl), by repeat (first | (with_reducible first | exact HB.out | apply below_alloc | apply pw_below_drewN | apply below_drew1) | exact HB.out)⟩
end Go.Proofs.YthlgilepfbehaaaDoor.PB
end

section
namespace Go.Proofs.YthlgilepfbehaaaDoor.PB
open Go.RowKit Go.Proofs.YthlgilepfbehaaaDoorW.PrintWords Go.Proofs.YthlgilepfbehaaaDoorW.PrintLast Go.Proofs.YthlgilepfbehaaaDoorW.PrintMore
attribute [local go_sem] max2_int min2_int max_two min_two max_three min_three max_four min_four   
set_option linter.unusedVariables false
set_option linter.unusedSimpArgs false
def label_Join.f (a0 : Int) (a1 : Int) : Option (Int) := some (Go.bits .or .u64 a0 a1)
set_option maxHeartbeats 8000000 in
set_option maxRecDepth 100000 in
theorem label_Join.calls (a0 : Int) (a1 : Int) (r : Int) (w : World) (h : label_Join.f a0 a1 = some r) :
    Calls Tryd.prog 16 #[.int .u64 a0, .int .u64 a1] w fun e w' => e = .returned (.int .u64 r) ∧ Drawn0 w w' := by
  have H : (some (Go.bits .or .u64 a0 a1)) = some r := h
  clear h
  obtain rfl := Option.some.inj H
  go_enter Tryd.func16, Tryd.ntmps16
  go_wp2
  go_ret
  exact ⟨by first | rfl | (simp; done) | (simp [*]; done), by repeat (first | exact Drawn0.refl _ | apply Drawn0.step)⟩
def label_Below.f (a0 : Int) (a1 : Int) : Option (Bool) := some ((Go.bits .andNot .u64 a0 a1) == 0)
set_option maxHeartbeats 8000000 in
set_option maxRecDepth 100000 in
theorem label_Below.calls (a0 : Int) (a1 : Int) (r : Bool) (w : World) (h : label_Below.f a0 a1 = some r) :
    Calls Tryd.prog 20 #[.int .u64 a0, .int .u64 a1] w fun e w' => e = .returned (.bool r) ∧ Drawn0 w w' := by
  have H : (some ((Go.bits .andNot .u64 a0 a1) == 0)) = some r := h
  clear h
  obtain rfl := Option.some.inj H
  go_enter Tryd.func20, Tryd.ntmps20
  go_wp2
  go_ret
  exact ⟨by first | rfl | (simp; done) | (simp [*]; done), by repeat (first | exact Drawn0.refl _ | apply Drawn0.step)⟩
end Go.Proofs.YthlgilepfbehaaaDoor.PB
end

section
namespace Go.Proofs.YthlgilepfbehaaaDoor.PB
open Go.RowKit Go.Proofs.YthlgilepfbehaaaDoorW.PrintWords Go.Proofs.YthlgilepfbehaaaDoorW.PrintLast Go.Proofs.YthlgilepfbehaaaDoorW.PrintMore
attribute [local go_sem] max2_int min2_int max_two min_two max_three min_three max_four min_four   
set_option linter.unusedVariables false
set_option linter.unusedSimpArgs false
def api_Label.l0 : Nat → List Int → Int → Int → Int → Option (Int)
  | 0, _, _, _, _ => none
  | k + 1, x0, x1, x7, x8 => if x8 < x7 then (if 0 ≤ x8 then (if x8 < (x0.length : Int) then (if x1 = (rd x0 x8) then (some x8) else (api_Label.l0 k x0 x1 x7 (wrap64 (x8 + 1)))) else (none)) else (none)) else (some (-1))
def api_Label.f (k : Nat) (l0 : List Int) (a1 : Int) : Option (Int) := api_Label.l0 k l0 a1 (l0.length : Int) 0
theorem api_Label.mono_l : ∀ k, (∀ y0 y1 y2 y3, LeO (api_Label.l0 k y0 y1 y2 y3) (api_Label.l0 (k + 1) y0 y1 y2 y3))
  | 0 => fun _ _ _ _ r h => by simp [api_Label.l0] at h
  | k + 1 => by
    have ih0 := api_Label.mono_l k
    · intro y0 y1 y2 y3
      unfold api_Label.l0
      repeat' first
      | (with_reducible exact ih0 _ _ _ _)
      | (with_reducible exact LeO.refl _)
      | (with_reducible exact LeO.none _)
      | (with_reducible refine LeO.ite ?_ ?_)
      | (with_reducible refine LeO.bind ?_ (fun _ => ?_))
      | exact ih0 _ _ _ _
      | exact LeO.none _
      | refine LeO.ite ?_ ?_
      | refine LeO.bind ?_ (fun _ => ?_)
theorem api_Label.mono : ∀ a0 a1 k, LeO (api_Label.f k a0 a1) (api_Label.f (k + 1) a0 a1) := by
  intro a0 a1 k
  have ih0 := api_Label.mono_l k
  unfold api_Label.f
  repeat' first
      | (with_reducible exact ih0 _ _ _ _)
      | (with_reducible exact LeO.refl _)
      | (with_reducible exact LeO.none _)
      | (with_reducible refine LeO.ite ?_ ?_)
      | (with_reducible refine LeO.bind ?_ (fun _ => ?_))
      | exact ih0 _ _ _ _
      | exact LeO.none _
      | refine LeO.ite ?_ ?_
      | refine LeO.bind ?_ (fun _ => ?_)
set_option maxHeartbeats 8000000 in
set_option maxRecDepth 100000 in
theorem api_Label.calls (k : Nat) (A0 : Option Addr) (c0 : Nat) (l0 : List Int) (a1 : Int) (r : Int) (w : World) (hr0 : Kd.C (Kd.int .u64) w A0 l0.length l0) (hc0 : l0.length ≤ c0) (h : api_Label.f k l0 a1 = some r) :
    Calls Tryd.prog 33 #[.slice A0 l0.length c0, .int .u64 a1] w fun e w' => e = .returned (.int .i64 r) ∧ Drawn0 w w' := by
  have HR0 := Aside0.mk hr0
  have HC0 := Aside0.mk hc0
  clear hr0 hc0
  have H : (api_Label.l0 k l0 a1 (l0.length : Int) 0) = some r := h
  clear h
  have H' := Aside0.mk H
  clear H
  go_enter Tryd.func33, Tryd.ntmps33
  go_wp2
  go_loopg [8] k (fun kq v8 w' => ∃ (x8_1 : Int), v8 = .int .i64 x8_1 ∧ Aside0 (api_Label.l0 kq l0 a1 (l0.length : Int) x8_1 = some r) ∧ Aside0 (kq ≤ k) ∧ Drawn0 w w')
  case atStart => exact ⟨(0), (by first | rfl | (simp; done) | (simp [*]; done)), H', ⟨Nat.le_refl _⟩, by repeat (first | exact Drawn0.refl _ | apply Drawn0.step)⟩
  case round =>
    clear H'
    try clear p2
    obtain ⟨x8_1, rfl, HA, HK1, ⟨m1, rfl⟩⟩ := hrel
    cases gk with
    | zero => exact absurd HA.out (by simp [api_Label.l0])
    | succ k1 =>
      have H := HA.out
      clear HA
      simp only [api_Label.l0] at H
      by_cases c3 : x8_1 < (l0.length : Int)
      · rw [if_pos c3] at H
        have c3b0 : decide (x8_1 < (l0.length : Int)) = true := decide_eq_true c3
        clear c3
        by_cases c4 : 0 ≤ x8_1
        · rw [if_pos c4] at H
          have c4b0 : decide (0 ≤ x8_1) = true := decide_eq_true c4
          clear c4
          by_cases c5 : x8_1 < (l0.length : Int)
          · rw [if_pos c5] at H
            have c5b0 : decide (x8_1 < (l0.length : Int)) = true := decide_eq_true c5
            clear c5
            by_cases c6 : a1 = (rd l0 x8_1)
            · rw [if_pos c6] at H
              have c6b0 : (a1 == (rd l0 x8_1)) = true := beq_iff_eq.mpr c6
              have c6b1 : (a1 != (rd l0 x8_1)) = false := bne_eq_false_iff_eq.mpr c6
              clear c6
              obtain rfl := Option.some.inj H
              have p102 : 0 ≤ (x8_1 : Int) := of_decide_eq_true (by first | (with_reducible assumption) | assumption)
              have q102 : x8_1 < (l0.length : Int) := of_decide_eq_true (by first | (with_reducible assumption) | assumption)
              obtain ⟨ad102, e102, hx102_0⟩ := Kd.at_int HR0.out x8_1 p102 q102
              cases e102
              replace p102 := eq_true p102
              replace q102 := eq_true q102
              go_wp2
              go_ret
              exact ⟨by first | rfl | (simp; done) | (simp [*]; done), by repeat (first | exact Drawn0.refl _ | apply Drawn0.step)⟩
            · rw [if_neg c6] at H
              have c6b0 : (a1 == (rd l0 x8_1)) = false := beq_eq_false_iff_ne.mpr c6
              have c6b1 : (a1 != (rd l0 x8_1)) = true := bne_iff_ne.mpr c6
              have H' := Aside0.mk H
              clear H
              have p102 : 0 ≤ (x8_1 : Int) := of_decide_eq_true (by first | (with_reducible assumption) | assumption)
              have q102 : x8_1 < (l0.length : Int) := of_decide_eq_true (by first | (with_reducible assumption) | assumption)
              obtain ⟨ad102, e102, hx102_0⟩ := Kd.at_int HR0.out x8_1 p102 q102
              cases e102
              replace p102 := eq_true p102
              replace q102 := eq_true q102
              go_wp2
              go_roundg k1
              case measure => have := HK1.out; omega
              case rel => exact ⟨(wrap64 (x8_1 + 1)), (by first | rfl | (simp; done) | (simp [*]; done)), H', ⟨by have := HK1.out; omega⟩, by repeat (first | exact Drawn0.refl _ | apply Drawn0.step)⟩
          · rw [if_neg c5] at H
            exact absurd H (by simp)
        · rw [if_neg c4] at H
          exact absurd H (by simp)
      · rw [if_neg c3] at H
        have c3b0 : decide (x8_1 < (l0.length : Int)) = false := decide_eq_false c3
        clear c3
        obtain rfl := Option.some.inj H
        go_wp2
        go_ret
        exact ⟨by first | rfl | (simp; done) | (simp [*]; done), by repeat (first | exact Drawn0.refl _ | apply Drawn0.step)⟩
end Go.Proofs.YthlgilepfbehaaaDoor.PB
end

section
namespace Go.Proofs.YthlgilepfbehaaaDoor.PB
open Go.RowKit Go.Proofs.YthlgilepfbehaaaDoorW.PrintWords Go.Proofs.YthlgilepfbehaaaDoorW.PrintLast Go.Proofs.YthlgilepfbehaaaDoorW.PrintMore
attribute [local go_sem] max2_int min2_int max_two min_two max_three min_three max_four min_four   
set_option linter.unusedVariables false
set_option linter.unusedSimpArgs false
def label_Place.f (k : Nat) (l0 : List Int) (a1 : Int) : Option (Int) := (api_Label.f k l0 a1).bind fun t103 => (some t103)
theorem label_Place.mono : ∀ a0 a1 k, LeO (label_Place.f k a0 a1) (label_Place.f (k + 1) a0 a1) := by
  intro a0 a1 k
  unfold label_Place.f
  repeat' first
      | (with_reducible exact api_Label.mono _ _ _)
      | (with_reducible exact LeO.refl _)
      | (with_reducible exact LeO.none _)
      | (with_reducible refine LeO.ite ?_ ?_)
      | (with_reducible refine LeO.bind ?_ (fun _ => ?_))
      | exact api_Label.mono _ _ _
      | exact LeO.none _
      | refine LeO.ite ?_ ?_
      | refine LeO.bind ?_ (fun _ => ?_)
set_option maxHeartbeats 8000000 in
set_option maxRecDepth 100000 in
theorem label_Place.calls (k : Nat) (A0 : Option Addr) (c0 : Nat) (l0 : List Int) (a1 : Int) (r : Int) (w : World) (hr0 : Kd.C (Kd.int .u64) w A0 l0.length l0) (hc0 : l0.length ≤ c0) (h : label_Place.f k l0 a1 = some r) :
    Calls Tryd.prog 24 #[.slice A0 l0.length c0, .int .u64 a1] w fun e w' => e = .returned (.int .i64 r) ∧ Drawn0 w w' := by
  have HR0 := Aside0.mk hr0
  have HC0 := Aside0.mk hc0
  clear hr0 hc0
  have H : ((api_Label.f k l0 a1).bind fun t103 => (some t103)) = some r := h
  clear h
  replace H := Option.bind_eq_some_iff.mp H
  obtain ⟨t103, A30, H⟩ := H
  replace H : (some t103) = some r := H
  have A3 := Aside0.mk A30
  clear A30
  obtain rfl := Option.some.inj H
  go_enter Tryd.func24, Tryd.ntmps24
  go_wp2_with (first | ((with_reducible refine gate_callee (f := 33) rfl ?_); refine goesL_ (some 7) rfl rfl Tryd.func33 (by kernel_rfl) rfl #[.slice A0 l0.length c0, .int .u64 a1] rfl (by (try simp only [List.map_toArray, List.map_cons, List.map_nil]); first | done | rfl | (simp only [List.length_drop, List.length_take]; rfl)) ?_; (with_reducible refine (api_Label.calls k _ _ l0 a1 t103 _ ?side1 ?side2 A3.out).mono ?_); (case side1 => repeat (first | exact HR0.out | (with_reducible refine Kd.C_alloc ?_ _) | (with_reducible refine Kd.C_drewN ?_ _) | (with_reducible refine Kd.C_drew ?_))); (case side2 => exact HC0.out); rintro e w' ⟨rfl, ⟨nd, rfl⟩⟩; refine ⟨_, rfl, ?_⟩))
  go_ret
  exact ⟨by first | rfl | (simp; done) | (simp [*]; done), by repeat (first | exact Drawn0.refl _ | apply Drawn0.step)⟩
end Go.Proofs.YthlgilepfbehaaaDoor.PB
end

section
namespace Go.Proofs.YthlgilepfbehaaaDoor.PB
open Go.RowKit Go.Proofs.YthlgilepfbehaaaDoorW.PrintWords Go.Proofs.YthlgilepfbehaaaDoorW.PrintLast Go.Proofs.YthlgilepfbehaaaDoorW.PrintMore
attribute [local go_sem] max2_int min2_int max_two min_two max_three min_three max_four min_four   
set_option linter.unusedVariables false
set_option linter.unusedSimpArgs false
def bureaulaw01_alive.f (k : Nat)  : Option (Bool) := (label_Of.f k (([5, 0, 63, 5] : List Int))).bind fun bt116 => (if bt116.2 = 0 then ((label_Print.f k bt116.1).bind fun t118 => (if t118.toList = ([48, 46, 53, 46, 54, 51] : List UInt8) then ((label_Join.f 1 6).bind fun t119 => (if t119 = 7 then ((label_Below.f 2 6).bind fun t120 => (if t120 = true then ((label_Place.f k ([] : List Int) 0).bind fun t121 => (some (t121 == (-1)))) else (some false))) else (some false))) else (some false))) else (some false))
theorem bureaulaw01_alive.mono : ∀ k, LeO (bureaulaw01_alive.f k ) (bureaulaw01_alive.f (k + 1) ) := by
  intro  k
  unfold bureaulaw01_alive.f
  repeat' first
      | (with_reducible exact label_Of.mono _ _)
      | (with_reducible exact label_Place.mono _ _ _)
      | (with_reducible exact label_Print.mono _ _)
      | (with_reducible exact LeO.refl _)
      | (with_reducible exact LeO.none _)
      | (with_reducible refine LeO.ite ?_ ?_)
      | (with_reducible refine LeO.bind ?_ (fun _ => ?_))
      | exact label_Of.mono _ _
      | exact label_Place.mono _ _ _
      | exact label_Print.mono _ _
      | exact LeO.none _
      | refine LeO.ite ?_ ?_
      | refine LeO.bind ?_ (fun _ => ?_)
set_option maxHeartbeats 8000000 in
set_option maxRecDepth 100000 in
theorem bureaulaw01_alive.calls (k : Nat)  (r : Bool) (w : World) (h : bureaulaw01_alive.f k  = some r) :
    Calls Tryd.prog 10 #[] w fun e w' => e = .returned (.bool r) ∧ Below w.heap.size w w' := by
  have HB := Aside0.mk (Below.refl w.heap.size w)
  have H : ((label_Of.f k (([5, 0, 63, 5] : List Int))).bind fun bt116 => (if bt116.2 = 0 then ((label_Print.f k bt116.1).bind fun t118 => (if t118.toList = ([48, 46, 53, 46, 54, 51] : List UInt8) then ((label_Join.f 1 6).bind fun t119 => (if t119 = 7 then ((label_Below.f 2 6).bind fun t120 => (if t120 = true then ((label_Place.f k ([] : List Int) 0).bind fun t121 => (some (t121 == (-1)))) else (some false))) else (some false))) else (some false))) else (some false))) = some r := h
  clear h
  obtain ⟨y113, hy113⟩ : ∃ y_ : List Int, y_ = (([5, 0, 63, 5] : List Int)) := ⟨_, rfl⟩
  replace H : ((label_Of.f k y113).bind fun bt116 => (if bt116.2 = 0 then ((label_Print.f k bt116.1).bind fun t118 => (if t118.toList = ([48, 46, 53, 46, 54, 51] : List UInt8) then ((label_Join.f 1 6).bind fun t119 => (if t119 = 7 then ((label_Below.f 2 6).bind fun t120 => (if t120 = true then ((label_Place.f k ([] : List Int) 0).bind fun t121 => (some (t121 == (-1)))) else (some false))) else (some false))) else (some false))) else (some false))) = some r := by first | (rw [hy113]; with_reducible exact H) | (have H2_ := (Option.bind_some _ _).symm.trans H; rw [hy113]; with_reducible exact H2_) | (have H2_ := (Option.bind_some _ _).symm.trans H; with_reducible exact H2_) | with_reducible exact H | (rw [hy113]; exact H) | exact H
  have Ny113 := Aside0.mk hy113
  clear hy113
  replace H := Option.bind_eq_some_iff.mp H
  obtain ⟨⟨t116, t117⟩, A10, H⟩ := H
  replace H : (if t117 = 0 then ((label_Print.f k t116).bind fun t118 => (if t118.toList = ([48, 46, 53, 46, 54, 51] : List UInt8) then ((label_Join.f 1 6).bind fun t119 => (if t119 = 7 then ((label_Below.f 2 6).bind fun t120 => (if t120 = true then ((label_Place.f k ([] : List Int) 0).bind fun t121 => (some (t121 == (-1)))) else (some false))) else (some false))) else (some false))) else (some false)) = some r := H
  have A1 := Aside0.mk A10
  clear A10
  by_cases c2 : t117 = 0
  · rw [if_pos c2] at H
    have c2b0 : (t117 == 0) = true := beq_iff_eq.mpr c2
    have c2b1 : (t117 != 0) = false := bne_eq_false_iff_eq.mpr c2
    clear c2
    replace H := Option.bind_eq_some_iff.mp H
    obtain ⟨t118, A30, H⟩ := H
    replace H : (if t118.toList = ([48, 46, 53, 46, 54, 51] : List UInt8) then ((label_Join.f 1 6).bind fun t119 => (if t119 = 7 then ((label_Below.f 2 6).bind fun t120 => (if t120 = true then ((label_Place.f k ([] : List Int) 0).bind fun t121 => (some (t121 == (-1)))) else (some false))) else (some false))) else (some false)) = some r := H
    have A3 := Aside0.mk A30
    clear A30
    by_cases c4 : t118.toList = ([48, 46, 53, 46, 54, 51] : List UInt8)
    · rw [if_pos c4] at H
      have c4b0 : (t118.toList == ([48, 46, 53, 46, 54, 51] : List UInt8)) = true := beq_iff_eq.mpr c4
      have c4b1 : (t118.toList != ([48, 46, 53, 46, 54, 51] : List UInt8)) = false := bne_eq_false_iff_eq.mpr c4
      clear c4
      replace H := Option.bind_eq_some_iff.mp H
      obtain ⟨t119, A50, H⟩ := H
      replace H : (if t119 = 7 then ((label_Below.f 2 6).bind fun t120 => (if t120 = true then ((label_Place.f k ([] : List Int) 0).bind fun t121 => (some (t121 == (-1)))) else (some false))) else (some false)) = some r := H
      have A5 := Aside0.mk A50
      clear A50
      by_cases c6 : t119 = 7
      · rw [if_pos c6] at H
        have c6b0 : (t119 == 7) = true := beq_iff_eq.mpr c6
        have c6b1 : (t119 != 7) = false := bne_eq_false_iff_eq.mpr c6
        clear c6
        replace H := Option.bind_eq_some_iff.mp H
        obtain ⟨t120, A70, H⟩ := H
        replace H : (if t120 = true then ((label_Place.f k ([] : List Int) 0).bind fun t121 => (some (t121 == (-1)))) else (some false)) = some r := H
        have A7 := Aside0.mk A70
        clear A70
        by_cases c8 : t120 = true
        · subst c8
          have H1 : ((label_Place.f k ([] : List Int) 0).bind fun t121 => (some (t121 == (-1)))) = some r := by rw [if_pos rfl] at H; exact H
          clear H
          have H := H1
          clear H1
          replace H := Option.bind_eq_some_iff.mp H
          obtain ⟨t121, A90, H⟩ := H
          replace H : (some (t121 == (-1))) = some r := H
          have A9 := Aside0.mk A90
          clear A90
          obtain rfl := Option.some.inj H
          go_enter Tryd.func10, Tryd.ntmps10
          go_wp2_with (first | ((with_reducible refine gate_dst (N := 4) rfl ?_); refine Kd.R_lit (Kd.int .i64) _ 3 ?hg (N := 4) ?hd (xs := ([5, 0, 63, 5] : List Int)) (inner := [.int .i64 5, .int .i64 0, .int .i64 63, .int .i64 5]) (ok := fun _ => True) (okp := fun _ => True) ?hr ?hp (fun _ hk => hk) trivial (Below.refl _ _) (Nat.le_refl _) (by simp) ?_; (case hd => rfl); (case hg => rfl); (case hr => first | (go_simp; done) | (go_simp; rfl)); (case hp => exact (Reps.one (show Kd.M (Kd.int .i64) _ _ _ 5 [.int .i64 5] from rfl) (Reps.one (show Kd.M (Kd.int .i64) _ _ _ 0 [.int .i64 0] from rfl) (Reps.one (show Kd.M (Kd.int .i64) _ _ _ 63 [.int .i64 63] from rfl) (Reps.one (show Kd.M (Kd.int .i64) _ _ _ 5 [.int .i64 5] from rfl) (Reps.none _ _)))))); intro v114 w10 ho11 hb hg_ hnew_; clear hg_ hnew_; (first | rw [← Ny113.out] at ho11 | (simp only [Int.reduceToNat] at ho11; rw [← Ny113.out] at ho11)); have n0_ := Aside0.mk (Kd.R_lower ho11 (below_size (by repeat (first | (with_reducible first | exact HB.out | apply below_alloc | apply pw_below_drewN | apply below_drew1) | exact HB.out)))); have n1_ := Aside0.mk (below_step (by repeat (first | (with_reducible first | exact HB.out | apply below_alloc | apply pw_below_drewN | apply below_drew1) | exact HB.out)) hb); clear HB; have HO115 := n0_; have HB := n1_; clear n0_ n1_; clear hb ho11; obtain ⟨Ao12, co12, eo12⟩ := Kd.R_slice HO115.out; subst eo12) | ((with_reducible refine gate_callee (f := 11) rfl ?_); refine goesL_ (some 5) rfl rfl Tryd.func11 (by kernel_rfl) rfl #[.slice Ao12 y113.length co12] rfl (by (try simp only [List.map_toArray, List.map_cons, List.map_nil]); first | done | rfl | (simp only [List.length_drop, List.length_take]; rfl)) ?_; (with_reducible refine (label_Of.calls k _ _ y113 t116 t117 _ ?side1 ?side2 A1.out).mono ?_); (case side1 => repeat (first | exact (Kd.R_reads' HO115.out).2.2 | (with_reducible refine Kd.C_alloc ?_ _) | (with_reducible refine Kd.C_drewN ?_ _) | (with_reducible refine Kd.C_drew ?_))); (case side2 => exact (Kd.R_reads' HO115.out).2.1); rintro e w' ⟨rfl, ⟨nd, rfl⟩⟩; refine ⟨_, rfl, ?_⟩) | (go_at_call 28; (with_reducible refine (label_Print.calls k t116 t118 _ A3.out).mono ?_); rintro e w13 ⟨rfl, hb⟩; have n0_ := Aside0.mk (Kd.R_below (by (with_reducible repeat (first | apply Kd.R_alloc | apply Kd.R_drewN | apply Kd.R_drew)); exact HO115.out) hb); have n1_ := Aside0.mk (below_step (by repeat (first | (with_reducible first | exact HB.out | apply below_alloc | apply pw_below_drewN | apply below_drew1) | exact HB.out)) hb); clear HO115; clear HB; have HO115 := n0_; have HB := n1_; clear n0_ n1_; (try clear hb); (try clear hb2); (try clear hk); (try clear hi)) | (go_at_call 16; (with_reducible refine (label_Join.calls 1 6 t119 _ A5.out).mono ?_); rintro e w' ⟨rfl, ⟨nd, rfl⟩⟩) | (go_at_call 20; (with_reducible refine (label_Below.calls 2 6 true _ A7.out).mono ?_); rintro e w' ⟨rfl, ⟨nd, rfl⟩⟩) | (go_at_call 24; (refine (label_Place.calls k _ _ ([] : List Int) 0 t121 _ ?side1 ?side2 A9.out).mono ?_); (case side1 => exact Kd.C_nil _ _); (case side2 => exact Nat.le_refl _); rintro e w' ⟨rfl, ⟨nd, rfl⟩⟩))
          go_ret
          exact ⟨by first | rfl | (simp [errW_none, errW_some] <;> rfl) | (simp [*, errW_none, errW_some] <;> rfl), by repeat (first | (with_reducible first | exact HB.out | apply below_alloc | apply pw_below_drewN | apply below_drew1) | exact HB.out)⟩
        · replace c8 := Bool.eq_false_iff.mpr c8
          subst c8
          have H1 : (some false) = some r := by rw [if_neg (show ¬ (false = true) by decide)] at H; exact H
          clear H
          have H := H1
          clear H1
          obtain rfl := Option.some.inj H
          go_enter Tryd.func10, Tryd.ntmps10
          go_wp2_with (first | ((with_reducible refine gate_dst (N := 4) rfl ?_); refine Kd.R_lit (Kd.int .i64) _ 3 ?hg (N := 4) ?hd (xs := ([5, 0, 63, 5] : List Int)) (inner := [.int .i64 5, .int .i64 0, .int .i64 63, .int .i64 5]) (ok := fun _ => True) (okp := fun _ => True) ?hr ?hp (fun _ hk => hk) trivial (Below.refl _ _) (Nat.le_refl _) (by simp) ?_; (case hd => rfl); (case hg => rfl); (case hr => first | (go_simp; done) | (go_simp; rfl)); (case hp => exact (Reps.one (show Kd.M (Kd.int .i64) _ _ _ 5 [.int .i64 5] from rfl) (Reps.one (show Kd.M (Kd.int .i64) _ _ _ 0 [.int .i64 0] from rfl) (Reps.one (show Kd.M (Kd.int .i64) _ _ _ 63 [.int .i64 63] from rfl) (Reps.one (show Kd.M (Kd.int .i64) _ _ _ 5 [.int .i64 5] from rfl) (Reps.none _ _)))))); intro v114 w14 ho15 hb hg_ hnew_; clear hg_ hnew_; (first | rw [← Ny113.out] at ho15 | (simp only [Int.reduceToNat] at ho15; rw [← Ny113.out] at ho15)); have n0_ := Aside0.mk (Kd.R_lower ho15 (below_size (by repeat (first | (with_reducible first | exact HB.out | apply below_alloc | apply pw_below_drewN | apply below_drew1) | exact HB.out)))); have n1_ := Aside0.mk (below_step (by repeat (first | (with_reducible first | exact HB.out | apply below_alloc | apply pw_below_drewN | apply below_drew1) | exact HB.out)) hb); clear HB; have HO115 := n0_; have HB := n1_; clear n0_ n1_; clear hb ho15; obtain ⟨Ao16, co16, eo16⟩ := Kd.R_slice HO115.out; subst eo16) | ((with_reducible refine gate_callee (f := 11) rfl ?_); refine goesL_ (some 5) rfl rfl Tryd.func11 (by kernel_rfl) rfl #[.slice Ao16 y113.length co16] rfl (by (try simp only [List.map_toArray, List.map_cons, List.map_nil]); first | done | rfl | (simp only [List.length_drop, List.length_take]; rfl)) ?_; (with_reducible refine (label_Of.calls k _ _ y113 t116 t117 _ ?side1 ?side2 A1.out).mono ?_); (case side1 => repeat (first | exact (Kd.R_reads' HO115.out).2.2 | (with_reducible refine Kd.C_alloc ?_ _) | (with_reducible refine Kd.C_drewN ?_ _) | (with_reducible refine Kd.C_drew ?_))); (case side2 => exact (Kd.R_reads' HO115.out).2.1); rintro e w' ⟨rfl, ⟨nd, rfl⟩⟩; refine ⟨_, rfl, ?_⟩) | (go_at_call 28; (with_reducible refine (label_Print.calls k t116 t118 _ A3.out).mono ?_); rintro e w17 ⟨rfl, hb⟩; have n0_ := Aside0.mk (Kd.R_below (by (with_reducible repeat (first | apply Kd.R_alloc | apply Kd.R_drewN | apply Kd.R_drew)); exact HO115.out) hb); have n1_ := Aside0.mk (below_step (by repeat (first | (with_reducible first | exact HB.out | apply below_alloc | apply pw_below_drewN | apply below_drew1) | exact HB.out)) hb); clear HO115; clear HB; have HO115 := n0_; have HB := n1_; clear n0_ n1_; (try clear hb); (try clear hb2); (try clear hk); (try clear hi)) | (go_at_call 16; (with_reducible refine (label_Join.calls 1 6 t119 _ A5.out).mono ?_); rintro e w' ⟨rfl, ⟨nd, rfl⟩⟩) | (go_at_call 20; (with_reducible refine (label_Below.calls 2 6 false _ A7.out).mono ?_); rintro e w' ⟨rfl, ⟨nd, rfl⟩⟩))
          go_ret
          exact ⟨by first | rfl | (simp [errW_none, errW_some] <;> rfl) | (simp [*, errW_none, errW_some] <;> rfl), by repeat (first | (with_reducible first | exact HB.out | apply below_alloc | apply pw_below_drewN | apply below_drew1) | exact HB.out)⟩
      · rw [if_neg c6] at H
        have c6b0 : (t119 == 7) = false := beq_eq_false_iff_ne.mpr c6
        have c6b1 : (t119 != 7) = true := bne_iff_ne.mpr c6
        obtain rfl := Option.some.inj H
        go_enter Tryd.func10, Tryd.ntmps10
        go_wp2_with (first | ((with_reducible refine gate_dst (N := 4) rfl ?_); refine Kd.R_lit (Kd.int .i64) _ 3 ?hg (N := 4) ?hd (xs := ([5, 0, 63, 5] : List Int)) (inner := [.int .i64 5, .int .i64 0, .int .i64 63, .int .i64 5]) (ok := fun _ => True) (okp := fun _ => True) ?hr ?hp (fun _ hk => hk) trivial (Below.refl _ _) (Nat.le_refl _) (by simp) ?_; (case hd => rfl); (case hg => rfl); (case hr => first | (go_simp; done) | (go_simp; rfl)); (case hp => exact (Reps.one (show Kd.M (Kd.int .i64) _ _ _ 5 [.int .i64 5] from rfl) (Reps.one (show Kd.M (Kd.int .i64) _ _ _ 0 [.int .i64 0] from rfl) (Reps.one (show Kd.M (Kd.int .i64) _ _ _ 63 [.int .i64 63] from rfl) (Reps.one (show Kd.M (Kd.int .i64) _ _ _ 5 [.int .i64 5] from rfl) (Reps.none _ _)))))); intro v114 w18 ho19 hb hg_ hnew_; clear hg_ hnew_; (first | rw [← Ny113.out] at ho19 | (simp only [Int.reduceToNat] at ho19; rw [← Ny113.out] at ho19)); have n0_ := Aside0.mk (Kd.R_lower ho19 (below_size (by repeat (first | (with_reducible first | exact HB.out | apply below_alloc | apply pw_below_drewN | apply below_drew1) | exact HB.out)))); have n1_ := Aside0.mk (below_step (by repeat (first | (with_reducible first | exact HB.out | apply below_alloc | apply pw_below_drewN | apply below_drew1) | exact HB.out)) hb); clear HB; have HO115 := n0_; have HB := n1_; clear n0_ n1_; clear hb ho19; obtain ⟨Ao20, co20, eo20⟩ := Kd.R_slice HO115.out; subst eo20) | ((with_reducible refine gate_callee (f := 11) rfl ?_); refine goesL_ (some 5) rfl rfl Tryd.func11 (by kernel_rfl) rfl #[.slice Ao20 y113.length co20] rfl (by (try simp only [List.map_toArray, List.map_cons, List.map_nil]); first | done | rfl | (simp only [List.length_drop, List.length_take]; rfl)) ?_; (with_reducible refine (label_Of.calls k _ _ y113 t116 t117 _ ?side1 ?side2 A1.out).mono ?_); (case side1 => repeat (first | exact (Kd.R_reads' HO115.out).2.2 | (with_reducible refine Kd.C_alloc ?_ _) | (with_reducible refine Kd.C_drewN ?_ _) | (with_reducible refine Kd.C_drew ?_))); (case side2 => exact (Kd.R_reads' HO115.out).2.1); rintro e w' ⟨rfl, ⟨nd, rfl⟩⟩; refine ⟨_, rfl, ?_⟩) | (go_at_call 28; (with_reducible refine (label_Print.calls k t116 t118 _ A3.out).mono ?_); rintro e w21 ⟨rfl, hb⟩; have n0_ := Aside0.mk (Kd.R_below (by (with_reducible repeat (first | apply Kd.R_alloc | apply Kd.R_drewN | apply Kd.R_drew)); exact HO115.out) hb); have n1_ := Aside0.mk (below_step (by repeat (first | (with_reducible first | exact HB.out | apply below_alloc | apply pw_below_drewN | apply below_drew1) | exact HB.out)) hb); clear HO115; clear HB; have HO115 := n0_; have HB := n1_; clear n0_ n1_; (try clear hb); (try clear hb2); (try clear hk); (try clear hi)) | (go_at_call 16; (with_reducible refine (label_Join.calls 1 6 t119 _ A5.out).mono ?_); rintro e w' ⟨rfl, ⟨nd, rfl⟩⟩))
        go_ret
        exact ⟨by first | rfl | (simp [errW_none, errW_some] <;> rfl) | (simp [*, errW_none, errW_some] <;> rfl), by repeat (first | (with_reducible first | exact HB.out | apply below_alloc | apply pw_below_drewN | apply below_drew1) | exact HB.out)⟩
    · rw [if_neg c4] at H
      have c4b0 : (t118.toList == ([48, 46, 53, 46, 54, 51] : List UInt8)) = false := beq_eq_false_iff_ne.mpr c4
      have c4b1 : (t118.toList != ([48, 46, 53, 46, 54, 51] : List UInt8)) = true := bne_iff_ne.mpr c4
      obtain rfl := Option.some.inj H
      go_enter Tryd.func10, Tryd.ntmps10
      go_wp2_with (first | ((with_reducible refine gate_dst (N := 4) rfl ?_); refine Kd.R_lit (Kd.int .i64) _ 3 ?hg (N := 4) ?hd (xs := ([5, 0, 63, 5] : List Int)) (inner := [.int .i64 5, .int .i64 0, .int .i64 63, .int .i64 5]) (ok := fun _ => True) (okp := fun _ => True) ?hr ?hp (fun _ hk => hk) trivial (Below.refl _ _) (Nat.le_refl _) (by simp) ?_; (case hd => rfl); (case hg => rfl); (case hr => first | (go_simp; done) | (go_simp; rfl)); (case hp => exact (Reps.one (show Kd.M (Kd.int .i64) _ _ _ 5 [.int .i64 5] from rfl) (Reps.one (show Kd.M (Kd.int .i64) _ _ _ 0 [.int .i64 0] from rfl) (Reps.one (show Kd.M (Kd.int .i64) _ _ _ 63 [.int .i64 63] from rfl) (Reps.one (show Kd.M (Kd.int .i64) _ _ _ 5 [.int .i64 5] from rfl) (Reps.none _ _)))))); intro v114 w22 ho23 hb hg_ hnew_; clear hg_ hnew_; (first | rw [← Ny113.out] at ho23 | (simp only [Int.reduceToNat] at ho23; rw [← Ny113.out] at ho23)); have n0_ := Aside0.mk (Kd.R_lower ho23 (below_size (by repeat (first | (with_reducible first | exact HB.out | apply below_alloc | apply pw_below_drewN | apply below_drew1) | exact HB.out)))); have n1_ := Aside0.mk (below_step (by repeat (first | (with_reducible first | exact HB.out | apply below_alloc | apply pw_below_drewN | apply below_drew1) | exact HB.out)) hb); clear HB; have HO115 := n0_; have HB := n1_; clear n0_ n1_; clear hb ho23; obtain ⟨Ao24, co24, eo24⟩ := Kd.R_slice HO115.out; subst eo24) | ((with_reducible refine gate_callee (f := 11) rfl ?_); refine goesL_ (some 5) rfl rfl Tryd.func11 (by kernel_rfl) rfl #[.slice Ao24 y113.length co24] rfl (by (try simp only [List.map_toArray, List.map_cons, List.map_nil]); first | done | rfl | (simp only [List.length_drop, List.length_take]; rfl)) ?_; (with_reducible refine (label_Of.calls k _ _ y113 t116 t117 _ ?side1 ?side2 A1.out).mono ?_); (case side1 => repeat (first | exact (Kd.R_reads' HO115.out).2.2 | (with_reducible refine Kd.C_alloc ?_ _) | (with_reducible refine Kd.C_drewN ?_ _) | (with_reducible refine Kd.C_drew ?_))); (case side2 => exact (Kd.R_reads' HO115.out).2.1); rintro e w' ⟨rfl, ⟨nd, rfl⟩⟩; refine ⟨_, rfl, ?_⟩) | (go_at_call 28; (with_reducible refine (label_Print.calls k t116 t118 _ A3.out).mono ?_); rintro e w25 ⟨rfl, hb⟩; have n0_ := Aside0.mk (Kd.R_below (by (with_reducible repeat (first | apply Kd.R_alloc | apply Kd.R_drewN | apply Kd.R_drew)); exact HO115.out) hb); have n1_ := Aside0.mk (below_step (by repeat (first | (with_reducible first | exact HB.out | apply below_alloc | apply pw_below_drewN | apply below_drew1) | exact HB.out)) hb); clear HO115; clear HB; have HO115 := n0_; have HB := n1_; clear n0_ n1_; (try clear hb); (try clear hb2); (try clear hk); (try clear hi)))
      go_ret
      exact ⟨by first | rfl | (simp [errW_none, errW_some] <;> rfl) | (simp [*, errW_none, errW_some] <;> rfl), by repeat (first | (with_reducible first | exact HB.out | apply below_alloc | apply pw_below_drewN | apply below_drew1) | exact HB.out)⟩
  · rw [if_neg c2] at H
    have c2b0 : (t117 == 0) = false := beq_eq_false_iff_ne.mpr c2
    have c2b1 : (t117 != 0) = true := bne_iff_ne.mpr c2
    obtain rfl := Option.some.inj H
    go_enter Tryd.func10, Tryd.ntmps10
    go_wp2_with (first | ((with_reducible refine gate_dst (N := 4) rfl ?_); refine Kd.R_lit (Kd.int .i64) _ 3 ?hg (N := 4) ?hd (xs := ([5, 0, 63, 5] : List Int)) (inner := [.int .i64 5, .int .i64 0, .int .i64 63, .int .i64 5]) (ok := fun _ => True) (okp := fun _ => True) ?hr ?hp (fun _ hk => hk) trivial (Below.refl _ _) (Nat.le_refl _) (by simp) ?_; (case hd => rfl); (case hg => rfl); (case hr => first | (go_simp; done) | (go_simp; rfl)); (case hp => exact (Reps.one (show Kd.M (Kd.int .i64) _ _ _ 5 [.int .i64 5] from rfl) (Reps.one (show Kd.M (Kd.int .i64) _ _ _ 0 [.int .i64 0] from rfl) (Reps.one (show Kd.M (Kd.int .i64) _ _ _ 63 [.int .i64 63] from rfl) (Reps.one (show Kd.M (Kd.int .i64) _ _ _ 5 [.int .i64 5] from rfl) (Reps.none _ _)))))); intro v114 w26 ho27 hb hg_ hnew_; clear hg_ hnew_; (first | rw [← Ny113.out] at ho27 | (simp only [Int.reduceToNat] at ho27; rw [← Ny113.out] at ho27)); have n0_ := Aside0.mk (Kd.R_lower ho27 (below_size (by repeat (first | (with_reducible first | exact HB.out | apply below_alloc | apply pw_below_drewN | apply below_drew1) | exact HB.out)))); have n1_ := Aside0.mk (below_step (by repeat (first | (with_reducible first | exact HB.out | apply below_alloc | apply pw_below_drewN | apply below_drew1) | exact HB.out)) hb); clear HB; have HO115 := n0_; have HB := n1_; clear n0_ n1_; clear hb ho27; obtain ⟨Ao28, co28, eo28⟩ := Kd.R_slice HO115.out; subst eo28) | ((with_reducible refine gate_callee (f := 11) rfl ?_); refine goesL_ (some 5) rfl rfl Tryd.func11 (by kernel_rfl) rfl #[.slice Ao28 y113.length co28] rfl (by (try simp only [List.map_toArray, List.map_cons, List.map_nil]); first | done | rfl | (simp only [List.length_drop, List.length_take]; rfl)) ?_; (with_reducible refine (label_Of.calls k _ _ y113 t116 t117 _ ?side1 ?side2 A1.out).mono ?_); (case side1 => repeat (first | exact (Kd.R_reads' HO115.out).2.2 | (with_reducible refine Kd.C_alloc ?_ _) | (with_reducible refine Kd.C_drewN ?_ _) | (with_reducible refine Kd.C_drew ?_))); (case side2 => exact (Kd.R_reads' HO115.out).2.1); rintro e w' ⟨rfl, ⟨nd, rfl⟩⟩; refine ⟨_, rfl, ?_⟩))
    go_ret
    exact ⟨by first | rfl | (simp [errW_none, errW_some] <;> rfl) | (simp [*, errW_none, errW_some] <;> rfl), by repeat (first | (with_reducible first | exact HB.out | apply below_alloc | apply pw_below_drewN | apply below_drew1) | exact HB.out)⟩
end Go.Proofs.YthlgilepfbehaaaDoor.PB
end

section
namespace Go.Proofs.YthlgilepfbehaaaDoor.PB
open Go.RowKit Go.Proofs.YthlgilepfbehaaaDoorW.PrintWords Go.Proofs.YthlgilepfbehaaaDoorW.PrintLast Go.Proofs.YthlgilepfbehaaaDoorW.PrintMore
attribute [local go_sem] max2_int min2_int max_two min_two max_three min_three max_four min_four   
set_option linter.unusedVariables false
set_option linter.unusedSimpArgs false
mutual
def label_category.j0 : Nat → ByteArray → Bool → Option (Int × Bool)
  | 0, _, _ => none
  | k + 1, x0, x23 => if x23 = true then (some (0, false)) else (label_category.l0 k x0 0 (x0.size : Int) 0)
def label_category.l0 : Nat → ByteArray → Int → Int → Int → Option (Int × Bool)
  | 0, _, _, _, _ => none
  | k + 1, x0, x4, x25, x26 => if x26 < x25 then (if 0 ≤ x26 then (if x26 < (x0.size : Int) then (if (bt x0 x26) < 48 then (some (0, false)) else (if (bt x0 x26) > 57 then (some (0, false)) else (label_category.l0 k x0 (wrap64 ((wrap64 (x4 * 10)) + (((bt x0 x26) - 48) % 256))) x25 (wrap64 (x26 + 1))))) else (none)) else (none)) else (some (x4, decide (x4 < 64)))
end
def label_category.f (k : Nat) (a0 : ByteArray) : Option (Int × Bool) := if (a0.size : Int) < 1 then (label_category.j0 k a0 true) else (if (a0.size : Int) > 2 then (label_category.j0 k a0 true) else (if (a0.size : Int) = 2 then (if 0 < (a0.size : Int) then (label_category.j0 k a0 ((bt a0 0) == 48)) else (none)) else (label_category.j0 k a0 false)))
set_option maxHeartbeats 8000000 in
set_option maxRecDepth 100000 in
theorem label_category.calls (k : Nat) (a0 : ByteArray) (r1 : Int) (r2 : Bool) (w : World) (h : label_category.f k a0 = some (r1, r2)) :
    Calls Tryd.prog 35 #[.string a0] w fun e w' => e = .returned (.tuple #[.int .i64 r1, .bool r2]) ∧ Drawn0 w w' := by
  have H : (if (a0.size : Int) < 1 then (label_category.j0 k a0 true) else (if (a0.size : Int) > 2 then (label_category.j0 k a0 true) else (if (a0.size : Int) = 2 then (if 0 < (a0.size : Int) then (label_category.j0 k a0 ((bt a0 0) == 48)) else (none)) else (label_category.j0 k a0 false)))) = some (r1, r2) := h
  clear h
  have HC2 := Aside0.mk H
  clear H
  go_enter Tryd.func35, Tryd.ntmps35
  go_upto_region 1 with (fail)
  go_cut [23] (fun v23 wc => ∃ (kq : Nat) (x23_1 : Bool), v23 = .bool x23_1 ∧ Aside0 (label_category.j0 kq a0 x23_1 = some (r1, r2)) ∧ Aside0 (kq ≤ k) ∧ Drawn0 w wc)
  case first =>
    have H := HC2.out
    clear HC2
    by_cases c3 : (a0.size : Int) < 1
    · rw [if_pos c3] at H
      have c3b0 : decide ((a0.size : Int) < 1) = true := decide_eq_true c3
      have c3b1 : decide (a0.size < 1) = true := decide_eq_true (by omega)
      clear c3
      (first | rw [c3b0] | (simp only [i64_w, i32_w]; rw [c3b0]) | skip)
      have H' := Aside0.mk H
      clear H
      go_wp2
      go_meet
      case rel => exact ⟨_, (true), (by first | rfl | (simp; done) | (simp [*]; done)), H', ⟨by first | omega | exact Nat.le_refl _⟩, by repeat (first | exact Drawn0.refl _ | apply Drawn0.step)⟩
    · rw [if_neg c3] at H
      have c3b0 : decide ((a0.size : Int) < 1) = false := decide_eq_false c3
      have c3b1 : decide (a0.size < 1) = false := decide_eq_false (by omega)
      clear c3
      (first | rw [c3b0] | (simp only [i64_w, i32_w]; rw [c3b0]) | skip)
      by_cases c4 : (a0.size : Int) > 2
      · rw [if_pos c4] at H
        have c4b0 : decide (2 < (a0.size : Int)) = true := decide_eq_true c4
        have c4b1 : decide (2 < a0.size) = true := decide_eq_true (by omega)
        clear c4
        have H' := Aside0.mk H
        clear H
        go_wp2
        go_meet
        case rel => exact ⟨_, (true), (by first | rfl | (simp; done) | (simp [*]; done)), H', ⟨by first | omega | exact Nat.le_refl _⟩, by repeat (first | exact Drawn0.refl _ | apply Drawn0.step)⟩
      · rw [if_neg c4] at H
        have c4b0 : decide (2 < (a0.size : Int)) = false := decide_eq_false c4
        have c4b1 : decide (2 < a0.size) = false := decide_eq_false (by omega)
        clear c4
        by_cases c5 : (a0.size : Int) = 2
        · rw [if_pos c5] at H
          have c5b0 : ((a0.size : Int) == 2) = true := beq_iff_eq.mpr c5
          have c5b1 : ((a0.size : Int) != 2) = false := bne_eq_false_iff_eq.mpr c5
          clear c5
          by_cases c6 : 0 < (a0.size : Int)
          · rw [if_pos c6] at H
            have c6b0 : decide (0 < (a0.size : Int)) = true := decide_eq_true c6
            have c6b1 : decide (0 < a0.size) = true := decide_eq_true (by omega)
            clear c6
            have H' := Aside0.mk H
            clear H
            have p7 : 0 ≤ (0 : Int) := (by omega)
            have q7 : 0 < a0.size := (by have : (0 : Int) < (a0.size : Int) := of_decide_eq_true (by first | (with_reducible assumption) | assumption); omega)
            have hx7 : ∀ h : 0 < a0.size, ((a0[0]'h).toNat : Int) = bt a0 0 := bt_at a0 0
            clear p7
            have qi7 : (0 < (a0.size : Int)) = True := eq_true (of_decide_eq_true (by first | (with_reducible assumption) | assumption))
            replace q7 := eq_true q7
            go_wp2
            go_meet
            case rel => exact ⟨_, (((bt a0 0) == 48)), (by first | rfl | (simp; done) | (simp [*]; done)), H', ⟨by first | omega | exact Nat.le_refl _⟩, by repeat (first | exact Drawn0.refl _ | apply Drawn0.step)⟩
          · rw [if_neg c6] at H
            exact absurd H (by simp)
        · rw [if_neg c5] at H
          have c5b0 : ((a0.size : Int) == 2) = false := beq_eq_false_iff_ne.mpr c5
          have c5b1 : ((a0.size : Int) != 2) = true := bne_iff_ne.mpr c5
          have H' := Aside0.mk H
          clear H
          go_wp2
          go_meet
          case rel => exact ⟨_, (false), (by first | rfl | (simp; done) | (simp [*]; done)), H', ⟨by first | omega | exact Nat.le_refl _⟩, by repeat (first | exact Drawn0.refl _ | apply Drawn0.step)⟩
  case rest =>
    clear HC2
    try clear p2
    try clear c3
    try clear c3b0
    try clear c3b1
    try clear c4
    try clear c4b0
    try clear c4b1
    try clear c5
    try clear c5b0
    try clear c5b1
    try clear c6
    try clear c6b0
    try clear c6b1
    try clear p7
    try clear q7
    try clear hx7
    try clear qi7
    try clear p7
    try clear q7
    obtain ⟨kq, x23_1, rfl, HA, HJ1, ⟨mc1, rfl⟩⟩ := hcut
    cases kq with
    | zero => exact absurd HA.out (by simp [label_category.j0])
    | succ kj1 =>
      have H := HA.out
      clear HA
      simp only [label_category.j0] at H
      by_cases c8 : x23_1 = true
      · subst c8
        have H1 : (some (0, false)) = some (r1, r2) := by rw [if_pos rfl] at H; exact H
        clear H
        have H := H1
        clear H1
        simp only [Option.some.injEq, Prod.mk.injEq] at H
        obtain ⟨rfl, rfl⟩ := H
        go_wp2
        go_ret2
        exact ⟨by first | rfl | (simp; done) | (simp [*]; done), by repeat (first | exact Drawn0.refl _ | apply Drawn0.step)⟩
      · replace c8 := Bool.eq_false_iff.mpr c8
        subst c8
        have H1 : (label_category.l0 kj1 a0 0 (a0.size : Int) 0) = some (r1, r2) := by rw [if_neg (show ¬ (false = true) by decide)] at H; exact H
        clear H
        have H := H1
        clear H1
        have H' := Aside0.mk H
        clear H
        go_wp2
        go_loopg [4, 26] kj1 (fun kq v4 v26 w' => ∃ (x4_2 : Int) (x26_2 : Int), v4 = .int .i64 x4_2 ∧ v26 = .int .i64 x26_2 ∧ Aside0 (label_category.l0 kq a0 x4_2 (a0.size : Int) x26_2 = some (r1, r2)) ∧ Aside0 (kq ≤ kj1) ∧ Drawn0 w w')
        case atStart => exact ⟨(0), (0), (by first | rfl | (simp; done) | (simp [*]; done)), (by first | rfl | (simp; done) | (simp [*]; done)), H', ⟨Nat.le_refl _⟩, by repeat (first | exact Drawn0.refl _ | apply Drawn0.step)⟩
        case round =>
          clear H'
          try clear c1
          try clear p2
          try clear c3
          try clear c3b0
          try clear c3b1
          try clear c4
          try clear c4b0
          try clear c4b1
          try clear c5
          try clear c5b0
          try clear c5b1
          try clear c6
          try clear c6b0
          try clear c6b1
          try clear p7
          try clear q7
          try clear hx7
          try clear qi7
          try clear c8
          try clear p2
          try clear p7
          try clear q7
          obtain ⟨x4_2, x26_2, rfl, rfl, HA, HK2, ⟨m2, rfl⟩⟩ := hrel
          cases gk with
          | zero => exact absurd HA.out (by simp [label_category.l0])
          | succ k2 =>
            have H := HA.out
            clear HA
            simp only [label_category.l0] at H
            by_cases c9 : x26_2 < (a0.size : Int)
            · rw [if_pos c9] at H
              have c9b0 : decide (x26_2 < (a0.size : Int)) = true := decide_eq_true c9
              clear c9
              by_cases c10 : 0 ≤ x26_2
              · rw [if_pos c10] at H
                have c10b0 : decide (0 ≤ x26_2) = true := decide_eq_true c10
                clear c10
                by_cases c11 : x26_2 < (a0.size : Int)
                · rw [if_pos c11] at H
                  have c11b0 : decide (x26_2 < (a0.size : Int)) = true := decide_eq_true c11
                  clear c11
                  by_cases c13 : (bt a0 x26_2) < 48
                  · rw [if_pos c13] at H
                    have c13b0 : decide ((bt a0 x26_2) < 48) = true := decide_eq_true c13
                    clear c13
                    simp only [Option.some.injEq, Prod.mk.injEq] at H
                    obtain ⟨rfl, rfl⟩ := H
                    have p12 : 0 ≤ (x26_2 : Int) := of_decide_eq_true (by first | (with_reducible assumption) | assumption)
                    have q12 : x26_2 < (a0.size : Int) := of_decide_eq_true (by first | (with_reducible assumption) | assumption)
                    have hx12 := bt_at a0 x26_2
                    replace p12 := eq_true p12
                    replace q12 := eq_true q12
                    go_wp2
                    go_ret2
                    exact ⟨by first | rfl | (simp; done) | (simp [*]; done), by repeat (first | exact Drawn0.refl _ | apply Drawn0.step)⟩
                  · rw [if_neg c13] at H
                    have c13b0 : decide ((bt a0 x26_2) < 48) = false := decide_eq_false c13
                    clear c13
                    by_cases c15 : (bt a0 x26_2) > 57
                    · rw [if_pos c15] at H
                      have c15b0 : decide (57 < (bt a0 x26_2)) = true := decide_eq_true c15
                      clear c15
                      simp only [Option.some.injEq, Prod.mk.injEq] at H
                      obtain ⟨rfl, rfl⟩ := H
                      have p12 : 0 ≤ (x26_2 : Int) := of_decide_eq_true (by first | (with_reducible assumption) | assumption)
                      have q12 : x26_2 < (a0.size : Int) := of_decide_eq_true (by first | (with_reducible assumption) | assumption)
                      have hx12 := bt_at a0 x26_2
                      replace p12 := eq_true p12
                      replace q12 := eq_true q12
                      have p14 : 0 ≤ (x26_2 : Int) := of_decide_eq_true (by first | (with_reducible assumption) | assumption)
                      have q14 : x26_2 < (a0.size : Int) := of_decide_eq_true (by first | (with_reducible assumption) | assumption)
                      have hx14 := bt_at a0 x26_2
                      replace p14 := eq_true p14
                      replace q14 := eq_true q14
                      go_wp2
                      go_ret2
                      exact ⟨by first | rfl | (simp; done) | (simp [*]; done), by repeat (first | exact Drawn0.refl _ | apply Drawn0.step)⟩
                    · rw [if_neg c15] at H
                      have c15b0 : decide (57 < (bt a0 x26_2)) = false := decide_eq_false c15
                      clear c15
                      have H' := Aside0.mk H
                      clear H
                      have p12 : 0 ≤ (x26_2 : Int) := of_decide_eq_true (by first | (with_reducible assumption) | assumption)
                      have q12 : x26_2 < (a0.size : Int) := of_decide_eq_true (by first | (with_reducible assumption) | assumption)
                      have hx12 := bt_at a0 x26_2
                      replace p12 := eq_true p12
                      replace q12 := eq_true q12
                      have p14 : 0 ≤ (x26_2 : Int) := of_decide_eq_true (by first | (with_reducible assumption) | assumption)
                      have q14 : x26_2 < (a0.size : Int) := of_decide_eq_true (by first | (with_reducible assumption) | assumption)
                      have hx14 := bt_at a0 x26_2
                      replace p14 := eq_true p14
                      replace q14 := eq_true q14
                      have p16 : 0 ≤ (x26_2 : Int) := of_decide_eq_true (by first | (with_reducible assumption) | assumption)
                      have q16 : x26_2 < (a0.size : Int) := of_decide_eq_true (by first | (with_reducible assumption) | assumption)
                      have hx16 := bt_at a0 x26_2
                      replace p16 := eq_true p16
                      replace q16 := eq_true q16
                      go_wp2
                      go_roundg k2
                      case measure => have := HJ1.out; have := HK2.out; omega
                      case rel => exact ⟨(wrap64 ((wrap64 (x4_2 * 10)) + (((bt a0 x26_2) - 48) % 256))), (wrap64 (x26_2 + 1)), (by first | rfl | (simp; done) | (simp [*]; done)), (by first | rfl | (simp; done) | (simp [*]; done)), H', ⟨by have := HJ1.out; have := HK2.out; omega⟩, by repeat (first | exact Drawn0.refl _ | apply Drawn0.step)⟩
                · rw [if_neg c11] at H
                  exact absurd H (by simp)
              · rw [if_neg c10] at H
                exact absurd H (by simp)
            · rw [if_neg c9] at H
              have c9b0 : decide (x26_2 < (a0.size : Int)) = false := decide_eq_false c9
              clear c9
              simp only [Option.some.injEq, Prod.mk.injEq] at H
              obtain ⟨rfl, rfl⟩ := H
              go_wp2
              go_ret2
              exact ⟨by first | rfl | (simp; done) | (simp [*]; done), by repeat (first | exact Drawn0.refl _ | apply Drawn0.step)⟩
end Go.Proofs.YthlgilepfbehaaaDoor.PB
end

section
namespace Go.Proofs.YthlgilepfbehaaaDoor.PB
open Go.RowKit Go.Proofs.YthlgilepfbehaaaDoorW.PrintWords Go.Proofs.YthlgilepfbehaaaDoorW.PrintLast Go.Proofs.YthlgilepfbehaaaDoorW.PrintMore
attribute [local go_sem] max2_int min2_int max_two min_two max_three min_three max_four min_four   
set_option linter.unusedVariables false
set_option linter.unusedSimpArgs false
def label_Parse.l0 : Nat → Int → Int → List ByteArray → Int → Int → Option (Int × Int)
  | 0, _, _, _, _, _ => none
  | k + 1, x4, x5, x13, x14, x15 => if x15 < x14 then (if 0 ≤ x15 then (if x15 < (x13.length : Int) then ((label_category.f k (rdOf ByteArray.empty x13 x15)).bind fun bt188 => (if bt188.2 = true then (if bt188.1 ≤ x5 then (some (0, 5)) else (if 0 ≤ bt188.1 then (label_Parse.l0 k (Go.bits .or .u64 x4 (shl .u64 1 bt188.1)) bt188.1 x13 x14 (wrap64 (x15 + 1))) else (none))) else (some (0, 5)))) else (none)) else (none)) else (some (x4, 0))
def label_Parse.f (k : Nat) (a0 : ByteArray) : Option (Int × Int) := if a0.toList = ([45] : List UInt8) then (some (0, 0)) else ((strings_Split.f a0 (⟨#[46]⟩ : ByteArray)).bind fun t184 => (label_Parse.l0 k 0 (-1) t184 (t184.length : Int) 0))
set_option maxHeartbeats 8000000 in
set_option maxRecDepth 100000 in
theorem label_Parse.calls (k : Nat) (a0 : ByteArray) (r1 : Int) (r2 : Int) (w : World) (h : label_Parse.f k a0 = some (r1, r2)) :
    Calls Tryd.prog 26 #[.string a0] w fun e w' => e = .returned (.tuple #[.int .u64 r1, .int .i64 r2]) ∧ Below w.heap.size w w' := by
  have HB := Aside0.mk (Below.refl w.heap.size w)
  have H : (if a0.toList = ([45] : List UInt8) then (some (0, 0)) else ((strings_Split.f a0 (⟨#[46]⟩ : ByteArray)).bind fun t184 => (label_Parse.l0 k 0 (-1) t184 (t184.length : Int) 0))) = some (r1, r2) := h
  clear h
  by_cases c2 : a0.toList = ([45] : List UInt8)
  · rw [if_pos c2] at H
    have c2b0 : (a0.toList == ([45] : List UInt8)) = true := beq_iff_eq.mpr c2
    have c2b1 : (a0.toList != ([45] : List UInt8)) = false := bne_eq_false_iff_eq.mpr c2
    clear c2
    simp only [Option.some.injEq, Prod.mk.injEq] at H
    obtain ⟨rfl, rfl⟩ := H
    go_enter Tryd.func26, Tryd.ntmps26
    go_wp2
    go_ret2
    exact ⟨by first | rfl | (simp [errW_none, errW_some] <;> rfl) | (simp [*, errW_none, errW_some] <;> rfl), by repeat (first | (with_reducible first | exact HB.out | apply below_alloc | apply pw_below_drewN | apply below_drew1) | exact HB.out)⟩
  · rw [if_neg c2] at H
    have c2b0 : (a0.toList == ([45] : List UInt8)) = false := beq_eq_false_iff_ne.mpr c2
    have c2b1 : (a0.toList != ([45] : List UInt8)) = true := bne_iff_ne.mpr c2
    replace H := Option.bind_eq_some_iff.mp H
    obtain ⟨t184, A30, H⟩ := H
    replace H : (label_Parse.l0 k 0 (-1) t184 (t184.length : Int) 0) = some (r1, r2) := H
    have A3 := Aside0.mk A30
    clear A30
    have H' := Aside0.mk H
    clear H
    go_enter Tryd.func26, Tryd.ntmps26
    go_wp2_with (first | ((with_reducible refine gate_callee (f := 34) rfl ?_); refine goesL_ (some 13) rfl rfl Tryd.func34 (by kernel_rfl) rfl #[.string a0, .string (⟨#[46]⟩ : ByteArray)] rfl (by (try simp only [List.map_toArray, List.map_cons, List.map_nil]); first | done | rfl | (simp only [List.length_drop, List.length_take]; rfl)) ?_; (with_reducible refine (strings_Split.calls a0 (⟨#[46]⟩ : ByteArray) t184 _ A3.out).mono ?_); rintro e w4 ⟨v185, rfl, ho0, hb⟩; refine ⟨_, rfl, ?_⟩; have n0_ := Aside0.mk (Kd.R_lower ho0 (below_size (by repeat (first | (with_reducible first | exact HB.out | apply below_alloc | apply pw_below_drewN | apply below_drew1) | exact HB.out)))); have n1_ := Aside0.mk (below_step (by repeat (first | (with_reducible first | exact HB.out | apply below_alloc | apply pw_below_drewN | apply below_drew1) | exact HB.out)) hb); clear HB; have HO186 := n0_; have HB := n1_; clear n0_ n1_; (try clear hb); (try clear hb2); (try clear hk); (try clear hi); (try clear ho0); obtain ⟨Ao5, co5, eo5⟩ := Kd.R_slice HO186.out; subst eo5))
    go_loopg [4, 5, 15] k (fun kq v4 v5 v15 w' => ∃ (x4_1 : Int) (x5_1 : Int) (x15_1 : Int), v4 = .int .u64 x4_1 ∧ v5 = .int .i64 x5_1 ∧ v15 = .int .i64 x15_1 ∧ Aside0 (label_Parse.l0 kq x4_1 x5_1 t184 (t184.length : Int) x15_1 = some (r1, r2)) ∧ Aside0 (kq ≤ k) ∧ Aside0 (Kd.R Kd.string 9 w' w.heap.size (fun _ => True) (.slice Ao5 t184.length co5) t184) ∧ Aside0 (Below w.heap.size w w'))
    case atStart => exact ⟨(0), ((-1)), (0), (by first | rfl | (simp; done) | (simp [*]; done)), (by first | rfl | (simp; done) | (simp [*]; done)), (by first | rfl | (simp; done) | (simp [*]; done)), H', ⟨Nat.le_refl _⟩, ⟨by (with_reducible repeat (first | apply Kd.R_alloc | apply Kd.R_drewN | apply Kd.R_drew)); exact HO186.out⟩, ⟨by repeat (first | (with_reducible first | exact HB.out | apply below_alloc | apply pw_below_drewN | apply below_drew1) | exact HB.out)⟩⟩
    case round =>
      clear H'
      try clear c2
      try clear c2b0
      try clear c2b1
      try clear p2
      try clear c3
      obtain ⟨x4_1, x5_1, x15_1, rfl, rfl, rfl, HA, HK1, HO_13, HB⟩ := hrel
      cases gk with
      | zero => exact absurd HA.out (by simp [label_Parse.l0])
      | succ k1 =>
        have H := HA.out
        clear HA
        simp only [label_Parse.l0] at H
        by_cases c6 : x15_1 < (t184.length : Int)
        · rw [if_pos c6] at H
          have c6b0 : decide (x15_1 < (t184.length : Int)) = true := decide_eq_true c6
          clear c6
          by_cases c7 : 0 ≤ x15_1
          · rw [if_pos c7] at H
            have c7b0 : decide (0 ≤ x15_1) = true := decide_eq_true c7
            clear c7
            by_cases c8 : x15_1 < (t184.length : Int)
            · rw [if_pos c8] at H
              have c8b0 : decide (x15_1 < (t184.length : Int)) = true := decide_eq_true c8
              clear c8
              replace H := Option.bind_eq_some_iff.mp H
              obtain ⟨⟨t188, t189⟩, A90, H⟩ := H
              replace H : (if t189 = true then (if t188 ≤ x5_1 then (some (0, 5)) else (if 0 ≤ t188 then (label_Parse.l0 k1 (Go.bits .or .u64 x4_1 (shl .u64 1 t188)) t188 t184 (t184.length : Int) (wrap64 (x15_1 + 1))) else (none))) else (some (0, 5))) = some (r1, r2) := H
              have A9 := Aside0.mk A90
              clear A90
              by_cases c10 : t189 = true
              · subst c10
                have H1 : (if t188 ≤ x5_1 then (some (0, 5)) else (if 0 ≤ t188 then (label_Parse.l0 k1 (Go.bits .or .u64 x4_1 (shl .u64 1 t188)) t188 t184 (t184.length : Int) (wrap64 (x15_1 + 1))) else (none))) = some (r1, r2) := by rw [if_pos rfl] at H; exact H
                clear H
                have H := H1
                clear H1
                by_cases c11 : t188 ≤ x5_1
                · rw [if_pos c11] at H
                  have c11b0 : decide (t188 ≤ x5_1) = true := decide_eq_true c11
                  clear c11
                  simp only [Option.some.injEq, Prod.mk.injEq] at H
                  obtain ⟨rfl, rfl⟩ := H
                  have p187 : 0 ≤ (x15_1 : Int) := of_decide_eq_true (by first | (with_reducible assumption) | assumption)
                  have q187 : x15_1 < (t184.length : Int) := of_decide_eq_true (by first | (with_reducible assumption) | assumption)
                  obtain ⟨ad187, e187, hx187_0⟩ := Kd.at_string (Kd.R_reads' HO_13.out).2.2 x15_1 p187 q187
                  cases e187
                  replace p187 := eq_true p187
                  replace q187 := eq_true q187
                  go_wp2_with (first | ((with_reducible refine gate_callee (f := 35) rfl ?_); refine goesL_ (some 21) rfl rfl Tryd.func35 (by kernel_rfl) rfl #[.string (rdOf ByteArray.empty t184 x15_1)] rfl (by (try simp only [List.map_toArray, List.map_cons, List.map_nil]); first | done | rfl | (simp only [List.length_drop, List.length_take]; rfl)) ?_; (with_reducible refine (label_category.calls k1 (rdOf ByteArray.empty t184 x15_1) t188 true _ A9.out).mono ?_); rintro e w' ⟨rfl, ⟨nd, rfl⟩⟩; refine ⟨_, rfl, ?_⟩))
                  go_ret2
                  exact ⟨by first | rfl | (simp [errW_none, errW_some] <;> rfl) | (simp [*, errW_none, errW_some] <;> rfl), by repeat (first | (with_reducible first | exact HB.out | apply below_alloc | apply pw_below_drewN | apply below_drew1) | exact HB.out)⟩
                · rw [if_neg c11] at H
                  have c11b0 : decide (t188 ≤ x5_1) = false := decide_eq_false c11
                  clear c11
                  by_cases c12 : 0 ≤ t188
                  · rw [if_pos c12] at H
                    have c12b0 := eq_true c12
                    have c12b1 : decide (0 ≤ t188) = true := decide_eq_true c12
                    clear c12
                    obtain ⟨ji13, hji13⟩ : ∃ j_ : Int, (shl .u64 1 t188) = j_ := ⟨_, rfl⟩
                    replace H : (label_Parse.l0 k1 (Go.bits .or .u64 x4_1 (ji13)) t188 t184 (t184.length : Int) (wrap64 (x15_1 + 1))) = some (r1, r2) := by first | (rw [hji13] at H; exact H) | (simp only [hji13] at H ⊢; exact H)
                    (try rw [hji13] at A9)
                    have hji13_ : (IntKind.u64.wrap (1 * 2 ^ min t188.toNat 64)) = ji13 := hji13
                    have hji13z : t188 ≤ 64 → (IntKind.u64.wrap (1 * 2 ^ t188.toNat)) = ji13 := shl_small hji13
                    have hji13u : (IntKind.u64.wrap (2 ^ min t188.toNat 64)) = ji13 := by have h_ := hji13_; rw [Int.one_mul] at h_; exact h_
                    have hji13v : t188 ≤ 64 → (IntKind.u64.wrap (2 ^ t188.toNat)) = ji13 := fun hle_ => by have h_ := hji13z hle_; rw [Int.one_mul] at h_; exact h_
                    have H' := Aside0.mk H
                    clear H
                    have p187 : 0 ≤ (x15_1 : Int) := of_decide_eq_true (by first | (with_reducible assumption) | assumption)
                    have q187 : x15_1 < (t184.length : Int) := of_decide_eq_true (by first | (with_reducible assumption) | assumption)
                    obtain ⟨ad187, e187, hx187_0⟩ := Kd.at_string (Kd.R_reads' HO_13.out).2.2 x15_1 p187 q187
                    cases e187
                    replace p187 := eq_true p187
                    replace q187 := eq_true q187
                    go_wp2_with (first | ((with_reducible refine gate_callee (f := 35) rfl ?_); refine goesL_ (some 21) rfl rfl Tryd.func35 (by kernel_rfl) rfl #[.string (rdOf ByteArray.empty t184 x15_1)] rfl (by (try simp only [List.map_toArray, List.map_cons, List.map_nil]); first | done | rfl | (simp only [List.length_drop, List.length_take]; rfl)) ?_; (with_reducible refine (label_category.calls k1 (rdOf ByteArray.empty t184 x15_1) t188 true _ A9.out).mono ?_); rintro e w' ⟨rfl, ⟨nd, rfl⟩⟩; refine ⟨_, rfl, ?_⟩))
                    go_roundg k1
                    case measure => have := HK1.out; omega
                    case rel => exact ⟨(Go.bits .or .u64 x4_1 (ji13)), (t188), (wrap64 (x15_1 + 1)), (by first | rfl | (simp; done) | (simp only [← hji13] <;> (first | rfl | simp)) | (simp [*]; done)), (by first | rfl | (simp; done) | (simp [*]; done)), (by first | rfl | (simp; done) | (simp [*]; done)), H', ⟨by have := HK1.out; omega⟩, ⟨by (with_reducible repeat (first | apply Kd.R_alloc | apply Kd.R_drewN | apply Kd.R_drew)); exact HO_13.out⟩, ⟨by repeat (first | (with_reducible first | exact HB.out | apply below_alloc | apply pw_below_drewN | apply below_drew1) | exact HB.out)⟩⟩
                  · rw [if_neg c12] at H
                    exact absurd H (by simp)
              · replace c10 := Bool.eq_false_iff.mpr c10
                subst c10
                have H1 : (some (0, 5)) = some (r1, r2) := by rw [if_neg (show ¬ (false = true) by decide)] at H; exact H
                clear H
                have H := H1
                clear H1
                simp only [Option.some.injEq, Prod.mk.injEq] at H
                obtain ⟨rfl, rfl⟩ := H
                have p187 : 0 ≤ (x15_1 : Int) := of_decide_eq_true (by first | (with_reducible assumption) | assumption)
                have q187 : x15_1 < (t184.length : Int) := of_decide_eq_true (by first | (with_reducible assumption) | assumption)
                obtain ⟨ad187, e187, hx187_0⟩ := Kd.at_string (Kd.R_reads' HO_13.out).2.2 x15_1 p187 q187
                cases e187
                replace p187 := eq_true p187
                replace q187 := eq_true q187
                go_wp2_with (first | ((with_reducible refine gate_callee (f := 35) rfl ?_); refine goesL_ (some 21) rfl rfl Tryd.func35 (by kernel_rfl) rfl #[.string (rdOf ByteArray.empty t184 x15_1)] rfl (by (try simp only [List.map_toArray, List.map_cons, List.map_nil]); first | done | rfl | (simp only [List.length_drop, List.length_take]; rfl)) ?_; (with_reducible refine (label_category.calls k1 (rdOf ByteArray.empty t184 x15_1) t188 false _ A9.out).mono ?_); rintro e w' ⟨rfl, ⟨nd, rfl⟩⟩; refine ⟨_, rfl, ?_⟩))
                go_ret2
                exact ⟨by first | rfl | (simp [errW_none, errW_some] <;> rfl) | (simp [*, errW_none, errW_some] <;> rfl), by repeat (first | (with_reducible first | exact HB.out | apply below_alloc | apply pw_below_drewN | apply below_drew1) | exact HB.out)⟩
            · rw [if_neg c8] at H
              exact absurd H (by simp)
          · rw [if_neg c7] at H
            exact absurd H (by simp)
        · rw [if_neg c6] at H
          have c6b0 : decide (x15_1 < (t184.length : Int)) = false := decide_eq_false c6
          clear c6
          simp only [Option.some.injEq, Prod.mk.injEq] at H
          obtain ⟨rfl, rfl⟩ := H
          go_wp2
          go_ret2
          exact ⟨by first | rfl | (simp [errW_none, errW_some] <;> rfl) | (simp [*, errW_none, errW_some] <;> rfl), by repeat (first | (with_reducible first | exact HB.out | apply below_alloc | apply pw_below_drewN | apply below_drew1) | exact HB.out)⟩
end Go.Proofs.YthlgilepfbehaaaDoor.PB
end

section
namespace Go.Proofs.YthlgilepfbehaaaDoor.PB
open Go.RowKit Go.Proofs.YthlgilepfbehaaaDoorW.PrintWords Go.Proofs.YthlgilepfbehaaaDoorW.PrintLast Go.Proofs.YthlgilepfbehaaaDoorW.PrintMore
attribute [local go_sem] max2_int min2_int max_two min_two max_three min_three max_four min_four   
set_option linter.unusedVariables false
set_option linter.unusedSimpArgs false
def bureaulaw01_LabelBack.f (k : Nat) (a0 : Int) (a1 : Int) : Option (Bool) := (bureaulaw01_alive.f k).bind fun t210 => (if t210 = true then ((label_Print.f k a0).bind fun t211 => ((label_Parse.f k t211).bind fun bt212 => ((label_Cats.f a0).bind fun t214 => ((label_Of.f k t214).bind fun bt217 => (if bt212.2 = 0 then (if bt212.1 = a0 then (if bt217.2 = 0 then (if bt217.1 = a0 then ((label_Print.f k a0).bind fun t219 => ((label_Print.f k a1).bind fun t220 => (some ((t219.toList == t220.toList) == (a0 == a1))))) else (some false)) else (some false)) else (some false)) else (some false)))))) else (some false))
set_option maxHeartbeats 8000000 in
set_option maxRecDepth 100000 in
theorem bureaulaw01_LabelBack.calls (k : Nat) (a0 : Int) (a1 : Int) (r : Bool) (w : World) (h : bureaulaw01_LabelBack.f k a0 a1 = some r) :
    Calls Tryd.prog 9 #[.int .u64 a0, .int .u64 a1] w fun e w' => e = .returned (.bool r) ∧ Below w.heap.size w w' := by
  have HB := Aside0.mk (Below.refl w.heap.size w)
  have H : ((bureaulaw01_alive.f k).bind fun t210 => (if t210 = true then ((label_Print.f k a0).bind fun t211 => ((label_Parse.f k t211).bind fun bt212 => ((label_Cats.f a0).bind fun t214 => ((label_Of.f k t214).bind fun bt217 => (if bt212.2 = 0 then (if bt212.1 = a0 then (if bt217.2 = 0 then (if bt217.1 = a0 then ((label_Print.f k a0).bind fun t219 => ((label_Print.f k a1).bind fun t220 => (some ((t219.toList == t220.toList) == (a0 == a1))))) else (some false)) else (some false)) else (some false)) else (some false)))))) else (some false))) = some r := h
  clear h
  replace H := Option.bind_eq_some_iff.mp H
  obtain ⟨t210, A30, H⟩ := H
  replace H : (if t210 = true then ((label_Print.f k a0).bind fun t211 => ((label_Parse.f k t211).bind fun bt212 => ((label_Cats.f a0).bind fun t214 => ((label_Of.f k t214).bind fun bt217 => (if bt212.2 = 0 then (if bt212.1 = a0 then (if bt217.2 = 0 then (if bt217.1 = a0 then ((label_Print.f k a0).bind fun t219 => ((label_Print.f k a1).bind fun t220 => (some ((t219.toList == t220.toList) == (a0 == a1))))) else (some false)) else (some false)) else (some false)) else (some false)))))) else (some false)) = some r := H
  have A3 := Aside0.mk A30
  clear A30
  by_cases c4 : t210 = true
  · subst c4
    have H1 : ((label_Print.f k a0).bind fun t211 => ((label_Parse.f k t211).bind fun bt212 => ((label_Cats.f a0).bind fun t214 => ((label_Of.f k t214).bind fun bt217 => (if bt212.2 = 0 then (if bt212.1 = a0 then (if bt217.2 = 0 then (if bt217.1 = a0 then ((label_Print.f k a0).bind fun t219 => ((label_Print.f k a1).bind fun t220 => (some ((t219.toList == t220.toList) == (a0 == a1))))) else (some false)) else (some false)) else (some false)) else (some false)))))) = some r := by rw [if_pos rfl] at H; exact H
    clear H
    have H := H1
    clear H1
    replace H := Option.bind_eq_some_iff.mp H
    obtain ⟨t211, A50, H⟩ := H
    replace H : ((label_Parse.f k t211).bind fun bt212 => ((label_Cats.f a0).bind fun t214 => ((label_Of.f k t214).bind fun bt217 => (if bt212.2 = 0 then (if bt212.1 = a0 then (if bt217.2 = 0 then (if bt217.1 = a0 then ((label_Print.f k a0).bind fun t219 => ((label_Print.f k a1).bind fun t220 => (some ((t219.toList == t220.toList) == (a0 == a1))))) else (some false)) else (some false)) else (some false)) else (some false))))) = some r := H
    have A5 := Aside0.mk A50
    clear A50
    replace H := Option.bind_eq_some_iff.mp H
    obtain ⟨⟨t212, t213⟩, A60, H⟩ := H
    replace H : ((label_Cats.f a0).bind fun t214 => ((label_Of.f k t214).bind fun bt217 => (if t213 = 0 then (if t212 = a0 then (if bt217.2 = 0 then (if bt217.1 = a0 then ((label_Print.f k a0).bind fun t219 => ((label_Print.f k a1).bind fun t220 => (some ((t219.toList == t220.toList) == (a0 == a1))))) else (some false)) else (some false)) else (some false)) else (some false)))) = some r := H
    have A6 := Aside0.mk A60
    clear A60
    replace H := Option.bind_eq_some_iff.mp H
    obtain ⟨t214, A70, H⟩ := H
    replace H : ((label_Of.f k t214).bind fun bt217 => (if t213 = 0 then (if t212 = a0 then (if bt217.2 = 0 then (if bt217.1 = a0 then ((label_Print.f k a0).bind fun t219 => ((label_Print.f k a1).bind fun t220 => (some ((t219.toList == t220.toList) == (a0 == a1))))) else (some false)) else (some false)) else (some false)) else (some false))) = some r := H
    have A7 := Aside0.mk A70
    clear A70
    replace H := Option.bind_eq_some_iff.mp H
    obtain ⟨⟨t217, t218⟩, A80, H⟩ := H
    replace H : (if t213 = 0 then (if t212 = a0 then (if t218 = 0 then (if t217 = a0 then ((label_Print.f k a0).bind fun t219 => ((label_Print.f k a1).bind fun t220 => (some ((t219.toList == t220.toList) == (a0 == a1))))) else (some false)) else (some false)) else (some false)) else (some false)) = some r := H
    have A8 := Aside0.mk A80
    clear A80
    by_cases c9 : t213 = 0
    · rw [if_pos c9] at H
      have c9b0 : (t213 == 0) = true := beq_iff_eq.mpr c9
      have c9b1 : (t213 != 0) = false := bne_eq_false_iff_eq.mpr c9
      clear c9
      by_cases c10 : t212 = a0
      · rw [if_pos c10] at H
        have c10b0 : (t212 == a0) = true := beq_iff_eq.mpr c10
        have c10b1 : (t212 != a0) = false := bne_eq_false_iff_eq.mpr c10
        clear c10
        by_cases c11 : t218 = 0
        · rw [if_pos c11] at H
          have c11b0 : (t218 == 0) = true := beq_iff_eq.mpr c11
          have c11b1 : (t218 != 0) = false := bne_eq_false_iff_eq.mpr c11
          clear c11
          by_cases c12 : t217 = a0
          · rw [if_pos c12] at H
            have c12b0 : (t217 == a0) = true := beq_iff_eq.mpr c12
            have c12b1 : (t217 != a0) = false := bne_eq_false_iff_eq.mpr c12
            clear c12
            replace H := Option.bind_eq_some_iff.mp H
            obtain ⟨t219, A130, H⟩ := H
            replace H : ((label_Print.f k a1).bind fun t220 => (some ((t219.toList == t220.toList) == (a0 == a1)))) = some r := H
            have A13 := Aside0.mk A130
            clear A130
            replace H := Option.bind_eq_some_iff.mp H
            obtain ⟨t220, A140, H⟩ := H
            replace H : (some ((t219.toList == t220.toList) == (a0 == a1))) = some r := H
            have A14 := Aside0.mk A140
            clear A140
            obtain rfl := Option.some.inj H
            go_enter Tryd.func9, Tryd.ntmps9
            go_wp2_with (first | ((with_reducible refine gate_callee (f := 10) rfl ?_); refine goesL_ (some 9) rfl rfl Tryd.func10 (by kernel_rfl) rfl #[] rfl (by (try simp only [List.map_toArray, List.map_cons, List.map_nil]); first | done | rfl | (simp only [List.length_drop, List.length_take]; rfl)) ?_; (with_reducible refine (bureaulaw01_alive.calls k  true _ A3.out).mono ?_); rintro e w15 ⟨rfl, hb⟩; refine ⟨_, rfl, ?_⟩; have n0_ := Aside0.mk (below_step (by repeat (first | (with_reducible first | exact HB.out | apply below_alloc | apply pw_below_drewN | apply below_drew1) | exact HB.out)) hb); clear HB; have HB := n0_; clear n0_; (try clear hb); (try clear hb2); (try clear hk); (try clear hi)) | ((with_reducible refine gate_callee (f := 28) rfl ?_); refine goesL_ (some 13) rfl rfl Tryd.func28 (by kernel_rfl) rfl #[.int .u64 a0] rfl (by (try simp only [List.map_toArray, List.map_cons, List.map_nil]); first | done | rfl | (simp only [List.length_drop, List.length_take]; rfl)) ?_; (with_reducible refine (label_Print.calls k a0 t211 _ A5.out).mono ?_); rintro e w16 ⟨rfl, hb⟩; refine ⟨_, rfl, ?_⟩; have n0_ := Aside0.mk (below_step (by repeat (first | (with_reducible first | exact HB.out | apply below_alloc | apply pw_below_drewN | apply below_drew1) | exact HB.out)) hb); clear HB; have HB := n0_; clear n0_; (try clear hb); (try clear hb2); (try clear hk); (try clear hi)) | ((with_reducible refine gate_callee (f := 26) rfl ?_); refine goesL_ (some 14) rfl rfl Tryd.func26 (by kernel_rfl) rfl #[.string t211] rfl (by (try simp only [List.map_toArray, List.map_cons, List.map_nil]); first | done | rfl | (simp only [List.length_drop, List.length_take]; rfl)) ?_; (with_reducible refine (label_Parse.calls k t211 t212 t213 _ A6.out).mono ?_); rintro e w17 ⟨rfl, hb⟩; refine ⟨_, rfl, ?_⟩; have n0_ := Aside0.mk (below_step (by repeat (first | (with_reducible first | exact HB.out | apply below_alloc | apply pw_below_drewN | apply below_drew1) | exact HB.out)) hb); clear HB; have HB := n0_; clear n0_; (try clear hb); (try clear hb2); (try clear hk); (try clear hi)) | ((with_reducible refine gate_callee (f := 14) rfl ?_); refine goesL_ (some 19) rfl rfl Tryd.func14 (by kernel_rfl) rfl #[.int .u64 a0] rfl (by (try simp only [List.map_toArray, List.map_cons, List.map_nil]); first | done | rfl | (simp only [List.length_drop, List.length_take]; rfl)) ?_; (with_reducible refine (label_Cats.calls a0 t214 _ A7.out).mono ?_); rintro e w18 ⟨v215, rfl, ho0, hb⟩; refine ⟨_, rfl, ?_⟩; have n0_ := Aside0.mk (Kd.R_lower ho0 (below_size (by repeat (first | (with_reducible first | exact HB.out | apply below_alloc | apply pw_below_drewN | apply below_drew1) | exact HB.out)))); have n1_ := Aside0.mk (below_step (by repeat (first | (with_reducible first | exact HB.out | apply below_alloc | apply pw_below_drewN | apply below_drew1) | exact HB.out)) hb); clear HB; have HO216 := n0_; have HB := n1_; clear n0_ n1_; (try clear hb); (try clear hb2); (try clear hk); (try clear hi); (try clear ho0); obtain ⟨Ao19, co19, eo19⟩ := Kd.R_slice HO216.out; subst eo19) | ((with_reducible refine gate_callee (f := 11) rfl ?_); refine goesL_ (some 20) rfl rfl Tryd.func11 (by kernel_rfl) rfl #[.slice Ao19 t214.length co19] rfl (by (try simp only [List.map_toArray, List.map_cons, List.map_nil]); first | done | rfl | (simp only [List.length_drop, List.length_take]; rfl)) ?_; (with_reducible refine (label_Of.calls k _ _ t214 t217 t218 _ ?side1 ?side2 A8.out).mono ?_); (case side1 => repeat (first | exact (Kd.R_reads' HO216.out).2.2 | (with_reducible refine Kd.C_alloc ?_ _) | (with_reducible refine Kd.C_drewN ?_ _) | (with_reducible refine Kd.C_drew ?_))); (case side2 => exact (Kd.R_reads' HO216.out).2.1); rintro e w' ⟨rfl, ⟨nd, rfl⟩⟩; refine ⟨_, rfl, ?_⟩) | (go_at_call 28; (with_reducible refine (label_Print.calls k a0 t219 _ A13.out).mono ?_); rintro e w20 ⟨rfl, hb⟩; have n0_ := Aside0.mk (Kd.R_below (by (with_reducible repeat (first | apply Kd.R_alloc | apply Kd.R_drewN | apply Kd.R_drew)); exact HO216.out) hb); have n1_ := Aside0.mk (below_step (by repeat (first | (with_reducible first | exact HB.out | apply below_alloc | apply pw_below_drewN | apply below_drew1) | exact HB.out)) hb); clear HO216; clear HB; have HO216 := n0_; have HB := n1_; clear n0_ n1_; (try clear hb); (try clear hb2); (try clear hk); (try clear hi)) | (go_at_call 28; (with_reducible refine (label_Print.calls k a1 t220 _ A14.out).mono ?_); rintro e w21 ⟨rfl, hb⟩; have n0_ := Aside0.mk (Kd.R_below (by (with_reducible repeat (first | apply Kd.R_alloc | apply Kd.R_drewN | apply Kd.R_drew)); exact HO216.out) hb); have n1_ := Aside0.mk (below_step (by repeat (first | (with_reducible first | exact HB.out | apply below_alloc | apply pw_below_drewN | apply below_drew1) | exact HB.out)) hb); clear HO216; clear HB; have HO216 := n0_; have HB := n1_; clear n0_ n1_; (try clear hb); (try clear hb2); (try clear hk); (try clear hi)))
            go_ret
            exact ⟨by first | rfl | (simp [errW_none, errW_some] <;> rfl) | (simp [*, errW_none, errW_some] <;> rfl), by repeat (first | (with_reducible first | exact HB.out | apply below_alloc | apply pw_below_drewN | apply below_drew1) | exact HB.out)⟩
          · rw [if_neg c12] at H
            have c12b0 : (t217 == a0) = false := beq_eq_false_iff_ne.mpr c12
            have c12b1 : (t217 != a0) = true := bne_iff_ne.mpr c12
            obtain rfl := Option.some.inj H
            go_enter Tryd.func9, Tryd.ntmps9
            go_wp2_with (first | ((with_reducible refine gate_callee (f := 10) rfl ?_); refine goesL_ (some 9) rfl rfl Tryd.func10 (by kernel_rfl) rfl #[] rfl (by (try simp only [List.map_toArray, List.map_cons, List.map_nil]); first | done | rfl | (simp only [List.length_drop, List.length_take]; rfl)) ?_; (with_reducible refine (bureaulaw01_alive.calls k  true _ A3.out).mono ?_); rintro e w22 ⟨rfl, hb⟩; refine ⟨_, rfl, ?_⟩; have n0_ := Aside0.mk (below_step (by repeat (first | (with_reducible first | exact HB.out | apply below_alloc | apply pw_below_drewN | apply below_drew1) | exact HB.out)) hb); clear HB; have HB := n0_; clear n0_; (try clear hb); (try clear hb2); (try clear hk); (try clear hi)) | ((with_reducible refine gate_callee (f := 28) rfl ?_); refine goesL_ (some 13) rfl rfl Tryd.func28 (by kernel_rfl) rfl #[.int .u64 a0] rfl (by (try simp only [List.map_toArray, List.map_cons, List.map_nil]); first | done | rfl | (simp only [List.length_drop, List.length_take]; rfl)) ?_; (with_reducible refine (label_Print.calls k a0 t211 _ A5.out).mono ?_); rintro e w23 ⟨rfl, hb⟩; refine ⟨_, rfl, ?_⟩; have n0_ := Aside0.mk (below_step (by repeat (first | (with_reducible first | exact HB.out | apply below_alloc | apply pw_below_drewN | apply below_drew1) | exact HB.out)) hb); clear HB; have HB := n0_; clear n0_; (try clear hb); (try clear hb2); (try clear hk); (try clear hi)) | ((with_reducible refine gate_callee (f := 26) rfl ?_); refine goesL_ (some 14) rfl rfl Tryd.func26 (by kernel_rfl) rfl #[.string t211] rfl (by (try simp only [List.map_toArray, List.map_cons, List.map_nil]); first | done | rfl | (simp only [List.length_drop, List.length_take]; rfl)) ?_; (with_reducible refine (label_Parse.calls k t211 t212 t213 _ A6.out).mono ?_); rintro e w24 ⟨rfl, hb⟩; refine ⟨_, rfl, ?_⟩; have n0_ := Aside0.mk (below_step (by repeat (first | (with_reducible first | exact HB.out | apply below_alloc | apply pw_below_drewN | apply below_drew1) | exact HB.out)) hb); clear HB; have HB := n0_; clear n0_; (try clear hb); (try clear hb2); (try clear hk); (try clear hi)) | ((with_reducible refine gate_callee (f := 14) rfl ?_); refine goesL_ (some 19) rfl rfl Tryd.func14 (by kernel_rfl) rfl #[.int .u64 a0] rfl (by (try simp only [List.map_toArray, List.map_cons, List.map_nil]); first | done | rfl | (simp only [List.length_drop, List.length_take]; rfl)) ?_; (with_reducible refine (label_Cats.calls a0 t214 _ A7.out).mono ?_); rintro e w25 ⟨v215, rfl, ho0, hb⟩; refine ⟨_, rfl, ?_⟩; have n0_ := Aside0.mk (Kd.R_lower ho0 (below_size (by repeat (first | (with_reducible first | exact HB.out | apply below_alloc | apply pw_below_drewN | apply below_drew1) | exact HB.out)))); have n1_ := Aside0.mk (below_step (by repeat (first | (with_reducible first | exact HB.out | apply below_alloc | apply pw_below_drewN | apply below_drew1) | exact HB.out)) hb); clear HB; have HO216 := n0_; have HB := n1_; clear n0_ n1_; (try clear hb); (try clear hb2); (try clear hk); (try clear hi); (try clear ho0); obtain ⟨Ao26, co26, eo26⟩ := Kd.R_slice HO216.out; subst eo26) | ((with_reducible refine gate_callee (f := 11) rfl ?_); refine goesL_ (some 20) rfl rfl Tryd.func11 (by kernel_rfl) rfl #[.slice Ao26 t214.length co26] rfl (by (try simp only [List.map_toArray, List.map_cons, List.map_nil]); first | done | rfl | (simp only [List.length_drop, List.length_take]; rfl)) ?_; (with_reducible refine (label_Of.calls k _ _ t214 t217 t218 _ ?side1 ?side2 A8.out).mono ?_); (case side1 => repeat (first | exact (Kd.R_reads' HO216.out).2.2 | (with_reducible refine Kd.C_alloc ?_ _) | (with_reducible refine Kd.C_drewN ?_ _) | (with_reducible refine Kd.C_drew ?_))); (case side2 => exact (Kd.R_reads' HO216.out).2.1); rintro e w' ⟨rfl, ⟨nd, rfl⟩⟩; refine ⟨_, rfl, ?_⟩))
            go_ret
            exact ⟨by first | rfl | (simp [errW_none, errW_some] <;> rfl) | (simp [*, errW_none, errW_some] <;> rfl), by repeat (first | (with_reducible first | exact HB.out | apply below_alloc | apply pw_below_drewN | apply below_drew1) | exact HB.out)⟩
        · rw [if_neg c11] at H
          have c11b0 : (t218 == 0) = false := beq_eq_false_iff_ne.mpr c11
          have c11b1 : (t218 != 0) = true := bne_iff_ne.mpr c11
          obtain rfl := Option.some.inj H
          go_enter Tryd.func9, Tryd.ntmps9
          go_wp2_with (first | ((with_reducible refine gate_callee (f := 10) rfl ?_); refine goesL_ (some 9) rfl rfl Tryd.func10 (by kernel_rfl) rfl #[] rfl (by (try simp only [List.map_toArray, List.map_cons, List.map_nil]); first | done | rfl | (simp only [List.length_drop, List.length_take]; rfl)) ?_; (with_reducible refine (bureaulaw01_alive.calls k  true _ A3.out).mono ?_); rintro e w27 ⟨rfl, hb⟩; refine ⟨_, rfl, ?_⟩; have n0_ := Aside0.mk (below_step (by repeat (first | (with_reducible first | exact HB.out | apply below_alloc | apply pw_below_drewN | apply below_drew1) | exact HB.out)) hb); clear HB; have HB := n0_; clear n0_; (try clear hb); (try clear hb2); (try clear hk); (try clear hi)) | ((with_reducible refine gate_callee (f := 28) rfl ?_); refine goesL_ (some 13) rfl rfl Tryd.func28 (by kernel_rfl) rfl #[.int .u64 a0] rfl (by (try simp only [List.map_toArray, List.map_cons, List.map_nil]); first | done | rfl | (simp only [List.length_drop, List.length_take]; rfl)) ?_; (with_reducible refine (label_Print.calls k a0 t211 _ A5.out).mono ?_); rintro e w28 ⟨rfl, hb⟩; refine ⟨_, rfl, ?_⟩; have n0_ := Aside0.mk (below_step (by repeat (first | (with_reducible first | exact HB.out | apply below_alloc | apply pw_below_drewN | apply below_drew1) | exact HB.out)) hb); clear HB; have HB := n0_; clear n0_; (try clear hb); (try clear hb2); (try clear hk); (try clear hi)) | ((with_reducible refine gate_callee (f := 26) rfl ?_); refine goesL_ (some 14) rfl rfl Tryd.func26 (by kernel_rfl) rfl #[.string t211] rfl (by (try simp only [List.map_toArray, List.map_cons, List.map_nil]); first | done | rfl | (simp only [List.length_drop, List.length_take]; rfl)) ?_; (with_reducible refine (label_Parse.calls k t211 t212 t213 _ A6.out).mono ?_); rintro e w29 ⟨rfl, hb⟩; refine ⟨_, rfl, ?_⟩; have n0_ := Aside0.mk (below_step (by repeat (first | (with_reducible first | exact HB.out | apply below_alloc | apply pw_below_drewN | apply below_drew1) | exact HB.out)) hb); clear HB; have HB := n0_; clear n0_; (try clear hb); (try clear hb2); (try clear hk); (try clear hi)) | ((with_reducible refine gate_callee (f := 14) rfl ?_); refine goesL_ (some 19) rfl rfl Tryd.func14 (by kernel_rfl) rfl #[.int .u64 a0] rfl (by (try simp only [List.map_toArray, List.map_cons, List.map_nil]); first | done | rfl | (simp only [List.length_drop, List.length_take]; rfl)) ?_; (with_reducible refine (label_Cats.calls a0 t214 _ A7.out).mono ?_); rintro e w30 ⟨v215, rfl, ho0, hb⟩; refine ⟨_, rfl, ?_⟩; have n0_ := Aside0.mk (Kd.R_lower ho0 (below_size (by repeat (first | (with_reducible first | exact HB.out | apply below_alloc | apply pw_below_drewN | apply below_drew1) | exact HB.out)))); have n1_ := Aside0.mk (below_step (by repeat (first | (with_reducible first | exact HB.out | apply below_alloc | apply pw_below_drewN | apply below_drew1) | exact HB.out)) hb); clear HB; have HO216 := n0_; have HB := n1_; clear n0_ n1_; (try clear hb); (try clear hb2); (try clear hk); (try clear hi); (try clear ho0); obtain ⟨Ao31, co31, eo31⟩ := Kd.R_slice HO216.out; subst eo31) | ((with_reducible refine gate_callee (f := 11) rfl ?_); refine goesL_ (some 20) rfl rfl Tryd.func11 (by kernel_rfl) rfl #[.slice Ao31 t214.length co31] rfl (by (try simp only [List.map_toArray, List.map_cons, List.map_nil]); first | done | rfl | (simp only [List.length_drop, List.length_take]; rfl)) ?_; (with_reducible refine (label_Of.calls k _ _ t214 t217 t218 _ ?side1 ?side2 A8.out).mono ?_); (case side1 => repeat (first | exact (Kd.R_reads' HO216.out).2.2 | (with_reducible refine Kd.C_alloc ?_ _) | (with_reducible refine Kd.C_drewN ?_ _) | (with_reducible refine Kd.C_drew ?_))); (case side2 => exact (Kd.R_reads' HO216.out).2.1); rintro e w' ⟨rfl, ⟨nd, rfl⟩⟩; refine ⟨_, rfl, ?_⟩))
          go_ret
          exact ⟨by first | rfl | (simp [errW_none, errW_some] <;> rfl) | (simp [*, errW_none, errW_some] <;> rfl), by repeat (first | (with_reducible first | exact HB.out | apply below_alloc | apply pw_below_drewN | apply below_drew1) | exact HB.out)⟩
      · rw [if_neg c10] at H
        have c10b0 : (t212 == a0) = false := beq_eq_false_iff_ne.mpr c10
        have c10b1 : (t212 != a0) = true := bne_iff_ne.mpr c10
        obtain rfl := Option.some.inj H
        go_enter Tryd.func9, Tryd.ntmps9
        go_wp2_with (first | ((with_reducible refine gate_callee (f := 10) rfl ?_); refine goesL_ (some 9) rfl rfl Tryd.func10 (by kernel_rfl) rfl #[] rfl (by (try simp only [List.map_toArray, List.map_cons, List.map_nil]); first | done | rfl | (simp only [List.length_drop, List.length_take]; rfl)) ?_; (with_reducible refine (bureaulaw01_alive.calls k  true _ A3.out).mono ?_); rintro e w32 ⟨rfl, hb⟩; refine ⟨_, rfl, ?_⟩; have n0_ := Aside0.mk (below_step (by repeat (first | (with_reducible first | exact HB.out | apply below_alloc | apply pw_below_drewN | apply below_drew1) | exact HB.out)) hb); clear HB; have HB := n0_; clear n0_; (try clear hb); (try clear hb2); (try clear hk); (try clear hi)) | ((with_reducible refine gate_callee (f := 28) rfl ?_); refine goesL_ (some 13) rfl rfl Tryd.func28 (by kernel_rfl) rfl #[.int .u64 a0] rfl (by (try simp only [List.map_toArray, List.map_cons, List.map_nil]); first | done | rfl | (simp only [List.length_drop, List.length_take]; rfl)) ?_; (with_reducible refine (label_Print.calls k a0 t211 _ A5.out).mono ?_); rintro e w33 ⟨rfl, hb⟩; refine ⟨_, rfl, ?_⟩; have n0_ := Aside0.mk (below_step (by repeat (first | (with_reducible first | exact HB.out | apply below_alloc | apply pw_below_drewN | apply below_drew1) | exact HB.out)) hb); clear HB; have HB := n0_; clear n0_; (try clear hb); (try clear hb2); (try clear hk); (try clear hi)) | ((with_reducible refine gate_callee (f := 26) rfl ?_); refine goesL_ (some 14) rfl rfl Tryd.func26 (by kernel_rfl) rfl #[.string t211] rfl (by (try simp only [List.map_toArray, List.map_cons, List.map_nil]); first | done | rfl | (simp only [List.length_drop, List.length_take]; rfl)) ?_; (with_reducible refine (label_Parse.calls k t211 t212 t213 _ A6.out).mono ?_); rintro e w34 ⟨rfl, hb⟩; refine ⟨_, rfl, ?_⟩; have n0_ := Aside0.mk (below_step (by repeat (first | (with_reducible first | exact HB.out | apply below_alloc | apply pw_below_drewN | apply below_drew1) | exact HB.out)) hb); clear HB; have HB := n0_; clear n0_; (try clear hb); (try clear hb2); (try clear hk); (try clear hi)) | ((with_reducible refine gate_callee (f := 14) rfl ?_); refine goesL_ (some 19) rfl rfl Tryd.func14 (by kernel_rfl) rfl #[.int .u64 a0] rfl (by (try simp only [List.map_toArray, List.map_cons, List.map_nil]); first | done | rfl | (simp only [List.length_drop, List.length_take]; rfl)) ?_; (with_reducible refine (label_Cats.calls a0 t214 _ A7.out).mono ?_); rintro e w35 ⟨v215, rfl, ho0, hb⟩; refine ⟨_, rfl, ?_⟩; have n0_ := Aside0.mk (Kd.R_lower ho0 (below_size (by repeat (first | (with_reducible first | exact HB.out | apply below_alloc | apply pw_below_drewN | apply below_drew1) | exact HB.out)))); have n1_ := Aside0.mk (below_step (by repeat (first | (with_reducible first | exact HB.out | apply below_alloc | apply pw_below_drewN | apply below_drew1) | exact HB.out)) hb); clear HB; have HO216 := n0_; have HB := n1_; clear n0_ n1_; (try clear hb); (try clear hb2); (try clear hk); (try clear hi); (try clear ho0); obtain ⟨Ao36, co36, eo36⟩ := Kd.R_slice HO216.out; subst eo36) | ((with_reducible refine gate_callee (f := 11) rfl ?_); refine goesL_ (some 20) rfl rfl Tryd.func11 (by kernel_rfl) rfl #[.slice Ao36 t214.length co36] rfl (by (try simp only [List.map_toArray, List.map_cons, List.map_nil]); first | done | rfl | (simp only [List.length_drop, List.length_take]; rfl)) ?_; (with_reducible refine (label_Of.calls k _ _ t214 t217 t218 _ ?side1 ?side2 A8.out).mono ?_); (case side1 => repeat (first | exact (Kd.R_reads' HO216.out).2.2 | (with_reducible refine Kd.C_alloc ?_ _) | (with_reducible refine Kd.C_drewN ?_ _) | (with_reducible refine Kd.C_drew ?_))); (case side2 => exact (Kd.R_reads' HO216.out).2.1); rintro e w' ⟨rfl, ⟨nd, rfl⟩⟩; refine ⟨_, rfl, ?_⟩))
        go_ret
        exact ⟨by first | rfl | (simp [errW_none, errW_some] <;> rfl) | (simp [*, errW_none, errW_some] <;> rfl), by repeat (first | (with_reducible first | exact HB.out | apply below_alloc | apply pw_below_drewN | apply below_drew1) | exact HB.out)⟩
    · rw [if_neg c9] at H
      have c9b0 : (t213 == 0) = false := beq_eq_false_iff_ne.mpr c9
      have c9b1 : (t213 != 0) = true := bne_iff_ne.mpr c9
      obtain rfl := Option.some.inj H
      go_enter Tryd.func9, Tryd.ntmps9
      go_wp2_with (first | ((with_reducible refine gate_callee (f := 10) rfl ?_); refine goesL_ (some 9) rfl rfl Tryd.func10 (by kernel_rfl) rfl #[] rfl (by (try simp only [List.map_toArray, List.map_cons, List.map_nil]); first | done | rfl | (simp only [List.length_drop, List.length_take]; rfl)) ?_; (with_reducible refine (bureaulaw01_alive.calls k  true _ A3.out).mono ?_); rintro e w37 ⟨rfl, hb⟩; refine ⟨_, rfl, ?_⟩; have n0_ := Aside0.mk (below_step (by repeat (first | (with_reducible first | exact HB.out | apply below_alloc | apply pw_below_drewN | apply below_drew1) | exact HB.out)) hb); clear HB; have HB := n0_; clear n0_; (try clear hb); (try clear hb2); (try clear hk); (try clear hi)) | ((with_reducible refine gate_callee (f := 28) rfl ?_); refine goesL_ (some 13) rfl rfl Tryd.func28 (by kernel_rfl) rfl #[.int .u64 a0] rfl (by (try simp only [List.map_toArray, List.map_cons, List.map_nil]); first | done | rfl | (simp only [List.length_drop, List.length_take]; rfl)) ?_; (with_reducible refine (label_Print.calls k a0 t211 _ A5.out).mono ?_); rintro e w38 ⟨rfl, hb⟩; refine ⟨_, rfl, ?_⟩; have n0_ := Aside0.mk (below_step (by repeat (first | (with_reducible first | exact HB.out | apply below_alloc | apply pw_below_drewN | apply below_drew1) | exact HB.out)) hb); clear HB; have HB := n0_; clear n0_; (try clear hb); (try clear hb2); (try clear hk); (try clear hi)) | ((with_reducible refine gate_callee (f := 26) rfl ?_); refine goesL_ (some 14) rfl rfl Tryd.func26 (by kernel_rfl) rfl #[.string t211] rfl (by (try simp only [List.map_toArray, List.map_cons, List.map_nil]); first | done | rfl | (simp only [List.length_drop, List.length_take]; rfl)) ?_; (with_reducible refine (label_Parse.calls k t211 t212 t213 _ A6.out).mono ?_); rintro e w39 ⟨rfl, hb⟩; refine ⟨_, rfl, ?_⟩; have n0_ := Aside0.mk (below_step (by repeat (first | (with_reducible first | exact HB.out | apply below_alloc | apply pw_below_drewN | apply below_drew1) | exact HB.out)) hb); clear HB; have HB := n0_; clear n0_; (try clear hb); (try clear hb2); (try clear hk); (try clear hi)) | ((with_reducible refine gate_callee (f := 14) rfl ?_); refine goesL_ (some 19) rfl rfl Tryd.func14 (by kernel_rfl) rfl #[.int .u64 a0] rfl (by (try simp only [List.map_toArray, List.map_cons, List.map_nil]); first | done | rfl | (simp only [List.length_drop, List.length_take]; rfl)) ?_; (with_reducible refine (label_Cats.calls a0 t214 _ A7.out).mono ?_); rintro e w40 ⟨v215, rfl, ho0, hb⟩; refine ⟨_, rfl, ?_⟩; have n0_ := Aside0.mk (Kd.R_lower ho0 (below_size (by repeat (first | (with_reducible first | exact HB.out | apply below_alloc | apply pw_below_drewN | apply below_drew1) | exact HB.out)))); have n1_ := Aside0.mk (below_step (by repeat (first | (with_reducible first | exact HB.out | apply below_alloc | apply pw_below_drewN | apply below_drew1) | exact HB.out)) hb); clear HB; have HO216 := n0_; have HB := n1_; clear n0_ n1_; (try clear hb); (try clear hb2); (try clear hk); (try clear hi); (try clear ho0); obtain ⟨Ao41, co41, eo41⟩ := Kd.R_slice HO216.out; subst eo41) | ((with_reducible refine gate_callee (f := 11) rfl ?_); refine goesL_ (some 20) rfl rfl Tryd.func11 (by kernel_rfl) rfl #[.slice Ao41 t214.length co41] rfl (by (try simp only [List.map_toArray, List.map_cons, List.map_nil]); first | done | rfl | (simp only [List.length_drop, List.length_take]; rfl)) ?_; (with_reducible refine (label_Of.calls k _ _ t214 t217 t218 _ ?side1 ?side2 A8.out).mono ?_); (case side1 => repeat (first | exact (Kd.R_reads' HO216.out).2.2 | (with_reducible refine Kd.C_alloc ?_ _) | (with_reducible refine Kd.C_drewN ?_ _) | (with_reducible refine Kd.C_drew ?_))); (case side2 => exact (Kd.R_reads' HO216.out).2.1); rintro e w' ⟨rfl, ⟨nd, rfl⟩⟩; refine ⟨_, rfl, ?_⟩))
      go_ret
      exact ⟨by first | rfl | (simp [errW_none, errW_some] <;> rfl) | (simp [*, errW_none, errW_some] <;> rfl), by repeat (first | (with_reducible first | exact HB.out | apply below_alloc | apply pw_below_drewN | apply below_drew1) | exact HB.out)⟩
  · replace c4 := Bool.eq_false_iff.mpr c4
    subst c4
    have H1 : (some false) = some r := by rw [if_neg (show ¬ (false = true) by decide)] at H; exact H
    clear H
    have H := H1
    clear H1
    obtain rfl := Option.some.inj H
    go_enter Tryd.func9, Tryd.ntmps9
    go_wp2_with (first | ((with_reducible refine gate_callee (f := 10) rfl ?_); refine goesL_ (some 9) rfl rfl Tryd.func10 (by kernel_rfl) rfl #[] rfl (by (try simp only [List.map_toArray, List.map_cons, List.map_nil]); first | done | rfl | (simp only [List.length_drop, List.length_take]; rfl)) ?_; (with_reducible refine (bureaulaw01_alive.calls k  false _ A3.out).mono ?_); rintro e w42 ⟨rfl, hb⟩; refine ⟨_, rfl, ?_⟩; have n0_ := Aside0.mk (below_step (by repeat (first | (with_reducible first | exact HB.out | apply below_alloc | apply pw_below_drewN | apply below_drew1) | exact HB.out)) hb); clear HB; have HB := n0_; clear n0_; (try clear hb); (try clear hb2); (try clear hk); (try clear hi)))
    go_ret
    exact ⟨by first | rfl | (simp [errW_none, errW_some] <;> rfl) | (simp [*, errW_none, errW_some] <;> rfl), by repeat (first | (with_reducible first | exact HB.out | apply below_alloc | apply pw_below_drewN | apply below_drew1) | exact HB.out)⟩
def bureaulaw01_LabelBack.Pure : Prop := ∀ (a0 : Int) (a1 : Int), (Lit.int .u64 a0).wf = true → (Lit.int .u64 a1).wf = true → ∃ k, bureaulaw01_LabelBack.f k a0 a1 = some true
theorem bureaulaw01_LabelBack.walk (P : bureaulaw01_LabelBack.Pure) (a0 : Int) (a1 : Int) (w : World) (w0 : (Lit.int .u64 a0).wf = true) (w1 : (Lit.int .u64 a1).wf = true) :
    Calls Tryd.prog 9 #[.int .u64 a0, .int .u64 a1] w fun e w' => e = .returned (.bool true) ∧ Below w.heap.size w w' := by
  obtain ⟨k, h⟩ := P a0 a1 w0 w1
  refine (bureaulaw01_LabelBack.calls k a0 a1 true w h).mono ?_
  rintro e w' ⟨rfl, hd⟩
  exact ⟨rfl, hd⟩
end Go.Proofs.YthlgilepfbehaaaDoor.PB
end

section
namespace Go.Proofs.YthlgilepfbehaaaDoor.PB
open Go.Proofs.YthlgilepfbehaaaDoorW.PrintWords
theorem Ev.pos {α : Type} {c : Prop} [Decidable c] {A B : Nat → Option α} {r : α} (h : c) (k : Ev A r) : Ev (fun n => if c then A n else B n) r := by
  obtain ⟨K, hK⟩ := k
  exact ⟨K, fun n hn => by show (if c then A n else B n) = _; rw [if_pos h]; exact hK n hn⟩
theorem Ev.neg {α : Type} {c : Prop} [Decidable c] {A B : Nat → Option α} {r : α} (h : ¬ c) (k : Ev B r) : Ev (fun n => if c then A n else B n) r := by
  obtain ⟨K, hK⟩ := k
  exact ⟨K, fun n hn => by show (if c then A n else B n) = _; rw [if_neg h]; exact hK n hn⟩
theorem Ev.ite {α : Type} {c : Prop} [Decidable c] {A B : Nat → Option α} {r s : α} (h1 : c → Ev A r) (h2 : ¬ c → Ev B s) : Ev (fun n => if c then A n else B n) (if c then r else s) := by
  by_cases h : c
  · rw [if_pos h]; exact Ev.pos h (h1 h)
  · rw [if_neg h]; exact Ev.neg h (h2 h)
theorem ev_val {α : Type} {g : Nat → Option α} {a b : α} (h : Ev g a) (e : a = b) : Ev g b := e ▸ h
end Go.Proofs.YthlgilepfbehaaaDoor.PB
end

section
namespace Go.Proofs.YthlgilepfbehaaaDoor.PB
open Go.RowKit Go.Proofs.YthlgilepfbehaaaDoorW.PrintWords Go.Proofs.YthlgilepfbehaaaDoorW.PrintLast Go.Proofs.YthlgilepfbehaaaDoorW.PrintMore
attribute [local go_sem] max2_int min2_int max_two min_two max_three min_three max_four min_four
set_option linter.unusedVariables false
set_option linter.unusedSimpArgs false
def okCats (l : List Int) : Bool := l.all (fun x => decide (0 ≤ x) && decide (x < 64))
theorem okCats_of {l : List Int} (h : ∀ x ∈ l, 0 ≤ x ∧ x < 64) : okCats l = true := by
  unfold okCats; rw [List.all_eq_true]; intro x hx; simp [h x hx]
theorem okCats_no {l : List Int} {x : Int} (hx : x ∈ l) (h : ¬ (0 ≤ x ∧ x < 64)) : okCats l = false := by
  unfold okCats; rw [List.all_eq_false]; exact ⟨x, hx, by simp; omega⟩
def ofI (l : List Int) : Int × Int := if okCats l = true then (((ofBits (catsOf l) : Nat) : Int), 0) else (0, 2)
theorem ofI_yes {l : List Int} (h : ∀ x ∈ l, 0 ≤ x ∧ x < 64) : ofI l = (((ofBits (catsOf l) : Nat) : Int), 0) := by unfold ofI; rw [if_pos (okCats_of h)]
theorem ofI_no {l : List Int} {x : Int} (hx : x ∈ l) (h : ¬ (0 ≤ x ∧ x < 64)) : ofI l = (0, 2) := by unfold ofI; rw [if_neg (by rw [okCats_no hx h]; decide)]
end Go.Proofs.YthlgilepfbehaaaDoor.PB
end

section
namespace Go.Proofs.YthlgilepfbehaaaDoor.PB
open Go.RowKit Go.Proofs.YthlgilepfbehaaaDoorW.PrintWords
set_option linter.unusedVariables false
theorem w1' {i n : Nat} (h : i < n) (hn : n ≤ 1000000000000000) : wrap64 ((i : Int) + 1) = ((i + 1 : Nat) : Int) := by unfold wrap64; omega
theorem wf_u64 {n : Int} (h : (Lit.int .u64 n).wf = true) : 0 ≤ n ∧ n < 18446744073709551616 := by
  have hmin : IntKind.u64.min = 0 := rfl
  have hmax : IntKind.u64.max = 18446744073709551615 := rfl
  simp only [Lit.wf, Bool.and_eq_true, decide_eq_true_eq, hmin, hmax] at h
  omega
theorem alive1 : bureaulaw01_alive.f 60 = some true := by decide +kernel
theorem alive1_ev : Ev (fun k => bureaulaw01_alive.f k) true := Ev.of (bureaulaw01_alive.mono) alive1
theorem nat_of {a : Int} (h : 0 ≤ a ∧ a < 18446744073709551616) : ∃ n : Nat, a = (n : Int) ∧ n < 18446744073709551616 := by
  obtain ⟨n, rfl⟩ := Int.eq_ofNat_of_zero_le h.1
  exact ⟨n, rfl, by omega⟩
theorem rdN (l : List Int) (i : Nat) : rd l (i : Int) = l.getD i 0 := by unfold rd; rw [Int.toNat_natCast]
theorem ofBits_snoc (l : List Int) (m : Nat) (hm : m < 64) : ofBits (catsOf (l ++ [(m : Int)])) = ofBits (catsOf l) ||| 2 ^ m := by
  apply Nat.eq_of_testBit_eq
  intro i
  rw [ofBits_testBit, Nat.testBit_or, ofBits_testBit, Nat.testBit_two_pow]
  by_cases hi : i < 64
  · rw [catsOf_getD _ _ hi, catsOf_getD _ _ hi]
    have : decide (m = i) = decide ((i : Int) = (m : Int)) := by rw [decide_eq_decide]; omega
    rw [this]
    simp
  · have h1 : ∀ q : List Int, (catsOf q).getD i false = false := fun q => by
      rw [List.getD_eq_getElem?_getD, List.getElem?_eq_none (by rw [catsOf_len]; omega)]; rfl
    rw [h1, h1]
    simp; omega
theorem shl_one (m : Nat) (hm : m < 64) : shl .u64 1 (m : Int) = ((2 ^ m : Nat) : Int) := by
  unfold shl
  rw [Int.toNat_natCast, Nat.min_eq_left (by show m ≤ 64; omega), Int.one_mul, IntKind.wrap_u64, show (2 : Int) ^ m = ((2 ^ m : Nat) : Int) by rw [Int.natCast_pow]; rfl]
  have h : (2 : Nat) ^ m < 2 ^ 64 := Nat.pow_lt_pow_right (by decide) hm
  generalize (2 : Nat) ^ m = q at *
  omega
theorem ofBits_u64 (l : List Bool) (h : l.length = 64) : ofBits l < 18446744073709551616 := by
  have := ofBits_lt l
  rw [h] at this
  exact this
theorem or_shl (l : List Int) (m : Nat) (hm : m < 64) : Go.bits .or .u64 ((ofBits (catsOf l) : Nat) : Int) (shl .u64 1 (m : Int)) = ((ofBits (catsOf (l ++ [(m : Int)])) : Nat) : Int) := by
  have h : (2 : Nat) ^ m < 2 ^ 64 := Nat.pow_lt_pow_right (by decide) hm
  rw [shl_one m hm, u64_or_nat _ _ (ofBits_u64 _ (catsOf_len l)) h, ofBits_snoc l m hm]
theorem ofBits_none : ofBits (catsOf []) = 0 := by rw [catsOf_nil]; decide
theorem of_ev (l : List Int) (hl : l.length ≤ 4096) : Ev (fun k => label_Of.f k l) (ofI l) := by
  have loop : ∀ (d i : Nat), i + d = l.length → (∀ x ∈ l.take i, 0 ≤ x ∧ x < 64) → Ev (fun k => label_Of.l0 k ((ofBits (catsOf (l.take i)) : Nat) : Int) l (l.length : Int) (i : Int)) (ofI l) := by
    intro d
    induction d with
    | zero =>
      intro i hi hg
      refine Ev.step (fun k => by simp only [label_Of.l0]; rfl) ?_
      refine Ev.neg (by omega) ?_
      rw [List.take_of_length_le (by omega)] at hg ⊢
      rw [ofI_yes hg]
      exact Ev.now _
    | succ d ih =>
      intro i hi hg
      have hlt : i < l.length := by omega
      have hx : l[i]? = some (l.getD i 0) := by rw [List.getD_eq_getElem?_getD, List.getElem?_eq_getElem hlt]; rfl
      have hsn : l.take (i + 1) = l.take i ++ [l.getD i 0] := by rw [List.take_add_one, hx]; rfl
      have hmem : l.getD i 0 ∈ l := List.mem_of_getElem? hx
      refine Ev.step (fun k => by simp only [label_Of.l0]; rfl) ?_
      refine Ev.pos (by omega) (Ev.pos (by omega) (Ev.pos (by omega) ?_))
      rw [rdN]
      generalize l.getD i 0 = x at *
      by_cases h0 : x < 0
      · rw [ofI_no hmem (by omega)]; exact Ev.pos h0 (Ev.now _)
      · refine Ev.neg h0 ?_
        by_cases h1 : x > 63
        · rw [ofI_no hmem (by omega)]; exact Ev.pos h1 (Ev.now _)
        · refine Ev.neg h1 (Ev.pos (by omega) ?_)
          obtain ⟨m, rfl⟩ := Int.eq_ofNat_of_zero_le (show 0 ≤ x by omega)
          rw [or_shl _ _ (by omega), w1' hlt (by omega), ← hsn]
          refine ih (i + 1) (by omega) ?_
          rw [hsn]
          intro y hy
          rcases List.mem_append.1 hy with hy | hy
          · exact hg y hy
          · rw [List.mem_singleton.1 hy]; omega
  have := loop l.length 0 (by omega) (fun x hx => absurd hx (by simp))
  rw [List.take_zero, ofBits_none] at this
  exact this
theorem cats_contains (n i : Nat) (hi : i < 64) : (catsTo n 64).contains (i : Int) = n.testBit i := by
  unfold catsTo
  rw [Bool.eq_iff_iff, List.contains_iff_mem, List.mem_map]
  constructor
  · rintro ⟨j, hj, he⟩
    obtain rfl : j = i := by omega
    exact (List.mem_filter.1 hj).2
  · intro h
    exact ⟨i, List.mem_filter.2 ⟨List.mem_range.2 hi, h⟩, rfl⟩
theorem cats_mem (n : Nat) : ∀ x ∈ catsTo n 64, 0 ≤ x ∧ x < 64 := by
  intro x hx
  obtain ⟨j, hj, rfl⟩ := List.mem_map.1 hx
  have := List.mem_range.1 (List.mem_filter.1 hj).1
  omega
theorem of_cats (n : Nat) (hn : n < 18446744073709551616) : ofI (catsTo n 64) = ((n : Int), 0) := by
  rw [ofI_yes (cats_mem n)]
  have : ofBits (catsOf (catsTo n 64)) = n := ofBits_eq _ _ (catsOf_len _) hn (fun i hi => by rw [catsOf_getD _ _ hi, cats_contains n i hi])
  rw [this]
end Go.Proofs.YthlgilepfbehaaaDoor.PB
end

section
namespace Go.Proofs.YthlgilepfbehaaaDoor.PB
open Go.RowKit Go.Proofs.YthlgilepfbehaaaDoorW.PrintWords Go.Proofs.YthlgilepfbehaaaDoorW.PrintLast Go.Proofs.YthlgilepfbehaaaDoorW.PrintMore
attribute [local go_sem] max2_int min2_int max_two min_two max_three min_three max_four min_four
set_option linter.unusedVariables false
set_option linter.unusedSimpArgs false
def putMark (dash : Bool) (n : Nat) (m : List Bool) : List Bool := if n < 64 ∧ dash = false then m.set n true else m
def scanMarks (dash : Bool) : List UInt8 → Nat → List Bool → List Bool
  | [], n, m => putMark dash n m
  | c :: r, n, m => if 48 ≤ c.toNat ∧ c.toNat ≤ 57 ∧ n < 1000 then scanMarks dash r (n * 10 + (c.toNat - 48)) m else scanMarks dash r 0 (putMark dash n m)
def scanAll (s : ByteArray) : List Bool := scanMarks (s.toList == ([45] : List UInt8)) s.data.toList 0 (List.replicate 64 false)
theorem putMark_yes (n : Nat) (m : List Bool) (h : n < 64) : putMark false n m = m.set n true := by unfold putMark; rw [if_pos ⟨h, rfl⟩]
def labelScan (s : ByteArray) : Int := ((ofBits (scanAll s) : Nat) : Int)
end Go.Proofs.YthlgilepfbehaaaDoor.PB
end

section
namespace Go.Proofs.YthlgilepfbehaaaDoor.PB
open Go.RowKit Go.Proofs.YthlgilepfbehaaaDoorW.PrintWords
set_option linter.unusedVariables false
def bs (l : List UInt8) : ByteArray := ⟨l.toArray⟩
theorem bs_data (l : List UInt8) : (bs l).data.toList = l := rfl
theorem bs_size (l : List UInt8) : (bs l).size = l.length := by unfold bs ByteArray.size; simp
theorem bs_of (s : ByteArray) : bs s.data.toList = s := by unfold bs; simp
theorem bs_inj {a b : List UInt8} (h : bs a = bs b) : a = b := by have := congrArg (·.data.toList) h; exact this
theorem bs_toList (l : List UInt8) : (bs l).toList = l := (ByteArray.toList_eq _).trans (bs_data l)
theorem toList_inj {a b : ByteArray} (h : a.toList = b.toList) : a = b := by
  rw [ByteArray.toList_eq, ByteArray.toList_eq] at h
  rw [← bs_of a, ← bs_of b, h]
def dig2 (n : Nat) : List UInt8 := if n < 10 then [UInt8.ofNat (48 + n)] else [UInt8.ofNat (48 + n / 10), UInt8.ofNat (48 + n % 10)]
theorem dig2_is (n : Nat) (h : n < 64) : Lib.decDigits n = dig2 n := by
  unfold dig2
  rw [Lib.decDigits]
  split
  · rfl
  · rw [Lib.decDigits, dif_pos (by omega)]
    rfl
theorem dig2_len (n : Nat) : (dig2 n).length ≤ 2 := by unfold dig2; split <;> simp
theorem itoa_ev (n : Nat) (h : n < 64) : strconv_Itoa_36.f (n : Int) = some (bs (dig2 n)) := by
  unfold strconv_Itoa_36.f
  rw [if_pos (by omega), Int.toNat_natCast, dig2_is n h]; rfl
def tailD (cs : List Nat) : List UInt8 := cs.flatMap (fun c => 46 :: dig2 c)
def textOf : List Nat → List UInt8
  | [] => [45]
  | c :: r => dig2 c ++ tailD r
theorem tailD_len (cs : List Nat) : (tailD cs).length ≤ 3 * cs.length := by
  induction cs with
  | nil => simp [tailD]
  | cons c r ih =>
    have := dig2_len c
    unfold tailD at ih ⊢
    simp only [List.flatMap_cons, List.length_append, List.length_cons]
    omega
theorem textOf_len (cs : List Nat) : (textOf cs).length ≤ 3 * cs.length + 1 := by
  cases cs with
  | nil => simp [textOf]
  | cons c r =>
    have := dig2_len c
    have := tailD_len r
    simp only [textOf, List.length_append, List.length_cons]
    omega
theorem join_is (c : Nat) (r : List Nat) : Lib.join ((c :: r).map dig2) [46] = textOf (c :: r) := by
  have h : ∀ (r : List Nat) (c : Nat), [(46 : UInt8)].intercalate ((c :: r).map dig2) = dig2 c ++ tailD r := by
    intro r
    induction r with
    | nil => intro c; simp [List.intercalate, tailD]
    | cons d r ih =>
      intro c
      have := ih d
      simp only [List.map_cons, List.intercalate, tailD] at this ⊢
      simp [List.intersperse, this]
  exact h r c
def cats (n : Nat) : List Nat := (List.range 64).filter (fun i => n.testBit i)
theorem cats_is (n : Nat) : catsTo n 64 = (cats n).map (fun i : Nat => (i : Int)) := rfl
theorem cats_lt (n : Nat) : ∀ c ∈ cats n, c < 64 := fun c hc => List.mem_range.1 (List.mem_filter.1 hc).1
theorem cats_len (n : Nat) : (cats n).length ≤ 64 := Nat.le_trans (List.length_filter_le _ _) (by simp)
theorem cats_zero : cats 0 = [] := by unfold cats; simp
theorem cats_none {n : Nat} (hn : n < 18446744073709551616) (h : cats n = []) : n = 0 := by
  have h2 := of_cats n hn
  rw [cats_is, h] at h2
  have h3 : ofI ([] : List Int) = (0, 0) := by
    rw [ofI_yes (fun x hx => absurd hx (by simp)), ofBits_none]; rfl
  rw [List.map_nil, h3] at h2
  have := congrArg Prod.fst h2
  simp only at this
  omega
theorem takeS {α : Type} (l : List α) (i : Nat) (h : i < l.length) : l.take (i + 1) = l.take i ++ [l[i]] := by
  rw [List.take_add_one, List.getElem?_eq_getElem h]; rfl
theorem print_ev (n : Nat) (hn : n < 18446744073709551616) : Ev (fun k => label_Print.f k (n : Int)) (bs (textOf (cats n))) := by
  unfold label_Print.f
  by_cases h0 : (n : Int) = 0
  · refine Ev.pos h0 ?_
    obtain rfl : n = 0 := by omega
    rw [cats_zero]
    exact Ev.now _
  · refine Ev.neg h0 ?_
    have hcl := cats_len n
    have hclt := cats_lt n
    have hne : cats n ≠ [] := fun e => h0 (by rw [cats_none hn e]; rfl)
    refine Ev.bind (a := (cats n).map (fun i : Nat => (i : Int))) (by unfold label_Cats.f; rw [if_pos (by omega), Int.toNat_natCast, cats_is]; exact Ev.now _) ?_
    generalize cats n = cs at *
    have loop : ∀ (d i : Nat), i + d = cs.length → Ev (fun k => label_Print.l0 k ((cs.take i).map (fun c => bs (dig2 c))) (cs.map (fun i : Nat => (i : Int))) ((cs.map (fun i : Nat => (i : Int))).length : Int) (i : Int)) (bs (textOf cs)) := by
      intro d
      induction d with
      | zero =>
        intro i hi
        refine Ev.step (fun k => by simp only [label_Print.l0]; rfl) ?_
        refine Ev.neg (by rw [List.length_map]; omega) ?_
        rw [List.take_of_length_le (by omega)]
        refine Ev.bind (a := bs (textOf cs)) ?_ (Ev.now _)
        unfold strings_Join.f
        obtain ⟨c, r, rfl⟩ : ∃ c r, cs = c :: r := by cases cs with | nil => exact absurd rfl hne | cons c r => exact ⟨c, r, rfl⟩
        have e : ((c :: r).map (fun c => bs (dig2 c))).map (fun x : ByteArray => x.data.toList) = (c :: r).map dig2 := by rw [List.map_map]; rfl
        rw [e, show (⟨#[46]⟩ : ByteArray).data.toList = [46] from rfl, join_is]
        have := textOf_len (c :: r)
        rw [if_pos ⟨by rw [List.length_map]; omega, by omega⟩]
        exact Ev.now _
      | succ d ih =>
        intro i hi
        have hlt : i < cs.length := by omega
        refine Ev.step (fun k => by simp only [label_Print.l0]; rfl) ?_
        refine Ev.pos (by rw [List.length_map]; omega) (Ev.pos (by omega) (Ev.pos (by rw [List.length_map]; omega) ?_))
        have hr : rd (cs.map (fun i : Nat => (i : Int))) (i : Int) = ((cs[i] : Nat) : Int) := by
          rw [rdN, List.getD_eq_getElem?_getD, List.getElem?_map, List.getElem?_eq_getElem hlt]; rfl
        rw [hr, itoa_ev _ (hclt _ (List.getElem_mem hlt))]
        refine Ev.bind (Ev.now _) (Ev.pos (by rw [List.length_map, List.length_take]; omega) ?_)
        rw [w1' hlt (by omega)]
        have := ih (i + 1) (by omega)
        rw [takeS cs i hlt, List.map_append] at this
        exact this
    exact loop cs.length 0 (by omega)
end Go.Proofs.YthlgilepfbehaaaDoor.PB
end

section
namespace Go.Proofs.YthlgilepfbehaaaDoor.PB
open Go.RowKit Go.Proofs.YthlgilepfbehaaaDoorW.PrintWords
set_option linter.unusedVariables false
theorem ofNat_toNat (k : Nat) (h : k < 256) : (UInt8.ofNat k).toNat = k := by simp [UInt8.toNat_ofNat']; omega
theorem scan_digit (d : Bool) (c n : Nat) (r : List UInt8) (m : List Bool) (hc : c < 10) (hn : n < 1000) : scanMarks d (UInt8.ofNat (48 + c) :: r) n m = scanMarks d r (n * 10 + c) m := by
  rw [scanMarks, ofNat_toNat _ (by omega), if_pos ⟨by omega, by omega, hn⟩]
  congr 1; omega
theorem scan_dig (d : Bool) (c : Nat) (r : List UInt8) (m : List Bool) (hc : c < 64) : scanMarks d (dig2 c ++ r) 0 m = scanMarks d r c m := by
  unfold dig2
  split
  · rw [List.cons_append, List.nil_append, scan_digit d c 0 r m (by omega) (by omega)]; congr 1; omega
  · rw [List.cons_append, List.cons_append, List.nil_append, scan_digit d (c / 10) 0 _ m (by omega) (by omega), scan_digit d (c % 10) _ r m (by omega) (by omega)]
    congr 1; omega
theorem scan_dot (c : Nat) (r : List UInt8) (m : List Bool) (hc : c < 64) : scanMarks false (46 :: r) c m = scanMarks false r 0 (m.set c true) := by
  rw [scanMarks, if_neg (by decide +revert), putMark_yes _ _ hc]
theorem scan_tail : ∀ (cs : List Nat) (c : Nat) (l : List Int), c < 64 → (∀ x ∈ cs, x < 64) → scanMarks false (tailD cs) c (catsOf l) = catsOf (l ++ ((c :: cs).map (fun i : Nat => (i : Int))))
  | [], c, l, hc, _ => by
    show scanMarks false [] c (catsOf l) = _
    rw [scanMarks, putMark_yes _ _ hc, catsOf_snoc _ _ hc]; rfl
  | x :: cs, c, l, hc, h => by
    have hx := h x List.mem_cons_self
    have e : tailD (x :: cs) = 46 :: (dig2 x ++ tailD cs) := by unfold tailD; rw [List.flatMap_cons]; rfl
    rw [e, scan_dot c _ _ hc, scan_dig _ _ _ _ hx, catsOf_snoc _ _ hc, scan_tail cs x _ hx (fun y hy => h y (List.mem_cons_of_mem _ hy))]
    simp
theorem dig2_head (c : Nat) (r : List UInt8) : ∃ a q, dig2 c ++ r = a :: q ∧ (c < 64 → 48 ≤ a.toNat) := by
  unfold dig2
  split
  · exact ⟨_, _, rfl, fun h => by rw [ofNat_toNat _ (by omega)]; omega⟩
  · exact ⟨_, _, rfl, fun h => by rw [ofNat_toNat _ (by omega)]; omega⟩
theorem not_dash (c : Nat) (r : List UInt8) (hc : c < 64) : ((bs (dig2 c ++ r)).toList == ([45] : List UInt8)) = false := by
  rw [bs_toList]
  obtain ⟨a, q, e, ha⟩ := dig2_head c r
  rw [e, beq_eq_false_iff_ne]
  intro he
  injection he with h1 _
  have := ha hc
  rw [h1] at this
  exact absurd this (by decide)
theorem scan_text (c : Nat) (cs : List Nat) (h : ∀ x ∈ c :: cs, x < 64) : labelScan (bs (textOf (c :: cs))) = ((ofBits (catsOf ((c :: cs).map (fun i : Nat => (i : Int)))) : Nat) : Int) := by
  have hc := h c List.mem_cons_self
  unfold labelScan scanAll
  rw [show textOf (c :: cs) = dig2 c ++ tailD cs from rfl, not_dash c _ hc, bs_data, scan_dig _ _ _ _ hc, ← catsOf_nil, scan_tail cs c [] hc (fun y hy => h y (List.mem_cons_of_mem _ hy)), List.nil_append]
theorem scan_zero : labelScan (bs (textOf [])) = 0 := by decide +kernel
theorem bits_cats (n : Nat) (hn : n < 18446744073709551616) : ofBits (catsOf ((cats n).map (fun i : Nat => (i : Int)))) = n := by
  rw [← cats_is]
  exact ofBits_eq _ _ (catsOf_len _) hn (fun i hi => by rw [catsOf_getD _ _ hi, cats_contains n i hi])
theorem scan_print (n : Nat) (hn : n < 18446744073709551616) : labelScan (bs (textOf (cats n))) = (n : Int) := by
  cases h : cats n with
  | nil => rw [scan_zero, cats_none hn h]; rfl
  | cons c r => rw [scan_text c r (fun x hx => cats_lt n x (by rw [h]; exact hx)), ← h, bits_cats n hn]
theorem text_inj {a b : Nat} (ha : a < 18446744073709551616) (hb : b < 18446744073709551616) (h : textOf (cats a) = textOf (cats b)) : a = b := by
  have h1 := scan_print a ha
  rw [h, scan_print b hb] at h1
  omega
def IsText (s : ByteArray) (n : Nat) : Prop := n < 18446744073709551616 ∧ s = bs (textOf (cats n))
def sp : List UInt8 → List (List UInt8)
  | [] => [[]]
  | x :: r => if x = 46 then [] :: sp r else match sp r with | [] => [[x]] | p :: ps => (x :: p) :: ps
theorem sp_ne (l : List UInt8) : sp l ≠ [] := by
  cases l with
  | nil => simp [sp]
  | cons x r => unfold sp; split; simp; split <;> simp
theorem sp_cut : ∀ (x y : List UInt8), (∀ c ∈ x, c ≠ 46) → sp (x ++ 46 :: y) = x :: sp y
  | [], y, _ => by simp [sp]
  | a :: x, y, h => by
    rw [List.cons_append, sp, if_neg (h a List.mem_cons_self), sp_cut x y (fun c hc => h c (List.mem_cons_of_mem _ hc))]
theorem sp_one : ∀ (x : List UInt8), (∀ c ∈ x, c ≠ 46) → sp x = [x]
  | [], _ => rfl
  | a :: x, h => by
    rw [sp, if_neg (h a List.mem_cons_self), sp_one x (fun c hc => h c (List.mem_cons_of_mem _ hc))]
def un : List (List UInt8) → List UInt8
  | [] => []
  | [x] => x
  | x :: y :: r => x ++ 46 :: un (y :: r)
theorem un_sp : ∀ l, un (sp l) = l
  | [] => rfl
  | x :: r => by
    have ih := un_sp r
    unfold sp
    split
    · rename_i h
      cases hs : sp r with
      | nil => exact absurd hs (sp_ne r)
      | cons p ps => rw [hs] at ih; rw [un, ih, h]; rfl
    · cases hs : sp r with
      | nil => exact absurd hs (sp_ne r)
      | cons p ps =>
        rw [hs] at ih
        cases ps with
        | nil => show un [x :: p] = _; rw [un] at ih ⊢; rw [ih]
        | cons q qs => show un ((x :: p) :: q :: qs) = _; rw [un] at ih ⊢; rw [List.cons_append, ih]
theorem split_is : ∀ (n : Nat) (l : List UInt8), l.length ≤ n → Lib.splitK [46] 0 (Lib.count l [46]) l = sp l := by
  intro n
  induction n with
  | zero =>
    intro l hl
    obtain rfl : l = [] := List.length_eq_zero_iff.1 (by omega)
    rfl
  | succ n ih =>
    intro l hl
    rcases (show Lib.index l [46] = -1 ∨ ∃ i : Nat, Lib.index l [46] = i by
      have := Lib.indexByte_ge l 46
      rw [← Lib.index_one] at this
      rcases Int.lt_or_le (Lib.index l [46]) 0 with h | h
      · left; omega
      · right; exact ⟨(Lib.index l [46]).toNat, by omega⟩) with h | ⟨i, h⟩
    · rw [Lib.count_miss h]
      show [l] = sp l
      rw [Lib.index_one] at h
      refine (sp_one l (fun c hc e => ?_)).symm
      obtain ⟨k, hk⟩ := List.getElem?_of_mem hc
      exact Lib.indexByte_none h k (by rw [hk, e])
    · rw [Lib.count_hit (by simp) h, Nat.add_comm]
      have hne : ¬ (Lib.index l [46] == -1) = true := fun e => by have := beq_iff_eq.1 e; omega
      rw [Lib.splitK, if_neg hne, h, Int.toNat_natCast]
      rw [Lib.index_one] at h
      obtain ⟨h1, h2⟩ := Lib.indexByte_some h
      have hlt := (List.getElem?_eq_some_iff.1 h1).1
      have e : l = l.take i ++ 46 :: l.drop (i + 1) := by
        have hd : l.drop i = 46 :: l.drop (i + 1) := by
          rw [List.drop_eq_getElem_cons hlt]
          congr 1
          have := List.getElem?_eq_getElem hlt
          rw [h1] at this
          exact (Option.some.inj this).symm
        rw [← hd, List.take_append_drop]
      conv => rhs; rw [e]
      rw [sp_cut _ _ (fun c hc e => ?_)]
      · show (l.take (i + 0)) :: Lib.splitK [46] 0 (Lib.count (l.drop (i + 1)) [46]) (l.drop (i + 1)) = _
        rw [ih (l.drop (i + 1)) (by rw [List.length_drop]; omega), Nat.add_zero]
      · obtain ⟨k, hk⟩ := List.getElem?_of_mem hc
        have hk2 := (List.getElem?_eq_some_iff.1 hk).1
        rw [List.length_take] at hk2
        rw [List.getElem?_take_of_lt (by omega), e] at hk
        exact h2 k (by omega) hk
theorem split_ev (s : ByteArray) (hs : s.size ≤ 4096) : strings_Split.f s (⟨#[46]⟩ : ByteArray) = some ((sp s.data.toList).map bs) := by
  unfold strings_Split.f
  rw [if_pos ⟨rfl, by omega⟩]
  congr 1
  have h := Lib.splitB_data ⟨#[46]⟩ 0 (Lib.countB s ⟨#[46]⟩) s
  rw [show (⟨#[46]⟩ : ByteArray).data.toList = [46] from rfl] at h
  rw [show Lib.countB s ⟨#[46]⟩ = Lib.count s.data.toList [46] from rfl] at h ⊢
  rw [split_is _ _ (Nat.le_refl _)] at h
  rw [← h, List.map_map]
  conv => lhs; rw [← List.map_id (Lib.splitB ⟨#[46]⟩ 0 (Lib.count s.data.toList [46]) s)]
  apply List.map_congr_left
  intro x _
  exact (bs_of x).symm
theorem dig2_nodot (c : Nat) (h : c < 64) : ∀ x ∈ dig2 c, x ≠ 46 := by
  intro x hx e
  subst e
  unfold dig2 at hx
  have : ∀ k, k < 10 → (46 : UInt8) ≠ UInt8.ofNat (48 + k) := by decide
  split at hx
  · exact this c (by omega) (List.mem_singleton.1 hx)
  · rcases List.mem_cons.1 hx with hx | hx
    · exact this (c / 10) (by omega) hx
    · exact this (c % 10) (by omega) (List.mem_singleton.1 hx)
theorem sp_text : ∀ (cs : List Nat) (c : Nat), (∀ x ∈ c :: cs, x < 64) → sp (dig2 c ++ tailD cs) = (c :: cs).map dig2
  | [], c, h => by
    rw [show tailD [] = [] from rfl, List.append_nil]
    exact sp_one _ (dig2_nodot c (h c List.mem_cons_self))
  | x :: cs, c, h => by
    have e : tailD (x :: cs) = 46 :: (dig2 x ++ tailD cs) := by unfold tailD; rw [List.flatMap_cons]; rfl
    rw [e, sp_cut _ _ (dig2_nodot c (h c List.mem_cons_self)), sp_text cs x (fun y hy => h y (List.mem_cons_of_mem _ hy))]
    rfl
theorem un_text : ∀ (cs : List Nat) (c : Nat), un ((c :: cs).map dig2) = dig2 c ++ tailD cs
  | [], c => by simp [un, tailD]
  | x :: cs, c => by
    have e : tailD (x :: cs) = 46 :: (dig2 x ++ tailD cs) := by unfold tailD; rw [List.flatMap_cons]; rfl
    show un (dig2 c :: dig2 x :: cs.map dig2) = _
    rw [un, e]
    have := un_text cs x
    rw [List.map_cons] at this
    rw [this]
end Go.Proofs.YthlgilepfbehaaaDoor.PB
end

section
namespace Go.Proofs.YthlgilepfbehaaaDoor.PB
open Go.RowKit Go.Proofs.YthlgilepfbehaaaDoorW.PrintWords
set_option linter.unusedVariables false
theorem dig2_one {a : UInt8} {c : Nat} (hc : c < 64) (h : [a] = dig2 c) : c < 10 ∧ a.toNat = 48 + c := by
  unfold dig2 at h
  split at h
  · injection h with h _
    exact ⟨by assumption, by rw [h, ofNat_toNat _ (by omega)]⟩
  · injection h with _ h
    cases h
theorem dig2_two {a b : UInt8} {c : Nat} (hc : c < 64) (h : [a, b] = dig2 c) : 10 ≤ c ∧ a.toNat = 48 + c / 10 ∧ b.toNat = 48 + c % 10 := by
  unfold dig2 at h
  split at h
  · injection h with _ h
    cases h
  · injection h with h h2
    injection h2 with h2 _
    exact ⟨by omega, by rw [h, ofNat_toNat _ (by omega)], by rw [h2, ofNat_toNat _ (by omega)]⟩
theorem ofNat_is {a : UInt8} {k : Nat} (h : a.toNat = k) : a = UInt8.ofNat k := by
  have hk : k < 256 := by rw [← h]; exact a.toNat_lt
  exact UInt8.toNat_inj.1 (by rw [ofNat_toNat k hk, h])
theorem bt_bs (l : List UInt8) (i : Nat) (h : i < l.length) : bt (bs l) (i : Int) = ((l.getD i 0).toNat : Int) := by
  unfold bt
  rw [dif_pos (by rw [bs_size, Int.toNat_natCast]; exact h)]
  congr 2
  show (l.toArray)[i] = _
  rw [List.getElem_toArray, List.getD_eq_getElem?_getD, List.getElem?_eq_getElem h]; rfl
theorem cat_bad (k0 : Nat → Option (Int × Bool)) (p : ByteArray) (h : ∀ k, k0 k = label_category.j0 k p true) : Ev k0 (0, false) := by
  refine Ev.congr h (Ev.step (fun k => by simp only [label_category.j0]; rfl) ?_)
  exact Ev.pos (by simp) (Ev.now _)
theorem cat_ev (l : List UInt8) : (∃ c, c < 64 ∧ l = dig2 c ∧ Ev (fun k => label_category.f k (bs l)) ((c : Int), true)) ∨ ((∀ c, c < 64 → l ≠ dig2 c) ∧ ∃ x, Ev (fun k => label_category.f k (bs l)) (x, false)) := by
  have bad : ∀ {p : ByteArray}, Ev (fun k => label_category.j0 k p true) (0, false) := fun {p} => cat_bad _ p (fun _ => rfl)
  unfold label_category.f
  match l with
  | [] =>
    refine .inr ⟨fun c hc h => ?_, 0, ?_⟩
    · unfold dig2 at h; split at h <;> cases h
    · exact Ev.pos (by rw [bs_size]; simp) bad
  | [a] =>
    have hb : bt (bs [a]) 0 = (a.toNat : Int) := bt_bs [a] 0 (by simp)
    have ha : a.toNat < 256 := a.toNat_lt
    have go : ∀ r, Ev (fun k => label_category.l0 k (bs [a]) 0 ((bs [a]).size : Int) 0) r → Ev (fun k => if ((bs [a]).size : Int) < 1 then label_category.j0 k (bs [a]) true else if ((bs [a]).size : Int) > 2 then label_category.j0 k (bs [a]) true else if ((bs [a]).size : Int) = 2 then (if 0 < ((bs [a]).size : Int) then label_category.j0 k (bs [a]) (bt (bs [a]) 0 == 48) else none) else label_category.j0 k (bs [a]) false) r := fun r hr => by
      refine Ev.neg (by rw [bs_size]; simp) (Ev.neg (by rw [bs_size]; simp) (Ev.neg (by rw [bs_size]; simp) ?_))
      refine Ev.step (fun k => by simp only [label_category.j0]; rfl) ?_
      exact Ev.neg (by simp) hr
    by_cases h1 : (a.toNat : Int) < 48
    · refine .inr ⟨fun c hc h => by have := dig2_one hc h; omega, 0, go _ ?_⟩
      refine Ev.step (fun k => by simp only [label_category.l0]; rfl) ?_
      refine Ev.pos (by rw [bs_size]; simp) (Ev.pos (by omega) (Ev.pos (by rw [bs_size]; simp) ?_))
      rw [hb]
      exact Ev.pos h1 (Ev.now _)
    · by_cases h2 : (a.toNat : Int) > 57
      · refine .inr ⟨fun c hc h => by have := dig2_one hc h; omega, 0, go _ ?_⟩
        refine Ev.step (fun k => by simp only [label_category.l0]; rfl) ?_
        refine Ev.pos (by rw [bs_size]; simp) (Ev.pos (by omega) (Ev.pos (by rw [bs_size]; simp) ?_))
        rw [hb]
        exact Ev.neg h1 (Ev.pos h2 (Ev.now _))
      · refine .inl ⟨a.toNat - 48, by omega, ?_, go _ ?_⟩
        · unfold dig2
          rw [if_pos (by omega)]
          congr 1
          exact ofNat_is (by omega)
        · refine Ev.step (fun k => by simp only [label_category.l0]; rfl) ?_
          refine Ev.pos (by rw [bs_size]; simp) (Ev.pos (by omega) (Ev.pos (by rw [bs_size]; simp) ?_))
          rw [hb]
          refine Ev.neg h1 (Ev.neg h2 ?_)
          refine Ev.step (fun k => by simp only [label_category.l0]; rfl) ?_
          refine Ev.neg (by rw [bs_size]; show ¬ wrap64 (0 + 1) < ((1 : Nat) : Int); unfold wrap64; omega) ?_
          exact ev_val (Ev.now _) (by
            have e : wrap64 (wrap64 (0 * 10) + ((a.toNat : Int) - 48) % 256) = ((a.toNat - 48 : Nat) : Int) := by unfold wrap64; omega
            rw [e, decide_eq_true (by omega)])
  | [a, b] =>
    have hb0 : bt (bs [a, b]) 0 = (a.toNat : Int) := bt_bs [a, b] 0 (by simp)
    have hb1 : bt (bs [a, b]) 1 = (b.toNat : Int) := bt_bs [a, b] 1 (by simp)
    have ha : a.toNat < 256 := a.toNat_lt
    have hbb : b.toNat < 256 := b.toNat_lt
    have go : ∀ r, (bt (bs [a, b]) 0 == 48) = false → Ev (fun k => label_category.l0 k (bs [a, b]) 0 ((bs [a, b]).size : Int) 0) r → Ev (fun k => if ((bs [a, b]).size : Int) < 1 then label_category.j0 k (bs [a, b]) true else if ((bs [a, b]).size : Int) > 2 then label_category.j0 k (bs [a, b]) true else if ((bs [a, b]).size : Int) = 2 then (if 0 < ((bs [a, b]).size : Int) then label_category.j0 k (bs [a, b]) (bt (bs [a, b]) 0 == 48) else none) else label_category.j0 k (bs [a, b]) false) r := fun r h0 hr => by
      refine Ev.neg (by rw [bs_size]; simp) (Ev.neg (by rw [bs_size]; simp) (Ev.pos (by rw [bs_size]; simp) (Ev.pos (by rw [bs_size]; simp) ?_)))
      rw [h0]
      refine Ev.step (fun k => by simp only [label_category.j0]; rfl) ?_
      exact Ev.neg (by simp) hr
    by_cases h0 : a.toNat = 48
    · refine .inr ⟨fun c hc h => by have := dig2_two hc h; omega, 0, ?_⟩
      refine Ev.neg (by rw [bs_size]; simp) (Ev.neg (by rw [bs_size]; simp) (Ev.pos (by rw [bs_size]; simp) (Ev.pos (by rw [bs_size]; simp) ?_)))
      rw [hb0, h0]
      exact bad
    · have h0' : (bt (bs [a, b]) 0 == 48) = false := by rw [hb0, beq_eq_false_iff_ne]; omega
      by_cases h1 : (a.toNat : Int) < 48
      · refine .inr ⟨fun c hc h => by have := dig2_two hc h; omega, 0, go _ h0' ?_⟩
        refine Ev.step (fun k => by simp only [label_category.l0]; rfl) ?_
        refine Ev.pos (by rw [bs_size]; simp) (Ev.pos (by omega) (Ev.pos (by rw [bs_size]; simp) ?_))
        rw [hb0]
        exact Ev.pos h1 (Ev.now _)
      · by_cases h2 : (a.toNat : Int) > 57
        · refine .inr ⟨fun c hc h => by have := dig2_two hc h; omega, 0, go _ h0' ?_⟩
          refine Ev.step (fun k => by simp only [label_category.l0]; rfl) ?_
          refine Ev.pos (by rw [bs_size]; simp) (Ev.pos (by omega) (Ev.pos (by rw [bs_size]; simp) ?_))
          rw [hb0]
          exact Ev.neg h1 (Ev.pos h2 (Ev.now _))
        · have e1 : wrap64 (wrap64 (0 * 10) + ((a.toNat : Int) - 48) % 256) = (a.toNat : Int) - 48 := by unfold wrap64; omega
          have first : ∀ r, Ev (fun k => label_category.l0 k (bs [a, b]) ((a.toNat : Int) - 48) ((bs [a, b]).size : Int) 1) r → Ev (fun k => label_category.l0 k (bs [a, b]) 0 ((bs [a, b]).size : Int) 0) r := fun r hr => by
            refine Ev.step (fun k => by simp only [label_category.l0]; rfl) ?_
            refine Ev.pos (by rw [bs_size]; simp) (Ev.pos (by omega) (Ev.pos (by rw [bs_size]; simp) ?_))
            rw [hb0]
            refine Ev.neg h1 (Ev.neg h2 ?_)
            rw [e1, show wrap64 (0 + 1) = 1 by unfold wrap64; omega]
            exact hr
          by_cases h3 : (b.toNat : Int) < 48
          · refine .inr ⟨fun c hc h => by have := dig2_two hc h; omega, 0, go _ h0' (first _ ?_)⟩
            refine Ev.step (fun k => by simp only [label_category.l0]; rfl) ?_
            refine Ev.pos (by rw [bs_size]; simp) (Ev.pos (by omega) (Ev.pos (by rw [bs_size]; simp) ?_))
            rw [hb1]
            exact Ev.pos h3 (Ev.now _)
          · by_cases h4 : (b.toNat : Int) > 57
            · refine .inr ⟨fun c hc h => by have := dig2_two hc h; omega, 0, go _ h0' (first _ ?_)⟩
              refine Ev.step (fun k => by simp only [label_category.l0]; rfl) ?_
              refine Ev.pos (by rw [bs_size]; simp) (Ev.pos (by omega) (Ev.pos (by rw [bs_size]; simp) ?_))
              rw [hb1]
              exact Ev.neg h3 (Ev.pos h4 (Ev.now _))
            · have e2 : wrap64 (wrap64 (((a.toNat : Int) - 48) * 10) + ((b.toNat : Int) - 48) % 256) = ((10 * (a.toNat - 48) + (b.toNat - 48) : Nat) : Int) := by unfold wrap64; omega
              have last : Ev (fun k => label_category.f k (bs [a, b])) (((10 * (a.toNat - 48) + (b.toNat - 48) : Nat) : Int), decide (((10 * (a.toNat - 48) + (b.toNat - 48) : Nat) : Int) < 64)) := by
                refine go _ h0' (first _ ?_)
                refine Ev.step (fun k => by simp only [label_category.l0]; rfl) ?_
                refine Ev.pos (by rw [bs_size]; simp) (Ev.pos (by omega) (Ev.pos (by rw [bs_size]; simp) ?_))
                rw [hb1]
                refine Ev.neg h3 (Ev.neg h4 ?_)
                rw [e2]
                refine Ev.step (fun k => by simp only [label_category.l0]; rfl) ?_
                refine Ev.neg (by rw [bs_size]; show ¬ wrap64 (1 + 1) < ((2 : Nat) : Int); unfold wrap64; omega) ?_
                exact Ev.now _
              by_cases h5 : 10 * (a.toNat - 48) + (b.toNat - 48) < 64
              · refine .inl ⟨10 * (a.toNat - 48) + (b.toNat - 48), h5, ?_, ?_⟩
                · unfold dig2
                  rw [if_neg (by omega)]
                  congr 1
                  · exact ofNat_is (by omega)
                  · congr 1
                    exact ofNat_is (by omega)
                · exact ev_val last (by rw [decide_eq_true (by omega)])
              · refine .inr ⟨fun c hc h => by have := dig2_two hc h; omega, ((10 * (a.toNat - 48) + (b.toNat - 48) : Nat) : Int), ?_⟩
                exact ev_val last (by rw [decide_eq_false (by omega)])
  | a :: b :: c :: r =>
    refine .inr ⟨fun q hq h => ?_, 0, ?_⟩
    · have := dig2_len q
      rw [← h] at this
      simp at this
    · exact Ev.neg (by rw [bs_size]; simp; omega) (Ev.pos (by rw [bs_size]; simp; omega) bad)
def rising : Int → List Nat → Prop
  | _, [] => True
  | lo, c :: r => lo < (c : Int) ∧ c < 64 ∧ rising (c : Int) r
theorem rising_lt : ∀ {cs : List Nat} {lo : Int}, rising lo cs → ∀ x ∈ cs, lo < (x : Int) ∧ x < 64
  | [], _, _, x, hx => absurd hx (by simp)
  | c :: r, lo, h, x, hx => by
    rcases List.mem_cons.1 hx with rfl | hx
    · exact ⟨h.1, h.2.1⟩
    · have := rising_lt h.2.2 x hx
      have := h.1
      omega
theorem rising_filter (p : Nat → Bool) : ∀ (d a : Nat) (lo : Int), lo < (a : Int) → a + d ≤ 64 → rising lo ((List.range' a d).filter p)
  | 0, a, lo, _, _ => by simp [rising]
  | d + 1, a, lo, h, hd => by
    rw [List.range'_succ, List.filter_cons]
    split
    · exact ⟨h, by omega, rising_filter p d (a + 1) _ (by omega) (by omega)⟩
    · exact rising_filter p d (a + 1) lo (by omega) (by omega)
theorem filter_rising : ∀ (d a : Nat) (cs : List Nat) (lo : Int), lo + 1 = (a : Int) → a + d = 64 → rising lo cs → (List.range' a d).filter (fun i => cs.contains i) = cs
  | 0, a, cs, lo, h1, h2, hr => by
    cases cs with
    | nil => rfl
    | cons c r => have := rising_lt hr c List.mem_cons_self; omega
  | d + 1, a, cs, lo, h1, h2, hr => by
    rw [List.range'_succ, List.filter_cons]
    cases cs with
    | nil => simp
    | cons c r =>
      have hc := hr.1
      by_cases e : c = a
      · subst e
        rw [if_pos (by simp)]
        congr 1
        have ih := filter_rising d (c + 1) r (c : Int) (by omega) (by omega) hr.2.2
        refine (List.filter_congr (fun x hx => ?_)).trans ih
        have := List.mem_range'_1.1 hx
        have hne : ¬ x = c := by omega
        simp [hne]
      · have hna : ¬ (c :: r).contains a = true := by
          rw [List.contains_iff_mem]
          intro hm
          rcases List.mem_cons.1 hm with rfl | hm
          · exact e rfl
          · have := rising_lt hr.2.2 a hm; omega
        rw [if_neg hna]
        refine filter_rising d (a + 1) (c :: r) (a : Int) (by omega) (by omega) ⟨by omega, hr.2.1, hr.2.2⟩
theorem cats_rising (n : Nat) : rising (-1) (cats n) := by
  unfold cats
  rw [List.range_eq_range']
  exact rising_filter _ 64 0 (-1) (by omega) (by omega)
theorem contains_map (cs : List Nat) (i : Nat) : (cs.map (fun i : Nat => (i : Int))).contains (i : Int) = cs.contains i := by
  rw [Bool.eq_iff_iff, List.contains_iff_mem, List.contains_iff_mem, List.mem_map]
  constructor
  · rintro ⟨j, hj, he⟩
    obtain rfl : j = i := by omega
    exact hj
  · intro h; exact ⟨i, h, rfl⟩
theorem cats_of {cs : List Nat} (h : rising (-1) cs) : cats (ofBits (catsOf (cs.map (fun i : Nat => (i : Int))))) = cs := by
  unfold cats
  rw [List.range_eq_range']
  refine (List.filter_congr (fun i hi => ?_)).trans (filter_rising 64 0 cs (-1) (by omega) (by omega) h)
  have := List.mem_range'_1.1 hi
  rw [ofBits_testBit, catsOf_getD _ _ (by omega), contains_map]
theorem rdS (l : List ByteArray) (i : Nat) (h : i < l.length) : rdOf ByteArray.empty l (i : Int) = l[i] := by
  unfold rdOf; rw [Int.toNat_natCast, List.getD_eq_getElem?_getD, List.getElem?_eq_getElem h]; rfl
theorem parse_loop (ps : List (List UInt8)) (hl : ps.length ≤ 100000) : ∀ (d i : Nat) (done : List Nat) (lo : Int), i + d = ps.length →
    (∃ cs, rising lo cs ∧ ps.drop i = cs.map dig2 ∧ Ev (fun k => label_Parse.l0 k ((ofBits (catsOf (done.map (fun i : Nat => (i : Int)))) : Nat) : Int) lo (ps.map bs) ((ps.map bs).length : Int) (i : Int)) (((ofBits (catsOf ((done ++ cs).map (fun i : Nat => (i : Int)))) : Nat) : Int), 0)) ∨
    ((∀ cs, rising lo cs → ps.drop i ≠ cs.map dig2) ∧ Ev (fun k => label_Parse.l0 k ((ofBits (catsOf (done.map (fun i : Nat => (i : Int)))) : Nat) : Int) lo (ps.map bs) ((ps.map bs).length : Int) (i : Int)) (0, 5)) := by
  intro d
  induction d with
  | zero =>
    intro i done lo hi
    refine .inl ⟨[], trivial, by rw [List.drop_eq_nil_of_le (by omega)]; rfl, ?_⟩
    refine Ev.step (fun k => by simp only [label_Parse.l0]; rfl) ?_
    refine Ev.neg (by rw [List.length_map]; omega) ?_
    rw [List.append_nil]
    exact Ev.now _
  | succ d ih =>
    intro i done lo hi
    have hlt : i < ps.length := by omega
    have hrd : rdOf ByteArray.empty (ps.map bs) (i : Int) = bs ps[i] := by rw [rdS _ _ (by rw [List.length_map]; exact hlt), List.getElem_map]
    have hdrop : ps.drop i = ps[i] :: ps.drop (i + 1) := List.drop_eq_getElem_cons hlt
    have step : ∀ {x : Int} {b : Bool} {r : Int × Int}, Ev (fun k => label_category.f k (bs ps[i])) (x, b) →
        Ev (fun k => if b = true then (if x ≤ lo then some (0, 5) else (if 0 ≤ x then label_Parse.l0 k (Go.bits .or .u64 ((ofBits (catsOf (done.map (fun i : Nat => (i : Int)))) : Nat) : Int) (shl .u64 1 x)) x (ps.map bs) ((ps.map bs).length : Int) ((i + 1 : Nat) : Int) else none)) else some (0, 5)) r →
        Ev (fun k => label_Parse.l0 k ((ofBits (catsOf (done.map (fun i : Nat => (i : Int)))) : Nat) : Int) lo (ps.map bs) ((ps.map bs).length : Int) (i : Int)) r := by
      intro x b r hc hr
      refine Ev.step (fun k => by simp only [label_Parse.l0]; rfl) ?_
      refine Ev.pos (by rw [List.length_map]; omega) (Ev.pos (by omega) (Ev.pos (by rw [List.length_map]; omega) ?_))
      rw [hrd, w1' hlt (by omega)]
      exact Ev.bind hc hr
    rcases cat_ev ps[i] with ⟨c, hc, he, hev⟩ | ⟨hno, x, hev⟩
    · by_cases hle : (c : Int) ≤ lo
      · refine .inr ⟨fun cs hr h => ?_, step hev (Ev.pos rfl (Ev.pos hle (Ev.now _)))⟩
        rw [hdrop, he] at h
        cases cs with
        | nil => cases h
        | cons q r =>
          rw [List.map_cons] at h
          injection h with h _
          have hq := hr.2.1
          have : c = q := by
            by_cases h10 : c < 10
            · have e : dig2 c = [UInt8.ofNat (48 + c)] := by unfold dig2; rw [if_pos h10]
              rw [e] at h
              have := dig2_one hq h
              rw [ofNat_toNat _ (by omega)] at this
              omega
            · have e : dig2 c = [UInt8.ofNat (48 + c / 10), UInt8.ofNat (48 + c % 10)] := by unfold dig2; rw [if_neg h10]
              rw [e] at h
              have := dig2_two hq h
              rw [ofNat_toNat _ (by omega), ofNat_toNat _ (by omega)] at this
              omega
          have := hr.1
          omega
      · have hacc : Go.bits .or .u64 ((ofBits (catsOf (done.map (fun i : Nat => (i : Int)))) : Nat) : Int) (shl .u64 1 (c : Int)) = ((ofBits (catsOf ((done ++ [c]).map (fun i : Nat => (i : Int)))) : Nat) : Int) := by
          rw [or_shl _ c hc, List.map_append]; rfl
        rcases ih (i + 1) (done ++ [c]) (c : Int) (by omega) with ⟨cs, hr, hd, hev2⟩ | ⟨hno, hev2⟩
        · refine .inl ⟨c :: cs, ⟨by omega, hc, hr⟩, by rw [hdrop, he, hd]; rfl, step hev (Ev.pos rfl (Ev.neg hle (Ev.pos (by omega) ?_)))⟩
          rw [hacc, show done ++ c :: cs = (done ++ [c]) ++ cs by simp]
          exact hev2
        · refine .inr ⟨fun cs hr h => ?_, step hev (Ev.pos rfl (Ev.neg hle (Ev.pos (by omega) ?_)))⟩
          · rw [hdrop, he] at h
            cases cs with
            | nil => cases h
            | cons q r =>
              rw [List.map_cons] at h
              injection h with h h2
              have hq := hr.2.1
              have : c = q := by
                by_cases h10 : c < 10
                · have e : dig2 c = [UInt8.ofNat (48 + c)] := by unfold dig2; rw [if_pos h10]
                  rw [e] at h
                  have := dig2_one hq h
                  rw [ofNat_toNat _ (by omega)] at this
                  omega
                · have e : dig2 c = [UInt8.ofNat (48 + c / 10), UInt8.ofNat (48 + c % 10)] := by unfold dig2; rw [if_neg h10]
                  rw [e] at h
                  have := dig2_two hq h
                  rw [ofNat_toNat _ (by omega), ofNat_toNat _ (by omega)] at this
                  omega
              subst this
              exact hno r hr.2.2 h2
          · rw [hacc]
            exact hev2
    · refine .inr ⟨fun cs hr h => ?_, step hev (Ev.neg (by simp) (Ev.now _))⟩
      rw [hdrop] at h
      cases cs with
      | nil => cases h
      | cons q r =>
        rw [List.map_cons] at h
        injection h with h _
        exact hno q hr.2.1 h
theorem sp_len (l : List UInt8) : (sp l).length ≤ l.length + 1 := by
  induction l with
  | nil => simp [sp]
  | cons x r ih =>
    unfold sp
    split
    · simp only [List.length_cons]; omega
    · split <;> (rename_i h; rw [h] at ih; simp only [List.length_cons] at ih ⊢; omega)
theorem parse_ev (s : ByteArray) (hs : s.size ≤ 4096) : (∃ n, IsText s n ∧ Ev (fun k => label_Parse.f k s) ((n : Int), 0)) ∨ ((∀ n, ¬ IsText s n) ∧ Ev (fun k => label_Parse.f k s) (0, 5)) := by
  unfold label_Parse.f
  by_cases h45 : s.toList = ([45] : List UInt8)
  · refine .inl ⟨0, ⟨by decide, ?_⟩, Ev.pos h45 (Ev.now _)⟩
    rw [cats_zero]
    exact toList_inj (by rw [h45]; exact (bs_toList _).symm)
  · have hsl : s.data.toList.length = s.size := (Lib.size_eq s).symm
    have hln := sp_len s.data.toList
    rcases parse_loop (sp s.data.toList) (by omega) (sp s.data.toList).length 0 [] (-1) (by omega) with ⟨cs, hr, hd, hev⟩ | ⟨hno, hev⟩
    · rw [List.drop_zero] at hd
      refine .inl ⟨ofBits (catsOf (cs.map (fun i : Nat => (i : Int)))), ⟨ofBits_u64 _ (catsOf_len _), ?_⟩, Ev.neg h45 ?_⟩
      · rw [cats_of hr]
        cases cs with
        | nil => exact absurd hd (sp_ne _)
        | cons c r =>
          have := un_sp s.data.toList
          rw [hd, un_text] at this
          rw [show textOf (c :: r) = dig2 c ++ tailD r from rfl, this, bs_of]
      · rw [split_ev s hs]
        refine Ev.bind (Ev.now _) ?_
        rw [List.nil_append, List.map_nil, ofBits_none] at hev
        exact hev
    · refine .inr ⟨fun n ⟨hn, hst⟩ => ?_, Ev.neg h45 ?_⟩
      · cases hc : cats n with
        | nil =>
          rw [hc] at hst
          exact h45 (by rw [hst]; exact bs_toList _)
        | cons c r =>
          have hlt : ∀ x ∈ c :: r, x < 64 := fun x hx => cats_lt n x (by rw [hc]; exact hx)
          refine hno (cats n) (cats_rising n) ?_
          rw [List.drop_zero, hst, hc, bs_data]
          exact sp_text r c hlt
      · rw [split_ev s hs]
        refine Ev.bind (Ev.now _) ?_
        rw [List.map_nil, ofBits_none] at hev
        exact hev
end Go.Proofs.YthlgilepfbehaaaDoor.PB
end

section
namespace Go.Proofs.YthlgilepfbehaaaDoor.PB
open Go.RowKit Go.Proofs.YthlgilepfbehaaaDoorW.PrintWords
set_option linter.unusedVariables false
theorem isText_inj {s : ByteArray} {m n : Nat} (h : IsText s m) (k : IsText s n) : m = n :=
  text_inj h.1 k.1 (bs_inj (h.2.symm.trans k.2))
theorem LabelBack_pure (a0 a1 : Int) (w0 : (Lit.int .u64 a0).wf = true) (w1 : (Lit.int .u64 a1).wf = true) : ∃ k, bureaulaw01_LabelBack.f k a0 a1 = some true := by
  obtain ⟨a, rfl, ha⟩ := nat_of (wf_u64 w0)
  obtain ⟨b, rfl, hb⟩ := nat_of (wf_u64 w1)
  refine Ev.rounds (g := fun k => bureaulaw01_LabelBack.f k a b) ?_
  unfold bureaulaw01_LabelBack.f
  refine Ev.bind alive1_ev (Ev.pos rfl ?_)
  refine Ev.bind (print_ev a ha) ?_
  have hsz : (bs (textOf (cats a))).size ≤ 4096 := by
    have := textOf_len (cats a)
    have := cats_len a
    rw [bs_size]; omega
  have hp : Ev (fun k => label_Parse.f k (bs (textOf (cats a)))) ((a : Int), 0) := by
    rcases parse_ev (bs (textOf (cats a))) hsz with ⟨m, hm, hev⟩ | ⟨hno, hev⟩
    · obtain rfl := isText_inj ⟨ha, rfl⟩ hm
      exact hev
    · exact absurd ⟨ha, rfl⟩ (hno a)
  refine Ev.bind hp (Ev.bind (a := catsTo a 64) (by unfold label_Cats.f; rw [if_pos (by omega), Int.toNat_natCast]; exact Ev.now _) (Ev.bind (of_ev (catsTo a 64) (Nat.le_trans (catsTo_len _ _) (by decide))) ?_))
  rw [of_cats a ha]
  refine Ev.pos rfl (Ev.pos rfl (Ev.pos rfl (Ev.pos rfl ?_)))
  refine Ev.bind (print_ev a ha) (Ev.bind (print_ev b hb) (ev_val (Ev.now _) ?_))
  rw [bs_toList, bs_toList, beq_iff_eq, Bool.eq_iff_iff, beq_iff_eq, beq_iff_eq]
  constructor
  · intro h; rw [text_inj ha hb h]
  · intro h
    have : a = b := by omega
    rw [this]
end Go.Proofs.YthlgilepfbehaaaDoor.PB
end

section
namespace Go.Proofs.YthlgilepfbehaaaDoor.labelBack
open Go.ChangeShapes Go.WideShapes Go.ChangeAt Go.RowKit
open Go.ChangeMaps (open_string shut_string)
set_option linter.unusedVariables false
theorem own : ownKnob Tryd.prog.godebug = none := by kernel_rfl
set_option maxRecDepth 100000 in
theorem lifted (os : Os) (started : os.Started) (H : Type) (enc : TypeId × Value → H) :
    ReturnsInHanded {} Tryd.checked os 9 .any (fun w args => (Rows.labelBackSpec.pre enc Tryd.prog Tryd.f9 [] false w args ∧ laidMetH Tryd.prog Rows.labelBackRow.laid w) ∧ sizedMet enc Tryd.prog Tryd.f9 (OpenSpec.ofChange Rows.labelBackSpec) false w args) (Rows.labelBackSpec.post enc Tryd.prog Tryd.f9 false true false false) := by
  refine returnsInHanded_of_change_and (C := Tryd.checked) (X := fun w _ => laidMetH Tryd.prog Rows.labelBackRow.laid w) (fun _ _ _ hh h => h.of_heap hh) own started (by kernel_rfl) Tryd.func9
    (ChangeSpec.witness_shaped (enc := enc) (C := Tryd.checked) (os := os) (X := fun w _ => laidMetH Tryd.prog Rows.labelBackRow.laid w) false (World.laidAll Tryd.prog os Rows.labelBackRow.laid) #[.int .u64 0, .int .u64 0] 8 (World.laidAll_os _ _ _) (World.shaped_of_ZipB (by kernel_rfl) (by kernel_rfl)) (by kernel_rfl) (by kernel_rfl) (by kernel_rfl) (by rw [MakeChecks.laidMetH_plain _ _ _ (by kernel_rfl)]; exact laidMet_laidAll _ (by kernel_rfl) (by kernel_rfl))) ?_
  intro W base args ds gs before hval0 hW hcnd hsz0 _ _
  have hsz : (DataW.weightsEach Tryd.prog (Tryd.f9.params.toList ++ Rows.labelBackSpec.plain.varTypes Tryd.prog) (ds ++ gs)).all (· ≤ reachBytes) = true := hsz0
  have hval : ∀ (j : Nat) t v, Tryd.f9.params[j]? = some t → args[j]? = some v → Value.okWide Tryd.prog W .any base t v := hval0
  have hW' := hW
  obtain ⟨p, q, hA0, hV, rfl, hfz, hnd⟩ := hW
  have hA : DataW.TrodAll enc Tryd.prog W 0 (fun _ => true) true Tryd.f9.params.toList args.toList ds p := hA0
  rw [Tryd.params9] at hA hval hsz
  obtain ⟨v0, vs0, d0, ds0, p0, q0, hargs, rfl, rfl, h0, r0⟩ := trodAll_cons hA
  obtain ⟨v1, vs1, d1, ds1, p1, q1, rfl, rfl, rfl, h1, r1⟩ := trodAll_cons r0
  obtain ⟨rfl, rfl, rfl⟩ := trodAll_nil r1
  obtain rfl : args = #[v0, v1] := by cases args; simp_all
  obtain ⟨rfl, rfl⟩ := trodVars_none hV
  obtain ⟨a0, rfl, rfl, rfl, w0⟩ := open_int Tryd.underlying24 (hval 0 24 v0 rfl rfl) h0
  obtain ⟨a1, rfl, rfl, rfl, w1⟩ := open_int Tryd.underlying24 (hval 1 24 v1 rfl rfl) h1
  clear hA0 hval0 hsz0 hsz
  refine (PB.bureaulaw01_LabelBack.walk PB.LabelBack_pure a0 a1 W w0 w1).mono fun e W' ⟨he, bel⟩ => ?_
  subst he
  exact ⟨_, rfl, _, _, _, [], _, [], hW', trodAll_mk1 (shut_bool Tryd.underlying4 _), (trodAll_cons_mk (shut_int Tryd.underlying24 w0) (trodAll_cons_mk (shut_int Tryd.underlying24 w1) trodAll_mk0)), rfl, bel.frame _, fun h => by cases h⟩
theorem over : Rows.labelBackRow.holds Tryd.pinned (OpenSpec.ofChange Rows.labelBackSpec) :=
  OpenClaim.holds_of_wide 9 Tryd.f9 rfl rfl rfl rfl rfl rfl rfl ⟨rfl, rfl, rfl, rfl, rfl⟩ rfl rfl rfl rfl rfl (by kernel_rfl) Tryd.func9 (by kernel_rfl)
    (of_decide_eq_true (by kernel_rfl)) (by unfold Func.isWrapper; first | (rw [if_pos (by decide +kernel)]; kernel_rfl) | (rw [if_neg (by decide +kernel)]; exact ⟨rfl, rfl⟩))
    (fun os started H enc _ => lifted os started H enc)
theorem proved : Rows.LabelBackSaid := over
end Go.Proofs.YthlgilepfbehaaaDoor.labelBack
namespace Go.Proofs.YthlgilepfbehaaaDoor
theorem labelBack_holds : Rows.LabelBackSaid := labelBack.proved
theorem labelBack_card : Rows.LabelBackCardSaid :=
  Claim7.holds_tied_plain_at .later [] [.data, .data, .data, .data, .pinned] true (true, "119a35d42e2822f6dc9c10cf91d21c45e1fe9602046be8fcb0894747f482489b") false
    labelBack_holds (fun _ h => by cases h) (by kernel_rfl) (fun _ h => by cases h) labelBack_row_tie rfl ⟨rfl, rfl⟩ (by kernel_rfl) rfl
    (fun f fn hf hfn => by
      obtain rfl : f = 9 := Option.some.inj ((show Tryd.prog.funcNamed Rows.labelBackRow.func = some 9 by kernel_rfl).symm.trans hf) |>.symm
      obtain rfl : fn = Tryd.f9 := (Option.some.inj (Tryd.func9.symm.trans hfn)).symm
      exact ⟨by kernel_rfl, fun j t ht => by
        rw [Tryd.params9] at ht
        have hm : t ∈ [24, 24] := by simpa using Array.mem_of_getElem? ht
        have hall : ([24, 24].all fun u => !Tryd.prog.wantsStandIn u) = true := by kernel_rfl
        exact (show Tryd.prog.wantsStandIn t = false by simpa using List.all_eq_true.1 hall t hm)⟩)
    (by kernel_rfl)
#print axioms labelBack_card
end Go.Proofs.YthlgilepfbehaaaDoor
end
