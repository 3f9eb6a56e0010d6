/- What the row hangs on, part 5. -/
import Derived.Deep.MidRow
import Derived.Laws.BitsAllLaws
import Derived.Test.YtnbdldpjiofafaaQSubstDoes4
section
namespace Go.Proofs.Ytnbdldpjiofafaa.PB
open Go.RowKit Go.Proofs.YtnbdldpjiofafaaW.PrintWords Go.Proofs.YtnbdldpjiofafaaW.PrintLast Go.Proofs.YtnbdldpjiofafaaW.PrintMore
attribute [local go_sem] max2_int min2_int max_two min_two max_three min_three max_four min_four   
set_option linter.unusedVariables false
set_option linter.unusedSimpArgs false
mutual
def bureauref03_Bytes.l0 : Nat → List (S51) → List Int → Int → Option (List Int)
 | 0, _, _, _ => none
 | k + 1, x0, x3, x4 => if x4 < (x0.length : Int) then (bureauref03_Bytes.l1 k x0 x3 x4 0) else (some x3)
def bureauref03_Bytes.l1 : Nat → List (S51) → List Int → Int → Int → Option (List Int)
 | 0, _, _, _, _ => none
 | k + 1, x0, x3, x4, x5 => if 0 ≤ x4 then (if x4 < (x0.length : Int) then (if x5 < ((rd_T51 x0 x4).f1) then (if x3.length < 17592186044416 then (bureauref03_Bytes.l1 k x0 (x3 ++ [(rd_T51 x0 x4).f0]) x4 (wrap64 (x5 + 1))) else (none)) else (bureauref03_Bytes.l0 k x0 x3 (wrap64 (x4 + 1)))) else (none)) else (none)
end
def bureauref03_Bytes.f (k : Nat) (l0 : List (S51)) : Option (List Int) := bureauref03_Bytes.l0 k l0 ([] : List Int) 0
set_option maxHeartbeats 8000000 in
set_option maxRecDepth 100000 in
theorem bureauref03_Bytes.calls (k : Nat) (A0 : Option Addr) (c0 : Nat) (l0 : List (S51)) (r : List Int) (w : World) (hr0 : Kd.C k51 w A0 l0.length l0) (hc0 : l0.length ≤ c0) (h : bureauref03_Bytes.f k l0 = some r) :
  Calls Try.prog 40 #[.slice A0 l0.length c0] w fun e w' => ∃ v0_ : Value, e = .returned (v0_) ∧ Kd.R (Kd.int .u64) 26 w' w.heap.size (fun _ => True) v0_ r ∧ Below w.heap.size w w' := by
 have HR0 := aM hr0
 have HC0 := aM hc0
 clear hr0 hc0
 have HB := aM (Below.refl w.heap.size w)
 have H : (bureauref03_Bytes.l0 k l0 ([] : List Int) 0) = some r := h
 clear h
 have H' := aM H
 clear H
 go_enter Try.func40, Try.ntmps40
 go_wp2
 go_loopg [3, 4] k (fun kq v3 v4 w' => ∃ (x3_1 : List Int) (x4_1 : Int), v4 = .int .i64 x4_1 ∧ Aside0 (bureauref03_Bytes.l0 kq l0 x3_1 x4_1 = some r) ∧ Aside0 (kq ≤ k) ∧ Aside0 (Kd.R (Kd.int .u64) 26 w' w.heap.size (fun _ => True) v3 x3_1) ∧ Aside0 (Below w.heap.size w w'))
 case atStart => exact ⟨(([] : List Int)), (0), (by first | rfl | (simp; done) | (simp [*]; done)), H', ⟨Nat.le_refl _⟩, ⟨by first | exact Kd.R_nil _ _ _ _ _ | exact Kd.N_nil _ _ _ _ _ | exact Kd.V_nil _ _ _ _ _ | exact Kd.Q_nil _ _ _ _ _ | exact Kd.S_nil _ _ _ _ _⟩, ⟨by exact ey HB.out⟩⟩
 case round =>
  clear H'
  obtain ⟨x3_1, x4_1, rfl, HA, HK1, HO_3, HB⟩ := hrel
  cases gk with
  | zero => exact absurd HA.out (by simp [bureauref03_Bytes.l0])
  | succ k1 =>
   have H := HA.out
   clear HA
   simp only [bureauref03_Bytes.l0] at H
   by_cases c2 : x4_1 < (l0.length : Int)
   ·rw [if_pos c2] at H
    have c2b0 : decide (x4_1 < (l0.length : Int)) = true := decide_eq_true c2
    clear c2
    have H' := aM H
    clear H
    go_wp2
    go_loopg [3, 5] k1 (fun kq v3 v5 w' => ∃ (x3_2 : List Int) (x5_2 : Int), v5 = .int .i64 x5_2 ∧ Aside0 (bureauref03_Bytes.l1 kq l0 x3_2 x4_1 x5_2 = some r) ∧ Aside0 (kq ≤ k1) ∧ Aside0 (Kd.R (Kd.int .u64) 26 w' w.heap.size (fun _ => True) v3 x3_2) ∧ Aside0 (Below w.heap.size w w'))
    case atStart => exact ⟨(x3_1), (0), (by first | rfl | (simp; done) | (simp [*]; done)), H', ⟨Nat.le_refl _⟩, ⟨by exact ry HO_3.out⟩, ⟨by exact ey HB.out⟩⟩
    case round =>
     clear H'
     try clear c2
     try clear c2b0
     try clear p2
     obtain ⟨x3_2, x5_2, rfl, HA, HK2, HO_3, HB⟩ := hrel
     cases gk with
     | zero => exact absurd HA.out (by simp [bureauref03_Bytes.l1])
     | succ k2 =>
      have H := HA.out
      clear HA
      simp only [bureauref03_Bytes.l1] at H
      by_cases c3 : 0 ≤ x4_1
      ·rw [if_pos c3] at H
       have c3b0 : decide (0 ≤ x4_1) = true := decide_eq_true c3
       clear c3
       by_cases c4 : x4_1 < (l0.length : Int)
       ·rw [if_pos c4] at H
        have c4b0 : decide (x4_1 < (l0.length : Int)) = true := decide_eq_true c4
        clear c4
        by_cases c5 : x5_2 < ((rd_T51 l0 x4_1).f1)
        ·rw [if_pos c5] at H
         have c5b0 : decide (x5_2 < ((rd_T51 l0 x4_1).f1)) = true := decide_eq_true c5
         clear c5
         by_cases c6 : x3_2.length < 17592186044416
         ·rw [if_pos c6] at H
          have LMc6 := aM c6
          clear c6
          obtain ⟨y280, hy280⟩ : ∃ y_ : List Int, y_ = (x3_2 ++ [(rd_T51 l0 x4_1).f0]) := ⟨_, rfl⟩
          replace H : (bureauref03_Bytes.l1 k2 l0 y280 x4_1 (wrap64 (x5_2 + 1))) = some r := by first | (rw [hy280]; with_reducible exact H) | (have H2_ := (Option.bind_some _ _).symm.trans H; rw [hy280]; with_reducible exact H2_) | (have H2_ := (Option.bind_some _ _).symm.trans H; with_reducible exact H2_) | with_reducible exact H | (rw [hy280]; exact H) | exact H
          have Ny280 := aM hy280
          clear hy280
          have H' := aM H
          clear H
          have p278 : 0 ≤ (x4_1 : Int) := of_decide_eq_true (by first | (with_reducible assumption) | assumption)
          have q278 : x4_1 < (l0.length : Int) := of_decide_eq_true (by first | (with_reducible assumption) | assumption)
          obtain ⟨ad278, e278, hx278_0, hx278_1⟩ := at_T51 HR0.out x4_1 p278 q278
          cases e278
          replace hx278_0 := (HB.out.cell (World.block_lt_of_cell? w _ hx278_0)).trans hx278_0
          replace hx278_1 := (HB.out.cell (World.block_lt_of_cell? w _ hx278_1)).trans hx278_1
          replace p278 := eq_true p278
          replace q278 := eq_true q278
          have p279 : 0 ≤ (x4_1 : Int) := of_decide_eq_true (by first | (with_reducible assumption) | assumption)
          have q279 : x4_1 < (l0.length : Int) := of_decide_eq_true (by first | (with_reducible assumption) | assumption)
          obtain ⟨ad279, e279, hx279_0, hx279_1⟩ := at_T51 HR0.out x4_1 p279 q279
          obtain rfl : ad278 = ad279 := (by injection e279)
          replace hx279_0 := (HB.out.cell (World.block_lt_of_cell? w _ hx279_0)).trans hx279_0
          replace hx279_1 := (HB.out.cell (World.block_lt_of_cell? w _ hx279_1)).trans hx279_1
          replace p279 := eq_true p279
          replace q279 := eq_true q279
          go_wp2_with (first | ((with_reducible refine gate_builtin (b := .append) (xs := #[.tmp 21, .tmp 27]) rfl ?_); at_builtin; refine Kd.R_append (Kd.int .u64) (w0 := w) w.heap.size rfl (.tmp 21) (.tmp 27) 80 26 (.int .u64 0) 8 rfl Try.underlying80 info26 rfl (by decide) (by omega) u3 x3_2 ((rd_T51 l0 x4_1).f0) [.int .u64 ((rd_T51 l0 x4_1).f0)] (fun _ => True) (fun _ => False) rfl rfl ?aP (fun _ hk => hk.elim) ?aF ?aO ?aB ?aS ?aL ?_; (case aP => exact rfl); (case aB => exact (ey HB.out)); (case aF => exact (fun _ _ => trivial)); (case aO => exact (ry HO_3.out)); (case aS => exact (bZ (ey HB.out))); (case aL => have := LMc6.out; omega); intro v281 w7 ho hb hg hat; rw [← Ny280.out] at ho; have n0_ := aM (hb); have n1_ := aM (ho); clear HB HO_3; have HB := n0_; have HO282 := n1_; clear n0_ n1_; clear ho hb hg hat))
          go_roundg k2
          case measure => have := HK1.out; have := HK2.out; omega
          case rel => exact ⟨(y280), (wrap64 (x5_2 + 1)), (by first | rfl | (simp; done) | (simp [*]; done)), H', ⟨by have := HK1.out; have := HK2.out; omega⟩, ⟨by exact ry HO282.out⟩, ⟨by exact ey HB.out⟩⟩
         ·rw [if_neg c6] at H
          exact absurd H (by simp)
        ·rw [if_neg c5] at H
         have c5b0 : decide (x5_2 < ((rd_T51 l0 x4_1).f1)) = false := decide_eq_false c5
         clear c5
         have H' := aM H
         clear H
         have p278 : 0 ≤ (x4_1 : Int) := of_decide_eq_true (by first | (with_reducible assumption) | assumption)
         have q278 : x4_1 < (l0.length : Int) := of_decide_eq_true (by first | (with_reducible assumption) | assumption)
         obtain ⟨ad278, e278, hx278_0, hx278_1⟩ := at_T51 HR0.out x4_1 p278 q278
         cases e278
         replace hx278_0 := (HB.out.cell (World.block_lt_of_cell? w _ hx278_0)).trans hx278_0
         replace hx278_1 := (HB.out.cell (World.block_lt_of_cell? w _ hx278_1)).trans hx278_1
         replace p278 := eq_true p278
         replace q278 := eq_true q278
         go_wp2
         go_roundg k2
         case measure => have := HK1.out; have := HK2.out; omega
         case rel => exact ⟨(x3_2), (wrap64 (x4_1 + 1)), (by first | rfl | (simp; done) | (simp [*]; done)), H', ⟨by have := HK1.out; have := HK2.out; omega⟩, ⟨by exact ry HO_3.out⟩, ⟨by exact ey HB.out⟩⟩
       ·rw [if_neg c4] at H
        exact absurd H (by simp)
      ·rw [if_neg c3] at H
       exact absurd H (by simp)
   ·rw [if_neg c2] at H
    have c2b0 : decide (x4_1 < (l0.length : Int)) = false := decide_eq_false c2
    clear c2
    obtain rfl := Option.some.inj H
    go_wp2
    go_ret
    exact ⟨_, by first | rfl | (simp [errW_none, errW_some] <;> rfl) | (simp [*, errW_none, errW_some] <;> rfl), by exact ry HO_3.out, by exact ey HB.out⟩
end Go.Proofs.Ytnbdldpjiofafaa.PB
end

section
namespace Go.Proofs.Ytnbdldpjiofafaa.PB
open Go.RowKit Go.Proofs.YtnbdldpjiofafaaW.PrintWords Go.Proofs.YtnbdldpjiofafaaW.PrintLast Go.Proofs.YtnbdldpjiofafaaW.PrintMore
attribute [local go_sem] max2_int min2_int max_two min_two max_three min_three max_four min_four   
set_option linter.unusedVariables false
set_option linter.unusedSimpArgs false
def bureauref03_Total.l0 : Nat → List (S51) → Int → Int → Option (Int)
 | 0, _, _, _ => none
 | k + 1, x0, x3, x4 => if x4 < (x0.length : Int) then (if 0 ≤ x4 then (if ((rd_T51 x0 x4).f1) > (wrap64 (4096 - x3)) then (some 4097) else (if ((rd_T51 x0 x4).f1) > 0 then (bureauref03_Total.l0 k x0 (wrap64 (x3 + ((rd_T51 x0 x4).f1))) (wrap64 (x4 + 1))) else (bureauref03_Total.l0 k x0 x3 (wrap64 (x4 + 1))))) else (none)) else (some x3)
def bureauref03_Total.f (k : Nat) (l0 : List (S51)) : Option (Int) := bureauref03_Total.l0 k l0 0 0
set_option maxHeartbeats 8000000 in
set_option maxRecDepth 100000 in
theorem bureauref03_Total.calls (k : Nat) (A0 : Option Addr) (c0 : Nat) (l0 : List (S51)) (r : Int) (w : World) (hr0 : Kd.C k51 w A0 l0.length l0) (hc0 : l0.length ≤ c0) (h : bureauref03_Total.f k l0 = some r) :
  Calls Try.prog 61 #[.slice A0 l0.length c0] w fun e w' => e = .returned (.int .i64 r) ∧ Drawn0 w w' := by
 have HR0 := aM hr0
 have HC0 := aM hc0
 clear hr0 hc0
 have H : (bureauref03_Total.l0 k l0 0 0) = some r := h
 clear h
 have H' := aM H
 clear H
 go_enter Try.func61, Try.ntmps61
 go_wp2
 go_loopg [3, 4] k (fun kq v3 v4 w' => ∃ (x3_1 : Int) (x4_1 : Int), v3 = .int .i64 x3_1 ∧ v4 = .int .i64 x4_1 ∧ Aside0 (bureauref03_Total.l0 kq l0 x3_1 x4_1 = some r) ∧ Aside0 (kq ≤ k) ∧ Drawn0 w w')
 case atStart => exact ⟨(0), (0), (by first | rfl | (simp; done) | (simp [*]; done)), (by first | rfl | (simp; done) | (simp [*]; done)), H', ⟨Nat.le_refl _⟩, by repeat (first | exact Drawn0.refl _ | apply Drawn0.step)⟩
 case round =>
  clear H'
  obtain ⟨x3_1, x4_1, rfl, rfl, HA, HK1, ⟨m1, rfl⟩⟩ := hrel
  cases gk with
  | zero => exact absurd HA.out (by simp [bureauref03_Total.l0])
  | succ k1 =>
   have H := HA.out
   clear HA
   simp only [bureauref03_Total.l0] at H
   by_cases c2 : x4_1 < (l0.length : Int)
   ·rw [if_pos c2] at H
    have c2b0 : decide (x4_1 < (l0.length : Int)) = true := decide_eq_true c2
    clear c2
    by_cases c3 : 0 ≤ x4_1
    ·rw [if_pos c3] at H
     have c3b0 : decide (0 ≤ x4_1) = true := decide_eq_true c3
     clear c3
     by_cases c4 : ((rd_T51 l0 x4_1).f1) > (wrap64 (4096 - x3_1))
     ·rw [if_pos c4] at H
      have c4b0 : decide ((wrap64 (4096 - x3_1)) < ((rd_T51 l0 x4_1).f1)) = true := decide_eq_true c4
      clear c4
      obtain rfl := Option.some.inj H
      have p297 : 0 ≤ (x4_1 : Int) := of_decide_eq_true (by first | (with_reducible assumption) | assumption)
      have q297 : x4_1 < (l0.length : Int) := of_decide_eq_true (by first | (with_reducible assumption) | assumption)
      obtain ⟨ad297, e297, hx297_0, hx297_1⟩ := at_T51 HR0.out x4_1 p297 q297
      cases e297
      replace p297 := eq_true p297
      replace q297 := eq_true q297
      go_wp2
      go_ret
      exact ⟨by first | rfl | (simp; done) | (simp [*]; done), by repeat (first | exact Drawn0.refl _ | apply Drawn0.step)⟩
     ·rw [if_neg c4] at H
      have c4b0 : decide ((wrap64 (4096 - x3_1)) < ((rd_T51 l0 x4_1).f1)) = false := decide_eq_false c4
      clear c4
      by_cases c5 : ((rd_T51 l0 x4_1).f1) > 0
      ·rw [if_pos c5] at H
       have c5b0 : decide (0 < ((rd_T51 l0 x4_1).f1)) = true := decide_eq_true c5
       clear c5
       have H' := aM H
       clear H
       have p297 : 0 ≤ (x4_1 : Int) := of_decide_eq_true (by first | (with_reducible assumption) | assumption)
       have q297 : x4_1 < (l0.length : Int) := of_decide_eq_true (by first | (with_reducible assumption) | assumption)
       obtain ⟨ad297, e297, hx297_0, hx297_1⟩ := at_T51 HR0.out x4_1 p297 q297
       cases e297
       replace p297 := eq_true p297
       replace q297 := eq_true q297
       have p298 : 0 ≤ (x4_1 : Int) := of_decide_eq_true (by first | (with_reducible assumption) | assumption)
       have q298 : x4_1 < (l0.length : Int) := of_decide_eq_true (by first | (with_reducible assumption) | assumption)
       obtain ⟨ad298, e298, hx298_0, hx298_1⟩ := at_T51 HR0.out x4_1 p298 q298
       obtain rfl : ad297 = ad298 := (by injection e298)
       replace p298 := eq_true p298
       replace q298 := eq_true q298
       have p299 : 0 ≤ (x4_1 : Int) := of_decide_eq_true (by first | (with_reducible assumption) | assumption)
       have q299 : x4_1 < (l0.length : Int) := of_decide_eq_true (by first | (with_reducible assumption) | assumption)
       obtain ⟨ad299, e299, hx299_0, hx299_1⟩ := at_T51 HR0.out x4_1 p299 q299
       obtain rfl : ad297 = ad299 := (by injection e299)
       replace p299 := eq_true p299
       replace q299 := eq_true q299
       go_wp2
       go_roundg k1
       case measure => have := HK1.out; omega
       case rel => exact ⟨(wrap64 (x3_1 + ((rd_T51 l0 x4_1).f1))), (wrap64 (x4_1 + 1)), (by first | rfl | (simp; done) | (simp [*]; done)), (by first | rfl | (simp; done) | (simp [*]; done)), H', ⟨by have := HK1.out; omega⟩, by repeat (first | exact Drawn0.refl _ | apply Drawn0.step)⟩
      ·rw [if_neg c5] at H
       have c5b0 : decide (0 < ((rd_T51 l0 x4_1).f1)) = false := decide_eq_false c5
       clear c5
       have H' := aM H
       clear H
       have p297 : 0 ≤ (x4_1 : Int) := of_decide_eq_true (by first | (with_reducible assumption) | assumption)
       have q297 : x4_1 < (l0.length : Int) := of_decide_eq_true (by first | (with_reducible assumption) | assumption)
       obtain ⟨ad297, e297, hx297_0, hx297_1⟩ := at_T51 HR0.out x4_1 p297 q297
       cases e297
       replace p297 := eq_true p297
       replace q297 := eq_true q297
       have p298 : 0 ≤ (x4_1 : Int) := of_decide_eq_true (by first | (with_reducible assumption) | assumption)
       have q298 : x4_1 < (l0.length : Int) := of_decide_eq_true (by first | (with_reducible assumption) | assumption)
       obtain ⟨ad298, e298, hx298_0, hx298_1⟩ := at_T51 HR0.out x4_1 p298 q298
       obtain rfl : ad297 = ad298 := (by injection e298)
       replace p298 := eq_true p298
       replace q298 := eq_true q298
       go_wp2
       go_roundg k1
       case measure => have := HK1.out; omega
       case rel => exact ⟨(x3_1), (wrap64 (x4_1 + 1)), (by first | rfl | (simp; done) | (simp [*]; done)), (by first | rfl | (simp; done) | (simp [*]; done)), H', ⟨by have := HK1.out; omega⟩, by repeat (first | exact Drawn0.refl _ | apply Drawn0.step)⟩
    ·rw [if_neg c3] at H
     exact absurd H (by simp)
   ·rw [if_neg c2] at H
    have c2b0 : decide (x4_1 < (l0.length : Int)) = false := decide_eq_false c2
    clear c2
    obtain rfl := Option.some.inj H
    go_wp2
    go_ret
    exact ⟨by first | rfl | (simp; done) | (simp [*]; done), by repeat (first | exact Drawn0.refl _ | apply Drawn0.step)⟩
end Go.Proofs.Ytnbdldpjiofafaa.PB
end

section
namespace Go.Proofs.Ytnbdldpjiofafaa.PB
open Go.RowKit Go.Proofs.YtnbdldpjiofafaaW.PrintWords Go.Proofs.YtnbdldpjiofafaaW.PrintLast Go.Proofs.YtnbdldpjiofafaaW.PrintMore
attribute [local go_sem] max2_int min2_int max_two min_two max_three min_three max_four min_four   
set_option linter.unusedVariables false
set_option linter.unusedSimpArgs false
def bureauref03_Good.f (k : Nat) (l0 : List (S51)) : Option (Bool) := (bureauref03_Total.f k l0).bind fun t300 => (if t300 > 4096 then (some false) else ((bureauref03_Bytes.f k l0).bind fun t301 => ((bureauref03_Pack.f k t301).bind fun t304 => ((bureauref03_Same.f k l0 t304).bind fun t307 => (some t307)))))
set_option maxHeartbeats 8000000 in
set_option maxRecDepth 100000 in
theorem bureauref03_Good.calls (k : Nat) (A0 : Option Addr) (c0 : Nat) (l0 : List (S51)) (r : Bool) (w : World) (hr0 : Kd.C k51 w A0 l0.length l0) (hc0 : l0.length ≤ c0) (h : bureauref03_Good.f k l0 = some r) :
  Calls Try.prog 60 #[.slice A0 l0.length c0] w fun e w' => e = .returned (.bool r) ∧ Below w.heap.size w w' := by
 have HR0 := aM hr0
 have HC0 := aM hc0
 clear hr0 hc0
 have HB := aM (Below.refl w.heap.size w)
 have H : ((bureauref03_Total.f k l0).bind fun t300 => (if t300 > 4096 then (some false) else ((bureauref03_Bytes.f k l0).bind fun t301 => ((bureauref03_Pack.f k t301).bind fun t304 => ((bureauref03_Same.f k l0 t304).bind fun t307 => (some t307)))))) = some r := h
 clear h
 replace H := Option.bind_eq_some_iff.mp H
 obtain ⟨t300, A20, H⟩ := H
 replace H : (if t300 > 4096 then (some false) else ((bureauref03_Bytes.f k l0).bind fun t301 => ((bureauref03_Pack.f k t301).bind fun t304 => ((bureauref03_Same.f k l0 t304).bind fun t307 => (some t307))))) = some r := H
 have A2 := aM A20
 clear A20
 by_cases c3 : t300 > 4096
 ·rw [if_pos c3] at H
  have c3b0 : decide (4096 < t300) = true := decide_eq_true c3
  clear c3
  obtain rfl := Option.some.inj H
  go_enter Try.func60, Try.ntmps60
  go_wp2_with (first | ((with_reducible refine gate_callee (f := 61) rfl ?_); refine goesL_ (some 4) rfl rfl Try.func61 (by kernel_rfl) rfl #[.slice A0 l0.length c0] rfl (by (try simp only [mT, mC, mN]); first | done | rfl | (simp only [lD, lT]; rfl)) ?_; (with_reducible refine (bureauref03_Total.calls k _ _ l0 t300 _ ?side1 ?side2 A2.out).mono ?_); (case side1 => repeat (first | exact HR0.out | (with_reducible refine Kd.C_alloc ?_ _) | (with_reducible refine Kd.C_drewN ?_ _) | (with_reducible refine Kd.C_drew ?_))); (case side2 => exact HC0.out); rintro e w' ⟨rfl, ⟨nd, rfl⟩⟩; refine ⟨_, rfl, ?_⟩))
  go_ret
  exact ⟨by first | rfl | (simp [errW_none, errW_some] <;> rfl) | (simp [*, errW_none, errW_some] <;> rfl), by exact ey HB.out⟩
 ·rw [if_neg c3] at H
  have c3b0 : decide (4096 < t300) = false := decide_eq_false c3
  clear c3
  replace H := Option.bind_eq_some_iff.mp H
  obtain ⟨t301, A40, H⟩ := H
  replace H : ((bureauref03_Pack.f k t301).bind fun t304 => ((bureauref03_Same.f k l0 t304).bind fun t307 => (some t307))) = some r := H
  have A4 := aM A40
  clear A40
  replace H := Option.bind_eq_some_iff.mp H
  obtain ⟨t304, A50, H⟩ := H
  replace H : ((bureauref03_Same.f k l0 t304).bind fun t307 => (some t307)) = some r := H
  have A5 := aM A50
  clear A50
  replace H := Option.bind_eq_some_iff.mp H
  obtain ⟨t307, A60, H⟩ := H
  replace H : (some t307) = some r := H
  have A6 := aM A60
  clear A60
  obtain rfl := Option.some.inj H
  go_enter Try.func60, Try.ntmps60
  go_wp2_with (first | ((with_reducible refine gate_callee (f := 61) rfl ?_); refine goesL_ (some 4) rfl rfl Try.func61 (by kernel_rfl) rfl #[.slice A0 l0.length c0] rfl (by (try simp only [mT, mC, mN]); first | done | rfl | (simp only [lD, lT]; rfl)) ?_; (with_reducible refine (bureauref03_Total.calls k _ _ l0 t300 _ ?side1 ?side2 A2.out).mono ?_); (case side1 => repeat (first | exact HR0.out | (with_reducible refine Kd.C_alloc ?_ _) | (with_reducible refine Kd.C_drewN ?_ _) | (with_reducible refine Kd.C_drew ?_))); (case side2 => exact HC0.out); rintro e w' ⟨rfl, ⟨nd, rfl⟩⟩; refine ⟨_, rfl, ?_⟩) | ((with_reducible refine gate_callee (f := 40) rfl ?_); refine goesL_ (some 8) rfl rfl Try.func40 (by kernel_rfl) rfl #[.slice A0 l0.length c0] rfl (by (try simp only [mT, mC, mN]); first | done | rfl | (simp only [lD, lT]; rfl)) ?_; (with_reducible refine (bureauref03_Bytes.calls k _ _ l0 t301 _ ?side1 ?side2 A4.out).mono ?_); (case side1 => repeat (first | exact HR0.out | (with_reducible refine Kd.C_alloc ?_ _) | (with_reducible refine Kd.C_drewN ?_ _) | (with_reducible refine Kd.C_drew ?_))); (case side2 => exact HC0.out); rintro e w7 ⟨v302, rfl, ho0, hb⟩; refine ⟨_, rfl, ?_⟩; have n0_ := aM (rL ho0 (bZ (ey HB.out))); have n1_ := aM (bP (ey HB.out) hb); clear HB; have HO303 := n0_; have HB := n1_; clear n0_ n1_; (try clear hb); (try clear hb2); (try clear hk); (try clear hi); (try clear ho0); obtain ⟨Ao8, co8, eo8⟩ := Kd.R_slice HO303.out; subst eo8) | ((with_reducible refine gate_callee (f := 57) rfl ?_); refine goesL_ (some 9) rfl rfl Try.func57 (by kernel_rfl) rfl #[.slice Ao8 t301.length co8] rfl (by (try simp only [mT, mC, mN]); first | done | rfl | (simp only [lD, lT]; rfl)) ?_; (with_reducible refine (bureauref03_Pack.calls k _ _ t301 t304 _ ?side1 ?side2 A5.out).mono ?_); (case side1 => repeat (first | exact (rR HO303.out).2.2 | (with_reducible refine Kd.C_alloc ?_ _) | (with_reducible refine Kd.C_drewN ?_ _) | (with_reducible refine Kd.C_drew ?_))); (case side2 => exact (rR HO303.out).2.1); rintro e w9 ⟨v305, rfl, ho0, hb⟩; refine ⟨_, rfl, ?_⟩; have n0_ := aM (Kd.R_below (ry HO303.out) hb); have n1_ := aM (rL ho0 (bZ (ey HB.out))); have n2_ := aM (bP (ey HB.out) hb); clear HO303 HB; have HO303 := n0_; have HO306 := n1_; have HB := n2_; clear n0_ n1_ n2_; (try clear hb); (try clear hb2); (try clear hk); (try clear hi); (try clear ho0); obtain ⟨Ao10, co10, eo10⟩ := Kd.R_slice HO306.out; subst eo10) | ((with_reducible refine gate_callee (f := 42) rfl ?_); refine goesL_ (some 10) rfl rfl Try.func42 (by kernel_rfl) rfl #[.slice A0 l0.length c0, .slice Ao10 t304.length co10] rfl (by (try simp only [mT, mC, mN]); first | done | rfl | (simp only [lD, lT]; rfl)) ?_; (with_reducible refine (bureauref03_Same.calls k _ _ l0 _ _ t304 t307 _ ?side1 ?side2 ?side3 ?side4 A6.out).mono ?_); (case side1 => repeat (first | exact (cB_ HR0.out HB.out) | (with_reducible refine Kd.C_alloc ?_ _) | (with_reducible refine Kd.C_drewN ?_ _) | (with_reducible refine Kd.C_drew ?_))); (case side2 => exact HC0.out); (case side3 => repeat (first | exact (rR HO306.out).2.2 | (with_reducible refine Kd.C_alloc ?_ _) | (with_reducible refine Kd.C_drewN ?_ _) | (with_reducible refine Kd.C_drew ?_))); (case side4 => exact (rR HO306.out).2.1); rintro e w' ⟨rfl, ⟨nd, rfl⟩⟩; refine ⟨_, rfl, ?_⟩))
  go_ret
  exact ⟨by first | rfl | (simp [errW_none, errW_some] <;> rfl) | (simp [*, errW_none, errW_some] <;> rfl), by exact ey HB.out⟩
end Go.Proofs.Ytnbdldpjiofafaa.PB
end

section
namespace Go.Proofs.Ytnbdldpjiofafaa.PB
open Go.RowKit Go.Proofs.YtnbdldpjiofafaaW.PrintWords Go.Proofs.YtnbdldpjiofafaaW.PrintLast Go.Proofs.YtnbdldpjiofafaaW.PrintMore
attribute [local go_sem] max2_int min2_int max_two min_two max_three min_three max_four min_four   
set_option linter.unusedVariables false
set_option linter.unusedSimpArgs false
def bureauref04_Good.f (k : Nat) (a0_0 : ByteArray) (l0_1 : List (S51)) : Option (Bool) := (bureauref03_Good.f k l0_1).bind fun t309 => (if t309 = true then ((bureauref03_Total.f k l0_1).bind fun t310 => (some (t310 == (a0_0.size : Int)))) else (some false))
def bureauref04_Good.T1 : Bool × List (List Nat × List Nat) := (true, [([], []), ([0], [0]), ([1], [1]), ([2, 2], [2]), ([3], [3]), ([4, 3], [3, 4]), ([5, 3, 3], [3, 5]), ([3], [3]), ([7, 3], [3, 7]), ([8, 3], [3, 8]), ([6, 9, 3], [3, 6, 9]), ([3, 10], [3, 10]), ([11, 6, 0, 1, 2, 3, 4, 5, 6, 7, 8, 9, 10, 11], [11])])
def bureauref04_Good.B1 : List Nat := [0, 1, 3, 7, 15, 31, 63, 15, 143, 399, 1023, 2047, 4095]
theorem bureauref04_Good.tab1 : rtab .any (opsOf Try.f39 1) = bureauref04_Good.T1 := by kernel_rfl
theorem bureauref04_Good.bits1 : waitsOk bureauref04_Good.T1.2 bureauref04_Good.B1 = true := by kernel_rfl
set_option maxHeartbeats 8000000 in
set_option maxRecDepth 100000 in
theorem bureauref04_Good.calls (k : Nat) (a0_0 : ByteArray) (A0_1 : Option Addr) (c0_1 : Nat) (l0_1 : List (S51)) (r : Bool) (w : World) (hr0_1 : Kd.C k51 w A0_1 l0_1.length l0_1) (hc0_1 : l0_1.length ≤ c0_1) (h : bureauref04_Good.f k a0_0 l0_1 = some r) :
  Calls Try.prog 39 #[.agg #[.string a0_0, .slice A0_1 l0_1.length c0_1]] w fun e w' => e = .returned (.bool r) ∧ Below w.heap.size w w' := by
 have hu24 := Try.underlying24
 have HR0_1 := aM hr0_1
 have HC0_1 := aM hc0_1
 clear hr0_1 hc0_1
 have HB := aM (Below.refl w.heap.size w)
 have H : ((bureauref03_Good.f k l0_1).bind fun t309 => (if t309 = true then ((bureauref03_Total.f k l0_1).bind fun t310 => (some (t310 == (a0_0.size : Int)))) else (some false))) = some r := h
 clear h
 replace H := Option.bind_eq_some_iff.mp H
 obtain ⟨t309, A20, H⟩ := H
 replace H : (if t309 = true then ((bureauref03_Total.f k l0_1).bind fun t310 => (some (t310 == (a0_0.size : Int)))) else (some false)) = some r := H
 have A2 := aM A20
 clear A20
 by_cases c3 : t309 = true
 ·subst c3
  have H1 : ((bureauref03_Total.f k l0_1).bind fun t310 => (some (t310 == (a0_0.size : Int)))) = some r := by rw [if_pos rfl] at H; exact H
  clear H
  have H := H1
  clear H1
  replace H := Option.bind_eq_some_iff.mp H
  obtain ⟨t310, A40, H⟩ := H
  replace H : (some (t310 == (a0_0.size : Int))) = some r := H
  have A4 := aM A40
  clear A40
  obtain rfl := Option.some.inj H
  go_enter Try.func39, Try.ntmps39
  try go_wp2_with (first | ((with_reducible refine gate_dst (N := 1) rfl ?_); (try (refine gate_guard (by rfl) ?_; dsimp only)); refine box_event ?hg (N := 1) ?hd (cs := #[.string a0_0, .slice A0_1 l0_1.length c0_1]) (t := 24) ?hr ?_; (case hd | hg => rfl); (case hr => first | (go_simp; done) | (go_simp; rfl)); intro gb308 hg w5 hbox hb; have n0_ := aM (bP (ey HB.out) hb); have n1_ := aM (hbox); have n2_ := aM ((by rw [hg]; exact (bZ (ey HB.out)) : w.heap.size ≤ gb308)); have n3_ := n2_; clear HB; have HB := n0_; have BK308 := n1_; have GW308 := n2_; have GE308 := n3_; clear n0_ n1_ n2_ n3_; clear hb hbox hg))
  have n0_ := aM (blk_drew BK308.out)
  have n1_ := aM (below_drew1 HB.out)
  clear BK308
  clear HB
  have BK308 := n0_
  have HB := n1_
  clear n0_ n1_
  refine start_ (n := 13) (S := fun w' => w'.cell? ⟨gb308, 0, none⟩ = some (.string a0_0) ∧ w'.cell? ⟨gb308, 1, none⟩ = some (.slice A0_1 l0_1.length c0_1)) (ds := []) b10_ (by kernel_rfl) rfl rfl ⟨(bC BK308.out 0).trans rfl, (bC BK308.out 1).trans rfl⟩ (fun hHeld => ?_); refine with_tabW bureauref04_Good.tab1 bureauref04_Good.bits1 (fun HT_ HW_ => ?_)
  generalize w5.drew = w6 at BK308 HB hHeld ⊢
  refine pv 0 3 b11_ HT_ ?_
  refine pt 1 4 b12_ HT_ HW_ hHeld ?_
  refine one_ (i := 2) (N := some 5) b13_ rfl rfl (one_of HT_.out (by kernel_rfl)) (by decide) (fun K hK => ?_)
  refine goes_ Try.func60 (by kernel_rfl) rfl #[.slice A0_1 l0_1.length c0_1] (by rfl) rfl rfl (by (try simp only [mT, mC, mN]); first | done | rfl | (simp only [lD, lT]; rfl)) ?_
  with_reducible refine (bureauref03_Good.calls k _ _ l0_1 true _ ?side1 ?side2 A2.out).mono ?_
  (case side1 => repeat (first | exact (cB_ HR0_1.out HB.out) | (with_reducible refine Kd.C_alloc ?_ _) | (with_reducible refine Kd.C_drewN ?_ _) | (with_reducible refine Kd.C_drew ?_)))
  (case side2 => exact HC0_1.out)
  rintro e w7 ⟨rfl, hb⟩
  refine ⟨_, rfl, ?_⟩
  have n0_ := aM (bB (g := gb308) (qy BK308.out) hb)
  have n1_ := aM (bP (by repeat (first | (with_reducible first | exact HB.out | apply ea | apply en | apply ed | refine es ?_ GE308.out) | exact HB.out)) hb)
  clear BK308
  clear HB
  have BK308 := n0_
  have HB := n1_
  clear n0_ n1_
  (try clear hb)
  (try clear hb2)
  (try clear hk)
  (try clear hi)
  refine hK.out _ _ ⟨(bC BK308.out 0).trans rfl, (bC BK308.out 1).trans rfl⟩ (fun hHeld => ?_)
  clear hK K
  refine norm_ (a' := ?_) ?_ ?_
  rotate_left
  ·show Act.put _ (some 5) _ = _
   simp only [Act.put, sA, sZ, sS, i64_w, i32_w]
   rfl
  refine pv 3 6 b14_ HT_ ?_
  refine pv 4 7 b15_ HT_ ?_
  refine pv 7 10 b16_ HT_ ?_
  refine pt 5 8 b17_ HT_ HW_ hHeld ?_
  refine pt 8 11 b18_ HT_ HW_ hHeld ?_
  refine pv 9 12 b19_ HT_ ?_
  refine one_ (i := 6) (N := some 9) b20_ rfl rfl (one_of HT_.out (by kernel_rfl)) (by decide) (fun K hK => ?_)
  refine goes_ Try.func61 (by kernel_rfl) rfl #[.slice A0_1 l0_1.length c0_1] (by rfl) rfl rfl (by (try simp only [mT, mC, mN]); first | done | rfl | (simp only [lD, lT]; rfl)) ?_
  with_reducible refine (bureauref03_Total.calls k _ _ l0_1 t310 _ ?side1 ?side2 A4.out).mono ?_
  (case side1 => repeat (first | exact (cB_ HR0_1.out HB.out) | (with_reducible refine Kd.C_alloc ?_ _) | (with_reducible refine Kd.C_drewN ?_ _) | (with_reducible refine Kd.C_drew ?_)))
  (case side2 => exact HC0_1.out)
  rintro e w' ⟨rfl, ⟨nd, rfl⟩⟩
  refine ⟨_, rfl, ?_⟩
  refine hK.out _ _ ⟨(bC BK308.out 0).trans rfl, (bC BK308.out 1).trans rfl⟩ (fun hHeld => ?_)
  clear hK K
  refine norm_ (a' := ?_) ?_ ?_
  rotate_left
  ·show Act.put _ (some 9) _ = _
   simp only [Act.put, sA, sZ, sS, i64_w, i32_w]
   rfl
  refine pv 10 13 b21_ HT_ ?_
  refine pv 11 14 b22_ HT_ ?_
  refine pv 12 2 b23_ HT_ ?_
  refine done_ (done_of HT_.out (by kernel_rfl)) ?_
  try go_wp2
  go_ret
  exact ⟨by first | rfl | (simp [errW_none, errW_some] <;> rfl) | (simp [*, errW_none, errW_some] <;> rfl), by repeat (first | (with_reducible first | exact HB.out | apply ea | apply en | apply ed | refine es ?_ GE308.out) | exact HB.out)⟩
 ·replace c3 := Bool.eq_false_iff.mpr c3
  subst c3
  have H1 : (some false) = some r := by rw [if_neg (show ¬ (false = true) by decide)] at H; exact H
  clear H
  have H := H1
  clear H1
  obtain rfl := Option.some.inj H
  go_enter Try.func39, Try.ntmps39
  try go_wp2_with (first | ((with_reducible refine gate_dst (N := 1) rfl ?_); (try (refine gate_guard (by rfl) ?_; dsimp only)); refine box_event ?hg (N := 1) ?hd (cs := #[.string a0_0, .slice A0_1 l0_1.length c0_1]) (t := 24) ?hr ?_; (case hd | hg => rfl); (case hr => first | (go_simp; done) | (go_simp; rfl)); intro gb308 hg w8 hbox hb; have n0_ := aM (bP (ey HB.out) hb); have n1_ := aM (hbox); have n2_ := aM ((by rw [hg]; exact (bZ (ey HB.out)) : w.heap.size ≤ gb308)); have n3_ := n2_; clear HB; have HB := n0_; have BK308 := n1_; have GW308 := n2_; have GE308 := n3_; clear n0_ n1_ n2_ n3_; clear hb hbox hg))
  have n0_ := aM (blk_drew BK308.out)
  have n1_ := aM (below_drew1 HB.out)
  clear BK308
  clear HB
  have BK308 := n0_
  have HB := n1_
  clear n0_ n1_
  refine start_ (n := 13) (S := fun w' => w'.cell? ⟨gb308, 0, none⟩ = some (.string a0_0) ∧ w'.cell? ⟨gb308, 1, none⟩ = some (.slice A0_1 l0_1.length c0_1)) (ds := []) b10_ (by kernel_rfl) rfl rfl ⟨(bC BK308.out 0).trans rfl, (bC BK308.out 1).trans rfl⟩ (fun hHeld => ?_); refine with_tabW bureauref04_Good.tab1 bureauref04_Good.bits1 (fun HT_ HW_ => ?_)
  generalize w8.drew = w9 at BK308 HB hHeld ⊢
  refine pv 0 3 b11_ HT_ ?_
  refine pt 1 4 b12_ HT_ HW_ hHeld ?_
  refine one_ (i := 2) (N := some 5) b13_ rfl rfl (one_of HT_.out (by kernel_rfl)) (by decide) (fun K hK => ?_)
  refine goes_ Try.func60 (by kernel_rfl) rfl #[.slice A0_1 l0_1.length c0_1] (by rfl) rfl rfl (by (try simp only [mT, mC, mN]); first | done | rfl | (simp only [lD, lT]; rfl)) ?_
  with_reducible refine (bureauref03_Good.calls k _ _ l0_1 false _ ?side1 ?side2 A2.out).mono ?_
  (case side1 => repeat (first | exact (cB_ HR0_1.out HB.out) | (with_reducible refine Kd.C_alloc ?_ _) | (with_reducible refine Kd.C_drewN ?_ _) | (with_reducible refine Kd.C_drew ?_)))
  (case side2 => exact HC0_1.out)
  rintro e w10 ⟨rfl, hb⟩
  refine ⟨_, rfl, ?_⟩
  have n0_ := aM (bB (g := gb308) (qy BK308.out) hb)
  have n1_ := aM (bP (by repeat (first | (with_reducible first | exact HB.out | apply ea | apply en | apply ed | refine es ?_ GE308.out) | exact HB.out)) hb)
  clear BK308
  clear HB
  have BK308 := n0_
  have HB := n1_
  clear n0_ n1_
  (try clear hb)
  (try clear hb2)
  (try clear hk)
  (try clear hi)
  refine hK.out _ _ ⟨(bC BK308.out 0).trans rfl, (bC BK308.out 1).trans rfl⟩ (fun hHeld => ?_)
  clear hK K
  refine norm_ (a' := ?_) ?_ ?_
  rotate_left
  ·show Act.put _ (some 5) _ = _
   simp only [Act.put, sA, sZ, sS, i64_w, i32_w]
   rfl
  refine pv 3 6 b14_ HT_ ?_
  refine pu 4 7 b15_ HT_ ?_
  refine pu 5 8 b24_ HT_ ?_
  refine pu 6 9 b25_ HT_ ?_
  refine pu 7 10 b26_ HT_ ?_
  refine pu 8 11 b27_ HT_ ?_
  refine pu 9 12 b20_ HT_ ?_
  refine pu 10 13 b21_ HT_ ?_
  refine pv 11 14 b22_ HT_ ?_
  refine pv 12 2 b23_ HT_ ?_
  refine done_ (done_of HT_.out (by kernel_rfl)) ?_
  try go_wp2
  go_ret
  exact ⟨by first | rfl | (simp [errW_none, errW_some] <;> rfl) | (simp [*, errW_none, errW_some] <;> rfl), by repeat (first | (with_reducible first | exact HB.out | apply ea | apply en | apply ed | refine es ?_ GE308.out) | exact HB.out)⟩
end Go.Proofs.Ytnbdldpjiofafaa.PB
end

section
namespace Go.Proofs.Ytnbdldpjiofafaa.PB
open Go.RowKit Go.Proofs.YtnbdldpjiofafaaW.PrintWords Go.Proofs.YtnbdldpjiofafaaW.PrintLast Go.Proofs.YtnbdldpjiofafaaW.PrintMore
attribute [local go_sem] max2_int min2_int max_two min_two max_three min_three max_four min_four   
set_option linter.unusedVariables false
set_option linter.unusedSimpArgs false
def bureauref04_Within.f (k : Nat) (a0_0 : ByteArray) (l0_1 : List (S51)) (a1 : Int) (a2 : Int) : Option (Bool) := (bureauref04_Good.f k a0_0 l0_1).bind fun t365 => (if t365 = true then (if a1 ≥ 0 then (if a1 ≤ a2 then (some (decide (a2 ≤ (a0_0.size : Int)))) else (some false)) else (some false)) else (some false))
set_option maxHeartbeats 8000000 in
set_option maxRecDepth 100000 in
theorem bureauref04_Within.calls (k : Nat) (a0_0 : ByteArray) (A0_1 : Option Addr) (c0_1 : Nat) (l0_1 : List (S51)) (a1 : Int) (a2 : Int) (r : Bool) (w : World) (hr0_1 : Kd.C k51 w A0_1 l0_1.length l0_1) (hc0_1 : l0_1.length ≤ c0_1) (h : bureauref04_Within.f k a0_0 l0_1 a1 a2 = some r) :
  Calls Try.prog 58 #[.agg #[.string a0_0, .slice A0_1 l0_1.length c0_1], .int .i64 a1, .int .i64 a2] w fun e w' => e = .returned (.bool r) ∧ Below w.heap.size w w' := by
 have hu24 := Try.underlying24
 have HR0_1 := aM hr0_1
 have HC0_1 := aM hc0_1
 clear hr0_1 hc0_1
 have HB := aM (Below.refl w.heap.size w)
 have H : ((bureauref04_Good.f k a0_0 l0_1).bind fun t365 => (if t365 = true then (if a1 ≥ 0 then (if a1 ≤ a2 then (some (decide (a2 ≤ (a0_0.size : Int)))) else (some false)) else (some false)) else (some false))) = some r := h
 clear h
 replace H := Option.bind_eq_some_iff.mp H
 obtain ⟨t365, A40, H⟩ := H
 replace H : (if t365 = true then (if a1 ≥ 0 then (if a1 ≤ a2 then (some (decide (a2 ≤ (a0_0.size : Int)))) else (some false)) else (some false)) else (some false)) = some r := H
 have A4 := aM A40
 clear A40
 by_cases c5 : t365 = true
 ·subst c5
  have H1 : (if a1 ≥ 0 then (if a1 ≤ a2 then (some (decide (a2 ≤ (a0_0.size : Int)))) else (some false)) else (some false)) = some r := by rw [if_pos rfl] at H; exact H
  clear H
  have H := H1
  clear H1
  by_cases c6 : a1 ≥ 0
  ·rw [if_pos c6] at H
   have c6b0 : decide (0 ≤ a1) = true := decide_eq_true c6
   clear c6
   by_cases c7 : a1 ≤ a2
   ·rw [if_pos c7] at H
    have c7b0 : decide (a1 ≤ a2) = true := decide_eq_true c7
    clear c7
    obtain rfl := Option.some.inj H
    go_enter Try.func58, Try.ntmps58
    go_wp2_with (first | ((with_reducible refine gate_dst (N := 3) rfl ?_); (try (refine gate_guard (by rfl) ?_; dsimp only)); refine box_event ?hg (N := 3) ?hd (cs := #[.string a0_0, .slice A0_1 l0_1.length c0_1]) (t := 24) ?hr ?_; (case hd | hg => rfl); (case hr => first | (go_simp; done) | (go_simp; rfl)); intro gb364 hg w8 hbox hb; have n0_ := aM (bP (ey HB.out) hb); have n1_ := aM (hbox); have n2_ := aM ((by rw [hg]; exact (bZ (ey HB.out)) : w.heap.size ≤ gb364)); have n3_ := n2_; clear HB; have HB := n0_; have BK364 := n1_; have GW364 := n2_; have GE364 := n3_; clear n0_ n1_ n2_ n3_; clear hb hbox hg; have hcz9_0 := zC BK364.out 0 (.string a0_0); have hcz9_1 := zC BK364.out 1 (.slice A0_1 l0_1.length c0_1); have hfz9_0 := bF BK364.out 0; have hfz9_1 := bF BK364.out 1) | ((with_reducible refine gate_callee (f := 39) rfl ?_); refine goesL_ (some 8) rfl rfl Try.func39 (by kernel_rfl) rfl #[.agg #[.string a0_0, .slice A0_1 l0_1.length c0_1]] rfl (by (try simp only [mT, mC, mN]); first | done | rfl | (simp only [lD, lT]; rfl)) ?_; (with_reducible refine (bureauref04_Good.calls k a0_0 _ _ l0_1 true _ ?side1 ?side2 A4.out).mono ?_); (case side1 => repeat (first | exact (cB_ HR0_1.out HB.out) | (with_reducible refine Kd.C_alloc ?_ _) | (with_reducible refine Kd.C_drewN ?_ _) | (with_reducible refine Kd.C_drew ?_))); (case side2 => exact HC0_1.out); rintro e w10 ⟨rfl, hb⟩; refine ⟨_, rfl, ?_⟩; have n0_ := aM (bB (g := gb364) (qy BK364.out) hb); have n1_ := aM (bP (by repeat (first | (with_reducible first | exact HB.out | apply ea | apply en | apply ed | refine es ?_ GE364.out) | exact HB.out)) hb); clear BK364 HB; have BK364 := n0_; have HB := n1_; clear n0_ n1_; (try clear hb); (try clear hb2); (try clear hk); (try clear hi); have hcz11_0 := zC BK364.out 0 (.string a0_0); have hcz11_1 := zC BK364.out 1 (.slice A0_1 l0_1.length c0_1); have hfz11_0 := bF BK364.out 0; have hfz11_1 := bF BK364.out 1))
    go_ret
    exact ⟨by first | rfl | (simp [errW_none, errW_some] <;> rfl) | (simp [*, errW_none, errW_some] <;> rfl), by repeat (first | (with_reducible first | exact HB.out | apply ea | apply en | apply ed | refine es ?_ GE364.out) | exact HB.out)⟩
   ·rw [if_neg c7] at H
    have c7b0 : decide (a1 ≤ a2) = false := decide_eq_false c7
    clear c7
    obtain rfl := Option.some.inj H
    go_enter Try.func58, Try.ntmps58
    go_wp2_with (first | ((with_reducible refine gate_dst (N := 3) rfl ?_); (try (refine gate_guard (by rfl) ?_; dsimp only)); refine box_event ?hg (N := 3) ?hd (cs := #[.string a0_0, .slice A0_1 l0_1.length c0_1]) (t := 24) ?hr ?_; (case hd | hg => rfl); (case hr => first | (go_simp; done) | (go_simp; rfl)); intro gb364 hg w12 hbox hb; have n0_ := aM (bP (ey HB.out) hb); have n1_ := aM (hbox); have n2_ := aM ((by rw [hg]; exact (bZ (ey HB.out)) : w.heap.size ≤ gb364)); have n3_ := n2_; clear HB; have HB := n0_; have BK364 := n1_; have GW364 := n2_; have GE364 := n3_; clear n0_ n1_ n2_ n3_; clear hb hbox hg; have hcz13_0 := zC BK364.out 0 (.string a0_0); have hcz13_1 := zC BK364.out 1 (.slice A0_1 l0_1.length c0_1); have hfz13_0 := bF BK364.out 0; have hfz13_1 := bF BK364.out 1) | ((with_reducible refine gate_callee (f := 39) rfl ?_); refine goesL_ (some 8) rfl rfl Try.func39 (by kernel_rfl) rfl #[.agg #[.string a0_0, .slice A0_1 l0_1.length c0_1]] rfl (by (try simp only [mT, mC, mN]); first | done | rfl | (simp only [lD, lT]; rfl)) ?_; (with_reducible refine (bureauref04_Good.calls k a0_0 _ _ l0_1 true _ ?side1 ?side2 A4.out).mono ?_); (case side1 => repeat (first | exact (cB_ HR0_1.out HB.out) | (with_reducible refine Kd.C_alloc ?_ _) | (with_reducible refine Kd.C_drewN ?_ _) | (with_reducible refine Kd.C_drew ?_))); (case side2 => exact HC0_1.out); rintro e w14 ⟨rfl, hb⟩; refine ⟨_, rfl, ?_⟩; have n0_ := aM (bB (g := gb364) (qy BK364.out) hb); have n1_ := aM (bP (by repeat (first | (with_reducible first | exact HB.out | apply ea | apply en | apply ed | refine es ?_ GE364.out) | exact HB.out)) hb); clear BK364 HB; have BK364 := n0_; have HB := n1_; clear n0_ n1_; (try clear hb); (try clear hb2); (try clear hk); (try clear hi)))
    go_ret
    exact ⟨by first | rfl | (simp [errW_none, errW_some] <;> rfl) | (simp [*, errW_none, errW_some] <;> rfl), by repeat (first | (with_reducible first | exact HB.out | apply ea | apply en | apply ed | refine es ?_ GE364.out) | exact HB.out)⟩
  ·rw [if_neg c6] at H
   have c6b0 : decide (0 ≤ a1) = false := decide_eq_false c6
   clear c6
   obtain rfl := Option.some.inj H
   go_enter Try.func58, Try.ntmps58
   go_wp2_with (first | ((with_reducible refine gate_dst (N := 3) rfl ?_); (try (refine gate_guard (by rfl) ?_; dsimp only)); refine box_event ?hg (N := 3) ?hd (cs := #[.string a0_0, .slice A0_1 l0_1.length c0_1]) (t := 24) ?hr ?_; (case hd | hg => rfl); (case hr => first | (go_simp; done) | (go_simp; rfl)); intro gb364 hg w15 hbox hb; have n0_ := aM (bP (ey HB.out) hb); have n1_ := aM (hbox); have n2_ := aM ((by rw [hg]; exact (bZ (ey HB.out)) : w.heap.size ≤ gb364)); have n3_ := n2_; clear HB; have HB := n0_; have BK364 := n1_; have GW364 := n2_; have GE364 := n3_; clear n0_ n1_ n2_ n3_; clear hb hbox hg; have hcz16_0 := zC BK364.out 0 (.string a0_0); have hcz16_1 := zC BK364.out 1 (.slice A0_1 l0_1.length c0_1); have hfz16_0 := bF BK364.out 0; have hfz16_1 := bF BK364.out 1) | ((with_reducible refine gate_callee (f := 39) rfl ?_); refine goesL_ (some 8) rfl rfl Try.func39 (by kernel_rfl) rfl #[.agg #[.string a0_0, .slice A0_1 l0_1.length c0_1]] rfl (by (try simp only [mT, mC, mN]); first | done | rfl | (simp only [lD, lT]; rfl)) ?_; (with_reducible refine (bureauref04_Good.calls k a0_0 _ _ l0_1 true _ ?side1 ?side2 A4.out).mono ?_); (case side1 => repeat (first | exact (cB_ HR0_1.out HB.out) | (with_reducible refine Kd.C_alloc ?_ _) | (with_reducible refine Kd.C_drewN ?_ _) | (with_reducible refine Kd.C_drew ?_))); (case side2 => exact HC0_1.out); rintro e w17 ⟨rfl, hb⟩; refine ⟨_, rfl, ?_⟩; have n0_ := aM (bB (g := gb364) (qy BK364.out) hb); have n1_ := aM (bP (by repeat (first | (with_reducible first | exact HB.out | apply ea | apply en | apply ed | refine es ?_ GE364.out) | exact HB.out)) hb); clear BK364 HB; have BK364 := n0_; have HB := n1_; clear n0_ n1_; (try clear hb); (try clear hb2); (try clear hk); (try clear hi)))
   go_ret
   exact ⟨by first | rfl | (simp [errW_none, errW_some] <;> rfl) | (simp [*, errW_none, errW_some] <;> rfl), by repeat (first | (with_reducible first | exact HB.out | apply ea | apply en | apply ed | refine es ?_ GE364.out) | exact HB.out)⟩
 ·replace c5 := Bool.eq_false_iff.mpr c5
  subst c5
  have H1 : (some false) = some r := by rw [if_neg (show ¬ (false = true) by decide)] at H; exact H
  clear H
  have H := H1
  clear H1
  obtain rfl := Option.some.inj H
  go_enter Try.func58, Try.ntmps58
  go_wp2_with (first | ((with_reducible refine gate_dst (N := 3) rfl ?_); (try (refine gate_guard (by rfl) ?_; dsimp only)); refine box_event ?hg (N := 3) ?hd (cs := #[.string a0_0, .slice A0_1 l0_1.length c0_1]) (t := 24) ?hr ?_; (case hd | hg => rfl); (case hr => first | (go_simp; done) | (go_simp; rfl)); intro gb364 hg w18 hbox hb; have n0_ := aM (bP (ey HB.out) hb); have n1_ := aM (hbox); have n2_ := aM ((by rw [hg]; exact (bZ (ey HB.out)) : w.heap.size ≤ gb364)); have n3_ := n2_; clear HB; have HB := n0_; have BK364 := n1_; have GW364 := n2_; have GE364 := n3_; clear n0_ n1_ n2_ n3_; clear hb hbox hg; have hcz19_0 := zC BK364.out 0 (.string a0_0); have hcz19_1 := zC BK364.out 1 (.slice A0_1 l0_1.length c0_1); have hfz19_0 := bF BK364.out 0; have hfz19_1 := bF BK364.out 1) | ((with_reducible refine gate_callee (f := 39) rfl ?_); refine goesL_ (some 8) rfl rfl Try.func39 (by kernel_rfl) rfl #[.agg #[.string a0_0, .slice A0_1 l0_1.length c0_1]] rfl (by (try simp only [mT, mC, mN]); first | done | rfl | (simp only [lD, lT]; rfl)) ?_; (with_reducible refine (bureauref04_Good.calls k a0_0 _ _ l0_1 false _ ?side1 ?side2 A4.out).mono ?_); (case side1 => repeat (first | exact (cB_ HR0_1.out HB.out) | (with_reducible refine Kd.C_alloc ?_ _) | (with_reducible refine Kd.C_drewN ?_ _) | (with_reducible refine Kd.C_drew ?_))); (case side2 => exact HC0_1.out); rintro e w20 ⟨rfl, hb⟩; refine ⟨_, rfl, ?_⟩; have n0_ := aM (bB (g := gb364) (qy BK364.out) hb); have n1_ := aM (bP (by repeat (first | (with_reducible first | exact HB.out | apply ea | apply en | apply ed | refine es ?_ GE364.out) | exact HB.out)) hb); clear BK364 HB; have BK364 := n0_; have HB := n1_; clear n0_ n1_; (try clear hb); (try clear hb2); (try clear hk); (try clear hi)))
  go_ret
  exact ⟨by first | rfl | (simp [errW_none, errW_some] <;> rfl) | (simp [*, errW_none, errW_some] <;> rfl), by repeat (first | (with_reducible first | exact HB.out | apply ea | apply en | apply ed | refine es ?_ GE364.out) | exact HB.out)⟩
end Go.Proofs.Ytnbdldpjiofafaa.PB
end

section
namespace Go.Proofs.Ytnbdldpjiofafaa.PB
open Go.RowKit Go.Proofs.YtnbdldpjiofafaaW.PrintWords Go.Proofs.YtnbdldpjiofafaaW.PrintLast Go.Proofs.YtnbdldpjiofafaaW.PrintMore
attribute [local go_sem] max2_int min2_int max_two min_two max_three min_three max_four min_four   
set_option linter.unusedVariables false
set_option linter.unusedSimpArgs false
def bureauref04_Cut.f (k : Nat) (a0_0 : ByteArray) (l0_1 : List (S51)) (a1 : Int) (a2 : Int) : Option (ByteArray × (List (S51)) × Int) := (bureauref04_Within.f k a0_0 l0_1 a1 a2).bind fun t368 => (if t368 = true then ((bureauref03_Bytes.f k l0_1).bind fun t369 => (if 0 ≤ a1 then (if a1 ≤ a2 then (if a2 ≤ (a0_0.size : Int) then (if a2 ≤ (t369.length : Int) then ((bureauref03_Pack.f k ((t369.take (a2 : Int).toNat).drop (a1 : Int).toNat)).bind fun t376 => (some (a0_0.extract (a1 : Int).toNat (a2 : Int).toNat, t376, 0))) else (none)) else (none)) else (none)) else (none))) else (some ((⟨#[]⟩ : ByteArray), ([] : List (S51)), 2)))
def bureauref04_Cut.T4 : Bool × List (List Nat × List Nat) := (true, [([], []), ([0], [0]), ([], []), ([], []), ([1, 2, 3], [1, 2, 3]), ([], []), ([], []), ([], []), ([5, 6, 7], [5, 6, 7]), ([8], [8]), ([4, 9], [4, 9]), ([10, 9, 0, 1, 2, 3, 4, 5, 6, 7, 8, 9, 10], [10]), ([11, 0, 1, 2, 3, 4, 5, 6, 7, 8, 9, 10, 11], [])])
def bureauref04_Cut.B4 : List Nat := [0, 1, 0, 0, 15, 0, 0, 0, 224, 480, 1023, 2047, 4095]
theorem bureauref04_Cut.tab4 : rtab .any (opsOf Try.f33 4) = bureauref04_Cut.T4 := by kernel_rfl
theorem bureauref04_Cut.bits4 : waitsOk bureauref04_Cut.T4.2 bureauref04_Cut.B4 = true := by kernel_rfl
set_option maxHeartbeats 8000000 in
set_option maxRecDepth 100000 in
theorem bureauref04_Cut.calls (k : Nat) (a0_0 : ByteArray) (A0_1 : Option Addr) (c0_1 : Nat) (l0_1 : List (S51)) (a1 : Int) (a2 : Int) (r1 : ByteArray) (r2 : List (S51)) (r3 : Int) (w : World) (hr0_1 : Kd.C k51 w A0_1 l0_1.length l0_1) (hc0_1 : l0_1.length ≤ c0_1) (h : bureauref04_Cut.f k a0_0 l0_1 a1 a2 = some (r1, r2, r3)) :
  Calls Try.prog 33 #[.agg #[.string a0_0, .slice A0_1 l0_1.length c0_1], .int .i64 a1, .int .i64 a2] w fun e w' => ∃ v1_ : Value, e = .returned (.tuple #[.agg #[.string r1, v1_], .int .i64 r3]) ∧ Kd.R k51 51 w' w.heap.size (fun _ => True) v1_ r2 ∧ Below w.heap.size w w' := by
 have hu24 := Try.underlying24
 have HR0_1 := aM hr0_1
 have HC0_1 := aM hc0_1
 clear hr0_1 hc0_1
 have HB := aM (Below.refl w.heap.size w)
 have H : ((bureauref04_Within.f k a0_0 l0_1 a1 a2).bind fun t368 => (if t368 = true then ((bureauref03_Bytes.f k l0_1).bind fun t369 => (if 0 ≤ a1 then (if a1 ≤ a2 then (if a2 ≤ (a0_0.size : Int) then (if a2 ≤ (t369.length : Int) then ((bureauref03_Pack.f k ((t369.take (a2 : Int).toNat).drop (a1 : Int).toNat)).bind fun t376 => (some (a0_0.extract (a1 : Int).toNat (a2 : Int).toNat, t376, 0))) else (none)) else (none)) else (none)) else (none))) else (some ((⟨#[]⟩ : ByteArray), ([] : List (S51)), 2)))) = some (r1, r2, r3) := h
 clear h
 replace H := Option.bind_eq_some_iff.mp H
 obtain ⟨t368, A40, H⟩ := H
 replace H : (if t368 = true then ((bureauref03_Bytes.f k l0_1).bind fun t369 => (if 0 ≤ a1 then (if a1 ≤ a2 then (if a2 ≤ (a0_0.size : Int) then (if a2 ≤ (t369.length : Int) then ((bureauref03_Pack.f k ((t369.take (a2 : Int).toNat).drop (a1 : Int).toNat)).bind fun t376 => (some (a0_0.extract (a1 : Int).toNat (a2 : Int).toNat, t376, 0))) else (none)) else (none)) else (none)) else (none))) else (some ((⟨#[]⟩ : ByteArray), ([] : List (S51)), 2))) = some (r1, r2, r3) := H
 have A4 := aM A40
 clear A40
 by_cases c5 : t368 = true
 ·subst c5
  have H1 : ((bureauref03_Bytes.f k l0_1).bind fun t369 => (if 0 ≤ a1 then (if a1 ≤ a2 then (if a2 ≤ (a0_0.size : Int) then (if a2 ≤ (t369.length : Int) then ((bureauref03_Pack.f k ((t369.take (a2 : Int).toNat).drop (a1 : Int).toNat)).bind fun t376 => (some (a0_0.extract (a1 : Int).toNat (a2 : Int).toNat, t376, 0))) else (none)) else (none)) else (none)) else (none))) = some (r1, r2, r3) := by rw [if_pos rfl] at H; exact H
  clear H
  have H := H1
  clear H1
  replace H := Option.bind_eq_some_iff.mp H
  obtain ⟨t369, A60, H⟩ := H
  replace H : (if 0 ≤ a1 then (if a1 ≤ a2 then (if a2 ≤ (a0_0.size : Int) then (if a2 ≤ (t369.length : Int) then ((bureauref03_Pack.f k ((t369.take (a2 : Int).toNat).drop (a1 : Int).toNat)).bind fun t376 => (some (a0_0.extract (a1 : Int).toNat (a2 : Int).toNat, t376, 0))) else (none)) else (none)) else (none)) else (none)) = some (r1, r2, r3) := H
  have A6 := aM A60
  clear A60
  by_cases c7 : 0 ≤ a1
  ·rw [if_pos c7] at H
   have c7b0 := eq_true c7
   have c7b1 : decide (0 ≤ a1) = true := decide_eq_true c7
   clear c7
   by_cases c8 : a1 ≤ a2
   ·rw [if_pos c8] at H
    have c8b0 := eq_true c8
    have c8b1 : decide (a1 ≤ a2) = true := decide_eq_true c8
    clear c8
    by_cases c9 : a2 ≤ (a0_0.size : Int)
    ·rw [if_pos c9] at H
     have c9b0 := eq_true c9
     have c9b1 : decide (a2 ≤ (a0_0.size : Int)) = true := decide_eq_true c9
     clear c9
     have c10b0 := eq_true (of_decide_eq_true (by first | (with_reducible assumption) | assumption) : 0 ≤ a1)
     have c11b0 := eq_true (of_decide_eq_true (by first | (with_reducible assumption) | assumption) : a1 ≤ a2)
     by_cases c12 : a2 ≤ (t369.length : Int)
     ·rw [if_pos c12] at H
      have c12b0 := eq_true c12
      have c12b1 : decide (a2 ≤ (t369.length : Int)) = true := decide_eq_true c12
      clear c12
      obtain ⟨y372, hy372⟩ : ∃ y_ : List Int, y_ = ((t369.take (a2 : Int).toNat).drop (a1 : Int).toNat) := ⟨_, rfl⟩
      replace H : ((bureauref03_Pack.f k y372).bind fun t376 => (some (a0_0.extract (a1 : Int).toNat (a2 : Int).toNat, t376, 0))) = some (r1, r2, r3) := by first | (rw [hy372]; with_reducible exact H) | (have H2_ := (Option.bind_some _ _).symm.trans H; rw [hy372]; with_reducible exact H2_) | (have H2_ := (Option.bind_some _ _).symm.trans H; with_reducible exact H2_) | with_reducible exact H | (rw [hy372]; exact H) | exact H
      have Ny372 := aM hy372
      clear hy372
      replace H := Option.bind_eq_some_iff.mp H
      obtain ⟨t376, A130, H⟩ := H
      replace H : (some (a0_0.extract (a1 : Int).toNat (a2 : Int).toNat, t376, 0)) = some (r1, r2, r3) := H
      have A13 := aM A130
      clear A130
      simp only [Option.some.injEq, Prod.mk.injEq] at H
      obtain ⟨rfl, rfl, rfl⟩ := H
      go_enter Try.func33, Try.ntmps33
      try go_wp2_with (first | ((with_reducible refine gate_dst (N := 3) rfl ?_); refine box_event ?hg (N := 3) ?hd (cs := #[.string a0_0, .slice A0_1 l0_1.length c0_1]) (t := 24) ?hr ?_; (case hd | hg => rfl); (case hr => first | (go_simp; done) | (go_simp; rfl)); intro gb366 hg w14 hbox hb; have n0_ := aM (bP (ey HB.out) hb); have n1_ := aM (hbox); have n2_ := aM ((by rw [hg]; exact (bZ (ey HB.out)) : w.heap.size ≤ gb366)); have n3_ := n2_; clear HB; have HB := n0_; have BK366 := n1_; have GW366 := n2_; have GE366 := n3_; clear n0_ n1_ n2_ n3_; clear hb hbox hg) | ((with_reducible refine gate_dst (N := 6) rfl ?_); refine box_event ?hg (N := 6) ?hd (cs := #[.string (⟨#[]⟩ : ByteArray), .slice none 0 0]) (t := 24) ?hr ?_; (case hd | hg => rfl); (case hr => first | (go_simp; done) | (go_simp; rfl)); intro gb367 hg w15 hbox hb; have n0_ := aM (bB (g := gb366) (qy BK366.out) hb); have n1_ := aM (bP (by repeat (first | (with_reducible first | exact HB.out | apply ea | apply en | apply ed | refine es ?_ GE366.out) | exact HB.out)) hb); have n2_ := aM (hbox); have n3_ := aM ((by rw [hg]; exact (bZ (by repeat (first | (with_reducible first | exact HB.out | apply ea | apply en | apply ed | refine es ?_ GE366.out) | exact HB.out))) : w.heap.size ≤ gb367)); have n4_ := n3_; have n5_ := aM ((by rw [hg]; exact Nat.ne_of_lt (blk_lt (g := gb366) (qy BK366.out)) : gb366 ≠ gb367)); have n6_ := aM ((by rw [hg]; exact Nat.ne_of_gt (blk_lt (g := gb366) (qy BK366.out)) : gb367 ≠ gb366)); clear BK366 HB; have BK366 := n0_; have HB := n1_; have BK367 := n2_; have GW367 := n3_; have GE367 := n4_; have NB366_367 := n5_; have NB367_366 := n6_; clear n0_ n1_ n2_ n3_ n4_ n5_ n6_; clear hb hbox hg; have hnb16 := NB366_367.out; have hnc16 := NB367_366.out; have hcz17_0 := zC BK366.out 0 (.string a0_0); have hcz17_1 := zC BK366.out 1 (.slice A0_1 l0_1.length c0_1); have hfz17_0 := bF BK366.out 0; have hfz17_1 := bF BK366.out 1) | ((with_reducible refine gate_callee (f := 58) rfl ?_); refine goesL_ (some 12) rfl rfl Try.func58 (by kernel_rfl) rfl #[.agg #[.string a0_0, .slice A0_1 l0_1.length c0_1], .int .i64 a1, .int .i64 a2] rfl (by (try simp only [mT, mC, mN]); first | done | rfl | (simp only [lD, lT]; rfl)) ?_; (with_reducible refine (bureauref04_Within.calls k a0_0 _ _ l0_1 a1 a2 true _ ?side1 ?side2 A4.out).mono ?_); (case side1 => repeat (first | exact (cB_ HR0_1.out HB.out) | (with_reducible refine Kd.C_alloc ?_ _) | (with_reducible refine Kd.C_drewN ?_ _) | (with_reducible refine Kd.C_drew ?_))); (case side2 => exact HC0_1.out); rintro e w18 ⟨rfl, hb⟩; refine ⟨_, rfl, ?_⟩; have n0_ := aM (bB (g := gb366) (qy BK366.out) hb); have n1_ := aM (bB (g := gb367) (qy BK367.out) hb); have n2_ := aM (bP (by repeat (first | (with_reducible first | exact HB.out | apply ea | apply en | apply ed | refine es ?_ GE366.out | refine es ?_ GE367.out) | exact HB.out)) hb); clear BK366 BK367 HB; have BK366 := n0_; have BK367 := n1_; have HB := n2_; clear n0_ n1_ n2_; (try clear hb); (try clear hb2); (try clear hk); (try clear hi); have hcz19_0 := zC BK366.out 0 (.string a0_0); have hcz19_1 := zC BK366.out 1 (.slice A0_1 l0_1.length c0_1); have hfz19_0 := bF BK366.out 0; have hfz19_1 := bF BK366.out 1) | ((with_reducible refine gate_callee (f := 40) rfl ?_); refine goesL_ (some 17) rfl rfl Try.func40 (by kernel_rfl) rfl #[.slice A0_1 l0_1.length c0_1] rfl (by (try simp only [mT, mC, mN]); first | done | rfl | (simp only [lD, lT]; rfl)) ?_; (with_reducible refine (bureauref03_Bytes.calls k _ _ l0_1 t369 _ ?side1 ?side2 A6.out).mono ?_); (case side1 => repeat (first | exact (cB_ HR0_1.out HB.out) | (with_reducible refine Kd.C_alloc ?_ _) | (with_reducible refine Kd.C_drewN ?_ _) | (with_reducible refine Kd.C_drew ?_))); (case side2 => exact HC0_1.out); rintro e w20 ⟨v370, rfl, ho0, hb⟩; refine ⟨_, rfl, ?_⟩; have n0_ := aM (rL ho0 (bZ (by repeat (first | (with_reducible first | exact HB.out | apply ea | apply en | apply ed | refine es ?_ GE366.out | refine es ?_ GE367.out) | exact HB.out)))); have n1_ := aM (bB (g := gb366) (qy BK366.out) hb); have n2_ := aM (bB (g := gb367) (qy BK367.out) hb); have n3_ := aM (bP (by repeat (first | (with_reducible first | exact HB.out | apply ea | apply en | apply ed | refine es ?_ GE366.out | refine es ?_ GE367.out) | exact HB.out)) hb); clear BK366 BK367 HB; have HO371 := n0_; have BK366 := n1_; have BK367 := n2_; have HB := n3_; clear n0_ n1_ n2_ n3_; (try clear hb); (try clear hb2); (try clear hk); (try clear hi); (try clear ho0)))
      have n0_ := aM (Kd.R_drew HO371.out)
      have n1_ := aM (blk_drew BK366.out)
      have n2_ := aM (blk_drew BK367.out)
      have n3_ := aM (below_drew1 HB.out)
      clear HO371
      clear BK366
      clear BK367
      clear HB
      have HO371 := n0_
      have BK366 := n1_
      have BK367 := n2_
      have HB := n3_
      clear n0_ n1_ n2_ n3_
      obtain ⟨Ao23, co23, eo23⟩ := Kd.R_slice HO371.out
      (first | subst eo23 | (injection eo23 with f1_ f2_ f3_; have f4_ := f1_.symm; have f5_ := f3_.symm; clear f1_ f2_ f3_; subst f4_; subst f5_))
      have q22 : (a2 : Int) ≤ ((t369.length : Int) : Int) := of_decide_eq_true (by first | (with_reducible assumption) | assumption)
      obtain ⟨i022, hi022, _, hsz22, _⟩ := info_parts info26
      have hroom22 : t369.length ≤ co23 := (rR HO371.out).2.1
      have hC22 : Kd.C (Kd.int .u64) _ Ao23 t369.length t369 := (rR HO371.out).2.2
      have ql22 : (a1 : Int) ≤ (a2 : Int) := of_decide_eq_true (by first | (with_reducible assumption) | assumption)
      have q022 : (0 : Int) ≤ (a1 : Int) := of_decide_eq_true (by first | (with_reducible assumption) | assumption)
      have hcut22 := cut_mid (P := Try.prog) 80 26 .i64 .i64 Try.underlying80 hi022 1 hsz22 Ao23 t369.length co23 a1 a2 q022 ql22 q22 hroom22
      have hr22 := Kd.C_mid (lo := (a1 : Int).toNat) (hi := (a2 : Int).toNat) (c := co23) hC22 (by omega) (by omega) hroom22
      obtain ⟨A22, hA22⟩ : ∃ A1, A1 = (if co23 = (a1 : Int).toNat then Ao23 else (Ao23 : Option Addr).map (·.add ((a1 : Int).toNat * 1))) := ⟨_, rfl⟩
      obtain ⟨c22, hc22⟩ : ∃ c1, c1 = co23 - (a1 : Int).toNat := ⟨_, rfl⟩
      have hy22 : y372.length = (a2 : Int).toNat - (a1 : Int).toNat := (by rw [Ny372.out, lD, lT] <;> omega)
      rw [show ((t369).take (a2 : Int).toNat).drop (a1 : Int).toNat = y372 from Ny372.out.symm] at hr22
      replace hr22 : Kd.C (Kd.int .u64) _ A22 y372.length y372 := (by rw [hA22]; exact hr22)
      rw [← hy22, ← hA22, ← hc22] at hcut22
      have HR375 := aM hr22
      have HC375 := aM (show y372.length ≤ c22 from by rw [hy22, hc22]; exact Nat.sub_le_sub_right (Nat.le_trans (by omega) hroom22) _)
      clear hr22 hC22 hroom22 hi022 hsz22 hc22
      have KY22 := aM hy22
      have KA22 := aM hA22
      clear hy22 hA22
      have KL22 := aM (show (a2 : Int).toNat ≤ t369.length from by omega)
      have KM22 := aM (show (a1 : Int).toNat ≤ (a2 : Int).toNat from by omega)
      replace q22 := eq_true q22
      refine start_ (n := 13) (S := fun w' => w'.cell? ⟨gb366, 0, none⟩ = some (.string a0_0) ∧ w'.cell? ⟨gb366, 1, none⟩ = some (.slice A0_1 l0_1.length c0_1)) (ds := []) b10_ (by kernel_rfl) rfl rfl ⟨(bC BK366.out 0).trans rfl, (bC BK366.out 1).trans rfl⟩ (fun hHeld => ?_); refine with_tabW bureauref04_Cut.tab4 bureauref04_Cut.bits4 (fun HT_ HW_ => ?_)
      generalize w20.drew = w21 at HO371 BK366 BK367 HB HR375 hHeld ⊢
      refine pv 0 18 b11_ HT_ ?_
      refine pv 2 20 b126_ HT_ ?_
      refine pv 3 21 b127_ HT_ ?_
      refine pv 5 23 b128_ HT_ ?_
      refine pv 6 24 b129_ HT_ ?_
      refine pv 7 25 b130_ HT_ ?_
      refine pv 8 26 b131_ HT_ ?_
      refine pt 1 19 b132_ HT_ HW_ hHeld ?_
      refine pv 4 22 b27_ HT_ ?_
      refine one_ (i := 9) (N := some 27) b20_ rfl rfl (one_of HT_.out (by kernel_rfl)) (by decide) (fun K hK => ?_)
      refine goes_ Try.func57 (by kernel_rfl) rfl #[.slice A22 y372.length c22] (by rfl) rfl rfl (by (try simp only [mT, mC, mN]); first | done | rfl | (simp only [lD, lT]; rfl)) ?_
      with_reducible refine (bureauref03_Pack.calls k _ _ y372 t376 _ ?side1 ?side2 A13.out).mono ?_
      (case side1 => repeat (first | exact (by repeat (first | (with_reducible exact HR375.out) | (with_reducible refine Kd.C_alloc ?_ _) | (with_reducible refine Kd.C_drewN ?_ _) | (with_reducible refine Kd.C_drew ?_) | exact HR375.out)) | (with_reducible refine Kd.C_alloc ?_ _) | (with_reducible refine Kd.C_drewN ?_ _) | (with_reducible refine Kd.C_drew ?_)))
      (case side2 => exact HC375.out)
      rintro e w24 ⟨v377, rfl, ho0, hb⟩
      refine ⟨_, rfl, ?_⟩
      have n0_ := aM (Kd.R_below (ry HO371.out) hb)
      have n1_ := aM (rL ho0 (bZ (by repeat (first | (with_reducible first | exact HB.out | apply ea | apply en | apply ed | refine es ?_ GE366.out | refine es ?_ GE367.out) | exact HB.out))))
      have n2_ := aM (bB (g := gb366) (qy BK366.out) hb)
      have n3_ := aM (bB (g := gb367) (qy BK367.out) hb)
      have n4_ := aM (cB_ (by repeat (first | (with_reducible exact HR375.out) | (with_reducible refine Kd.C_alloc ?_ _) | (with_reducible refine Kd.C_drewN ?_ _) | (with_reducible refine Kd.C_drew ?_) | exact HR375.out)) hb)
      have n5_ := aM (bP (by repeat (first | (with_reducible first | exact HB.out | apply ea | apply en | apply ed | refine es ?_ GE366.out | refine es ?_ GE367.out) | exact HB.out)) hb)
      clear HO371
      clear BK366
      clear BK367
      clear HR375
      clear HB
      have HO371 := n0_
      have HO378 := n1_
      have BK366 := n2_
      have BK367 := n3_
      have HR375 := n4_
      have HB := n5_
      clear n0_ n1_ n2_ n3_ n4_ n5_
      (try clear hb)
      (try clear hb2)
      (try clear hk)
      (try clear hi)
      (try clear ho0)
      obtain ⟨Ao25, co25, eo25⟩ := Kd.R_slice HO378.out
      (first | subst eo25 | (injection eo25 with f1_ f2_ f3_; have f4_ := f1_.symm; have f5_ := f3_.symm; clear f1_ f2_ f3_; subst f4_; subst f5_))
      refine hK.out _ _ ⟨(bC BK366.out 0).trans rfl, (bC BK366.out 1).trans rfl⟩ (fun hHeld => ?_)
      clear hK K
      refine norm_ (a' := ?_) ?_ ?_
      rotate_left
      ·show Act.put _ (some 27) _ = _
       simp only [Act.put, sA, sZ, sS, i64_w, i32_w]
       rfl
      refine pv 10 28 b21_ HT_ ?_
      refine one_ (i := 11) (N := none) b22_ rfl rfl (one_of HT_.out (by kernel_rfl)) (by decide) (fun K hK => ?_)
      have hs26 : w24.cell? ⟨gb367, 0, none⟩ = some (.string (⟨#[]⟩ : ByteArray)) := (bC BK367.out 0).trans rfl
      have hfs26 := bF BK367.out 0
      have hns26_0 := NB366_367.out
      have hms26_0 := NB367_366.out
      have hs27 : w24.cell? ⟨gb367, 1, none⟩ = some (.slice none 0 0) := (bC BK367.out 1).trans rfl
      have hfs27 := bF BK367.out 1
      have hns27_0 := NB366_367.out
      have hms27_0 := NB367_366.out
      refine skip_ (w1 := ?_) (by rfl) rfl ?_ ?_
      rotate_left
      ·go_simp
       rfl
      refine hK.out _ _ ⟨((cell_far (p := ⟨gb367, _, none⟩) NB366_367.out _).trans (((cell_far (p := ⟨gb367, _, none⟩) NB366_367.out _).trans (hHeld.1)))), ((cell_far (p := ⟨gb367, _, none⟩) NB366_367.out _).trans (((cell_far (p := ⟨gb367, _, none⟩) NB366_367.out _).trans (hHeld.2))))⟩ (fun hHeld => ?_)
      clear hK K
      refine pv 12 7 b23_ HT_ ?_
      refine done_ (done_of HT_.out (by kernel_rfl)) ?_
      try go_wp2
      refine bodyPost_ret (results_ct rfl _ _ gb367 24 #[.string (a0_0.extract (a1 : Int).toNat (a2 : Int).toNat), .slice Ao25 t376.length co25] (0, 0) _ rfl (by (with_reducible repeat (first | apply qn | apply qd | apply qa)); refine bU (cs := #[.string (a0_0.extract (a1 : Int).toNat (a2 : Int).toNat), .slice none 0 0]) ?_ 1 _ rfl; (with_reducible repeat (first | apply qn | apply qd | apply qa)); refine bU (cs := #[.string (⟨#[]⟩ : ByteArray), .slice none 0 0]) ?_ 0 _ rfl; exact qy BK367.out) Try.underlying24 rfl (by kernel_rfl)) rfl ?_
      exact ⟨_, by first | rfl | (simp [errW_none, errW_some] <;> rfl) | (simp [*, errW_none, errW_some] <;> rfl), by (with_reducible repeat (first | apply ra | apply rn | apply rd_)); exact rM (rF (p := ⟨gb367, 1, none⟩) (rF (p := ⟨gb367, 0, none⟩) (rT HO378.out BK367.out (by decide)) (fun _ hk => hk.2) (.string (a0_0.extract (a1 : Int).toNat (a2 : Int).toNat))) (fun _ hk => hk.2) (.slice Ao25 t376.length co25)) (fun _ hk => trivial), by repeat (first | (with_reducible first | exact HB.out | apply ea | apply en | apply ed | refine es ?_ GE366.out | refine es ?_ GE367.out) | exact HB.out)⟩
     ·rw [if_neg c12] at H
      exact absurd H (by simp)
    ·rw [if_neg c9] at H
     exact absurd H (by simp)
   ·rw [if_neg c8] at H
    exact absurd H (by simp)
  ·rw [if_neg c7] at H
   exact absurd H (by simp)
 ·replace c5 := Bool.eq_false_iff.mpr c5
  subst c5
  have H1 : (some ((⟨#[]⟩ : ByteArray), ([] : List (S51)), 2)) = some (r1, r2, r3) := by rw [if_neg (show ¬ (false = true) by decide)] at H; exact H
  clear H
  have H := H1
  clear H1
  simp only [Option.some.injEq, Prod.mk.injEq] at H
  obtain ⟨rfl, rfl, rfl⟩ := H
  go_enter Try.func33, Try.ntmps33
  go_wp2_with (first | ((with_reducible refine gate_dst (N := 3) rfl ?_); refine box_event ?hg (N := 3) ?hd (cs := #[.string a0_0, .slice A0_1 l0_1.length c0_1]) (t := 24) ?hr ?_; (case hd | hg => rfl); (case hr => first | (go_simp; done) | (go_simp; rfl)); intro gb366 hg w28 hbox hb; have n0_ := aM (bP (ey HB.out) hb); have n1_ := aM (hbox); have n2_ := aM ((by rw [hg]; exact (bZ (ey HB.out)) : w.heap.size ≤ gb366)); have n3_ := n2_; clear HB; have HB := n0_; have BK366 := n1_; have GW366 := n2_; have GE366 := n3_; clear n0_ n1_ n2_ n3_; clear hb hbox hg) | ((with_reducible refine gate_dst (N := 6) rfl ?_); refine box_event ?hg (N := 6) ?hd (cs := #[.string (⟨#[]⟩ : ByteArray), .slice none 0 0]) (t := 24) ?hr ?_; (case hd | hg => rfl); (case hr => first | (go_simp; done) | (go_simp; rfl)); intro gb367 hg w29 hbox hb; have n0_ := aM (bB (g := gb366) (qy BK366.out) hb); have n1_ := aM (bP (by repeat (first | (with_reducible first | exact HB.out | apply ea | apply en | apply ed | refine es ?_ GE366.out) | exact HB.out)) hb); have n2_ := aM (hbox); have n3_ := aM ((by rw [hg]; exact (bZ (by repeat (first | (with_reducible first | exact HB.out | apply ea | apply en | apply ed | refine es ?_ GE366.out) | exact HB.out))) : w.heap.size ≤ gb367)); have n4_ := n3_; have n5_ := aM ((by rw [hg]; exact Nat.ne_of_lt (blk_lt (g := gb366) (qy BK366.out)) : gb366 ≠ gb367)); have n6_ := aM ((by rw [hg]; exact Nat.ne_of_gt (blk_lt (g := gb366) (qy BK366.out)) : gb367 ≠ gb366)); clear BK366 HB; have BK366 := n0_; have HB := n1_; have BK367 := n2_; have GW367 := n3_; have GE367 := n4_; have NB366_367 := n5_; have NB367_366 := n6_; clear n0_ n1_ n2_ n3_ n4_ n5_ n6_; clear hb hbox hg; have hnb30 := NB366_367.out; have hnc30 := NB367_366.out; have hcz31_0 := zC BK366.out 0 (.string a0_0); have hcz31_1 := zC BK366.out 1 (.slice A0_1 l0_1.length c0_1); have hfz31_0 := bF BK366.out 0; have hfz31_1 := bF BK366.out 1) | ((with_reducible refine gate_callee (f := 58) rfl ?_); refine goesL_ (some 12) rfl rfl Try.func58 (by kernel_rfl) rfl #[.agg #[.string a0_0, .slice A0_1 l0_1.length c0_1], .int .i64 a1, .int .i64 a2] rfl (by (try simp only [mT, mC, mN]); first | done | rfl | (simp only [lD, lT]; rfl)) ?_; (with_reducible refine (bureauref04_Within.calls k a0_0 _ _ l0_1 a1 a2 false _ ?side1 ?side2 A4.out).mono ?_); (case side1 => repeat (first | exact (cB_ HR0_1.out HB.out) | (with_reducible refine Kd.C_alloc ?_ _) | (with_reducible refine Kd.C_drewN ?_ _) | (with_reducible refine Kd.C_drew ?_))); (case side2 => exact HC0_1.out); rintro e w32 ⟨rfl, hb⟩; refine ⟨_, rfl, ?_⟩; have n0_ := aM (bB (g := gb366) (qy BK366.out) hb); have n1_ := aM (bB (g := gb367) (qy BK367.out) hb); have n2_ := aM (bP (by repeat (first | (with_reducible first | exact HB.out | apply ea | apply en | apply ed | refine es ?_ GE366.out | refine es ?_ GE367.out) | exact HB.out)) hb); clear BK366 BK367 HB; have BK366 := n0_; have BK367 := n1_; have HB := n2_; clear n0_ n1_ n2_; (try clear hb); (try clear hb2); (try clear hk); (try clear hi); have hcz33_0 := zC BK367.out 0 (.string (⟨#[]⟩ : ByteArray)); have hcz33_1 := zC BK367.out 1 (.slice none 0 0); have hfz33_0 := bF BK367.out 0; have hfz33_1 := bF BK367.out 1))
  refine bodyPost_ret (results_ct rfl _ _ gb367 24 #[.string (⟨#[]⟩ : ByteArray), .slice none 0 0] (0, 0) _ rfl (by (with_reducible repeat (first | apply qn | apply qd | apply qa)); refine bU (cs := #[.string (⟨#[]⟩ : ByteArray), .slice none 0 0]) ?_ 1 _ rfl; (with_reducible repeat (first | apply qn | apply qd | apply qa)); refine bU (cs := #[.string (⟨#[]⟩ : ByteArray), .slice none 0 0]) ?_ 0 _ rfl; exact qy BK367.out) Try.underlying24 rfl (by kernel_rfl)) rfl ?_
  exact ⟨_, by first | rfl | (simp [errW_none, errW_some] <;> rfl) | (simp [*, errW_none, errW_some] <;> rfl), by first | exact Kd.R_nil _ _ _ _ _ | exact Kd.N_nil _ _ _ _ _ | exact Kd.V_nil _ _ _ _ _ | exact Kd.Q_nil _ _ _ _ _ | exact Kd.S_nil _ _ _ _ _, by repeat (first | (with_reducible first | exact HB.out | apply ea | apply en | apply ed | refine es ?_ GE366.out | refine es ?_ GE367.out) | exact HB.out)⟩
end Go.Proofs.Ytnbdldpjiofafaa.PB
end

section
namespace Go.Proofs.Ytnbdldpjiofafaa.PB
open Go.RowKit Go.Proofs.YtnbdldpjiofafaaW.PrintWords Go.Proofs.YtnbdldpjiofafaaW.PrintLast Go.Proofs.YtnbdldpjiofafaaW.PrintMore
attribute [local go_sem] max2_int min2_int max_two min_two max_three min_three max_four min_four   
set_option linter.unusedVariables false
set_option linter.unusedSimpArgs false
mutual
def bureauref15_put.l0 : Nat → Int → Int → List Int → List Int → List Int → Int → ByteArray → List (S51) → ByteArray → List (S51) → Option (ByteArray × (List (S51)))
 | 0, _, _, _, _, _, _, _, _, _, _ => none
 | k + 1, x1, x2, x9, x10, x11, x12, x380000, x380001, x381000, x381001 => if x12 < x1 then (if 0 ≤ x12 then (if x12 < (x9.length : Int) then (if x11.length < 17592186044416 then (bureauref15_put.l0 k x1 x2 x9 x10 (x11 ++ [rd x9 x12]) (wrap64 (x12 + 1)) x380000 x380001 x381000 x381001) else (none)) else (none)) else (none)) else (bureauref15_put.l1 k x1 x2 x9 x10 x11 0 x380000 x380001 x381000 x381001)
def bureauref15_put.l1 : Nat → Int → Int → List Int → List Int → List Int → Int → ByteArray → List (S51) → ByteArray → List (S51) → Option (ByteArray × (List (S51)))
 | 0, _, _, _, _, _, _, _, _, _, _ => none
 | k + 1, x1, x2, x9, x10, x11, x13, x380000, x380001, x381000, x381001 => if x13 < (x10.length : Int) then (if 0 ≤ x13 then (if x11.length < 17592186044416 then (bureauref15_put.l1 k x1 x2 x9 x10 (x11 ++ [rd x10 x13]) (wrap64 (x13 + 1)) x380000 x380001 x381000 x381001) else (none)) else (none)) else (bureauref15_put.l2 k x1 x2 x9 x11 x2 x380000 x380001 x381000 x381001)
def bureauref15_put.l2 : Nat → Int → Int → List Int → List Int → Int → ByteArray → List (S51) → ByteArray → List (S51) → Option (ByteArray × (List (S51)))
 | 0, _, _, _, _, _, _, _, _, _ => none
 | k + 1, x1, x2, x9, x11, x14, x380000, x380001, x381000, x381001 => if x14 < (x9.length : Int) then (if 0 ≤ x14 then (if x11.length < 17592186044416 then (bureauref15_put.l2 k x1 x2 x9 (x11 ++ [rd x9 x14]) (wrap64 (x14 + 1)) x380000 x380001 x381000 x381001) else (none)) else (none)) else (if 0 ≤ x1 then (if x1 ≤ (x380000.size : Int) then (if (x380000.extract 0 (x1 : Int).toNat).size + x381000.size ≤ 9223372036854775807 then (if 0 ≤ x2 then (if x2 ≤ (x380000.size : Int) then (if ((x380000.extract 0 (x1 : Int).toNat) ++ x381000).size + (x380000.extract (x2 : Int).toNat x380000.size).size ≤ 9223372036854775807 then ((bureauref03_Pack.f k x11).bind fun t400 => (some (((x380000.extract 0 (x1 : Int).toNat) ++ x381000) ++ (x380000.extract (x2 : Int).toNat x380000.size), t400))) else (none)) else (none)) else (none)) else (none)) else (none)) else (none))
end
def bureauref15_put.f (k : Nat) (a0_0 : ByteArray) (l0_1 : List (S51)) (a1 : Int) (a2 : Int) (a3_0 : ByteArray) (l3_1 : List (S51)) : Option (ByteArray × (List (S51))) := (bureauref03_Bytes.f k l0_1).bind fun t382 => ((bureauref03_Bytes.f k l3_1).bind fun t385 => (bureauref15_put.l0 k a1 a2 t382 t385 ([] : List Int) 0 a0_0 l0_1 a3_0 l3_1))
def bureauref15_put.T1 : Bool × List (List Nat × List Nat) := (true, [([], []), ([0], [0]), ([1], [1]), ([], []), ([3], [3]), ([4, 2], [4]), ([2, 5, 0, 1, 2], [2]), ([5, 6, 0, 1, 2, 3, 4, 5, 6], [5])])
def bureauref15_put.B1 : List Nat := [0, 1, 3, 0, 8, 31, 63, 127]
theorem bureauref15_put.tab1 : rtab .any (opsOf Try.f34 1) = bureauref15_put.T1 := by kernel_rfl
theorem bureauref15_put.bits1 : waitsOk bureauref15_put.T1.2 bureauref15_put.B1 = true := by kernel_rfl
def bureauref15_put.T15 : Bool × List (List Nat × List Nat) := (true, [([], []), ([0], [0]), ([], []), ([1, 2], [1, 2]), ([], []), ([4], [4]), ([3, 5], [3, 5]), ([], []), ([7], [7]), ([], []), ([8, 9], [8, 9]), ([6, 10], [6, 10]), ([], []), ([12], [12]), ([11, 13], [11, 13]), ([14, 13, 0, 1, 2, 3, 4, 5, 6, 7, 8, 9, 10, 11, 12, 13, 14], [14])])
def bureauref15_put.B15 : List Nat := [0, 1, 0, 7, 0, 16, 63, 0, 128, 0, 896, 2047, 0, 4096, 16383, 32767]
theorem bureauref15_put.tab15 : rtab .any (opsOf Try.f34 15) = bureauref15_put.T15 := by kernel_rfl
theorem bureauref15_put.bits15 : waitsOk bureauref15_put.T15.2 bureauref15_put.B15 = true := by kernel_rfl
set_option maxHeartbeats 8000000 in
set_option maxRecDepth 100000 in
theorem bureauref15_put.calls (k : Nat) (a0_0 : ByteArray) (A0_1 : Option Addr) (c0_1 : Nat) (l0_1 : List (S51)) (a1 : Int) (a2 : Int) (a3_0 : ByteArray) (A3_1 : Option Addr) (c3_1 : Nat) (l3_1 : List (S51)) (r1 : ByteArray) (r2 : List (S51)) (w : World) (hr0_1 : Kd.C k51 w A0_1 l0_1.length l0_1) (hc0_1 : l0_1.length ≤ c0_1) (hr3_1 : Kd.C k51 w A3_1 l3_1.length l3_1) (hc3_1 : l3_1.length ≤ c3_1) (h : bureauref15_put.f k a0_0 l0_1 a1 a2 a3_0 l3_1 = some (r1, r2)) :
  Calls Try.prog 34 #[.agg #[.string a0_0, .slice A0_1 l0_1.length c0_1], .int .i64 a1, .int .i64 a2, .agg #[.string a3_0, .slice A3_1 l3_1.length c3_1]] w fun e w' => ∃ v1_ : Value, e = .returned (.agg #[.string r1, v1_]) ∧ Kd.R k51 51 w' w.heap.size (fun _ => True) v1_ r2 ∧ Below w.heap.size w w' := by
 have hu24 := Try.underlying24
 have HR0_1 := aM hr0_1
 have HC0_1 := aM hc0_1
 clear hr0_1 hc0_1
 have HR3_1 := aM hr3_1
 have HC3_1 := aM hc3_1
 clear hr3_1 hc3_1
 have HB := aM (Below.refl w.heap.size w)
 have H : ((bureauref03_Bytes.f k l0_1).bind fun t382 => ((bureauref03_Bytes.f k l3_1).bind fun t385 => (bureauref15_put.l0 k a1 a2 t382 t385 ([] : List Int) 0 a0_0 l0_1 a3_0 l3_1))) = some (r1, r2) := h
 clear h
 replace H := Option.bind_eq_some_iff.mp H
 obtain ⟨t382, A50, H⟩ := H
 replace H : ((bureauref03_Bytes.f k l3_1).bind fun t385 => (bureauref15_put.l0 k a1 a2 t382 t385 ([] : List Int) 0 a0_0 l0_1 a3_0 l3_1)) = some (r1, r2) := H
 have A5 := aM A50
 clear A50
 replace H := Option.bind_eq_some_iff.mp H
 obtain ⟨t385, A60, H⟩ := H
 replace H : (bureauref15_put.l0 k a1 a2 t382 t385 ([] : List Int) 0 a0_0 l0_1 a3_0 l3_1) = some (r1, r2) := H
 have A6 := aM A60
 clear A60
 have H' := aM H
 clear H
 go_enter Try.func34, Try.ntmps34
 try go_wp2_with (first | ((with_reducible refine gate_dst (N := 4) rfl ?_); refine box_event ?hg (N := 4) ?hd (cs := #[.string a0_0, .slice A0_1 l0_1.length c0_1]) (t := 24) ?hr ?_; (case hd | hg => rfl); (case hr => first | (go_simp; done) | (go_simp; rfl)); intro gb379 hg w7 hbox hb; have n0_ := aM (bP (ey HB.out) hb); have n1_ := aM (hbox); have n2_ := aM ((by rw [hg]; exact (bZ (ey HB.out)) : w.heap.size ≤ gb379)); have n3_ := n2_; clear HB; have HB := n0_; have BK379 := n1_; have GW379 := n2_; have GE379 := n3_; clear n0_ n1_ n2_ n3_; clear hb hbox hg) | ((with_reducible refine gate_dst (N := 7) rfl ?_); refine box_event ?hg (N := 7) ?hd (cs := #[.string a3_0, .slice A3_1 l3_1.length c3_1]) (t := 24) ?hr ?_; (case hd | hg => rfl); (case hr => first | (go_simp; done) | (go_simp; rfl)); intro gb380 hg w8 hbox hb; have n0_ := aM (bB (g := gb379) (qy BK379.out) hb); have n1_ := aM (bP (by repeat (first | (with_reducible first | exact HB.out | apply ea | apply en | apply ed | refine es ?_ GE379.out) | exact HB.out)) hb); have n2_ := aM (hbox); have n3_ := aM ((by rw [hg]; exact (bZ (by repeat (first | (with_reducible first | exact HB.out | apply ea | apply en | apply ed | refine es ?_ GE379.out) | exact HB.out))) : w.heap.size ≤ gb380)); have n4_ := n3_; have n5_ := aM ((by rw [hg]; exact Nat.ne_of_lt (blk_lt (g := gb379) (qy BK379.out)) : gb379 ≠ gb380)); have n6_ := aM ((by rw [hg]; exact Nat.ne_of_gt (blk_lt (g := gb379) (qy BK379.out)) : gb380 ≠ gb379)); clear BK379 HB; have BK379 := n0_; have HB := n1_; have BK380 := n2_; have GW380 := n3_; have GE380 := n4_; have NB379_380 := n5_; have NB380_379 := n6_; clear n0_ n1_ n2_ n3_ n4_ n5_ n6_; clear hb hbox hg) | ((with_reducible refine gate_dst (N := 8) rfl ?_); refine box_event ?hg (N := 8) ?hd (cs := #[.string (⟨#[]⟩ : ByteArray), .slice none 0 0]) (t := 24) ?hr ?_; (case hd | hg => rfl); (case hr => first | (go_simp; done) | (go_simp; rfl)); intro gb381 hg w9 hbox hb; have n0_ := aM (bB (g := gb379) (qy BK379.out) hb); have n1_ := aM (bB (g := gb380) (qy BK380.out) hb); have n2_ := aM (bP (by repeat (first | (with_reducible first | exact HB.out | apply ea | apply en | apply ed | refine es ?_ GE379.out | refine es ?_ GE380.out) | exact HB.out)) hb); have n3_ := aM (hbox); have n4_ := aM ((by rw [hg]; exact (bZ (by repeat (first | (with_reducible first | exact HB.out | apply ea | apply en | apply ed | refine es ?_ GE379.out | refine es ?_ GE380.out) | exact HB.out))) : w.heap.size ≤ gb381)); have n5_ := n4_; have n6_ := aM ((by rw [hg]; exact Nat.ne_of_lt (blk_lt (g := gb379) (qy BK379.out)) : gb379 ≠ gb381)); have n7_ := aM ((by rw [hg]; exact Nat.ne_of_gt (blk_lt (g := gb379) (qy BK379.out)) : gb381 ≠ gb379)); have n8_ := aM ((by rw [hg]; exact Nat.ne_of_lt (blk_lt (g := gb380) (qy BK380.out)) : gb380 ≠ gb381)); have n9_ := aM ((by rw [hg]; exact Nat.ne_of_gt (blk_lt (g := gb380) (qy BK380.out)) : gb381 ≠ gb380)); clear BK379 BK380 HB; have BK379 := n0_; have BK380 := n1_; have HB := n2_; have BK381 := n3_; have GW381 := n4_; have GE381 := n5_; have NB379_381 := n6_; have NB381_379 := n7_; have NB380_381 := n8_; have NB381_380 := n9_; clear n0_ n1_ n2_ n3_ n4_ n5_ n6_ n7_ n8_ n9_; clear hb hbox hg))
 have n0_ := aM (blk_drew BK379.out)
 have n1_ := aM (blk_drew BK380.out)
 have n2_ := aM (blk_drew BK381.out)
 have n3_ := aM (below_drew1 HB.out)
 clear BK379
 clear BK380
 clear BK381
 clear HB
 have BK379 := n0_
 have BK380 := n1_
 have BK381 := n2_
 have HB := n3_
 clear n0_ n1_ n2_ n3_
 refine start_ (n := 8) (S := fun w' => w'.cell? ⟨gb379, 0, none⟩ = some (.string a0_0) ∧ w'.cell? ⟨gb379, 1, none⟩ = some (.slice A0_1 l0_1.length c0_1) ∧ w'.cell? ⟨gb380, 0, none⟩ = some (.string a3_0) ∧ w'.cell? ⟨gb380, 1, none⟩ = some (.slice A3_1 l3_1.length c3_1)) (ds := []) b45_ (by kernel_rfl) rfl rfl ⟨(bC BK379.out 0).trans rfl, (bC BK379.out 1).trans rfl, (bC BK380.out 0).trans rfl, (bC BK380.out 1).trans rfl⟩ (fun hHeld => ?_); refine with_tabW bureauref15_put.tab1 bureauref15_put.bits1 (fun HT_ HW_ => ?_)
 generalize w9.drew = w10 at BK379 BK380 BK381 HB hHeld ⊢
 refine pv 0 15 b46_ HT_ ?_
 refine pv 3 18 b133_ HT_ ?_
 refine pt 1 16 b134_ HT_ HW_ hHeld ?_
 refine pt 4 19 b135_ HT_ HW_ hHeld ?_
 refine one_ (i := 2) (N := some 17) b136_ rfl rfl (one_of HT_.out (by kernel_rfl)) (by decide) (fun K hK => ?_)
 refine goes_ Try.func40 (by kernel_rfl) rfl #[.slice A0_1 l0_1.length c0_1] (by rfl) rfl rfl (by (try simp only [mT, mC, mN]); first | done | rfl | (simp only [lD, lT]; rfl)) ?_
 with_reducible refine (bureauref03_Bytes.calls k _ _ l0_1 t382 _ ?side1 ?side2 A5.out).mono ?_
 (case side1 => repeat (first | exact (cB_ HR0_1.out HB.out) | (with_reducible refine Kd.C_alloc ?_ _) | (with_reducible refine Kd.C_drewN ?_ _) | (with_reducible refine Kd.C_drew ?_)))
 (case side2 => exact HC0_1.out)
 rintro e w11 ⟨v383, rfl, ho0, hb⟩
 refine ⟨_, rfl, ?_⟩
 have n0_ := aM (rL ho0 (bZ (by repeat (first | (with_reducible first | exact HB.out | apply ea | apply en | apply ed | refine es ?_ GE379.out | refine es ?_ GE380.out | refine es ?_ GE381.out) | exact HB.out))))
 have n1_ := aM (bB (g := gb379) (qy BK379.out) hb)
 have n2_ := aM (bB (g := gb380) (qy BK380.out) hb)
 have n3_ := aM (bB (g := gb381) (qy BK381.out) hb)
 have n4_ := aM (bP (by repeat (first | (with_reducible first | exact HB.out | apply ea | apply en | apply ed | refine es ?_ GE379.out | refine es ?_ GE380.out | refine es ?_ GE381.out) | exact HB.out)) hb)
 clear BK379
 clear BK380
 clear BK381
 clear HB
 have HO384 := n0_
 have BK379 := n1_
 have BK380 := n2_
 have BK381 := n3_
 have HB := n4_
 clear n0_ n1_ n2_ n3_ n4_
 (try clear hb)
 (try clear hb2)
 (try clear hk)
 (try clear hi)
 (try clear ho0)
 refine hK.out _ _ ⟨(bC BK379.out 0).trans rfl, (bC BK379.out 1).trans rfl, (bC BK380.out 0).trans rfl, (bC BK380.out 1).trans rfl⟩ (fun hHeld => ?_)
 clear hK K
 refine norm_ (a' := ?_) ?_ ?_
 rotate_left
 ·show Act.put _ (some 17) _ = _
  simp only [Act.put, sA, sZ, sS, i64_w, i32_w]
  rfl
 refine one_ (i := 5) (N := some 20) b51_ rfl rfl (one_of HT_.out (by kernel_rfl)) (by decide) (fun K hK => ?_)
 refine goes_ Try.func40 (by kernel_rfl) rfl #[.slice A3_1 l3_1.length c3_1] (by rfl) rfl rfl (by (try simp only [mT, mC, mN]); first | done | rfl | (simp only [lD, lT]; rfl)) ?_
 with_reducible refine (bureauref03_Bytes.calls k _ _ l3_1 t385 _ ?side1 ?side2 A6.out).mono ?_
 (case side1 => repeat (first | exact (cB_ HR3_1.out HB.out) | (with_reducible refine Kd.C_alloc ?_ _) | (with_reducible refine Kd.C_drewN ?_ _) | (with_reducible refine Kd.C_drew ?_)))
 (case side2 => exact HC3_1.out)
 rintro e w12 ⟨v386, rfl, ho0, hb⟩
 refine ⟨_, rfl, ?_⟩
 have n0_ := aM (rE (ry HO384.out) (Kd.R_base ho0) hb)
 have n1_ := aM (rL (Kd.R_new' ho0 (Kd.R_lt (ry HO384.out))) (bZ (by repeat (first | (with_reducible first | exact HB.out | apply ea | apply en | apply ed | refine es ?_ GE379.out | refine es ?_ GE380.out | refine es ?_ GE381.out) | exact HB.out))))
 have n2_ := aM (bB (g := gb379) (qy BK379.out) hb)
 have n3_ := aM (bB (g := gb380) (qy BK380.out) hb)
 have n4_ := aM (bB (g := gb381) (qy BK381.out) hb)
 have n5_ := aM (bP (by repeat (first | (with_reducible first | exact HB.out | apply ea | apply en | apply ed | refine es ?_ GE379.out | refine es ?_ GE380.out | refine es ?_ GE381.out) | exact HB.out)) hb)
 clear HO384
 clear BK379
 clear BK380
 clear BK381
 clear HB
 have HO384 := n0_
 have HO387 := n1_
 have BK379 := n2_
 have BK380 := n3_
 have BK381 := n4_
 have HB := n5_
 clear n0_ n1_ n2_ n3_ n4_ n5_
 (try clear hb)
 (try clear hb2)
 (try clear hk)
 (try clear hi)
 (try clear ho0)
 refine hK.out _ _ ⟨(bC BK379.out 0).trans rfl, (bC BK379.out 1).trans rfl, (bC BK380.out 0).trans rfl, (bC BK380.out 1).trans rfl⟩ (fun hHeld => ?_)
 clear hK K
 refine norm_ (a' := ?_) ?_ ?_
 rotate_left
 ·show Act.put _ (some 20) _ = _
  simp only [Act.put, sA, sZ, sS, i64_w, i32_w]
  rfl
 refine pv 6 9 b52_ HT_ ?_
 refine pv 7 10 b53_ HT_ ?_
 refine done_ (done_of HT_.out (by kernel_rfl)) ?_
 try go_wp2
 go_loopg [11, 12] k (fun kq v11 v12 w' => ∃ (x11_1 : List Int) (x12_1 : Int), v12 = .int .i64 x12_1 ∧ Aside0 (bureauref15_put.l0 kq a1 a2 t382 t385 x11_1 x12_1 a0_0 l0_1 a3_0 l3_1 = some (r1, r2)) ∧ Aside0 (kq ≤ k) ∧ Aside0 (Kd.R (Kd.int .u64) 26 w' w.heap.size (fun k_ => some k_ ≠ (v386 : Value).ownBlock ∧ some k_ ≠ (v11 : Value).ownBlock) v383 t382) ∧ Aside0 (Kd.R (Kd.int .u64) 26 w' w.heap.size (fun k_ => some k_ ≠ (v383 : Value).ownBlock ∧ some k_ ≠ (v11 : Value).ownBlock) v386 t385) ∧ Aside0 (Kd.R (Kd.int .u64) 26 w' w.heap.size (fun k_ => some k_ ≠ (v383 : Value).ownBlock ∧ some k_ ≠ (v386 : Value).ownBlock) v11 x11_1) ∧ Aside0 (w'.heap[gb379]? = some (.cells #[.string a0_0, (.slice A0_1 l0_1.length c0_1)] 24 (0, 0))) ∧ Aside0 (w'.heap[gb380]? = some (.cells #[.string a3_0, (.slice A3_1 l3_1.length c3_1)] 24 (0, 0))) ∧ Aside0 (w'.heap[gb381]? = some (.cells #[.string (⟨#[]⟩ : ByteArray), (.slice none 0 0)] 24 (0, 0))) ∧ Aside0 (Below w.heap.size w w'))
 case atStart => exact ⟨(([] : List Int)), (0), (by first | rfl | (simp; done) | (simp [*]; done)), H', ⟨Nat.le_refl _⟩, ⟨by (with_reducible repeat (first | apply ra | apply rn | apply rd_)); exact rM HO384.out (fun _ hk => ⟨hk.2, (by simp [Value.ownBlock])⟩)⟩, ⟨by (with_reducible repeat (first | apply ra | apply rn | apply rd_)); exact rM HO387.out (fun _ hk => ⟨hk.2, (by simp [Value.ownBlock])⟩)⟩, ⟨by first | exact Kd.R_nil _ _ _ _ _ | exact Kd.N_nil _ _ _ _ _ | exact Kd.V_nil _ _ _ _ _ | exact Kd.Q_nil _ _ _ _ _ | exact Kd.S_nil _ _ _ _ _⟩, ⟨by exact qy BK379.out⟩, ⟨by exact qy BK380.out⟩, ⟨by exact qy BK381.out⟩, ⟨by repeat (first | (with_reducible first | exact HB.out | apply ea | apply en | apply ed | refine es ?_ GE379.out | refine es ?_ GE380.out | refine es ?_ GE381.out) | exact HB.out)⟩⟩
 case round =>
  clear H'
  try clear p2
  try clear c3
  try clear c4
  obtain ⟨x11_1, x12_1, rfl, HA, HK1, HO_9, HO_10, HO_11, BK379, BK380, BK381, HB⟩ := hrel
  cases gk with
  | zero => exact absurd HA.out (by simp [bureauref15_put.l0])
  | succ k1 =>
   have H := HA.out
   clear HA
   simp only [bureauref15_put.l0] at H
   by_cases c13 : x12_1 < a1
   ·rw [if_pos c13] at H
    have c13b0 : decide (x12_1 < a1) = true := decide_eq_true c13
    clear c13
    by_cases c14 : 0 ≤ x12_1
    ·rw [if_pos c14] at H
     have c14b0 : decide (0 ≤ x12_1) = true := decide_eq_true c14
     clear c14
     by_cases c15 : x12_1 < (t382.length : Int)
     ·rw [if_pos c15] at H
      have c15b0 : decide (x12_1 < (t382.length : Int)) = true := decide_eq_true c15
      clear c15
      by_cases c16 : x11_1.length < 17592186044416
      ·rw [if_pos c16] at H
       have LMc16 := aM c16
       clear c16
       obtain ⟨y389, hy389⟩ : ∃ y_ : List Int, y_ = (x11_1 ++ [rd t382 x12_1]) := ⟨_, rfl⟩
       replace H : (bureauref15_put.l0 k1 a1 a2 t382 t385 y389 (wrap64 (x12_1 + 1)) a0_0 l0_1 a3_0 l3_1) = some (r1, r2) := by first | (rw [hy389]; with_reducible exact H) | (have H2_ := (Option.bind_some _ _).symm.trans H; rw [hy389]; with_reducible exact H2_) | (have H2_ := (Option.bind_some _ _).symm.trans H; with_reducible exact H2_) | with_reducible exact H | (rw [hy389]; exact H) | exact H
       have Ny389 := aM hy389
       clear hy389
       have H' := aM H
       clear H
       obtain ⟨Ao17, co17, eo17⟩ := Kd.R_slice HO_9.out
       subst eo17
       have p388 : 0 ≤ (x12_1 : Int) := of_decide_eq_true (by first | (with_reducible assumption) | assumption)
       have q388 : x12_1 < (t382.length : Int) := of_decide_eq_true (by first | (with_reducible assumption) | assumption)
       obtain ⟨ad388, e388, hx388_0⟩ := Kd.at_int (rR HO_9.out).2.2 x12_1 p388 q388
       cases e388
       replace p388 := eq_true p388
       replace q388 := eq_true q388
       go_wp2_with (first | ((with_reducible refine gate_builtin (b := .append) (xs := #[.tmp 26, .tmp 31]) rfl ?_); at_builtin; refine Kd.R_append (Kd.int .u64) (w0 := w) w.heap.size rfl (.tmp 26) (.tmp 31) 80 26 (.int .u64 0) 8 rfl Try.underlying80 info26 rfl (by decide) (by omega) u11 x11_1 (rd t382 x12_1) [.int .u64 (rd t382 x12_1)] (fun k_ => some k_ ≠ (.slice (some ad388) t382.length co17 : Value).ownBlock ∧ some k_ ≠ (v386 : Value).ownBlock) (fun _ => False) rfl rfl ?aP (fun _ hk => hk.elim) ?aF ?aO ?aB ?aS ?aL ?_; (case aP => exact rfl); (case aB => exact (by repeat (first | (with_reducible first | exact HB.out | apply ea | apply en | apply ed | refine es ?_ GE379.out | refine es ?_ GE380.out | refine es ?_ GE381.out) | exact HB.out))); (case aF => exact (fun k_ hk => ⟨Kd.fresh' (Kd.R_lt (ry HO_9.out)) k_ hk, Kd.fresh' (Kd.R_lt (ry HO_10.out)) k_ hk⟩)); (case aO => exact (ry HO_11.out)); (case aS => exact (bZ (by repeat (first | (with_reducible first | exact HB.out | apply ea | apply en | apply ed | refine es ?_ GE379.out | refine es ?_ GE380.out | refine es ?_ GE381.out) | exact HB.out)))); (case aL => have := LMc16.out; omega); intro v390 w18 ho hb hg hat; rw [← Ny389.out] at ho; have n0_ := aM (Kd.R_after (ok := (fun k_ => some k_ ≠ (v386 : Value).ownBlock)) (ry HO_9.out) hg hat); have n1_ := aM (Kd.R_after (ok := (fun k_ => some k_ ≠ (.slice (some ad388) t382.length co17 : Value).ownBlock)) (ry HO_10.out) hg hat); have n2_ := aM (blk_grown (g := gb379) (qy BK379.out) hg (Kd.R_ne HO_11.out BK379.out (by decide))); have n3_ := aM (blk_grown (g := gb380) (qy BK380.out) hg (Kd.R_ne HO_11.out BK380.out (by decide))); have n4_ := aM (blk_grown (g := gb381) (qy BK381.out) hg (Kd.R_ne HO_11.out BK381.out (by decide))); have n5_ := aM (hb); have n6_ := aM (ho); clear HO_9 HO_10 BK379 BK380 BK381 HB HO_11; have HO_9 := n0_; have HO_10 := n1_; have BK379 := n2_; have BK380 := n3_; have BK381 := n4_; have HB := n5_; have HO391 := n6_; clear n0_ n1_ n2_ n3_ n4_ n5_ n6_; clear ho hb hg hat))
       go_roundg k1
       case measure => have := HK1.out; omega
       case rel => exact ⟨(y389), (wrap64 (x12_1 + 1)), (by first | rfl | (simp; done) | (simp [*]; done)), H', ⟨by have := HK1.out; omega⟩, ⟨by exact ry HO_9.out⟩, ⟨by exact ry HO_10.out⟩, ⟨by exact ry HO391.out⟩, ⟨by exact qy BK379.out⟩, ⟨by exact qy BK380.out⟩, ⟨by exact qy BK381.out⟩, ⟨by repeat (first | (with_reducible first | exact HB.out | apply ea | apply en | apply ed | refine es ?_ GE379.out | refine es ?_ GE380.out | refine es ?_ GE381.out) | exact HB.out)⟩⟩
      ·rw [if_neg c16] at H
       exact absurd H (by simp)
     ·rw [if_neg c15] at H
      exact absurd H (by simp)
    ·rw [if_neg c14] at H
     exact absurd H (by simp)
   ·rw [if_neg c13] at H
    have c13b0 : decide (x12_1 < a1) = false := decide_eq_false c13
    clear c13
    have H' := aM H
    clear H
    go_wp2
    go_loopg [11, 13] k1 (fun kq v11 v13 w' => ∃ (x11_2 : List Int) (x13_2 : Int), v13 = .int .i64 x13_2 ∧ Aside0 (bureauref15_put.l1 kq a1 a2 t382 t385 x11_2 x13_2 a0_0 l0_1 a3_0 l3_1 = some (r1, r2)) ∧ Aside0 (kq ≤ k1) ∧ Aside0 (Kd.R (Kd.int .u64) 26 w' w.heap.size (fun k_ => some k_ ≠ (v386 : Value).ownBlock ∧ some k_ ≠ (v11 : Value).ownBlock) v383 t382) ∧ Aside0 (Kd.R (Kd.int .u64) 26 w' w.heap.size (fun k_ => some k_ ≠ (v383 : Value).ownBlock ∧ some k_ ≠ (v11 : Value).ownBlock) v386 t385) ∧ Aside0 (Kd.R (Kd.int .u64) 26 w' w.heap.size (fun k_ => some k_ ≠ (v383 : Value).ownBlock ∧ some k_ ≠ (v386 : Value).ownBlock) v11 x11_2) ∧ Aside0 (w'.heap[gb379]? = some (.cells #[.string a0_0, (.slice A0_1 l0_1.length c0_1)] 24 (0, 0))) ∧ Aside0 (w'.heap[gb380]? = some (.cells #[.string a3_0, (.slice A3_1 l3_1.length c3_1)] 24 (0, 0))) ∧ Aside0 (w'.heap[gb381]? = some (.cells #[.string (⟨#[]⟩ : ByteArray), (.slice none 0 0)] 24 (0, 0))) ∧ Aside0 (Below w.heap.size w w'))
    case atStart => exact ⟨(x11_1), (0), (by first | rfl | (simp; done) | (simp [*]; done)), H', ⟨Nat.le_refl _⟩, ⟨by exact ry HO_9.out⟩, ⟨by exact ry HO_10.out⟩, ⟨by exact ry HO_11.out⟩, ⟨by exact qy BK379.out⟩, ⟨by exact qy BK380.out⟩, ⟨by exact qy BK381.out⟩, ⟨by repeat (first | (with_reducible first | exact HB.out | apply ea | apply en | apply ed | refine es ?_ GE379.out | refine es ?_ GE380.out | refine es ?_ GE381.out) | exact HB.out)⟩⟩
    case round =>
     clear H'
     try clear c1
     try clear p2
     try clear c3
     try clear p3
     try clear q3
     try clear hx3
     try clear c4
     try clear p6
     try clear c13
     try clear c13b0
     try clear c14
     try clear c14b0
     try clear c15
     try clear c15b0
     try clear c16
     try clear hx388_0
     try clear p2
     try clear p388
     try clear q388
     obtain ⟨x11_2, x13_2, rfl, HA, HK2, HO_9, HO_10, HO_11, BK379, BK380, BK381, HB⟩ := hrel
     cases gk with
     | zero => exact absurd HA.out (by simp [bureauref15_put.l1])
     | succ k2 =>
      have H := HA.out
      clear HA
      simp only [bureauref15_put.l1] at H
      by_cases c19 : x13_2 < (t385.length : Int)
      ·rw [if_pos c19] at H
       have c19b0 : decide (x13_2 < (t385.length : Int)) = true := decide_eq_true c19
       clear c19
       by_cases c20 : 0 ≤ x13_2
       ·rw [if_pos c20] at H
        have c20b0 : decide (0 ≤ x13_2) = true := decide_eq_true c20
        clear c20
        by_cases c21 : x11_2.length < 17592186044416
        ·rw [if_pos c21] at H
         have LMc21 := aM c21
         clear c21
         obtain ⟨y393, hy393⟩ : ∃ y_ : List Int, y_ = (x11_2 ++ [rd t385 x13_2]) := ⟨_, rfl⟩
         replace H : (bureauref15_put.l1 k2 a1 a2 t382 t385 y393 (wrap64 (x13_2 + 1)) a0_0 l0_1 a3_0 l3_1) = some (r1, r2) := by first | (rw [hy393]; with_reducible exact H) | (have H2_ := (Option.bind_some _ _).symm.trans H; rw [hy393]; with_reducible exact H2_) | (have H2_ := (Option.bind_some _ _).symm.trans H; with_reducible exact H2_) | with_reducible exact H | (rw [hy393]; exact H) | exact H
         have Ny393 := aM hy393
         clear hy393
         have H' := aM H
         clear H
         obtain ⟨Ao22, co22, eo22⟩ := Kd.R_slice HO_10.out
         subst eo22
         have p392 : 0 ≤ (x13_2 : Int) := of_decide_eq_true (by first | (with_reducible assumption) | assumption)
         have q392 : x13_2 < (t385.length : Int) := of_decide_eq_true (by first | (with_reducible assumption) | assumption)
         obtain ⟨ad392, e392, hx392_0⟩ := Kd.at_int (rR HO_10.out).2.2 x13_2 p392 q392
         cases e392
         replace p392 := eq_true p392
         replace q392 := eq_true q392
         go_wp2_with (first | ((with_reducible refine gate_builtin (b := .append) (xs := #[.tmp 39, .tmp 44]) rfl ?_); at_builtin; refine Kd.R_append (Kd.int .u64) (w0 := w) w.heap.size rfl (.tmp 39) (.tmp 44) 80 26 (.int .u64 0) 8 rfl Try.underlying80 info26 rfl (by decide) (by omega) u11 x11_2 (rd t385 x13_2) [.int .u64 (rd t385 x13_2)] (fun k_ => some k_ ≠ (v383 : Value).ownBlock ∧ some k_ ≠ (.slice (some ad392) t385.length co22 : Value).ownBlock) (fun _ => False) rfl rfl ?aP (fun _ hk => hk.elim) ?aF ?aO ?aB ?aS ?aL ?_; (case aP => exact rfl); (case aB => exact (by repeat (first | (with_reducible first | exact HB.out | apply ea | apply en | apply ed | refine es ?_ GE379.out | refine es ?_ GE380.out | refine es ?_ GE381.out) | exact HB.out))); (case aF => exact (fun k_ hk => ⟨Kd.fresh' (Kd.R_lt (ry HO_9.out)) k_ hk, Kd.fresh' (Kd.R_lt (ry HO_10.out)) k_ hk⟩)); (case aO => exact (ry HO_11.out)); (case aS => exact (bZ (by repeat (first | (with_reducible first | exact HB.out | apply ea | apply en | apply ed | refine es ?_ GE379.out | refine es ?_ GE380.out | refine es ?_ GE381.out) | exact HB.out)))); (case aL => have := LMc21.out; omega); intro v394 w23 ho hb hg hat; rw [← Ny393.out] at ho; have n0_ := aM (Kd.R_after (ok := (fun k_ => some k_ ≠ (.slice (some ad392) t385.length co22 : Value).ownBlock)) (ry HO_9.out) hg hat); have n1_ := aM (Kd.R_after (ok := (fun k_ => some k_ ≠ (v383 : Value).ownBlock)) (ry HO_10.out) hg hat); have n2_ := aM (blk_grown (g := gb379) (qy BK379.out) hg (Kd.R_ne HO_11.out BK379.out (by decide))); have n3_ := aM (blk_grown (g := gb380) (qy BK380.out) hg (Kd.R_ne HO_11.out BK380.out (by decide))); have n4_ := aM (blk_grown (g := gb381) (qy BK381.out) hg (Kd.R_ne HO_11.out BK381.out (by decide))); have n5_ := aM (hb); have n6_ := aM (ho); clear HO_9 HO_10 BK379 BK380 BK381 HB HO_11; have HO_9 := n0_; have HO_10 := n1_; have BK379 := n2_; have BK380 := n3_; have BK381 := n4_; have HB := n5_; have HO395 := n6_; clear n0_ n1_ n2_ n3_ n4_ n5_ n6_; clear ho hb hg hat))
         go_roundg k2
         case measure => have := HK1.out; have := HK2.out; omega
         case rel => exact ⟨(y393), (wrap64 (x13_2 + 1)), (by first | rfl | (simp; done) | (simp [*]; done)), H', ⟨by have := HK1.out; have := HK2.out; omega⟩, ⟨by exact ry HO_9.out⟩, ⟨by exact ry HO_10.out⟩, ⟨by exact ry HO395.out⟩, ⟨by exact qy BK379.out⟩, ⟨by exact qy BK380.out⟩, ⟨by exact qy BK381.out⟩, ⟨by repeat (first | (with_reducible first | exact HB.out | apply ea | apply en | apply ed | refine es ?_ GE379.out | refine es ?_ GE380.out | refine es ?_ GE381.out) | exact HB.out)⟩⟩
        ·rw [if_neg c21] at H
         exact absurd H (by simp)
       ·rw [if_neg c20] at H
        exact absurd H (by simp)
      ·rw [if_neg c19] at H
       have c19b0 : decide (x13_2 < (t385.length : Int)) = false := decide_eq_false c19
       clear c19
       have H' := aM H
       clear H
       obtain ⟨Ao24, co24, eo24⟩ := Kd.R_slice HO_10.out
       subst eo24
       go_wp2
       go_loopg [11, 14] k2 (fun kq v11 v14 w' => ∃ (x11_3 : List Int) (x14_3 : Int), v14 = .int .i64 x14_3 ∧ Aside0 (bureauref15_put.l2 kq a1 a2 t382 x11_3 x14_3 a0_0 l0_1 a3_0 l3_1 = some (r1, r2)) ∧ Aside0 (kq ≤ k2) ∧ Aside0 (Kd.R (Kd.int .u64) 26 w' w.heap.size (fun k_ => some k_ ≠ (v11 : Value).ownBlock) v383 t382) ∧ Aside0 (Kd.R (Kd.int .u64) 26 w' w.heap.size (fun k_ => some k_ ≠ (v383 : Value).ownBlock) v11 x11_3) ∧ Aside0 (w'.heap[gb379]? = some (.cells #[.string a0_0, (.slice A0_1 l0_1.length c0_1)] 24 (0, 0))) ∧ Aside0 (w'.heap[gb380]? = some (.cells #[.string a3_0, (.slice A3_1 l3_1.length c3_1)] 24 (0, 0))) ∧ Aside0 (w'.heap[gb381]? = some (.cells #[.string (⟨#[]⟩ : ByteArray), (.slice none 0 0)] 24 (0, 0))) ∧ Aside0 (Below w.heap.size w w'))
       case atStart => exact ⟨(x11_2), (a2), (by first | rfl | (simp; done) | (simp [*]; done)), H', ⟨Nat.le_refl _⟩, ⟨by (with_reducible repeat (first | apply ra | apply rn | apply rd_)); exact rM HO_9.out (fun _ hk => hk.2)⟩, ⟨by (with_reducible repeat (first | apply ra | apply rn | apply rd_)); exact rM HO_11.out (fun _ hk => hk.1)⟩, ⟨by exact qy BK379.out⟩, ⟨by exact qy BK380.out⟩, ⟨by exact qy BK381.out⟩, ⟨by repeat (first | (with_reducible first | exact HB.out | apply ea | apply en | apply ed | refine es ?_ GE379.out | refine es ?_ GE380.out | refine es ?_ GE381.out) | exact HB.out)⟩⟩
       case round =>
        clear H'
        try clear c1
        try clear c2
        try clear p2
        try clear c3
        try clear p3
        try clear q3
        try clear hx3
        try clear c4
        try clear p6
        try clear c13
        try clear c13b0
        try clear c14
        try clear c14b0
        try clear c15
        try clear c15b0
        try clear c16
        try clear c19
        try clear c19b0
        try clear c20
        try clear c20b0
        try clear c21
        try clear hx388_0
        try clear hx392_0
        try clear p2
        try clear p3
        try clear p388
        try clear p392
        try clear p6
        try clear q3
        try clear q388
        try clear q392
        obtain ⟨x11_3, x14_3, rfl, HA, HK3, HO_9, HO_11, BK379, BK380, BK381, HB⟩ := hrel
        cases gk with
        | zero => exact absurd HA.out (by simp [bureauref15_put.l2])
        | succ k3 =>
         have H := HA.out
         clear HA
         simp only [bureauref15_put.l2] at H
         by_cases c25 : x14_3 < (t382.length : Int)
         ·rw [if_pos c25] at H
          have c25b0 : decide (x14_3 < (t382.length : Int)) = true := decide_eq_true c25
          clear c25
          by_cases c26 : 0 ≤ x14_3
          ·rw [if_pos c26] at H
           have c26b0 : decide (0 ≤ x14_3) = true := decide_eq_true c26
           clear c26
           by_cases c27 : x11_3.length < 17592186044416
           ·rw [if_pos c27] at H
            have LMc27 := aM c27
            clear c27
            obtain ⟨y397, hy397⟩ : ∃ y_ : List Int, y_ = (x11_3 ++ [rd t382 x14_3]) := ⟨_, rfl⟩
            replace H : (bureauref15_put.l2 k3 a1 a2 t382 y397 (wrap64 (x14_3 + 1)) a0_0 l0_1 a3_0 l3_1) = some (r1, r2) := by first | (rw [hy397]; with_reducible exact H) | (have H2_ := (Option.bind_some _ _).symm.trans H; rw [hy397]; with_reducible exact H2_) | (have H2_ := (Option.bind_some _ _).symm.trans H; with_reducible exact H2_) | with_reducible exact H | (rw [hy397]; exact H) | exact H
            have Ny397 := aM hy397
            clear hy397
            have H' := aM H
            clear H
            obtain ⟨Ao28, co28, eo28⟩ := Kd.R_slice HO_9.out
            subst eo28
            have p396 : 0 ≤ (x14_3 : Int) := of_decide_eq_true (by first | (with_reducible assumption) | assumption)
            have q396 : x14_3 < (t382.length : Int) := of_decide_eq_true (by first | (with_reducible assumption) | assumption)
            obtain ⟨ad396, e396, hx396_0⟩ := Kd.at_int (rR HO_9.out).2.2 x14_3 p396 q396
            cases e396
            replace p396 := eq_true p396
            replace q396 := eq_true q396
            go_wp2_with (first | ((with_reducible refine gate_builtin (b := .append) (xs := #[.tmp 53, .tmp 58]) rfl ?_); at_builtin; refine Kd.R_append (Kd.int .u64) (w0 := w) w.heap.size rfl (.tmp 53) (.tmp 58) 80 26 (.int .u64 0) 8 rfl Try.underlying80 info26 rfl (by decide) (by omega) u11 x11_3 (rd t382 x14_3) [.int .u64 (rd t382 x14_3)] (fun k_ => some k_ ≠ (.slice (some ad396) t382.length co28 : Value).ownBlock) (fun _ => False) rfl rfl ?aP (fun _ hk => hk.elim) ?aF ?aO ?aB ?aS ?aL ?_; (case aP => exact rfl); (case aB => exact (by repeat (first | (with_reducible first | exact HB.out | apply ea | apply en | apply ed | refine es ?_ GE379.out | refine es ?_ GE380.out | refine es ?_ GE381.out) | exact HB.out))); (case aF => exact (fun k_ hk => Kd.fresh' (Kd.R_lt (ry HO_9.out)) k_ hk)); (case aO => exact (ry HO_11.out)); (case aS => exact (bZ (by repeat (first | (with_reducible first | exact HB.out | apply ea | apply en | apply ed | refine es ?_ GE379.out | refine es ?_ GE380.out | refine es ?_ GE381.out) | exact HB.out)))); (case aL => have := LMc27.out; omega); intro v398 w29 ho hb hg hat; rw [← Ny397.out] at ho; have n0_ := aM (Kd.R_after (ok := (fun _ => True)) (by (with_reducible repeat (first | apply ra | apply rn | apply rd_)); exact rM HO_9.out (fun _ hk => ⟨trivial, hk⟩)) hg hat); have n1_ := aM (blk_grown (g := gb379) (qy BK379.out) hg (Kd.R_ne HO_11.out BK379.out (by decide))); have n2_ := aM (blk_grown (g := gb380) (qy BK380.out) hg (Kd.R_ne HO_11.out BK380.out (by decide))); have n3_ := aM (blk_grown (g := gb381) (qy BK381.out) hg (Kd.R_ne HO_11.out BK381.out (by decide))); have n4_ := aM (hb); have n5_ := aM (ho); clear HO_9 BK379 BK380 BK381 HB HO_11; have HO_9 := n0_; have BK379 := n1_; have BK380 := n2_; have BK381 := n3_; have HB := n4_; have HO399 := n5_; clear n0_ n1_ n2_ n3_ n4_ n5_; clear ho hb hg hat))
            go_roundg k3
            case measure => have := HK1.out; have := HK2.out; have := HK3.out; omega
            case rel => exact ⟨(y397), (wrap64 (x14_3 + 1)), (by first | rfl | (simp; done) | (simp [*]; done)), H', ⟨by have := HK1.out; have := HK2.out; have := HK3.out; omega⟩, ⟨by (with_reducible repeat (first | apply ra | apply rn | apply rd_)); exact rM HO_9.out (fun _ hk => hk.2)⟩, ⟨by exact ry HO399.out⟩, ⟨by exact qy BK379.out⟩, ⟨by exact qy BK380.out⟩, ⟨by exact qy BK381.out⟩, ⟨by repeat (first | (with_reducible first | exact HB.out | apply ea | apply en | apply ed | refine es ?_ GE379.out | refine es ?_ GE380.out | refine es ?_ GE381.out) | exact HB.out)⟩⟩
           ·rw [if_neg c27] at H
            exact absurd H (by simp)
          ·rw [if_neg c26] at H
           exact absurd H (by simp)
         ·rw [if_neg c25] at H
          have c25b0 : decide (x14_3 < (t382.length : Int)) = false := decide_eq_false c25
          clear c25
          by_cases c30 : 0 ≤ a1
          ·rw [if_pos c30] at H
           have c30b0 := eq_true c30
           have c30b1 : decide (0 ≤ a1) = true := decide_eq_true c30
           clear c30
           by_cases c31 : a1 ≤ (a0_0.size : Int)
           ·rw [if_pos c31] at H
            have c31b0 := eq_true c31
            have c31b1 : decide (a1 ≤ (a0_0.size : Int)) = true := decide_eq_true c31
            clear c31
            by_cases c32 : (a0_0.extract 0 (a1 : Int).toNat).size + a3_0.size ≤ 9223372036854775807
            ·rw [if_pos c32] at H
             have c32b0 := eq_true c32
             have c32b1 : decide ((a0_0.extract 0 (a1 : Int).toNat).size + a3_0.size ≤ 9223372036854775807) = true := decide_eq_true c32
             try have c32b2 : (9223372036854775807 < (a0_0.extract 0 (a1 : Int).toNat).size + a3_0.size) = False := eq_false (Nat.not_lt.2 c32)
             try (have c32c_ := c32; simp [go_sem, c30b0, c31b0] at c32c_; have c32d_ := eq_false (Nat.not_lt.2 c32c_); clear c32c_)
             by_cases c33 : 0 ≤ a2
             ·rw [if_pos c33] at H
              have c33b0 := eq_true c33
              have c33b1 : decide (0 ≤ a2) = true := decide_eq_true c33
              clear c33
              by_cases c34 : a2 ≤ (a0_0.size : Int)
              ·rw [if_pos c34] at H
               have c34b0 := eq_true c34
               have c34b1 : decide (a2 ≤ (a0_0.size : Int)) = true := decide_eq_true c34
               clear c34
               by_cases c35 : ((a0_0.extract 0 (a1 : Int).toNat) ++ a3_0).size + (a0_0.extract (a2 : Int).toNat a0_0.size).size ≤ 9223372036854775807
               ·rw [if_pos c35] at H
                have c35b0 := eq_true c35
                have c35b1 : decide (((a0_0.extract 0 (a1 : Int).toNat) ++ a3_0).size + (a0_0.extract (a2 : Int).toNat a0_0.size).size ≤ 9223372036854775807) = true := decide_eq_true c35
                try have c35b2 : (9223372036854775807 < ((a0_0.extract 0 (a1 : Int).toNat) ++ a3_0).size + (a0_0.extract (a2 : Int).toNat a0_0.size).size) = False := eq_false (Nat.not_lt.2 c35)
                try (have c35c_ := c35; simp [go_sem, c30b0, c31b0, c32b0, c33b0, c34b0] at c35c_; have c35d_ := eq_false (Nat.not_lt.2 c35c_); clear c35c_)
                replace H := Option.bind_eq_some_iff.mp H
                obtain ⟨t400, A360, H⟩ := H
                replace H : (some (((a0_0.extract 0 (a1 : Int).toNat) ++ a3_0) ++ (a0_0.extract (a2 : Int).toNat a0_0.size), t400)) = some (r1, r2) := H
                have A36 := aM A360
                clear A360
                simp only [Option.some.injEq, Prod.mk.injEq] at H
                obtain ⟨rfl, rfl⟩ := H
                obtain ⟨Ao37, co37, eo37⟩ := Kd.R_slice HO_9.out
                subst eo37
                try go_wp2
                have n0_ := aM (Kd.R_drew HO_9.out)
                have n1_ := aM (Kd.R_drew HO_11.out)
                have n2_ := aM (blk_drew BK379.out)
                have n3_ := aM (blk_drew BK380.out)
                have n4_ := aM (blk_drew BK381.out)
                have n5_ := aM (below_drew1 HB.out)
                clear HO_9
                clear HO_11
                clear BK379
                clear BK380
                clear BK381
                clear HB
                have HO_9 := n0_
                have HO_11 := n1_
                have BK379 := n2_
                have BK380 := n3_
                have BK381 := n4_
                have HB := n5_
                clear n0_ n1_ n2_ n3_ n4_ n5_
                obtain ⟨Ao39, co39, eo39⟩ := Kd.R_slice HO_11.out
                (first | subst eo39 | (injection eo39 with f1_ f2_ f3_; have f4_ := f1_.symm; have f5_ := f3_.symm; clear f1_ f2_ f3_; subst f4_; subst f5_))
                refine start_ (n := 16) (S := fun w' => w'.cell? ⟨gb379, 0, none⟩ = some (.string a0_0) ∧ w'.cell? ⟨gb379, 1, none⟩ = some (.slice A0_1 l0_1.length c0_1) ∧ w'.cell? ⟨gb380, 0, none⟩ = some (.string a3_0) ∧ w'.cell? ⟨gb380, 1, none⟩ = some (.slice A3_1 l3_1.length c3_1)) (ds := []) b28_ (by kernel_rfl) rfl rfl ⟨(bC BK379.out 0).trans rfl, (bC BK379.out 1).trans rfl, (bC BK380.out 0).trans rfl, (bC BK380.out 1).trans rfl⟩ (fun hHeld => ?_); refine with_tabW bureauref15_put.tab15 bureauref15_put.bits15 (fun HT_ HW_ => ?_)
                generalize wr.drew = w38 at HO_9 HO_11 BK379 BK380 BK381 HB hHeld ⊢
                refine pv 0 60 b29_ HT_ ?_
                refine pv 2 62 b30_ HT_ ?_
                refine pv 4 64 b31_ HT_ ?_
                refine pv 7 67 b32_ HT_ ?_
                refine pv 9 69 b33_ HT_ ?_
                refine pv 12 72 b34_ HT_ ?_
                refine pt 1 61 b35_ HT_ HW_ hHeld ?_
                refine pv 3 63 b36_ HT_ ?_
                refine pt 5 65 b37_ HT_ HW_ hHeld ?_
                refine pv 6 66 b38_ HT_ ?_
                refine pt 8 68 b39_ HT_ HW_ hHeld ?_
                refine pv 10 70 b40_ HT_ ?_
                refine pv 11 71 b41_ HT_ ?_
                refine one_ (i := 13) (N := some 73) b42_ rfl rfl (one_of HT_.out (by kernel_rfl)) (by decide) (fun K hK => ?_)
                refine goes_ Try.func57 (by kernel_rfl) rfl #[.slice Ao39 x11_3.length co39] (by rfl) rfl rfl (by (try simp only [mT, mC, mN]); first | done | rfl | (simp only [lD, lT]; rfl)) ?_
                with_reducible refine (bureauref03_Pack.calls k3 _ _ x11_3 t400 _ ?side1 ?side2 A36.out).mono ?_
                (case side1 => repeat (first | exact (rR HO_11.out).2.2 | (with_reducible refine Kd.C_alloc ?_ _) | (with_reducible refine Kd.C_drewN ?_ _) | (with_reducible refine Kd.C_drew ?_)))
                (case side2 => exact (rR HO_11.out).2.1)
                rintro e w40 ⟨v401, rfl, ho0, hb⟩
                refine ⟨_, rfl, ?_⟩
                have n0_ := aM (Kd.R_below (ry HO_9.out) hb)
                have n1_ := aM (Kd.R_below (ry HO_11.out) hb)
                have n2_ := aM (rL ho0 (bZ (by repeat (first | (with_reducible first | exact HB.out | apply ea | apply en | apply ed | refine es ?_ GE379.out | refine es ?_ GE380.out | refine es ?_ GE381.out) | exact HB.out))))
                have n3_ := aM (bB (g := gb379) (qy BK379.out) hb)
                have n4_ := aM (bB (g := gb380) (qy BK380.out) hb)
                have n5_ := aM (bB (g := gb381) (qy BK381.out) hb)
                have n6_ := aM (bP (by repeat (first | (with_reducible first | exact HB.out | apply ea | apply en | apply ed | refine es ?_ GE379.out | refine es ?_ GE380.out | refine es ?_ GE381.out) | exact HB.out)) hb)
                clear HO_9
                clear HO_11
                clear BK379
                clear BK380
                clear BK381
                clear HB
                have HO_9 := n0_
                have HO_11 := n1_
                have HO402 := n2_
                have BK379 := n3_
                have BK380 := n4_
                have BK381 := n5_
                have HB := n6_
                clear n0_ n1_ n2_ n3_ n4_ n5_ n6_
                (try clear hb)
                (try clear hb2)
                (try clear hk)
                (try clear hi)
                (try clear ho0)
                obtain ⟨Ao41, co41, eo41⟩ := Kd.R_slice HO402.out
                (first | subst eo41 | (injection eo41 with f1_ f2_ f3_; have f4_ := f1_.symm; have f5_ := f3_.symm; clear f1_ f2_ f3_; subst f4_; subst f5_))
                refine hK.out _ _ ⟨(bC BK379.out 0).trans rfl, (bC BK379.out 1).trans rfl, (bC BK380.out 0).trans rfl, (bC BK380.out 1).trans rfl⟩ (fun hHeld => ?_)
                clear hK K
                refine norm_ (a' := ?_) ?_ ?_
                rotate_left
                ·show Act.put _ (some 73) _ = _
                 simp only [Act.put, sA, sZ, sS, i64_w, i32_w]
                 rfl
                refine pv 14 74 b43_ HT_ ?_
                refine one_ (i := 15) (N := none) b44_ rfl rfl (one_of HT_.out (by kernel_rfl)) (by decide) (fun K hK => ?_)
                have hs42 : w40.cell? ⟨gb381, 0, none⟩ = some (.string (⟨#[]⟩ : ByteArray)) := (bC BK381.out 0).trans rfl
                have hfs42 := bF BK381.out 0
                have hns42_0 := NB379_381.out
                have hns42_1 := NB380_381.out
                have hms42_0 := NB381_379.out
                have hms42_1 := NB381_380.out
                have hs43 : w40.cell? ⟨gb381, 1, none⟩ = some (.slice none 0 0) := (bC BK381.out 1).trans rfl
                have hfs43 := bF BK381.out 1
                have hns43_0 := NB379_381.out
                have hns43_1 := NB380_381.out
                have hms43_0 := NB381_379.out
                have hms43_1 := NB381_380.out
                refine skip_ (w1 := ?_) (by rfl) rfl ?_ ?_
                rotate_left
                ·go_simp
                 rfl
                refine hK.out _ _ ⟨((cell_far (p := ⟨gb381, _, none⟩) NB379_381.out _).trans (((cell_far (p := ⟨gb381, _, none⟩) NB379_381.out _).trans (hHeld.1)))), ((cell_far (p := ⟨gb381, _, none⟩) NB379_381.out _).trans (((cell_far (p := ⟨gb381, _, none⟩) NB379_381.out _).trans (hHeld.2.1)))), ((cell_far (p := ⟨gb381, _, none⟩) NB380_381.out _).trans (((cell_far (p := ⟨gb381, _, none⟩) NB380_381.out _).trans (hHeld.2.2.1)))), ((cell_far (p := ⟨gb381, _, none⟩) NB380_381.out _).trans (((cell_far (p := ⟨gb381, _, none⟩) NB380_381.out _).trans (hHeld.2.2.2))))⟩ (fun hHeld => ?_)
                clear hK K
                refine done_ (done_of HT_.out (by kernel_rfl)) ?_
                try go_wp2
                refine bodyPost_ret (results_cell_row rfl _ _ gb381 24 #[.string (((a0_0.extract 0 (a1 : Int).toNat) ++ a3_0) ++ (a0_0.extract (a2 : Int).toNat a0_0.size)), .slice Ao41 t400.length co41] (0, 0) _ rfl (by (with_reducible repeat (first | apply qn | apply qd | apply qa)); refine bU (cs := #[.string (((a0_0.extract 0 (a1 : Int).toNat) ++ a3_0) ++ (a0_0.extract (a2 : Int).toNat a0_0.size)), .slice none 0 0]) ?_ 1 _ rfl; (with_reducible repeat (first | apply qn | apply qd | apply qa)); refine bU (cs := #[.string (⟨#[]⟩ : ByteArray), .slice none 0 0]) ?_ 0 _ rfl; exact qy BK381.out) Try.underlying24 rfl (by kernel_rfl)) rfl ?_
                exact ⟨_, by first | rfl | (simp [errW_none, errW_some] <;> rfl) | (simp [*, errW_none, errW_some] <;> rfl), by (with_reducible repeat (first | apply ra | apply rn | apply rd_)); exact rM (rF (p := ⟨gb381, 1, none⟩) (rF (p := ⟨gb381, 0, none⟩) (rT HO402.out BK381.out (by decide)) (fun _ hk => hk.2) (.string (((a0_0.extract 0 (a1 : Int).toNat) ++ a3_0) ++ (a0_0.extract (a2 : Int).toNat a0_0.size)))) (fun _ hk => hk.2) (.slice Ao41 t400.length co41)) (fun _ hk => trivial), by repeat (first | (with_reducible first | exact HB.out | apply ea | apply en | apply ed | refine es ?_ GE379.out | refine es ?_ GE380.out | refine es ?_ GE381.out) | exact HB.out)⟩
               ·rw [if_neg c35] at H
                exact absurd H (by simp)
              ·rw [if_neg c34] at H
               exact absurd H (by simp)
             ·rw [if_neg c33] at H
              exact absurd H (by simp)
            ·rw [if_neg c32] at H
             exact absurd H (by simp)
           ·rw [if_neg c31] at H
            exact absurd H (by simp)
          ·rw [if_neg c30] at H
           exact absurd H (by simp)
end Go.Proofs.Ytnbdldpjiofafaa.PB
end

section
namespace Go.Proofs.Ytnbdldpjiofafaa.PB
open Go.RowKit Go.Proofs.YtnbdldpjiofafaaW.PrintWords Go.Proofs.YtnbdldpjiofafaaW.PrintLast Go.Proofs.YtnbdldpjiofafaaW.PrintMore
attribute [local go_sem] max2_int min2_int max_two min_two max_three min_three max_four min_four   
set_option linter.unusedVariables false
set_option linter.unusedSimpArgs false
def bureauref07_Of.j0 : Nat → Int → Int → Bool → ByteArray → List (S51) → ByteArray → List (S51) → ByteArray → List (S51) → Option (Int × ByteArray × (List (S51)) × ByteArray × (List (S51)) × Int)
 | 0, _, _, _, _, _, _, _, _, _ => none
 | k + 1, x1, x2, x25, x404000, x404001, x405000, x405001, x412000, x412001 => if x25 = true then (some (0, (⟨#[]⟩ : ByteArray), ([] : List (S51)), (⟨#[]⟩ : ByteArray), ([] : List (S51)), 2)) else (if (wrap64 ((wrap64 ((x404000.size : Int) - (wrap64 (x2 - x1)))) + (x405000.size : Int))) > 4096 then (some (0, (⟨#[]⟩ : ByteArray), ([] : List (S51)), (⟨#[]⟩ : ByteArray), ([] : List (S51)), 3)) else (some (x1, x412000, x412001, x405000, x405001, 0)))
def bureauref07_Of.f (k : Nat) (a0_0 : ByteArray) (l0_1 : List (S51)) (a1 : Int) (a2 : Int) (a3_0 : ByteArray) (l3_1 : List (S51)) : Option (Int × ByteArray × (List (S51)) × ByteArray × (List (S51)) × Int) := (bureauref04_Cut.f k a0_0 l0_1 a1 a2).bind fun bt406 => (if bt406.2.2 = 0 then ((bureauref04_Good.f k a3_0 l3_1).bind fun t412 => (bureauref07_Of.j0 k a1 a2 (!t412) a0_0 l0_1 a3_0 l3_1 bt406.1 bt406.2.1)) else (bureauref07_Of.j0 k a1 a2 true a0_0 l0_1 a3_0 l3_1 bt406.1 bt406.2.1))
set_option maxHeartbeats 8000000 in
set_option maxRecDepth 100000 in
theorem bureauref07_Of.calls (k : Nat) (a0_0 : ByteArray) (A0_1 : Option Addr) (c0_1 : Nat) (l0_1 : List (S51)) (a1 : Int) (a2 : Int) (a3_0 : ByteArray) (P3_1_ : Nat → Prop) (A3_1 : Option Addr) (c3_1 : Nat) (l3_1 : List (S51)) (r1 : Int) (r2 : ByteArray) (r3 : List (S51)) (r4 : ByteArray) (r5 : List (S51)) (r6 : Int) (w : World) (hr0_1 : Kd.C k51 w A0_1 l0_1.length l0_1) (hc0_1 : l0_1.length ≤ c0_1) (hs3_1 : Kd.V k51 51 w w.heap.size (fun k_ => P3_1_ k_) (.slice A3_1 l3_1.length c3_1) l3_1) (h : bureauref07_Of.f k a0_0 l0_1 a1 a2 a3_0 l3_1 = some (r1, r2, r3, r4, r5, r6)) :
  Calls Try.prog 35 #[.agg #[.string a0_0, .slice A0_1 l0_1.length c0_1], .int .i64 a1, .int .i64 a2, .agg #[.string a3_0, .slice A3_1 l3_1.length c3_1]] w fun e w' => ∃ v2_ v4_ : Value, e = .returned (.tuple #[.agg #[.int .i64 r1, .string r2, v2_, .string r4, v4_], .int .i64 r6]) ∧ Kd.R k51 51 w' w.heap.size (fun k_ => (w.heap.size ≤ k_)) v2_ r3 ∧ Kd.V k51 51 w' w.heap.size (fun k_ => (P3_1_ k_ ∨ w.heap.size ≤ k_) ∧ some k_ ≠ (v2_ : Value).ownBlock) v4_ r5 ∧ Below w.heap.size w w' := by
 have hu24 := Try.underlying24
 have hu32 := Try.underlying32
 have HR0_1 := aM hr0_1
 have HC0_1 := aM hc0_1
 clear hr0_1 hc0_1
 have HO3_1 := aM (show Kd.V k51 51 w w.heap.size (fun k_ => (P3_1_ k_ ∨ w.heap.size ≤ k_)) (.slice A3_1 l3_1.length c3_1) l3_1 from Kd.V_mono hs3_1 (fun k_ hk => .inl hk))
 have HB := aM (Below.refl w.heap.size w)
 have H : ((bureauref04_Cut.f k a0_0 l0_1 a1 a2).bind fun bt406 => (if bt406.2.2 = 0 then ((bureauref04_Good.f k a3_0 l3_1).bind fun t412 => (bureauref07_Of.j0 k a1 a2 (!t412) a0_0 l0_1 a3_0 l3_1 bt406.1 bt406.2.1)) else (bureauref07_Of.j0 k a1 a2 true a0_0 l0_1 a3_0 l3_1 bt406.1 bt406.2.1))) = some (r1, r2, r3, r4, r5, r6) := h
 clear h
 replace H := Option.bind_eq_some_iff.mp H
 obtain ⟨⟨t406, t407, t410⟩, A50, H⟩ := H
 replace H : (if t410 = 0 then ((bureauref04_Good.f k a3_0 l3_1).bind fun t412 => (bureauref07_Of.j0 k a1 a2 (!t412) a0_0 l0_1 a3_0 l3_1 t406 t407)) else (bureauref07_Of.j0 k a1 a2 true a0_0 l0_1 a3_0 l3_1 t406 t407)) = some (r1, r2, r3, r4, r5, r6) := H
 have A5 := aM A50
 clear A50
 have HC6 := aM H
 clear H
 go_enter Try.func35, Try.ntmps35
 go_upto_region 2 with (first | ((with_reducible refine gate_dst (N := 4) rfl ?_); refine box_event ?hg (N := 4) ?hd (cs := #[.string a0_0, .slice A0_1 l0_1.length c0_1]) (t := 24) ?hr ?_; (case hd | hg => rfl); (case hr => first | (go_simp; done) | (go_simp; rfl)); intro gb403 hg w7 hbox hb; have n0_ := aM (Kd.V_below (Kd.V_elderB (by (with_reducible repeat (first | apply va | apply vn | apply vd)); exact HO3_1.out) gb403 (Nat.le_of_eq hg.symm)) hb); have n1_ := aM (bP (ey HB.out) hb); have n2_ := aM (hbox); have n3_ := aM ((by rw [hg]; exact (bZ (ey HB.out)) : w.heap.size ≤ gb403)); have n4_ := n3_; clear HO3_1 HB; have HO3_1 := n0_; have HB := n1_; have BK403 := n2_; have GW403 := n3_; have GE403 := n4_; clear n0_ n1_ n2_ n3_ n4_; clear hb hbox hg) | ((with_reducible refine gate_dst (N := 7) rfl ?_); refine box_event ?hg (N := 7) ?hd (cs := #[.string a3_0, .slice A3_1 l3_1.length c3_1]) (t := 24) ?hr ?_; (case hd | hg => rfl); (case hr => first | (go_simp; done) | (go_simp; rfl)); intro gb404 hg w8 hbox hb; have n0_ := aM (Kd.V_below (Kd.V_elderB (by (with_reducible repeat (first | apply va | apply vn | apply vd)); exact HO3_1.out) gb404 (Nat.le_of_eq hg.symm)) hb); have n1_ := aM (bB (g := gb403) (qy BK403.out) hb); have n2_ := aM (bP (by repeat (first | (with_reducible first | exact HB.out | apply ea | apply en | apply ed | refine es ?_ GE403.out) | exact HB.out)) hb); have n3_ := aM (hbox); have n4_ := aM ((by rw [hg]; exact (bZ (by repeat (first | (with_reducible first | exact HB.out | apply ea | apply en | apply ed | refine es ?_ GE403.out) | exact HB.out))) : w.heap.size ≤ gb404)); have n5_ := n4_; have n6_ := aM ((by rw [hg]; exact Nat.ne_of_lt (blk_lt (g := gb403) (qy BK403.out)) : gb403 ≠ gb404)); have n7_ := aM ((by rw [hg]; exact Nat.ne_of_gt (blk_lt (g := gb403) (qy BK403.out)) : gb404 ≠ gb403)); clear HO3_1 BK403 HB; have HO3_1 := n0_; have BK403 := n1_; have HB := n2_; have BK404 := n3_; have GW404 := n4_; have GE404 := n5_; have NB403_404 := n6_; have NB404_403 := n7_; clear n0_ n1_ n2_ n3_ n4_ n5_ n6_ n7_; clear hb hbox hg) | ((with_reducible refine gate_dst (N := 8) rfl ?_); refine box_event ?hg (N := 8) ?hd (cs := #[.int .i64 0, .string (⟨#[]⟩ : ByteArray), .slice none 0 0, .string (⟨#[]⟩ : ByteArray), .slice none 0 0]) (t := 32) ?hr ?_; (case hd | hg => rfl); (case hr => first | (go_simp; done) | (go_simp; rfl)); intro gb405 hg w9 hbox hb; have n0_ := aM (Kd.V_below (Kd.V_elderB (by (with_reducible repeat (first | apply va | apply vn | apply vd)); exact HO3_1.out) gb405 (Nat.le_of_eq hg.symm)) hb); have n1_ := aM (bB (g := gb403) (qy BK403.out) hb); have n2_ := aM (bB (g := gb404) (qy BK404.out) hb); have n3_ := aM (bP (by repeat (first | (with_reducible first | exact HB.out | apply ea | apply en | apply ed | refine es ?_ GE403.out | refine es ?_ GE404.out) | exact HB.out)) hb); have n4_ := aM (hbox); have n5_ := aM ((by rw [hg]; exact (bZ (by repeat (first | (with_reducible first | exact HB.out | apply ea | apply en | apply ed | refine es ?_ GE403.out | refine es ?_ GE404.out) | exact HB.out))) : w.heap.size ≤ gb405)); have n6_ := n5_; have n7_ := aM ((by rw [hg]; exact Nat.ne_of_lt (blk_lt (g := gb403) (qy BK403.out)) : gb403 ≠ gb405)); have n8_ := aM ((by rw [hg]; exact Nat.ne_of_gt (blk_lt (g := gb403) (qy BK403.out)) : gb405 ≠ gb403)); have n9_ := aM ((by rw [hg]; exact Nat.ne_of_lt (blk_lt (g := gb404) (qy BK404.out)) : gb404 ≠ gb405)); have n10_ := aM ((by rw [hg]; exact Nat.ne_of_gt (blk_lt (g := gb404) (qy BK404.out)) : gb405 ≠ gb404)); clear HO3_1 BK403 BK404 HB; have HO3_1 := n0_; have BK403 := n1_; have BK404 := n2_; have HB := n3_; have BK405 := n4_; have GW405 := n5_; have GE405 := n6_; have NB403_405 := n7_; have NB405_403 := n8_; have NB404_405 := n9_; have NB405_404 := n10_; clear n0_ n1_ n2_ n3_ n4_ n5_ n6_ n7_ n8_ n9_ n10_; clear hb hbox hg; have hnb10 := NB403_404.out; have hnc10 := NB404_403.out; have hnb11 := NB403_405.out; have hnc11 := NB405_403.out; have hcz12_0 := zC BK403.out 0 (.string a0_0); have hcz12_1 := zC BK403.out 1 (.slice A0_1 l0_1.length c0_1); have hfz12_0 := bF BK403.out 0; have hfz12_1 := bF BK403.out 1) | ((with_reducible refine gate_callee (f := 33) rfl ?_); refine goesL_ (some 16) rfl rfl Try.func33 (by kernel_rfl) rfl #[.agg #[.string a0_0, .slice A0_1 l0_1.length c0_1], .int .i64 a1, .int .i64 a2] rfl (by (try simp only [mT, mC, mN]); first | done | rfl | (simp only [lD, lT]; rfl)) ?_; (with_reducible refine (bureauref04_Cut.calls k a0_0 _ _ l0_1 a1 a2 t406 t407 t410 _ ?side1 ?side2 A5.out).mono ?_); (case side1 => repeat (first | exact (cB_ HR0_1.out HB.out) | (with_reducible refine Kd.C_alloc ?_ _) | (with_reducible refine Kd.C_drewN ?_ _) | (with_reducible refine Kd.C_drew ?_))); (case side2 => exact HC0_1.out); rintro e w13 ⟨v408, rfl, ho0, hb⟩; refine ⟨_, rfl, ?_⟩; have n0_ := aM (Kd.V_elder' (by (with_reducible repeat (first | apply va | apply vn | apply vd)); exact HO3_1.out) (Kd.R_base ho0) hb); have n1_ := aM (rL (Kd.R_newM (M := fun k_ => (w.heap.size ≤ k_)) ho0 (bZ (by repeat (first | (with_reducible first | exact HB.out | apply ea | apply en | apply ed | refine es ?_ GE403.out | refine es ?_ GE404.out | refine es ?_ GE405.out) | exact HB.out))) (fun k_ h_ => h_)) (bZ (by repeat (first | (with_reducible first | exact HB.out | apply ea | apply en | apply ed | refine es ?_ GE403.out | refine es ?_ GE404.out | refine es ?_ GE405.out) | exact HB.out)))); have n2_ := aM (bB (g := gb403) (qy BK403.out) hb); have n3_ := aM (bB (g := gb404) (qy BK404.out) hb); have n4_ := aM (bB (g := gb405) (qy BK405.out) hb); have n5_ := aM (bP (by repeat (first | (with_reducible first | exact HB.out | apply ea | apply en | apply ed | refine es ?_ GE403.out | refine es ?_ GE404.out | refine es ?_ GE405.out) | exact HB.out)) hb); clear HO3_1 BK403 BK404 BK405 HB; have HO3_1 := n0_; have HO409 := n1_; have BK403 := n2_; have BK404 := n3_; have BK405 := n4_; have HB := n5_; clear n0_ n1_ n2_ n3_ n4_ n5_; (try clear hb); (try clear hb2); (try clear hk); (try clear hi); (try clear ho0)) | ((with_reducible refine gate_dst (N := 10) rfl ?_); refine box_event ?hg (N := 10) ?hd (cs := #[.string (⟨#[]⟩ : ByteArray), .slice none 0 0]) (t := 24) ?hr ?_; (case hd | hg => rfl); (case hr => first | (go_simp; done) | (go_simp; rfl)); intro gb411 hg w14 hbox hb; have n0_ := aM (Kd.V_below (Kd.V_elderB (by (with_reducible repeat (first | apply va | apply vn | apply vd)); exact HO3_1.out) gb411 (Nat.le_of_eq hg.symm)) hb); have n1_ := aM (Kd.R_below (ry HO409.out) hb); have n2_ := aM (bB (g := gb403) (qy BK403.out) hb); have n3_ := aM (bB (g := gb404) (qy BK404.out) hb); have n4_ := aM (bB (g := gb405) (qy BK405.out) hb); have n5_ := aM (bP (by repeat (first | (with_reducible first | exact HB.out | apply ea | apply en | apply ed | refine es ?_ GE403.out | refine es ?_ GE404.out | refine es ?_ GE405.out) | exact HB.out)) hb); have n6_ := aM (hbox); have n7_ := aM ((by rw [hg]; exact (bZ (by repeat (first | (with_reducible first | exact HB.out | apply ea | apply en | apply ed | refine es ?_ GE403.out | refine es ?_ GE404.out | refine es ?_ GE405.out) | exact HB.out))) : w.heap.size ≤ gb411)); have n8_ := n7_; have n9_ := aM ((by rw [hg]; exact Nat.ne_of_lt (blk_lt (g := gb403) (qy BK403.out)) : gb403 ≠ gb411)); have n10_ := aM ((by rw [hg]; exact Nat.ne_of_gt (blk_lt (g := gb403) (qy BK403.out)) : gb411 ≠ gb403)); have n11_ := aM ((by rw [hg]; exact Nat.ne_of_lt (blk_lt (g := gb404) (qy BK404.out)) : gb404 ≠ gb411)); have n12_ := aM ((by rw [hg]; exact Nat.ne_of_gt (blk_lt (g := gb404) (qy BK404.out)) : gb411 ≠ gb404)); have n13_ := aM ((by rw [hg]; exact Nat.ne_of_lt (blk_lt (g := gb405) (qy BK405.out)) : gb405 ≠ gb411)); have n14_ := aM ((by rw [hg]; exact Nat.ne_of_gt (blk_lt (g := gb405) (qy BK405.out)) : gb411 ≠ gb405)); clear HO3_1 HO409 BK403 BK404 BK405 HB; have HO3_1 := n0_; have HO409 := n1_; have BK403 := n2_; have BK404 := n3_; have BK405 := n4_; have HB := n5_; have BK411 := n6_; have GW411 := n7_; have GE411 := n8_; have NB403_411 := n9_; have NB411_403 := n10_; have NB404_411 := n11_; have NB411_404 := n12_; have NB405_411 := n13_; have NB411_405 := n14_; clear n0_ n1_ n2_ n3_ n4_ n5_ n6_ n7_ n8_ n9_ n10_ n11_ n12_ n13_ n14_; clear hb hbox hg; have hnb15 := NB411_403.out; have hnc15 := NB403_411.out; have hnb16 := NB411_404.out; have hnc16 := NB404_411.out; have hnb17 := NB411_405.out; have hnc17 := NB405_411.out; have hcz18_0 := zC BK411.out 0 (.string (⟨#[]⟩ : ByteArray)); have hcz18_1 := zC BK411.out 1 (.slice none 0 0); have hfz18_0 := bF BK411.out 0; have hfz18_1 := bF BK411.out 1; obtain ⟨Ao19, co19, eo19⟩ := Kd.R_slice HO409.out; subst eo19))
 (try simp only [Act.put, sA, sZ, sS])
 go_cut [25] (fun v25 wc => ∃ (kq : Nat) (x25_5 : Bool), v25 = .bool x25_5 ∧ Aside0 (bureauref07_Of.j0 kq a1 a2 x25_5 a0_0 l0_1 a3_0 l3_1 t406 t407 = some (r1, r2, r3, r4, r5, r6)) ∧ Aside0 (kq ≤ k) ∧ Aside0 (Kd.V k51 51 wc w.heap.size (fun k_ => (P3_1_ k_ ∨ w.heap.size ≤ k_) ∧ some k_ ≠ ((.slice Ao19 t407.length co19) : Value).ownBlock ∧ k_ ≠ gb403 ∧ k_ ≠ gb404 ∧ k_ ≠ gb405 ∧ k_ ≠ gb411) (.slice A3_1 l3_1.length c3_1) l3_1) ∧ Aside0 (Kd.R k51 51 wc w.heap.size (fun k_ => (w.heap.size ≤ k_)) (.slice Ao19 t407.length co19) t407) ∧ Aside0 (wc.heap[gb403]? = some (.cells #[.string a0_0, (.slice A0_1 l0_1.length c0_1)] 24 (0, 0))) ∧ Aside0 (wc.heap[gb404]? = some (.cells #[.string a3_0, (.slice A3_1 l3_1.length c3_1)] 24 (0, 0))) ∧ Aside0 (wc.heap[gb405]? = some (.cells #[.int .i64 0, .string (⟨#[]⟩ : ByteArray), (.slice none 0 0), .string (⟨#[]⟩ : ByteArray), (.slice none 0 0)] 32 (0, 0))) ∧ Aside0 (wc.heap[gb411]? = some (.cells #[.string t406, (.slice Ao19 t407.length co19)] 24 (0, 0))) ∧ Aside0 (Below w.heap.size w wc))
 case first =>
  have H := HC6.out
  clear HC6
  by_cases c20 : t410 = 0
  ·rw [if_pos c20] at H
   have c20b0 : (t410 == 0) = true := beq_iff_eq.mpr c20
   have c20b1 : (t410 != 0) = false := bne_eq_false_iff_eq.mpr c20
   clear c20
   (first | rw [c20b0] | (simp only [i64_w, i32_w]; rw [c20b0]) | skip)
   replace H := Option.bind_eq_some_iff.mp H
   obtain ⟨t412, A210, H⟩ := H
   replace H : (bureauref07_Of.j0 k a1 a2 (!t412) a0_0 l0_1 a3_0 l3_1 t406 t407) = some (r1, r2, r3, r4, r5, r6) := H
   have A21 := aM A210
   clear A210
   have H' := aM H
   clear H
   have hnb22 := NB404_403.out
   have hnc22 := NB403_404.out
   have hnb23 := NB404_405.out
   have hnc23 := NB405_404.out
   have hnb24 := NB404_411.out
   have hnc24 := NB411_404.out
   have hcz25_0 := zC BK404.out 0 (.string a3_0)
   have hcz25_1 := zC BK404.out 1 (.slice A3_1 l3_1.length c3_1)
   have hfz25_0 := bF BK404.out 0
   have hfz25_1 := bF BK404.out 1
   go_wp2_with (first | (go_at_call 39; (with_reducible refine (bureauref04_Good.calls k a3_0 _ _ l3_1 t412 _ ?side1 ?side2 A21.out).mono ?_); (case side1 => refine (Kd.V_reads' (e := 51) (base := w.heap.size) (ok := fun k_ => ((((((P3_1_ k_ ∨ w.heap.size ≤ k_) ∧ k_ ≠ gb403) ∧ k_ ≠ gb404) ∧ k_ ≠ gb405) ∧ some k_ ≠ (.slice Ao19 t407.length co19 : Value).ownBlock) ∧ k_ ≠ gb411)) (n := l3_1.length) (c := c3_1) ?_).2.2; exact (by (with_reducible repeat (first | apply va | apply vn | apply vd)); exact (Kd.V_mono (Kd.V_far (p := ⟨gb411, 1, none⟩) (Kd.V_far (p := ⟨gb411, 0, none⟩) (Kd.V_mono HO3_1.out (fun k_ hk => (⟨hk, hk.2⟩ : _ ∧ k_ ≠ gb411))) (fun _ hk => hk.2) (.string t406)) (fun _ hk => hk.2) (.slice Ao19 t407.length co19)) (fun _ h_ => h_.1)))); (case side2 => exact (Kd.V_reads' HO3_1.out).2.1); rintro e w26 ⟨rfl, hb⟩; have n0_ := aM (Kd.V_below (by (with_reducible repeat (first | apply va | apply vn | apply vd)); exact (Kd.V_mono (Kd.V_far (p := ⟨gb411, 1, none⟩) (Kd.V_far (p := ⟨gb411, 0, none⟩) (Kd.V_mono HO3_1.out (fun k_ hk => (⟨hk, hk.2⟩ : _ ∧ k_ ≠ gb411))) (fun _ hk => hk.2) (.string t406)) (fun _ hk => hk.2) (.slice Ao19 t407.length co19)) (fun _ h_ => h_.1))) hb); have n1_ := aM (Kd.R_below (by (with_reducible repeat (first | apply ra | apply rn | apply rd_)); exact (rM (rF (p := ⟨gb411, 1, none⟩) (rF (p := ⟨gb411, 0, none⟩) (rT HO409.out BK411.out (by decide)) (fun _ hk => hk.2) (.string t406)) (fun _ hk => hk.2) (.slice Ao19 t407.length co19)) (fun _ h_ => h_.1))) hb); have n2_ := aM (bB (g := gb403) (o := .cells #[.string a0_0, .slice A0_1 l0_1.length c0_1] 24 (0, 0)) (by (with_reducible repeat (first | apply qn | apply qd | apply qa)); refine bR ?_ NB403_411.out _; (with_reducible repeat (first | apply qn | apply qd | apply qa)); refine bR ?_ NB403_411.out _; exact qy BK403.out) hb); have n3_ := aM (bB (g := gb404) (o := .cells #[.string a3_0, .slice A3_1 l3_1.length c3_1] 24 (0, 0)) (by (with_reducible repeat (first | apply qn | apply qd | apply qa)); refine bR ?_ NB404_411.out _; (with_reducible repeat (first | apply qn | apply qd | apply qa)); refine bR ?_ NB404_411.out _; exact qy BK404.out) hb); have n4_ := aM (bB (g := gb405) (o := .cells #[.int .i64 0, .string (⟨#[]⟩ : ByteArray), .slice none 0 0, .string (⟨#[]⟩ : ByteArray), .slice none 0 0] 32 (0, 0)) (by (with_reducible repeat (first | apply qn | apply qd | apply qa)); refine bR ?_ NB405_411.out _; (with_reducible repeat (first | apply qn | apply qd | apply qa)); refine bR ?_ NB405_411.out _; exact qy BK405.out) hb); have n5_ := aM (bB (g := gb411) (o := .cells #[.string t406, .slice Ao19 t407.length co19] 24 (0, 0)) (by (with_reducible repeat (first | apply qn | apply qd | apply qa)); refine bU (cs := #[.string t406, .slice none 0 0]) ?_ 1 _ rfl; (with_reducible repeat (first | apply qn | apply qd | apply qa)); refine bU (cs := #[.string (⟨#[]⟩ : ByteArray), .slice none 0 0]) ?_ 0 _ rfl; exact qy BK411.out) hb); have n6_ := aM (bP (by repeat (first | (with_reducible first | exact HB.out | apply ea | apply en | apply ed | refine es ?_ GE403.out | refine es ?_ GE404.out | refine es ?_ GE405.out | refine es ?_ GE411.out) | exact HB.out)) hb); clear HO3_1 HO409 BK403 BK404 BK405 BK411 HB; have HO3_1 := n0_; have HO409 := n1_; have BK403 := n2_; have BK404 := n3_; have BK405 := n4_; have BK411 := n5_; have HB := n6_; clear n0_ n1_ n2_ n3_ n4_ n5_ n6_; (try clear hb); (try clear hb2); (try clear hk); (try clear hi)))
   go_meet
   case rel => exact ⟨_, (!t412), (by first | rfl | (simp; done) | (simp [*]; done)), H', ⟨by first | omega | exact Nat.le_refl _⟩, ⟨by (with_reducible repeat (first | apply va | apply vn | apply vd)); exact Kd.V_mono HO3_1.out (fun _ hk => ⟨hk.1.1.1.1.1, ⟨hk.1.2, ⟨hk.1.1.1.1.2, ⟨hk.1.1.1.2, ⟨hk.1.1.2, hk.2⟩⟩⟩⟩⟩)⟩, ⟨by (with_reducible repeat (first | apply ra | apply rn | apply rd_)); exact rM HO409.out (fun _ hk => hk.1)⟩, ⟨by exact qy BK403.out⟩, ⟨by exact qy BK404.out⟩, ⟨by exact qy BK405.out⟩, ⟨by exact qy BK411.out⟩, ⟨by repeat (first | (with_reducible first | exact HB.out | apply ea | apply en | apply ed | refine es ?_ GE403.out | refine es ?_ GE404.out | refine es ?_ GE405.out | refine es ?_ GE411.out) | exact HB.out)⟩⟩
  ·rw [if_neg c20] at H
   have c20b0 : (t410 == 0) = false := beq_eq_false_iff_ne.mpr c20
   have c20b1 : (t410 != 0) = true := bne_iff_ne.mpr c20
   (first | rw [c20b0] | (simp only [i64_w, i32_w]; rw [c20b0]) | skip)
   have H' := aM H
   clear H
   go_wp2
   go_meet
   case rel => exact ⟨_, (true), (by first | rfl | (simp; done) | (simp [*]; done)), H', ⟨by first | omega | exact Nat.le_refl _⟩, ⟨by (with_reducible repeat (first | apply va | apply vn | apply vd)); exact Kd.V_mono (Kd.V_far (p := ⟨gb411, 1, none⟩) (Kd.V_far (p := ⟨gb411, 0, none⟩) (Kd.V_mono HO3_1.out (fun k_ hk => (⟨hk, hk.2⟩ : _ ∧ k_ ≠ gb411))) (fun _ hk => hk.2) (.string t406)) (fun _ hk => hk.2) (.slice Ao19 t407.length co19)) (fun _ hk => ⟨hk.1.1.1.1.1.1, ⟨hk.1.1.2, ⟨hk.1.1.1.1.1.2, ⟨hk.1.1.1.1.2, ⟨hk.1.1.1.2, hk.1.2⟩⟩⟩⟩⟩)⟩, ⟨by (with_reducible repeat (first | apply ra | apply rn | apply rd_)); exact rM (rF (p := ⟨gb411, 1, none⟩) (rF (p := ⟨gb411, 0, none⟩) (rT HO409.out BK411.out (by decide)) (fun _ hk => hk.2) (.string t406)) (fun _ hk => hk.2) (.slice Ao19 t407.length co19)) (fun _ hk => hk.1.1)⟩, ⟨by (with_reducible repeat (first | apply qn | apply qd | apply qa)); refine bR ?_ NB403_411.out _; (with_reducible repeat (first | apply qn | apply qd | apply qa)); refine bR ?_ NB403_411.out _; exact qy BK403.out⟩, ⟨by (with_reducible repeat (first | apply qn | apply qd | apply qa)); refine bR ?_ NB404_411.out _; (with_reducible repeat (first | apply qn | apply qd | apply qa)); refine bR ?_ NB404_411.out _; exact qy BK404.out⟩, ⟨by (with_reducible repeat (first | apply qn | apply qd | apply qa)); refine bR ?_ NB405_411.out _; (with_reducible repeat (first | apply qn | apply qd | apply qa)); refine bR ?_ NB405_411.out _; exact qy BK405.out⟩, ⟨by (with_reducible repeat (first | apply qn | apply qd | apply qa)); refine bU (cs := #[.string t406, .slice none 0 0]) ?_ 1 _ rfl; (with_reducible repeat (first | apply qn | apply qd | apply qa)); refine bU (cs := #[.string (⟨#[]⟩ : ByteArray), .slice none 0 0]) ?_ 0 _ rfl; exact qy BK411.out⟩, ⟨by repeat (first | (with_reducible first | exact HB.out | apply ea | apply en | apply ed | refine es ?_ GE403.out | refine es ?_ GE404.out | refine es ?_ GE405.out | refine es ?_ GE411.out) | exact HB.out)⟩⟩
 case rest =>
  clear HC6
  try clear c1
  try clear c2
  try clear p2
  try clear c3
  try clear c10
  try clear c11
  try clear c15
  try clear c16
  try clear c17
  try clear c20
  try clear c20b0
  try clear c20b1
  try clear c22
  try clear c23
  try clear c24
  try clear hcz12_0
  try clear hcz12_1
  try clear hcz18_0
  try clear hcz18_1
  try clear hcz25_0
  try clear hcz25_1
  try clear hfz12_0
  try clear hfz12_1
  try clear hfz18_0
  try clear hfz18_1
  try clear hfz25_0
  try clear hfz25_1
  obtain ⟨kq, x25_5, rfl, HA, HJ5, HO_405001, HO_412001, BK403, BK404, BK405, BK411, HB⟩ := hcut
  cases kq with
  | zero => exact absurd HA.out (by simp [bureauref07_Of.j0])
  | succ kj5 =>
   have H := HA.out
   clear HA
   simp only [bureauref07_Of.j0] at H
   by_cases c27 : x25_5 = true
   ·subst c27
    have H1 : (some (0, (⟨#[]⟩ : ByteArray), ([] : List (S51)), (⟨#[]⟩ : ByteArray), ([] : List (S51)), 2)) = some (r1, r2, r3, r4, r5, r6) := by rw [if_pos rfl] at H; exact H
    clear H
    have H := H1
    clear H1
    simp only [Option.some.injEq, Prod.mk.injEq] at H
    obtain ⟨rfl, rfl, rfl, rfl, rfl, rfl⟩ := H
    have hnb28 := NB405_403.out
    have hnc28 := NB403_405.out
    have hnb29 := NB405_404.out
    have hnc29 := NB404_405.out
    have hnb30 := NB405_411.out
    have hnc30 := NB411_405.out
    have hcz31_0 := zC BK405.out 0 (.int .i64 0)
    have hcz31_1 := zC BK405.out 1 (.string (⟨#[]⟩ : ByteArray))
    have hcz31_2 := zC BK405.out 2 (.slice none 0 0)
    have hcz31_3 := zC BK405.out 3 (.string (⟨#[]⟩ : ByteArray))
    have hcz31_4 := zC BK405.out 4 (.slice none 0 0)
    have hfz31_0 := bF BK405.out 0
    have hfz31_1 := bF BK405.out 1
    have hfz31_2 := bF BK405.out 2
    have hfz31_3 := bF BK405.out 3
    have hfz31_4 := bF BK405.out 4
    go_wp2
    refine bodyPost_ret (results_ct rfl _ _ gb405 32 #[.int .i64 0, .string (⟨#[]⟩ : ByteArray), .slice none 0 0, .string (⟨#[]⟩ : ByteArray), .slice none 0 0] (0, 0) _ rfl (by (with_reducible repeat (first | apply qn | apply qd | apply qa)); refine bU (cs := #[.int .i64 0, .string (⟨#[]⟩ : ByteArray), .slice none 0 0, .string (⟨#[]⟩ : ByteArray), .slice none 0 0]) ?_ 4 _ rfl; (with_reducible repeat (first | apply qn | apply qd | apply qa)); refine bU (cs := #[.int .i64 0, .string (⟨#[]⟩ : ByteArray), .slice none 0 0, .string (⟨#[]⟩ : ByteArray), .slice none 0 0]) ?_ 3 _ rfl; (with_reducible repeat (first | apply qn | apply qd | apply qa)); refine bU (cs := #[.int .i64 0, .string (⟨#[]⟩ : ByteArray), .slice none 0 0, .string (⟨#[]⟩ : ByteArray), .slice none 0 0]) ?_ 2 _ rfl; (with_reducible repeat (first | apply qn | apply qd | apply qa)); refine bU (cs := #[.int .i64 0, .string (⟨#[]⟩ : ByteArray), .slice none 0 0, .string (⟨#[]⟩ : ByteArray), .slice none 0 0]) ?_ 1 _ rfl; (with_reducible repeat (first | apply qn | apply qd | apply qa)); refine bU (cs := #[.int .i64 0, .string (⟨#[]⟩ : ByteArray), .slice none 0 0, .string (⟨#[]⟩ : ByteArray), .slice none 0 0]) ?_ 0 _ rfl; exact qy BK405.out) Try.underlying32 rfl (by kernel_rfl)) rfl ?_
    exact ⟨_, _, by first | rfl | (simp [errW_none, errW_some] <;> rfl) | (simp [*, errW_none, errW_some] <;> rfl), by first | exact Kd.R_nil _ _ _ _ _ | exact Kd.N_nil _ _ _ _ _ | exact Kd.V_nil _ _ _ _ _ | exact Kd.Q_nil _ _ _ _ _ | exact Kd.S_nil _ _ _ _ _, (by first | exact Kd.V_nil _ _ _ _ _ | exact Kd.R_V (Kd.R_nil _ _ _ _ _)), by repeat (first | (with_reducible first | exact HB.out | apply ea | apply en | apply ed | refine es ?_ GE403.out | refine es ?_ GE404.out | refine es ?_ GE405.out | refine es ?_ GE411.out) | exact HB.out)⟩
   ·replace c27 := Bool.eq_false_iff.mpr c27
    subst c27
    have H1 : (if (wrap64 ((wrap64 ((a0_0.size : Int) - (wrap64 (a2 - a1)))) + (a3_0.size : Int))) > 4096 then (some (0, (⟨#[]⟩ : ByteArray), ([] : List (S51)), (⟨#[]⟩ : ByteArray), ([] : List (S51)), 3)) else (some (a1, t406, t407, a3_0, l3_1, 0))) = some (r1, r2, r3, r4, r5, r6) := by rw [if_neg (show ¬ (false = true) by decide)] at H; exact H
    clear H
    have H := H1
    clear H1
    by_cases c32 : (wrap64 ((wrap64 ((a0_0.size : Int) - (wrap64 (a2 - a1)))) + (a3_0.size : Int))) > 4096
    ·rw [if_pos c32] at H
     have c32b0 : decide (4096 < (wrap64 ((wrap64 ((a0_0.size : Int) - (wrap64 (a2 - a1)))) + (a3_0.size : Int)))) = true := decide_eq_true c32
     clear c32
     simp only [Option.some.injEq, Prod.mk.injEq] at H
     obtain ⟨rfl, rfl, rfl, rfl, rfl, rfl⟩ := H
     have hnb33 := NB403_404.out
     have hnc33 := NB404_403.out
     have hnb34 := NB403_405.out
     have hnc34 := NB405_403.out
     have hnb35 := NB403_411.out
     have hnc35 := NB411_403.out
     have hcz36_0 := zC BK403.out 0 (.string a0_0)
     have hcz36_1 := zC BK403.out 1 (.slice A0_1 l0_1.length c0_1)
     have hfz36_0 := bF BK403.out 0
     have hfz36_1 := bF BK403.out 1
     have hnb37 := NB404_405.out
     have hnc37 := NB405_404.out
     have hnb38 := NB404_411.out
     have hnc38 := NB411_404.out
     have hcz39_0 := zC BK404.out 0 (.string a3_0)
     have hcz39_1 := zC BK404.out 1 (.slice A3_1 l3_1.length c3_1)
     have hfz39_0 := bF BK404.out 0
     have hfz39_1 := bF BK404.out 1
     have hnb40 := NB405_411.out
     have hnc40 := NB411_405.out
     have hcz41_0 := zC BK405.out 0 (.int .i64 0)
     have hcz41_1 := zC BK405.out 1 (.string (⟨#[]⟩ : ByteArray))
     have hcz41_2 := zC BK405.out 2 (.slice none 0 0)
     have hcz41_3 := zC BK405.out 3 (.string (⟨#[]⟩ : ByteArray))
     have hcz41_4 := zC BK405.out 4 (.slice none 0 0)
     have hfz41_0 := bF BK405.out 0
     have hfz41_1 := bF BK405.out 1
     have hfz41_2 := bF BK405.out 2
     have hfz41_3 := bF BK405.out 3
     have hfz41_4 := bF BK405.out 4
     go_wp2
     refine bodyPost_ret (results_ct rfl _ _ gb405 32 #[.int .i64 0, .string (⟨#[]⟩ : ByteArray), .slice none 0 0, .string (⟨#[]⟩ : ByteArray), .slice none 0 0] (0, 0) _ rfl (by (with_reducible repeat (first | apply qn | apply qd | apply qa)); refine bU (cs := #[.int .i64 0, .string (⟨#[]⟩ : ByteArray), .slice none 0 0, .string (⟨#[]⟩ : ByteArray), .slice none 0 0]) ?_ 4 _ rfl; (with_reducible repeat (first | apply qn | apply qd | apply qa)); refine bU (cs := #[.int .i64 0, .string (⟨#[]⟩ : ByteArray), .slice none 0 0, .string (⟨#[]⟩ : ByteArray), .slice none 0 0]) ?_ 3 _ rfl; (with_reducible repeat (first | apply qn | apply qd | apply qa)); refine bU (cs := #[.int .i64 0, .string (⟨#[]⟩ : ByteArray), .slice none 0 0, .string (⟨#[]⟩ : ByteArray), .slice none 0 0]) ?_ 2 _ rfl; (with_reducible repeat (first | apply qn | apply qd | apply qa)); refine bU (cs := #[.int .i64 0, .string (⟨#[]⟩ : ByteArray), .slice none 0 0, .string (⟨#[]⟩ : ByteArray), .slice none 0 0]) ?_ 1 _ rfl; (with_reducible repeat (first | apply qn | apply qd | apply qa)); refine bU (cs := #[.int .i64 0, .string (⟨#[]⟩ : ByteArray), .slice none 0 0, .string (⟨#[]⟩ : ByteArray), .slice none 0 0]) ?_ 0 _ rfl; exact qy BK405.out) Try.underlying32 rfl (by kernel_rfl)) rfl ?_
     exact ⟨_, _, by first | rfl | (simp [errW_none, errW_some] <;> rfl) | (simp [*, errW_none, errW_some] <;> rfl), by first | exact Kd.R_nil _ _ _ _ _ | exact Kd.N_nil _ _ _ _ _ | exact Kd.V_nil _ _ _ _ _ | exact Kd.Q_nil _ _ _ _ _ | exact Kd.S_nil _ _ _ _ _, (by first | exact Kd.V_nil _ _ _ _ _ | exact Kd.R_V (Kd.R_nil _ _ _ _ _)), by repeat (first | (with_reducible first | exact HB.out | apply ea | apply en | apply ed | refine es ?_ GE403.out | refine es ?_ GE404.out | refine es ?_ GE405.out | refine es ?_ GE411.out) | exact HB.out)⟩
    ·rw [if_neg c32] at H
     have c32b0 : decide (4096 < (wrap64 ((wrap64 ((a0_0.size : Int) - (wrap64 (a2 - a1)))) + (a3_0.size : Int)))) = false := decide_eq_false c32
     clear c32
     simp only [Option.some.injEq, Prod.mk.injEq] at H
     obtain ⟨rfl, rfl, rfl, rfl, rfl, rfl⟩ := H
     have hnb42 := NB403_404.out
     have hnc42 := NB404_403.out
     have hnb43 := NB403_405.out
     have hnc43 := NB405_403.out
     have hnb44 := NB403_411.out
     have hnc44 := NB411_403.out
     have hcz45_0 := zC BK403.out 0 (.string a0_0)
     have hcz45_1 := zC BK403.out 1 (.slice A0_1 l0_1.length c0_1)
     have hfz45_0 := bF BK403.out 0
     have hfz45_1 := bF BK403.out 1
     have hnb46 := NB404_405.out
     have hnc46 := NB405_404.out
     have hnb47 := NB404_411.out
     have hnc47 := NB411_404.out
     have hcz48_0 := zC BK404.out 0 (.string a3_0)
     have hcz48_1 := zC BK404.out 1 (.slice A3_1 l3_1.length c3_1)
     have hfz48_0 := bF BK404.out 0
     have hfz48_1 := bF BK404.out 1
     have hnb49 := NB411_405.out
     have hnc49 := NB405_411.out
     have hcz50_0 := zC BK411.out 0 (.string t406)
     have hcz50_1 := zC BK411.out 1 (.slice Ao19 t407.length co19)
     have hfz50_0 := bF BK411.out 0
     have hfz50_1 := bF BK411.out 1
     have hcz51_0 := zC BK405.out 0 (.int .i64 0)
     have hcz51_1 := zC BK405.out 1 (.string (⟨#[]⟩ : ByteArray))
     have hcz51_2 := zC BK405.out 2 (.slice none 0 0)
     have hcz51_3 := zC BK405.out 3 (.string (⟨#[]⟩ : ByteArray))
     have hcz51_4 := zC BK405.out 4 (.slice none 0 0)
     have hfz51_0 := bF BK405.out 0
     have hfz51_1 := bF BK405.out 1
     have hfz51_2 := bF BK405.out 2
     have hfz51_3 := bF BK405.out 3
     have hfz51_4 := bF BK405.out 4
     go_wp2
     refine bodyPost_ret (results_ct rfl _ _ gb405 32 #[.int .i64 a1, .string t406, .slice Ao19 t407.length co19, .string a3_0, .slice A3_1 l3_1.length c3_1] (0, 0) _ rfl (by (with_reducible repeat (first | apply qn | apply qd | apply qa)); refine bU (cs := #[.int .i64 a1, .string t406, .slice Ao19 t407.length co19, .string a3_0, .slice none 0 0]) ?_ 4 _ rfl; (with_reducible repeat (first | apply qn | apply qd | apply qa)); refine bU (cs := #[.int .i64 a1, .string t406, .slice Ao19 t407.length co19, .string (⟨#[]⟩ : ByteArray), .slice none 0 0]) ?_ 3 _ rfl; (with_reducible repeat (first | apply qn | apply qd | apply qa)); refine bU (cs := #[.int .i64 a1, .string t406, .slice none 0 0, .string (⟨#[]⟩ : ByteArray), .slice none 0 0]) ?_ 2 _ rfl; (with_reducible repeat (first | apply qn | apply qd | apply qa)); refine bU (cs := #[.int .i64 a1, .string (⟨#[]⟩ : ByteArray), .slice none 0 0, .string (⟨#[]⟩ : ByteArray), .slice none 0 0]) ?_ 1 _ rfl; (with_reducible repeat (first | apply qn | apply qd | apply qa)); refine bU (cs := #[.int .i64 0, .string (⟨#[]⟩ : ByteArray), .slice none 0 0, .string (⟨#[]⟩ : ByteArray), .slice none 0 0]) ?_ 0 _ rfl; exact qy BK405.out) Try.underlying32 rfl (by kernel_rfl)) rfl ?_
     exact ⟨_, _, by first | rfl | (simp [errW_none, errW_some] <;> rfl) | (simp [*, errW_none, errW_some] <;> rfl), by (with_reducible repeat (first | apply ra | apply rn | apply rd_)); exact rM (rF (p := ⟨gb405, 4, none⟩) (rF (p := ⟨gb405, 3, none⟩) (rF (p := ⟨gb405, 2, none⟩) (rF (p := ⟨gb405, 1, none⟩) (rF (p := ⟨gb405, 0, none⟩) (rT HO_412001.out BK405.out (by decide)) (fun _ hk => hk.2) (.int .i64 a1)) (fun _ hk => hk.2) (.string t406)) (fun _ hk => hk.2) (.slice Ao19 t407.length co19)) (fun _ hk => hk.2) (.string a3_0)) (fun _ hk => hk.2) (.slice A3_1 l3_1.length c3_1)) (fun _ hk => hk.1), by (with_reducible repeat (first | apply va | apply vn | apply vd)); exact Kd.V_mono (Kd.V_far (p := ⟨gb405, 4, none⟩) (Kd.V_far (p := ⟨gb405, 3, none⟩) (Kd.V_far (p := ⟨gb405, 2, none⟩) (Kd.V_far (p := ⟨gb405, 1, none⟩) (Kd.V_far (p := ⟨gb405, 0, none⟩) (Kd.V_mono HO_405001.out (fun k_ hk => (⟨hk, hk.2.2.2.2.1⟩ : _ ∧ k_ ≠ gb405))) (fun _ hk => hk.2) (.int .i64 a1)) (fun _ hk => hk.2) (.string t406)) (fun _ hk => hk.2) (.slice Ao19 t407.length co19)) (fun _ hk => hk.2) (.string a3_0)) (fun _ hk => hk.2) (.slice A3_1 l3_1.length c3_1)) (fun _ hk => ⟨hk.1.1, hk.1.2.1⟩), by repeat (first | (with_reducible first | exact HB.out | apply ea | apply en | apply ed | refine es ?_ GE403.out | refine es ?_ GE404.out | refine es ?_ GE405.out | refine es ?_ GE411.out) | exact HB.out)⟩
end Go.Proofs.Ytnbdldpjiofafaa.PB
end

section
namespace Go.Proofs.Ytnbdldpjiofafaa.PB
set_option linter.unusedVariables false
def marksTo (n k : Nat) : List Bool := (List.range 64).map (fun i => decide (i < k) && n.testBit i)
def marksN (n : Nat) : List Bool := (List.range 64).map (fun i => n.testBit i)
theorem marksTo_len (n k : Nat) : (marksTo n k).length = 64 := by simp [marksTo]
theorem marksN_len (n : Nat) : (marksN n).length = 64 := by simp [marksN]
theorem marksTo_zero (n : Nat) : marksTo n 0 = List.replicate 64 false := by simp [marksTo]; rfl
theorem marksTo_all (n : Nat) : marksTo n 64 = marksN n := by
  unfold marksTo marksN
  apply List.map_congr_left
  intro i hi
  simp [List.mem_range.1 hi]
theorem marksTo_set (n k : Nat) (hk : k < 64) : (marksTo n k).set k (n.testBit k) = marksTo n (k + 1) := by
  apply List.ext_getElem?
  intro i
  rw [List.getElem?_set]
  unfold marksTo
  simp only [List.getElem?_map, List.length_map, List.length_range]
  by_cases hi : i < 64
  · rw [List.getElem?_range hi]
    by_cases h : k = i
    · subst h; simp [hk]
    · have : decide (i < k) = decide (i < k + 1) := by rw [decide_eq_decide]; omega
      rw [if_neg h, Option.map_some, Option.map_some, this]
  · rw [List.getElem?_eq_none (by simpa using hi), if_neg (by omega)]; rfl
theorem marksN_getD (n i : Nat) (hi : i < 64) : (marksN n).getD i false = n.testBit i := by
  unfold marksN
  rw [List.getD_eq_getElem?_getD, List.getElem?_map, List.getElem?_range hi]
  rfl
end Go.Proofs.Ytnbdldpjiofafaa.PB
end

section
namespace Go.Proofs.Ytnbdldpjiofafaa.PB
open Go.RowKit Go.Proofs.YtnbdldpjiofafaaW.PrintWords Go.Proofs.YtnbdldpjiofafaaW.PrintLast Go.Proofs.YtnbdldpjiofafaaW.PrintMore
attribute [local go_sem] max2_int min2_int max_two min_two max_three min_three max_four min_four
set_option linter.unusedVariables false
set_option linter.unusedSimpArgs false
def mcells (l : List Bool) : Array Value := (bools l).toArray
theorem mcells_size (l : List Bool) : (mcells l).size = l.length := by simp [mcells, bools]
theorem mcells_get (l : List Bool) (i : Nat) (h : i < l.length) : (mcells l)[i]? = some (.bool (l.getD i false)) := by
  simp [mcells, bools, List.getD_eq_getElem?_getD, List.getElem?_eq_getElem h]
theorem mcells_set (l : List Bool) (i : Nat) (b : Bool) : (mcells l).setIfInBounds i (.bool b) = mcells (l.set i b) := by
  simp [mcells, bools, List.map_set]
theorem mcells_full (l : List Bool) (hl : l.length = 64) : (Try.prog.info? 101).map (fun i => i.size) = some (mcells l).size := by
  rw [mcells_size, hl]
  kernel_rfl
theorem mcells_one (l : List Bool) : (mcells l).all (·.oneCell') = true := by
  simp [mcells, bools, Value.oneCell']
theorem blk_there {w : World} {g : Nat} {t : TypeId} {l : List Bool} (h : w.heap[g]? = some (.cells (mcells l) t (0, 0))) : w.there g 0 l.length := fun j hj =>
  ⟨by rw [bC h, Nat.zero_add, mcells_get l j hj]; rfl, bF h _⟩
theorem setCells_blk {w : World} {g : Nat} {t : TypeId} {l m : List Bool} (h : w.heap[g]? = some (.cells (mcells l) t (0, 0))) (hl : m.length = l.length) :
    (w.setCells g 0 (mcells m).toList).heap[g]? = some (.cells (mcells m) t (0, 0)) := by
  obtain ⟨cur, h1, h2, h3⟩ := setCells_row (mcells m).toList 0 w (mcells l) h (by rw [Nat.zero_add, Array.length_toList, mcells_size, mcells_size, hl]; exact Nat.le_refl _)
  rw [h1]
  congr 2
  apply Array.toList_inj.1
  have hs : (mcells l).toList.length = (mcells m).toList.length := by rw [Array.length_toList, Array.length_toList, mcells_size, mcells_size, hl]
  rw [h3, List.take_zero, List.nil_append, List.drop_eq_nil_of_le (by omega), List.append_nil]
set_option maxHeartbeats 4000000 in
set_option maxRecDepth 100000 in
theorem Marks_calls (n : Nat) (hn : n < 2 ^ 64) (w : World) :
    Calls Try.prog 62 #[.int .u64 (n : Int)] w fun e w' => e = .returned (.agg (mcells (marksN n))) ∧ Below w.heap.size w w' := by
  go_enter Try.func62, Try.ntmps62
  have hn' : (n : Int) < 18446744073709551616 := by omega
  go_wp2_with (first | ((with_reducible refine gate_dst (N := 2) rfl ?_); refine box_event ?hg (N := 2) ?hd (cs := mcells (List.replicate 64 false)) (t := 101) ?hr ?_; (case hd => rfl); (case hg => rfl); (case hr => (go_simp; rfl)); intro g2 hg2 w2 hbox2 hb2; have HX2 := aM hbox2; have HB2 := aM hb2; have HE2 := aM hg2; clear hbox2 hb2 hg2) | ((with_reducible refine gate_dst (N := 3) rfl ?_); refine box_event ?hg (N := 3) ?hd (cs := mcells (List.replicate 64 false)) (t := 101) ?hr ?_; (case hd => rfl); (case hg => rfl); (case hr => (go_simp; rfl)); intro g3 hg3 w3 hbox3 hb3; have HX3 := aM hbox3; have HB3 := aM hb3; have HE3 := aM hg3; clear hbox3 hb3 hg3))
  have h23 : g2 < g3 := by have := HE3.out; have := blk_lt HX2.out; omega
  have hs2 : g2 = w.heap.size := HE2.out
  have HX2 := aM ((HB3.out.block g2 (blk_lt HX2.out)).trans HX2.out)
  have HBB := aM ((HB2.out).trans (HB3.out.mono (HB2.out.size)))
  rw [← marksTo_zero n] at HX3
  go_loopw [4, 5] (fun v4 v5 wr => ∃ (k : Nat), k ≤ 64 ∧ v5 = .int .i64 k ∧ v4 = .int .u64 ((n / 2 ^ k : Nat) : Int) ∧ Aside0 (wr.heap[g3]? = some (.cells (mcells (marksTo n k)) 101 (0, 0))) ∧ Aside0 (wr.heap[g2]? = some (.cells (mcells (List.replicate 64 false)) 101 (0, 0))) ∧ Aside0 (Below w.heap.size w wr)) (fun _ i _ => 64 - (intOf i).toNat)
  case atStart => exact ⟨0, by omega, rfl, by simp, HX3, HX2, HBB⟩
  case round =>
    obtain ⟨k, hk, rfl, rfl, HA, HC, HB⟩ := hrel
    by_cases hlt : k < 64
    · have hq := Nat.div_div_eq_div_mul n (2 ^ k) 2
      rw [← Nat.pow_succ] at hq
      have hb : n.testBit k = ((((n / 2 ^ k : Nat) : Int) % 2) == 1) := by
        rw [Nat.testBit_eq_decide_div_mod_eq]
        generalize n / 2 ^ k = q
        rw [Bool.eq_iff_iff, decide_eq_true_iff, beq_iff_eq]
        omega
      have hq2 : ((n / 2 ^ k : Nat) : Int) / 2 = ((n / 2 ^ (k + 1) : Nat) : Int) := by rw [← hq]; omega
      have hle : n / 2 ^ k ≤ n := Nat.div_le_self _ _
      have hc := (bC HA.out k).trans (mcells_get _ k (by rw [marksTo_len]; exact hlt))
      have hf := bF HA.out k
      have HQ := aM hq2
      have HBT := aM hb
      clear hq hb hq2
      generalize n / 2 ^ k = q at *
      generalize hqq : n / 2 ^ (k + 1) = q2 at *
      have HQ2 := aM hqq
      clear hqq
      have hk0 : (0 : Int) ≤ (k : Int) := by omega
      have hk1 : (k : Int) < 64 := by omega
      go_wp2
      have hb2 := blk_set HA.out k (.bool ((q : Int) % 2 == 1))
      rw [← HBT.out, mcells_set, marksTo_set _ _ hlt] at hb2
      refine ⟨⟨k + 1, by omega, by go_num, by rw [HQ2.out, HQ.out], ⟨by rw [← HBT.out]; exact hb2⟩, ⟨bR HC.out (by show g2 ≠ g3; omega) _⟩, ⟨HB.out.setCell (by show w.heap.size ≤ g3; omega) _⟩⟩, by simp [intOf]; omega⟩
    · obtain rfl : k = 64 := by omega
      have HA2 := HA.out
      rw [marksTo_all] at HA2
      have HA3 := aM HA2
      have ht := blk_there HC.out
      rw [List.length_replicate, ← marksN_len n, ← mcells_size] at ht
      have HT := aM ht
      clear HA2 ht hn hn'
      go_wp2_with (first | ((with_reducible refine gate_dst (N := 18) rfl ?_); refine wpList_load_row rfl 101 (.tmp 3) rfl g3 rfl 101 (mcells (marksN n)) (0, 0) _ HA3.out Try.underlying101 rfl (mcells_full _ (marksN_len n)) ?_) | ((with_reducible refine gate_store (t := 101) (p := 2) rfl ?_); refine wpList_store_mid rfl 101 (.tmp 2) (.tmp 18) rfl g2 0 (mcells (marksN n)) rfl rfl (HT.out) (mcells_full _ (marksN_len n)) (mcells_one _) ?_))
      have hz := setCells_blk HC.out (m := marksN n) (by rw [marksN_len, List.length_replicate])
      refine bodyPost_ret (results_cell_row rfl _ _ g2 101 (mcells (marksN n)) (0, 0) _ rfl hz Try.underlying101 rfl (mcells_full _ (marksN_len n))) rfl ⟨rfl, ?_⟩
      obtain ⟨s1, s2, s3, s4⟩ := setCells_same g2 (mcells (marksN n)).toList 0 wr
      exact HB.out.trans ⟨s1, s2, s3, by rw [s4]; exact Nat.le_refl _, fun i hi => setCells_far _ _ _ (by omega)⟩
theorem row_there {w : World} {g : Nat} {t : TypeId} {l m : List Bool} (h : w.heap[g]? = some (.cells (mcells l) t (0, 0))) (hl : l.length = 64) (hm : m.length = 64) : w.there g 0 (mcells m).size := by
  have := blk_there h
  rwa [hl, ← hm, ← mcells_size] at this
theorem setCells_below {B g : Nat} {w W : World} (h : Below B w W) (hB : B ≤ g) (vs : List Value) : Below B w (W.setCells g 0 vs) := by
  obtain ⟨s1, s2, s3, s4⟩ := setCells_same g vs 0 W
  exact h.trans ⟨s1, s2, s3, by rw [s4]; exact Nat.le_refl _, fun i hi => setCells_far _ _ _ (by omega)⟩
theorem blk_later {w w1 : World} {g : Nat} {o : Obj} (h : w.heap[g]? = some o) (hb : Below w.heap.size w w1) : w1.heap[g]? = some o := (hb.block g (blk_lt h)).trans h
theorem blk_other {w : World} {g g2 : Nat} {o : Obj} (h : w.heap[g]? = some o) (hne : g ≠ g2) (vs : List Value) : (w.setCells g2 0 vs).heap[g]? = some o := (setCells_far _ _ _ hne).trans h
theorem zlen : (List.replicate 64 false).length = 64 := List.length_replicate
def belowN (a b : Nat) : Bool := (List.range 64).all (fun i => !a.testBit i || b.testBit i)
theorem belowN_yes {a b : Nat} (h : ∀ i, i < 64 → a.testBit i = true → b.testBit i = true) : belowN a b = true := by
  unfold belowN
  rw [List.all_eq_true]
  intro i hi
  have := h i (List.mem_range.1 hi)
  cases ha : a.testBit i <;> simp_all
theorem belowN_no {a b i : Nat} (hi : i < 64) (ha : a.testBit i = true) (hb : b.testBit i = false) : belowN a b = false := by
  unfold belowN
  rw [List.all_eq_false]
  exact ⟨i, List.mem_range.2 hi, by simp [ha, hb]⟩
theorem belowN_bits (a b : Nat) (ha : a < 2 ^ 64) (hb : b < 2 ^ 64) : (Go.bits .andNot .u64 (a : Int) (b : Int) == 0) = belowN a b := by
  rw [u64_andNot_nat a b ha hb]
  have hs : ∀ i, (a &&& (18446744073709551615 - b)).testBit i = (a.testBit i && (decide (i < 64) && !b.testBit i)) := fun i => by
    rw [Nat.testBit_and, show 18446744073709551615 - b = 2 ^ 64 - (b + 1) by omega, Nat.testBit_two_pow_sub_succ hb]
  cases h : belowN a b with
  | true =>
    have h0 : a &&& (18446744073709551615 - b) = 0 := by
      apply Nat.eq_of_testBit_eq
      intro i
      rw [hs, Nat.zero_testBit]
      by_cases hi : i < 64
      · unfold belowN at h
        have := List.all_eq_true.1 h i (List.mem_range.2 hi)
        cases ha : a.testBit i <;> cases hb : b.testBit i <;> simp_all
      · simp [hi]
    rw [h0]; rfl
  | false =>
    unfold belowN at h
    obtain ⟨i, hi, hc⟩ := List.all_eq_false.1 h
    have hz : (a &&& (18446744073709551615 - b)).testBit i = true := by
      rw [hs]
      have := List.mem_range.1 hi
      cases ha : a.testBit i <;> cases hb : b.testBit i <;> simp_all
    rw [beq_eq_false_iff_ne]
    intro he
    have : a &&& (18446744073709551615 - b) = 0 := by omega
    rw [this, Nat.zero_testBit] at hz
    cases hz
set_option maxHeartbeats 4000000 in
set_option maxRecDepth 100000 in
theorem Below_calls (a b : Nat) (ha : a < 2 ^ 64) (hb : b < 2 ^ 64) (w : World) :
    Calls Try.prog 41 #[.int .u64 (a : Int), .int .u64 (b : Int)] w fun e w' => e = .returned (.bool (belowN a b)) ∧ Below w.heap.size w w' := by
  have HM1 := aM (fun W => Marks_calls a ha W)
  have HM2 := aM (fun W => Marks_calls b hb W)
  clear ha hb
  go_enter Try.func41, Try.ntmps41
  go_wp2_with fail
  refine (HM1.out _).mono ?_
  rintro e w1 ⟨rfl, hb1⟩
  have HC1 := aM hb1
  clear hb1
  go_wp2_with fail
  refine (HM2.out _).mono ?_
  rintro e w2 ⟨rfl, hb2⟩
  have HC2 := aM (HC1.out.trans (hb2.mono HC1.out.size))
  clear hb2
  go_wp2_with (first | ((with_reducible refine gate_dst (N := 5) rfl ?_); refine box_event ?hg (N := 5) ?hd (cs := mcells (List.replicate 64 false)) (t := 101) ?hr ?_; (case hd => rfl); (case hg => rfl); (case hr => first | (go_simp; done) | (go_simp; rfl)); intro g5 hg5 w5 hbox5 hb5; have HX5 := aM hbox5; have HB5 := aM hb5; have HE5 := aM hg5; clear hbox5 hb5 hg5) | ((with_reducible refine gate_dst (N := 6) rfl ?_); refine box_event ?hg (N := 6) ?hd (cs := mcells (List.replicate 64 false)) (t := 101) ?hr ?_; (case hd => rfl); (case hg => rfl); (case hr => first | (go_simp; done) | (go_simp; rfl)); intro g6 hg6 w6 hbox6 hb6; have HX6 := aM hbox6; have HB6 := aM hb6; have HE6 := aM hg6; clear hbox6 hb6 hg6) | ((with_reducible refine gate_store (t := 101) (p := 5) rfl ?_); refine wpList_store_mid rfl 101 (.tmp 5) (.tmp 9) rfl g5 0 (mcells (marksN a)) rfl rfl ?ht (mcells_full _ (marksN_len a)) (mcells_one _) ?_; (case ht => exact row_there (blk_later HX5.out HB6.out) zlen (marksN_len a)); have HS5 := aM (setCells_blk (blk_later HX5.out HB6.out) (m := marksN a) ((marksN_len a).trans zlen.symm)); have HS6 := aM (blk_other HX6.out (g2 := g5) (by have h1 := HE6.out; have h2 := blk_lt HX5.out; omega) (mcells (marksN a)).toList); have HD5 := aM (setCells_below (HC2.out.trans ((HB5.out.trans (HB6.out.mono HB5.out.size)).mono HC2.out.size)) (by have h1 := HE5.out; have h2 := HC2.out.size; omega : w.heap.size ≤ g5) (mcells (marksN a)).toList); generalize (World.setCells w6 g5 0 (mcells (marksN a)).toList) = w7 at HS5 HS6 HD5 ⊢) | ((with_reducible refine gate_store (t := 101) (p := 6) rfl ?_); refine wpList_store_mid rfl 101 (.tmp 6) (.tmp 11) rfl g6 0 (mcells (marksN b)) rfl rfl ?ht (mcells_full _ (marksN_len b)) (mcells_one _) ?_; (case ht => exact row_there HS6.out zlen (marksN_len b)); have HU6 := aM (setCells_blk HS6.out (m := marksN b) ((marksN_len b).trans zlen.symm)); have HU5 := aM (blk_other HS5.out (g2 := g6) (by have h1 := HE6.out; have h2 := blk_lt HX5.out; omega) (mcells (marksN b)).toList); have HD6 := aM (setCells_below HD5.out (by have h1 := HE6.out; have h2 := HC2.out.size; have h3 := HB5.out.size; omega : w.heap.size ≤ g6) (mcells (marksN b)).toList); generalize (World.setCells w7 g6 0 (mcells (marksN b)).toList) = w8 at HU5 HU6 HD6 ⊢))
  have h56 : g5 < g6 := by have h1 := HE6.out; have h2 := blk_lt HX5.out; omega
  go_loopw [7] (fun v8 wr => ∃ (k : Nat), k ≤ 64 ∧ v8 = .int .i64 k ∧ Aside0 (∀ i, i < k → a.testBit i = true → b.testBit i = true) ∧ Aside0 (wr.heap[g5]? = some (.cells (mcells (marksN a)) 101 (0, 0))) ∧ Aside0 (wr.heap[g6]? = some (.cells (mcells (marksN b)) 101 (0, 0))) ∧ Aside0 (Below w.heap.size w wr)) (fun i _ => 64 - (intOf i).toNat)
  case atStart => exact ⟨0, by omega, rfl, ⟨fun i hi => absurd hi (by omega)⟩, HU5, HU6, HD6⟩
  case round =>
    obtain ⟨k, hk, rfl, HA, HP, HQ, HB⟩ := hrel
    by_cases hlt : k < 64
    · have hc5 := (bC HP.out k).trans (mcells_get _ k (by rw [marksN_len]; exact hlt))
      have hc6 := (bC HQ.out k).trans (mcells_get _ k (by rw [marksN_len]; exact hlt))
      rw [marksN_getD _ _ hlt] at hc5 hc6
      have hk0 : (0 : Int) ≤ (k : Int) := by omega
      have hk1 : (k : Int) < 64 := by omega
      have HNO := aM (fun h1 h2 => belowN_no (a := a) (b := b) hlt h1 h2)
      have HYES := aM (fun (h1 : a.testBit k = true → b.testBit k = true) (i : Nat) (hi : i < k + 1) (h2 : a.testBit i = true) => (by
        rcases Nat.lt_or_ge i k with h | h
        · exact HA.out i h h2
        · obtain rfl : i = k := by omega
          exact h1 h2 : b.testBit i = true))
      cases hx : a.testBit k <;> cases hy : b.testBit k
      all_goals
        rw [hx, hy] at HNO HYES
        rw [hx] at hc5
        rw [hy] at hc6
        have HXY := aM (And.intro hx hy)
        clear hx hy
      case true.false =>
        go_wp2
        go_ret
        rw [HNO.out (by simp) (by simp)]
        exact ⟨rfl, HB.out⟩
      all_goals
        go_wp2
        exact ⟨⟨k + 1, by omega, by go_num, ⟨HYES.out (by simp)⟩, HP, HQ, HB⟩, by simp [intOf]; omega⟩
    · obtain rfl : k = 64 := by omega
      have hy := belowN_yes HA.out
      have HY := aM hy
      clear hy
      go_wp2
      go_ret
      rw [HY.out]
      exact ⟨rfl, HB.out⟩
def orAll (l : List Nat) : Nat := l.foldl (· ||| ·) 0
def bureauref01_Below.f (a0 : Int) (a1 : Int) : Option Bool := if 0 ≤ a0 ∧ a0 < 18446744073709551616 ∧ 0 ≤ a1 ∧ a1 < 18446744073709551616 then some (Go.bits .andNot .u64 a0 a1 == 0) else none
theorem bureauref01_Below.calls (a0 : Int) (a1 : Int) (r : Bool) (w : World) (h : bureauref01_Below.f a0 a1 = some r) :
    Calls Try.prog 41 #[.int .u64 a0, .int .u64 a1] w fun e w' => e = .returned (.bool r) ∧ Below w.heap.size w w' := by
  unfold bureauref01_Below.f at h
  split at h
  case isFalse => cases h
  rename_i hc
  injection h with h
  subst h
  obtain ⟨a, rfl⟩ := Int.eq_ofNat_of_zero_le hc.1
  obtain ⟨b, rfl⟩ := Int.eq_ofNat_of_zero_le hc.2.2.1
  rw [belowN_bits a b (by omega) (by omega)]
  exact Below_calls a b (by omega) (by omega) w
def orAllI (l : List Int) : Int := l.foldl (fun a x => Go.bits .or .u64 a x) 0
theorem orAllI_nat (l : List Nat) (hl : ∀ x ∈ l, x < 2 ^ 64) : orAllI (l.map (fun x : Nat => (x : Int))) = ((orAll l : Nat) : Int) := by
  unfold orAllI orAll
  have : ∀ (l : List Nat) (a : Nat), a < 2 ^ 64 → (∀ x ∈ l, x < 2 ^ 64) → (l.map (fun x : Nat => (x : Int))).foldl (fun a x => Go.bits .or .u64 a x) (a : Int) = ((l.foldl (· ||| ·) a : Nat) : Int) := by
    intro l
    induction l with
    | nil => intro a _ _; rfl
    | cons x l ih =>
      intro a ha hl
      have hx := hl x List.mem_cons_self
      rw [List.map_cons, List.foldl_cons, List.foldl_cons, u64_or_nat a x ha hx]
      exact ih _ (Nat.or_lt_two_pow ha hx) (fun y hy => hl y (List.mem_cons_of_mem _ hy))
  exact this l 0 (by decide) hl
end Go.Proofs.Ytnbdldpjiofafaa.PB
end

section
namespace Go.Proofs.Ytnbdldpjiofafaa.PB
open Go.RowKit Go.Proofs.YtnbdldpjiofafaaW.PrintWords Go.Proofs.YtnbdldpjiofafaaW.PrintLast Go.Proofs.YtnbdldpjiofafaaW.PrintMore
attribute [local go_sem] max2_int min2_int max_two min_two max_three min_three max_four min_four   
set_option linter.unusedVariables false
set_option linter.unusedSimpArgs false
def bureauref04_View.l0 : Nat → Int → List Int → List Int → Int → ByteArray → List (S51) → Option (ByteArray × Int)
 | 0, _, _, _, _, _, _ => none
 | k + 1, x1, x6, x7, x8, x312000, x312001 => if x8 < (x6.length : Int) then (if 0 ≤ x8 then ((bureauref01_Below.f (rd x6 x8) x1).bind fun t317 => (if t317 = true then (if x8 < (x312000.size : Int) then (if x7.length < 140737488355328 then (bureauref04_View.l0 k x1 x6 (x7 ++ [bt x312000 x8]) (wrap64 (x8 + 1)) x312000 x312001) else (none)) else (none)) else (if x7.length < 140737488355328 then (bureauref04_View.l0 k x1 x6 (x7 ++ [35]) (wrap64 (x8 + 1)) x312000 x312001) else (none)))) else (none)) else (some (strOfNums x7, 0))
def bureauref04_View.f (k : Nat) (a0_0 : ByteArray) (l0_1 : List (S51)) (a1 : Int) : Option (ByteArray × Int) := (bureauref04_Good.f k a0_0 l0_1).bind fun t312 => (if t312 = true then ((bureauref03_Bytes.f k l0_1).bind fun t313 => (bureauref04_View.l0 k a1 t313 ([] : List Int) 0 a0_0 l0_1)) else (some ((⟨#[]⟩ : ByteArray), 2)))
set_option maxHeartbeats 8000000 in
set_option maxRecDepth 100000 in
theorem bureauref04_View.calls (k : Nat) (a0_0 : ByteArray) (A0_1 : Option Addr) (c0_1 : Nat) (l0_1 : List (S51)) (a1 : Int) (r1 : ByteArray) (r2 : Int) (w : World) (hr0_1 : Kd.C k51 w A0_1 l0_1.length l0_1) (hc0_1 : l0_1.length ≤ c0_1) (h : bureauref04_View.f k a0_0 l0_1 a1 = some (r1, r2)) :
  Calls Try.prog 28 #[.agg #[.string a0_0, .slice A0_1 l0_1.length c0_1], .int .u64 a1] w fun e w' => e = .returned (.tuple #[.string r1, .int .i64 r2]) ∧ Below w.heap.size w w' := by
 have hu24 := Try.underlying24
 have HR0_1 := aM hr0_1
 have HC0_1 := aM hc0_1
 clear hr0_1 hc0_1
 have HB := aM (Below.refl w.heap.size w)
 have H : ((bureauref04_Good.f k a0_0 l0_1).bind fun t312 => (if t312 = true then ((bureauref03_Bytes.f k l0_1).bind fun t313 => (bureauref04_View.l0 k a1 t313 ([] : List Int) 0 a0_0 l0_1)) else (some ((⟨#[]⟩ : ByteArray), 2)))) = some (r1, r2) := h
 clear h
 replace H := Option.bind_eq_some_iff.mp H
 obtain ⟨t312, A30, H⟩ := H
 replace H : (if t312 = true then ((bureauref03_Bytes.f k l0_1).bind fun t313 => (bureauref04_View.l0 k a1 t313 ([] : List Int) 0 a0_0 l0_1)) else (some ((⟨#[]⟩ : ByteArray), 2))) = some (r1, r2) := H
 have A3 := aM A30
 clear A30
 by_cases c4 : t312 = true
 ·subst c4
  have H1 : ((bureauref03_Bytes.f k l0_1).bind fun t313 => (bureauref04_View.l0 k a1 t313 ([] : List Int) 0 a0_0 l0_1)) = some (r1, r2) := by rw [if_pos rfl] at H; exact H
  clear H
  have H := H1
  clear H1
  replace H := Option.bind_eq_some_iff.mp H
  obtain ⟨t313, A50, H⟩ := H
  replace H : (bureauref04_View.l0 k a1 t313 ([] : List Int) 0 a0_0 l0_1) = some (r1, r2) := H
  have A5 := aM A50
  clear A50
  have H' := aM H
  clear H
  go_enter Try.func28, Try.ntmps28
  go_wp2_with (first | ((with_reducible refine gate_dst (N := 2) rfl ?_); refine box_event ?hg (N := 2) ?hd (cs := #[.string a0_0, .slice A0_1 l0_1.length c0_1]) (t := 24) ?hr ?_; (case hd | hg => rfl); (case hr => first | (go_simp; done) | (go_simp; rfl)); intro gb311 hg w6 hbox hb; have n0_ := aM (bP (ey HB.out) hb); have n1_ := aM (hbox); have n2_ := aM ((by rw [hg]; exact (bZ (ey HB.out)) : w.heap.size ≤ gb311)); have n3_ := n2_; clear HB; have HB := n0_; have BK311 := n1_; have GW311 := n2_; have GE311 := n3_; clear n0_ n1_ n2_ n3_; clear hb hbox hg; have hcz7_0 := zC BK311.out 0 (.string a0_0); have hcz7_1 := zC BK311.out 1 (.slice A0_1 l0_1.length c0_1); have hfz7_0 := bF BK311.out 0; have hfz7_1 := bF BK311.out 1) | ((with_reducible refine gate_callee (f := 39) rfl ?_); refine goesL_ (some 10) rfl rfl Try.func39 (by kernel_rfl) rfl #[.agg #[.string a0_0, .slice A0_1 l0_1.length c0_1]] rfl (by (try simp only [mT, mC, mN]); first | done | rfl | (simp only [lD, lT]; rfl)) ?_; (with_reducible refine (bureauref04_Good.calls k a0_0 _ _ l0_1 true _ ?side1 ?side2 A3.out).mono ?_); (case side1 => repeat (first | exact (cB_ HR0_1.out HB.out) | (with_reducible refine Kd.C_alloc ?_ _) | (with_reducible refine Kd.C_drewN ?_ _) | (with_reducible refine Kd.C_drew ?_))); (case side2 => exact HC0_1.out); rintro e w8 ⟨rfl, hb⟩; refine ⟨_, rfl, ?_⟩; have n0_ := aM (bB (g := gb311) (qy BK311.out) hb); have n1_ := aM (bP (by repeat (first | (with_reducible first | exact HB.out | apply ea | apply en | apply ed | refine es ?_ GE311.out) | exact HB.out)) hb); clear BK311 HB; have BK311 := n0_; have HB := n1_; clear n0_ n1_; (try clear hb); (try clear hb2); (try clear hk); (try clear hi); have hcz9_0 := zC BK311.out 0 (.string a0_0); have hcz9_1 := zC BK311.out 1 (.slice A0_1 l0_1.length c0_1); have hfz9_0 := bF BK311.out 0; have hfz9_1 := bF BK311.out 1) | ((with_reducible refine gate_callee (f := 40) rfl ?_); refine goesL_ (some 14) rfl rfl Try.func40 (by kernel_rfl) rfl #[.slice A0_1 l0_1.length c0_1] rfl (by (try simp only [mT, mC, mN]); first | done | rfl | (simp only [lD, lT]; rfl)) ?_; (with_reducible refine (bureauref03_Bytes.calls k _ _ l0_1 t313 _ ?side1 ?side2 A5.out).mono ?_); (case side1 => repeat (first | exact (cB_ HR0_1.out HB.out) | (with_reducible refine Kd.C_alloc ?_ _) | (with_reducible refine Kd.C_drewN ?_ _) | (with_reducible refine Kd.C_drew ?_))); (case side2 => exact HC0_1.out); rintro e w10 ⟨v314, rfl, ho0, hb⟩; refine ⟨_, rfl, ?_⟩; have n0_ := aM (rL ho0 (bZ (by repeat (first | (with_reducible first | exact HB.out | apply ea | apply en | apply ed | refine es ?_ GE311.out) | exact HB.out)))); have n1_ := aM (bB (g := gb311) (qy BK311.out) hb); have n2_ := aM (bP (by repeat (first | (with_reducible first | exact HB.out | apply ea | apply en | apply ed | refine es ?_ GE311.out) | exact HB.out)) hb); clear BK311 HB; have HO315 := n0_; have BK311 := n1_; have HB := n2_; clear n0_ n1_ n2_; (try clear hb); (try clear hb2); (try clear hk); (try clear hi); (try clear ho0)))
  go_loopg [7, 8] k (fun kq v7 v8 w' => ∃ (x7_1 : List Int) (x8_1 : Int), v8 = .int .i64 x8_1 ∧ Aside0 (bureauref04_View.l0 kq a1 t313 x7_1 x8_1 a0_0 l0_1 = some (r1, r2)) ∧ Aside0 (kq ≤ k) ∧ Aside0 (Kd.R (Kd.int .u64) 26 w' w.heap.size (fun _ => True) v314 t313) ∧ Aside0 (Kd.R (Kd.int .u8) 5 w' w.heap.size (fun _ => True) v7 x7_1) ∧ Aside0 (w'.heap[gb311]? = some (.cells #[.string a0_0, (.slice A0_1 l0_1.length c0_1)] 24 (0, 0))) ∧ Aside0 (Below w.heap.size w w'))
  case atStart => exact ⟨(([] : List Int)), (0), (by first | rfl | (simp; done) | (simp [*]; done)), H', ⟨Nat.le_refl _⟩, ⟨by exact ry HO315.out⟩, ⟨by first | exact Kd.R_nil _ _ _ _ _ | exact Kd.N_nil _ _ _ _ _ | exact Kd.V_nil _ _ _ _ _ | exact Kd.Q_nil _ _ _ _ _ | exact Kd.S_nil _ _ _ _ _⟩, ⟨by exact qy BK311.out⟩, ⟨by repeat (first | (with_reducible first | exact HB.out | apply ea | apply en | apply ed | refine es ?_ GE311.out) | exact HB.out)⟩⟩
  case round =>
   clear H'
   try clear c2
   try clear p2
   try clear c3
   try clear c4
   try clear hcz7_0
   try clear hcz7_1
   try clear hcz9_0
   try clear hcz9_1
   try clear hfz7_0
   try clear hfz7_1
   try clear hfz9_0
   try clear hfz9_1
   obtain ⟨x7_1, x8_1, rfl, HA, HK1, HO_6, HO_7, BK311, HB⟩ := hrel
   cases gk with
   | zero => exact absurd HA.out (by simp [bureauref04_View.l0])
   | succ k1 =>
    have H := HA.out
    clear HA
    simp only [bureauref04_View.l0] at H
    by_cases c11 : x8_1 < (t313.length : Int)
    ·rw [if_pos c11] at H
     have c11b0 : decide (x8_1 < (t313.length : Int)) = true := decide_eq_true c11
     clear c11
     by_cases c12 : 0 ≤ x8_1
     ·rw [if_pos c12] at H
      have c12b0 : decide (0 ≤ x8_1) = true := decide_eq_true c12
      clear c12
      replace H := Option.bind_eq_some_iff.mp H
      obtain ⟨t317, A130, H⟩ := H
      replace H : (if t317 = true then (if x8_1 < (a0_0.size : Int) then (if x7_1.length < 140737488355328 then (bureauref04_View.l0 k1 a1 t313 (x7_1 ++ [bt a0_0 x8_1]) (wrap64 (x8_1 + 1)) a0_0 l0_1) else (none)) else (none)) else (if x7_1.length < 140737488355328 then (bureauref04_View.l0 k1 a1 t313 (x7_1 ++ [35]) (wrap64 (x8_1 + 1)) a0_0 l0_1) else (none))) = some (r1, r2) := H
      have A13 := aM A130
      clear A130
      by_cases c14 : t317 = true
      ·subst c14
       have H1 : (if x8_1 < (a0_0.size : Int) then (if x7_1.length < 140737488355328 then (bureauref04_View.l0 k1 a1 t313 (x7_1 ++ [bt a0_0 x8_1]) (wrap64 (x8_1 + 1)) a0_0 l0_1) else (none)) else (none)) = some (r1, r2) := by rw [if_pos rfl] at H; exact H
       clear H
       have H := H1
       clear H1
       by_cases c15 : x8_1 < (a0_0.size : Int)
       ·rw [if_pos c15] at H
        have c15b0 : decide (x8_1 < (a0_0.size : Int)) = true := decide_eq_true c15
        clear c15
        by_cases c17 : x7_1.length < 140737488355328
        ·rw [if_pos c17] at H
         have LMc17 := aM c17
         clear c17
         obtain ⟨y318, hy318⟩ : ∃ y_ : List Int, y_ = (x7_1 ++ [bt a0_0 x8_1]) := ⟨_, rfl⟩
         replace H : (bureauref04_View.l0 k1 a1 t313 y318 (wrap64 (x8_1 + 1)) a0_0 l0_1) = some (r1, r2) := by first | (rw [hy318]; with_reducible exact H) | (have H2_ := (Option.bind_some _ _).symm.trans H; rw [hy318]; with_reducible exact H2_) | (have H2_ := (Option.bind_some _ _).symm.trans H; with_reducible exact H2_) | with_reducible exact H | (rw [hy318]; exact H) | exact H
         have Ny318 := aM hy318
         clear hy318
         have H' := aM H
         clear H
         obtain ⟨Ao18, co18, eo18⟩ := Kd.R_slice HO_6.out
         subst eo18
         have p316 : 0 ≤ (x8_1 : Int) := of_decide_eq_true (by first | (with_reducible assumption) | assumption)
         have q316 : x8_1 < (t313.length : Int) := of_decide_eq_true (by first | (with_reducible assumption) | assumption)
         obtain ⟨ad316, e316, hx316_0⟩ := Kd.at_int (rR HO_6.out).2.2 x8_1 p316 q316
         cases e316
         replace p316 := eq_true p316
         replace q316 := eq_true q316
         go_wp2_with (first | ((with_reducible refine gate_callee (f := 41) rfl ?_); refine goesL_ (some 26) rfl rfl Try.func41 (by kernel_rfl) rfl #[.int .u64 (rd t313 x8_1), .int .u64 a1] rfl (by (try simp only [mT, mC, mN]); first | done | rfl | (simp only [lD, lT]; rfl)) ?_; (with_reducible refine (bureauref01_Below.calls (rd t313 x8_1) a1 true _ A13.out).mono ?_); rintro e w19 ⟨rfl, hb⟩; refine ⟨_, rfl, ?_⟩; have n0_ := aM (Kd.R_below (ry HO_6.out) hb); have n1_ := aM (Kd.R_below (ry HO_7.out) hb); have n2_ := aM (bB (g := gb311) (qy BK311.out) hb); have n3_ := aM (bP (by repeat (first | (with_reducible first | exact HB.out | apply ea | apply en | apply ed | refine es ?_ GE311.out) | exact HB.out)) hb); clear HO_6 HO_7 BK311 HB; have HO_6 := n0_; have HO_7 := n1_; have BK311 := n2_; have HB := n3_; clear n0_ n1_ n2_ n3_; (try clear hb); (try clear hb2); (try clear hk); (try clear hi); have hcz20_0 := zC BK311.out 0 (.string a0_0); have hcz20_1 := zC BK311.out 1 (.slice A0_1 l0_1.length c0_1); have hfz20_0 := bF BK311.out 0; have hfz20_1 := bF BK311.out 1; have p16 : 0 ≤ (x8_1 : Int) := of_decide_eq_true (by first | (with_reducible assumption) | assumption); have q16 : x8_1 < (a0_0.size : Int) := of_decide_eq_true (by first | (with_reducible assumption) | assumption); have hx16 := bt_at a0_0 x8_1; replace p16 := eq_true p16; replace q16 := eq_true q16) | ((with_reducible refine gate_builtin (b := .append) (xs := #[.tmp 27, .tmp 32]) rfl ?_); at_builtin; refine Kd.R_append (Kd.int .u8) (w0 := w) w.heap.size rfl (.tmp 27) (.tmp 32) 82 5 (.int .u8 0) 1 rfl Try.underlying82 info5 rfl (by decide) (by omega) u7 x7_1 (bt a0_0 x8_1) [.int .u8 (bt a0_0 x8_1)] (fun _ => True) (fun _ => False) rfl rfl ?aP (fun _ hk => hk.elim) ?aF ?aO ?aB ?aS ?aL ?_; (case aP => exact rfl); (case aB => exact (by repeat (first | (with_reducible first | exact HB.out | apply ea | apply en | apply ed | refine es ?_ GE311.out) | exact HB.out))); (case aF => exact (fun _ _ => trivial)); (case aO => exact (ry HO_7.out)); (case aS => exact (bZ (by repeat (first | (with_reducible first | exact HB.out | apply ea | apply en | apply ed | refine es ?_ GE311.out) | exact HB.out)))); (case aL => have := LMc17.out; omega); intro v319 w21 ho hb hg hat; rw [← Ny318.out] at ho; have n0_ := aM (Kd.R_over' (ry HO_6.out) (Kd.R_typed (ry HO_7.out)) (by decide) hg); have n1_ := aM (blk_grown (g := gb311) (qy BK311.out) hg (Kd.R_ne HO_7.out BK311.out (by decide))); have n2_ := aM (hb); have n3_ := aM (ho); clear HO_6 BK311 HB HO_7; have HO_6 := n0_; have BK311 := n1_; have HB := n2_; have HO320 := n3_; clear n0_ n1_ n2_ n3_; clear ho hb hg hat))
         go_roundg k1
         case measure => have := HK1.out; omega
         case rel => exact ⟨(y318), (wrap64 (x8_1 + 1)), (by first | rfl | (simp; done) | (simp [*]; done)), H', ⟨by have := HK1.out; omega⟩, ⟨by exact ry HO_6.out⟩, ⟨by exact ry HO320.out⟩, ⟨by exact qy BK311.out⟩, ⟨by repeat (first | (with_reducible first | exact HB.out | apply ea | apply en | apply ed | refine es ?_ GE311.out) | exact HB.out)⟩⟩
        ·rw [if_neg c17] at H
         exact absurd H (by simp)
       ·rw [if_neg c15] at H
        exact absurd H (by simp)
      ·replace c14 := Bool.eq_false_iff.mpr c14
       subst c14
       have H1 : (if x7_1.length < 140737488355328 then (bureauref04_View.l0 k1 a1 t313 (x7_1 ++ [35]) (wrap64 (x8_1 + 1)) a0_0 l0_1) else (none)) = some (r1, r2) := by rw [if_neg (show ¬ (false = true) by decide)] at H; exact H
       clear H
       have H := H1
       clear H1
       by_cases c22 : x7_1.length < 140737488355328
       ·rw [if_pos c22] at H
        have LMc22 := aM c22
        clear c22
        obtain ⟨y321, hy321⟩ : ∃ y_ : List Int, y_ = (x7_1 ++ [35]) := ⟨_, rfl⟩
        replace H : (bureauref04_View.l0 k1 a1 t313 y321 (wrap64 (x8_1 + 1)) a0_0 l0_1) = some (r1, r2) := by first | (rw [hy321]; with_reducible exact H) | (have H2_ := (Option.bind_some _ _).symm.trans H; rw [hy321]; with_reducible exact H2_) | (have H2_ := (Option.bind_some _ _).symm.trans H; with_reducible exact H2_) | with_reducible exact H | (rw [hy321]; exact H) | exact H
        have Ny321 := aM hy321
        clear hy321
        have H' := aM H
        clear H
        obtain ⟨Ao23, co23, eo23⟩ := Kd.R_slice HO_6.out
        subst eo23
        have p316 : 0 ≤ (x8_1 : Int) := of_decide_eq_true (by first | (with_reducible assumption) | assumption)
        have q316 : x8_1 < (t313.length : Int) := of_decide_eq_true (by first | (with_reducible assumption) | assumption)
        obtain ⟨ad316, e316, hx316_0⟩ := Kd.at_int (rR HO_6.out).2.2 x8_1 p316 q316
        cases e316
        replace p316 := eq_true p316
        replace q316 := eq_true q316
        go_wp2_with (first | ((with_reducible refine gate_callee (f := 41) rfl ?_); refine goesL_ (some 26) rfl rfl Try.func41 (by kernel_rfl) rfl #[.int .u64 (rd t313 x8_1), .int .u64 a1] rfl (by (try simp only [mT, mC, mN]); first | done | rfl | (simp only [lD, lT]; rfl)) ?_; (with_reducible refine (bureauref01_Below.calls (rd t313 x8_1) a1 false _ A13.out).mono ?_); rintro e w24 ⟨rfl, hb⟩; refine ⟨_, rfl, ?_⟩; have n0_ := aM (Kd.R_below (ry HO_6.out) hb); have n1_ := aM (Kd.R_below (ry HO_7.out) hb); have n2_ := aM (bB (g := gb311) (qy BK311.out) hb); have n3_ := aM (bP (by repeat (first | (with_reducible first | exact HB.out | apply ea | apply en | apply ed | refine es ?_ GE311.out) | exact HB.out)) hb); clear HO_6 HO_7 BK311 HB; have HO_6 := n0_; have HO_7 := n1_; have BK311 := n2_; have HB := n3_; clear n0_ n1_ n2_ n3_; (try clear hb); (try clear hb2); (try clear hk); (try clear hi)) | ((with_reducible refine gate_builtin (b := .append) (xs := #[.tmp 34, .tmp 35]) rfl ?_); at_builtin; refine Kd.R_append (Kd.int .u8) (w0 := w) w.heap.size rfl (.tmp 34) (.tmp 35) 82 5 (.int .u8 0) 1 rfl Try.underlying82 info5 rfl (by decide) (by omega) u7 x7_1 35 [.int .u8 35] (fun _ => True) (fun _ => False) rfl rfl ?aP (fun _ hk => hk.elim) ?aF ?aO ?aB ?aS ?aL ?_; (case aP => exact rfl); (case aB => exact (by repeat (first | (with_reducible first | exact HB.out | apply ea | apply en | apply ed | refine es ?_ GE311.out) | exact HB.out))); (case aF => exact (fun _ _ => trivial)); (case aO => exact (ry HO_7.out)); (case aS => exact (bZ (by repeat (first | (with_reducible first | exact HB.out | apply ea | apply en | apply ed | refine es ?_ GE311.out) | exact HB.out)))); (case aL => have := LMc22.out; omega); intro v322 w25 ho hb hg hat; rw [← Ny321.out] at ho; have n0_ := aM (Kd.R_over' (ry HO_6.out) (Kd.R_typed (ry HO_7.out)) (by decide) hg); have n1_ := aM (blk_grown (g := gb311) (qy BK311.out) hg (Kd.R_ne HO_7.out BK311.out (by decide))); have n2_ := aM (hb); have n3_ := aM (ho); clear HO_6 BK311 HB HO_7; have HO_6 := n0_; have BK311 := n1_; have HB := n2_; have HO323 := n3_; clear n0_ n1_ n2_ n3_; clear ho hb hg hat))
        go_roundg k1
        case measure => have := HK1.out; omega
        case rel => exact ⟨(y321), (wrap64 (x8_1 + 1)), (by first | rfl | (simp; done) | (simp [*]; done)), H', ⟨by have := HK1.out; omega⟩, ⟨by exact ry HO_6.out⟩, ⟨by exact ry HO323.out⟩, ⟨by exact qy BK311.out⟩, ⟨by repeat (first | (with_reducible first | exact HB.out | apply ea | apply en | apply ed | refine es ?_ GE311.out) | exact HB.out)⟩⟩
       ·rw [if_neg c22] at H
        exact absurd H (by simp)
     ·rw [if_neg c12] at H
      exact absurd H (by simp)
    ·rw [if_neg c11] at H
     have c11b0 : decide (x8_1 < (t313.length : Int)) = false := decide_eq_false c11
     clear c11
     simp only [Option.some.injEq, Prod.mk.injEq] at H
     obtain ⟨rfl, rfl⟩ := H
     obtain ⟨Ao26, co26, eo26⟩ := Kd.R_slice HO_6.out
     subst eo26
     have hcv27 := own_string (P := Try.prog) Try.underlying82 Try.underlying5 Try.underlying9 (Kd.own_of_R HO_7.out)
     go_wp2
     go_ret2
     exact ⟨by first | rfl | (simp [errW_none, errW_some] <;> rfl) | (simp [*, errW_none, errW_some] <;> rfl), by repeat (first | (with_reducible first | exact HB.out | apply ea | apply en | apply ed | refine es ?_ GE311.out) | exact HB.out)⟩
 ·replace c4 := Bool.eq_false_iff.mpr c4
  subst c4
  have H1 : (some ((⟨#[]⟩ : ByteArray), 2)) = some (r1, r2) := by rw [if_neg (show ¬ (false = true) by decide)] at H; exact H
  clear H
  have H := H1
  clear H1
  simp only [Option.some.injEq, Prod.mk.injEq] at H
  obtain ⟨rfl, rfl⟩ := H
  go_enter Try.func28, Try.ntmps28
  go_wp2_with (first | ((with_reducible refine gate_dst (N := 2) rfl ?_); refine box_event ?hg (N := 2) ?hd (cs := #[.string a0_0, .slice A0_1 l0_1.length c0_1]) (t := 24) ?hr ?_; (case hd | hg => rfl); (case hr => first | (go_simp; done) | (go_simp; rfl)); intro gb311 hg w28 hbox hb; have n0_ := aM (bP (ey HB.out) hb); have n1_ := aM (hbox); have n2_ := aM ((by rw [hg]; exact (bZ (ey HB.out)) : w.heap.size ≤ gb311)); have n3_ := n2_; clear HB; have HB := n0_; have BK311 := n1_; have GW311 := n2_; have GE311 := n3_; clear n0_ n1_ n2_ n3_; clear hb hbox hg; have hcz29_0 := zC BK311.out 0 (.string a0_0); have hcz29_1 := zC BK311.out 1 (.slice A0_1 l0_1.length c0_1); have hfz29_0 := bF BK311.out 0; have hfz29_1 := bF BK311.out 1) | ((with_reducible refine gate_callee (f := 39) rfl ?_); refine goesL_ (some 10) rfl rfl Try.func39 (by kernel_rfl) rfl #[.agg #[.string a0_0, .slice A0_1 l0_1.length c0_1]] rfl (by (try simp only [mT, mC, mN]); first | done | rfl | (simp only [lD, lT]; rfl)) ?_; (with_reducible refine (bureauref04_Good.calls k a0_0 _ _ l0_1 false _ ?side1 ?side2 A3.out).mono ?_); (case side1 => repeat (first | exact (cB_ HR0_1.out HB.out) | (with_reducible refine Kd.C_alloc ?_ _) | (with_reducible refine Kd.C_drewN ?_ _) | (with_reducible refine Kd.C_drew ?_))); (case side2 => exact HC0_1.out); rintro e w30 ⟨rfl, hb⟩; refine ⟨_, rfl, ?_⟩; have n0_ := aM (bB (g := gb311) (qy BK311.out) hb); have n1_ := aM (bP (by repeat (first | (with_reducible first | exact HB.out | apply ea | apply en | apply ed | refine es ?_ GE311.out) | exact HB.out)) hb); clear BK311 HB; have BK311 := n0_; have HB := n1_; clear n0_ n1_; (try clear hb); (try clear hb2); (try clear hk); (try clear hi)))
  go_ret2
  exact ⟨by first | rfl | (simp [errW_none, errW_some] <;> rfl) | (simp [*, errW_none, errW_some] <;> rfl), by repeat (first | (with_reducible first | exact HB.out | apply ea | apply en | apply ed | refine es ?_ GE311.out) | exact HB.out)⟩
end Go.Proofs.Ytnbdldpjiofafaa.PB
end

section
namespace Go.Proofs.Ytnbdldpjiofafaa.PB
open Go.RowKit Go.Proofs.YtnbdldpjiofafaaW.PrintWords Go.Proofs.YtnbdldpjiofafaaW.PrintLast Go.Proofs.YtnbdldpjiofafaaW.PrintMore
attribute [local go_sem] max2_int min2_int max_two min_two max_three min_three max_four min_four   
set_option linter.unusedVariables false
set_option linter.unusedSimpArgs false
def bureauref15_stands.l0 : Nat → List Int → Int → ByteArray → Int → Int → ByteArray → List (S51) → Option (Bool)
 | 0, _, _, _, _, _, _, _ => none
 | k + 1, x1, x2, x3, x4, x13, x343000, x343001 => if x13 < (x3.size : Int) then (if 0 ≤ (wrap64 (x4 + x13)) then (if (wrap64 (x4 + x13)) < (x343000.size : Int) then (if 0 ≤ x13 then (if (bt x343000 (wrap64 (x4 + x13))) = (bt x3 x13) then (if (wrap64 (x4 + x13)) < (x1.length : Int) then ((bureauref01_Below.f (rd x1 (wrap64 (x4 + x13))) x2).bind fun t344 => (if t344 = true then (bureauref15_stands.l0 k x1 x2 x3 x4 (wrap64 (x13 + 1)) x343000 x343001) else (some false))) else (none)) else (some false)) else (none)) else (none)) else (none)) else (some true)
def bureauref15_stands.f (k : Nat) (a0_0 : ByteArray) (l0_1 : List (S51)) (l1 : List Int) (a2 : Int) (a3 : ByteArray) (a4 : Int) (a5 : Int) : Option (Bool) := if (a3.size : Int) > (wrap64 (a5 - a4)) then (some false) else (bureauref15_stands.l0 k l1 a2 a3 a4 0 a0_0 l0_1)
def bureauref15_stands.T6 : Bool × List (List Nat × List Nat) := (true, [([], []), ([0], [0]), ([], []), ([], []), ([2, 3], [2, 3]), ([1, 4], [1, 4]), ([], []), ([], []), ([6, 7], [6, 7]), ([5, 8], [5, 8]), ([9], [9]), ([10], [10]), ([10], [10]), ([10], [10]), ([12, 13, 10], [10, 12, 13]), ([11, 14, 10], [10, 11, 14]), ([15, 10], [10, 15]), ([10], [10]), ([16, 17, 10, 10], [10, 16, 17]), ([18, 10], [10, 18]), ([10, 19], [10, 19])])
def bureauref15_stands.B6 : List Nat := [0, 1, 0, 0, 12, 31, 0, 0, 192, 511, 1023, 2047, 2047, 2047, 14335, 32767, 65535, 2047, 262143, 524287, 1048575]
theorem bureauref15_stands.tab6 : rtab .any (opsOf Try.f55 6) = bureauref15_stands.T6 := by kernel_rfl
theorem bureauref15_stands.bits6 : waitsOk bureauref15_stands.T6.2 bureauref15_stands.B6 = true := by kernel_rfl
set_option maxHeartbeats 8000000 in
set_option maxRecDepth 100000 in
theorem bureauref15_stands.calls (k : Nat) (a0_0 : ByteArray) (A0_1 : Option Addr) (c0_1 : Nat) (l0_1 : List (S51)) (A1 : Option Addr) (c1 : Nat) (l1 : List Int) (a2 : Int) (a3 : ByteArray) (a4 : Int) (a5 : Int) (r : Bool) (w : World) (hr0_1 : Kd.C k51 w A0_1 l0_1.length l0_1) (hc0_1 : l0_1.length ≤ c0_1) (hr1 : Kd.C (Kd.int .u64) w A1 l1.length l1) (hc1 : l1.length ≤ c1) (h : bureauref15_stands.f k a0_0 l0_1 l1 a2 a3 a4 a5 = some r) :
  Calls Try.prog 55 #[.agg #[.string a0_0, .slice A0_1 l0_1.length c0_1], .slice A1 l1.length c1, .int .u64 a2, .string a3, .int .i64 a4, .int .i64 a5] w fun e w' => e = .returned (.bool r) ∧ Below w.heap.size w w' := by
 have hu24 := Try.underlying24
 have HR0_1 := aM hr0_1
 have HC0_1 := aM hc0_1
 clear hr0_1 hc0_1
 have HR1 := aM hr1
 have HC1 := aM hc1
 clear hr1 hc1
 have HB := aM (Below.refl w.heap.size w)
 have H : (if (a3.size : Int) > (wrap64 (a5 - a4)) then (some false) else (bureauref15_stands.l0 k l1 a2 a3 a4 0 a0_0 l0_1)) = some r := h
 clear h
 by_cases c7 : (a3.size : Int) > (wrap64 (a5 - a4))
 ·rw [if_pos c7] at H
  have c7b0 : decide ((wrap64 (a5 - a4)) < (a3.size : Int)) = true := decide_eq_true c7
  clear c7
  obtain rfl := Option.some.inj H
  go_enter Try.func55, Try.ntmps55
  go_wp2_with (first | ((with_reducible refine gate_dst (N := 6) rfl ?_); refine box_event ?hg (N := 6) ?hd (cs := #[.string a0_0, .slice A0_1 l0_1.length c0_1]) (t := 24) ?hr ?_; (case hd | hg => rfl); (case hr => first | (go_simp; done) | (go_simp; rfl)); intro gb342 hg w8 hbox hb; have n0_ := aM (bP (ey HB.out) hb); have n1_ := aM (hbox); have n2_ := aM ((by rw [hg]; exact (bZ (ey HB.out)) : w.heap.size ≤ gb342)); have n3_ := n2_; clear HB; have HB := n0_; have BK342 := n1_; have GW342 := n2_; have GE342 := n3_; clear n0_ n1_ n2_ n3_; clear hb hbox hg))
  go_ret
  exact ⟨by first | rfl | (simp [errW_none, errW_some] <;> rfl) | (simp [*, errW_none, errW_some] <;> rfl), by repeat (first | (with_reducible first | exact HB.out | apply ea | apply en | apply ed | refine es ?_ GE342.out) | exact HB.out)⟩
 ·rw [if_neg c7] at H
  have c7b0 : decide ((wrap64 (a5 - a4)) < (a3.size : Int)) = false := decide_eq_false c7
  clear c7
  have H' := aM H
  clear H
  go_enter Try.func55, Try.ntmps55
  go_wp2_with (first | ((with_reducible refine gate_dst (N := 6) rfl ?_); refine box_event ?hg (N := 6) ?hd (cs := #[.string a0_0, .slice A0_1 l0_1.length c0_1]) (t := 24) ?hr ?_; (case hd | hg => rfl); (case hr => first | (go_simp; done) | (go_simp; rfl)); intro gb342 hg w9 hbox hb; have n0_ := aM (bP (ey HB.out) hb); have n1_ := aM (hbox); have n2_ := aM ((by rw [hg]; exact (bZ (ey HB.out)) : w.heap.size ≤ gb342)); have n3_ := n2_; clear HB; have HB := n0_; have BK342 := n1_; have GW342 := n2_; have GE342 := n3_; clear n0_ n1_ n2_ n3_; clear hb hbox hg))
  go_loopg [13] k (fun kq v13 w' => ∃ (x13_1 : Int), v13 = .int .i64 x13_1 ∧ Aside0 (bureauref15_stands.l0 kq l1 a2 a3 a4 x13_1 a0_0 l0_1 = some r) ∧ Aside0 (kq ≤ k) ∧ Aside0 (w'.heap[gb342]? = some (.cells #[.string a0_0, (.slice A0_1 l0_1.length c0_1)] 24 (0, 0))) ∧ Aside0 (Below w.heap.size w w'))
  case atStart => exact ⟨(0), (by first | rfl | (simp; done) | (simp [*]; done)), H', ⟨Nat.le_refl _⟩, ⟨by exact qy BK342.out⟩, ⟨by repeat (first | (with_reducible first | exact HB.out | apply ea | apply en | apply ed | refine es ?_ GE342.out) | exact HB.out)⟩⟩
  case round =>
   clear H'
   try clear c1
   try clear p2
   try clear c5
   try clear p6
   try clear c7
   try clear c7b0
   obtain ⟨x13_1, rfl, HA, HK1, BK342, HB⟩ := hrel
   cases gk with
   | zero => exact absurd HA.out (by simp [bureauref15_stands.l0])
   | succ k1 =>
    have H := HA.out
    clear HA
    simp only [bureauref15_stands.l0] at H
    by_cases c10 : x13_1 < (a3.size : Int)
    ·rw [if_pos c10] at H
     have c10b0 : decide (x13_1 < (a3.size : Int)) = true := decide_eq_true c10
     clear c10
     obtain ⟨ji11, hji11⟩ : ∃ j_ : Int, (wrap64 (a4 + x13_1)) = j_ := ⟨_, rfl⟩
     replace H : (if 0 ≤ (ji11) then (if (ji11) < (a0_0.size : Int) then (if 0 ≤ x13_1 then (if (bt a0_0 (ji11)) = (bt a3 x13_1) then (if (ji11) < (l1.length : Int) then ((bureauref01_Below.f (rd l1 (ji11)) a2).bind fun t344 => (if t344 = true then (bureauref15_stands.l0 k1 l1 a2 a3 a4 (wrap64 (x13_1 + 1)) a0_0 l0_1) else (some false))) else (none)) else (some false)) else (none)) else (none)) else (none)) = some r := by first | (rw [hji11] at H; exact H) | (simp only [hji11] at H ⊢; exact H)
     have hji11w : (IntKind.i64.wrap (a4 + x13_1)) = ji11 := (i64_w _).trans hji11
     by_cases c12 : 0 ≤ (ji11)
     ·rw [if_pos c12] at H
      have c12b0 : decide (0 ≤ (ji11)) = true := decide_eq_true c12
      clear c12
      by_cases c13 : (ji11) < (a0_0.size : Int)
      ·rw [if_pos c13] at H
       have c13b0 : decide ((ji11) < (a0_0.size : Int)) = true := decide_eq_true c13
       clear c13
       by_cases c15 : 0 ≤ x13_1
       ·rw [if_pos c15] at H
        have c15b0 : decide (0 ≤ x13_1) = true := decide_eq_true c15
        clear c15
        by_cases c17 : (bt a0_0 (ji11)) = (bt a3 x13_1)
        ·rw [if_pos c17] at H
         have c17b0 : ((bt a0_0 (ji11)) == (bt a3 x13_1)) = true := beq_iff_eq.mpr c17
         have c17b1 : ((bt a0_0 (ji11)) != (bt a3 x13_1)) = false := bne_eq_false_iff_eq.mpr c17
         clear c17
         by_cases c18 : (ji11) < (l1.length : Int)
         ·rw [if_pos c18] at H
          have c18b0 : decide ((ji11) < (l1.length : Int)) = true := decide_eq_true c18
          clear c18
          replace H := Option.bind_eq_some_iff.mp H
          obtain ⟨t344, A190, H⟩ := H
          replace H : (if t344 = true then (bureauref15_stands.l0 k1 l1 a2 a3 a4 (wrap64 (x13_1 + 1)) a0_0 l0_1) else (some false)) = some r := H
          have A19 := aM A190
          clear A190
          by_cases c20 : t344 = true
          ·subst c20
           have H1 : (bureauref15_stands.l0 k1 l1 a2 a3 a4 (wrap64 (x13_1 + 1)) a0_0 l0_1) = some r := by rw [if_pos rfl] at H; exact H
           clear H
           have H := H1
           clear H1
           have H' := aM H
           clear H
           try go_wp2
           have n0_ := aM (blk_drew BK342.out)
           have n1_ := aM (below_drew1 HB.out)
           clear BK342
           clear HB
           have BK342 := n0_
           have HB := n1_
           clear n0_ n1_
           have p14 : 0 ≤ ((ji11) : Int) := of_decide_eq_true (by first | (with_reducible assumption) | assumption)
           have q14 : (ji11) < (a0_0.size : Int) := of_decide_eq_true (by first | (with_reducible assumption) | assumption)
           have hx14 := bt_at a0_0 (ji11)
           replace p14 := eq_true p14
           replace q14 := eq_true q14
           have p16 : 0 ≤ (x13_1 : Int) := of_decide_eq_true (by first | (with_reducible assumption) | assumption)
           have q16 : x13_1 < (a3.size : Int) := of_decide_eq_true (by first | (with_reducible assumption) | assumption)
           have hx16 := bt_at a3 x13_1
           replace p16 := eq_true p16
           replace q16 := eq_true q16
           have p343 : 0 ≤ ((ji11) : Int) := of_decide_eq_true (by first | (with_reducible assumption) | assumption)
           have q343 : (ji11) < (l1.length : Int) := of_decide_eq_true (by first | (with_reducible assumption) | assumption)
           obtain ⟨ad343, e343, hx343_0⟩ := Kd.at_int HR1.out (ji11) p343 q343
           have hw343_0 := hx343_0
           cases e343
           replace hx343_0 := (HB.out.cell (World.block_lt_of_cell? w _ hx343_0)).trans hx343_0
           replace p343 := eq_true p343
           replace q343 := eq_true q343
           refine start_ (n := 21) (S := fun w' => w'.cell? ⟨gb342, 0, none⟩ = some (.string a0_0) ∧ w'.cell? ⟨gb342, 1, none⟩ = some (.slice A0_1 l0_1.length c0_1) ∧ w'.cell? (ad343.add ((ji11)).toNat) = some (.int .u64 (rd l1 (ji11)))) (ds := []) b137_ (by kernel_rfl) rfl rfl ⟨(bC BK342.out 0).trans rfl, (bC BK342.out 1).trans rfl, ((HB.out.cell (World.block_lt_of_cell? w _ hw343_0)).trans hw343_0)⟩ (fun hHeld => ?_); refine with_tabW bureauref15_stands.tab6 bureauref15_stands.bits6 (fun HT_ HW_ => ?_)
           generalize wr.drew = w21 at BK342 HB hx343_0 hHeld ⊢
           refine pv 0 26 b138_ HT_ ?_
           refine pv 2 28 b139_ HT_ ?_
           refine pv 3 29 b140_ HT_ ?_
           refine pv 4 30 b141_ HT_ ?_
           refine pv 6 32 b142_ HT_ ?_
           refine pv 7 33 b143_ HT_ ?_
           refine pt 1 27 b144_ HT_ HW_ hHeld ?_
           refine pt 5 31 b145_ HT_ HW_ hHeld ?_
           refine pt 8 34 b146_ HT_ HW_ hHeld ?_
           refine pv 9 35 b147_ HT_ ?_
           refine pv 10 36 b148_ HT_ ?_
           refine pv 11 37 b149_ HT_ ?_
           refine pv 12 38 b150_ HT_ ?_
           refine pv 13 39 b151_ HT_ ?_
           refine pv 14 40 b152_ HT_ ?_
           refine pv 15 41 b153_ HT_ ?_
           refine pv 17 43 b154_ HT_ ?_
           refine pt 16 42 b155_ HT_ HW_ hHeld ?_
           refine one_ (i := 18) (N := some 44) b156_ rfl rfl (one_of HT_.out (by kernel_rfl)) (by decide) (fun K hK => ?_)
           refine goes_ Try.func41 (by kernel_rfl) rfl #[.int .u64 (rd l1 (ji11)), .int .u64 a2] (by rfl) rfl rfl (by (try simp only [mT, mC, mN]); first | done | (simp only [hji11]; rfl) | rfl | (simp only [lD, lT]; rfl)) ?_
           with_reducible refine (bureauref01_Below.calls (rd l1 (ji11)) a2 true _ A19.out).mono ?_
           rintro e w22 ⟨rfl, hb⟩
           refine ⟨_, rfl, ?_⟩
           have n0_ := aM (bB (g := gb342) (qy BK342.out) hb)
           have n1_ := aM (bP (by repeat (first | (with_reducible first | exact HB.out | apply ea | apply en | apply ed | refine es ?_ GE342.out) | exact HB.out)) hb)
           clear BK342
           clear HB
           have BK342 := n0_
           have HB := n1_
           clear n0_ n1_
           (try clear hb)
           (try clear hb2)
           (try clear hk)
           (try clear hi)
           refine hK.out _ _ ⟨(bC BK342.out 0).trans rfl, (bC BK342.out 1).trans rfl, ((HB.out.cell (World.block_lt_of_cell? w _ hw343_0)).trans hw343_0)⟩ (fun hHeld => ?_)
           clear hK K
           refine norm_ (a' := ?_) ?_ ?_
           rotate_left
           ·show Act.put _ (some 44) _ = _
            simp only [Act.put, sA, sZ, sS, i64_w, i32_w]
            rfl
           refine pv 19 45 b157_ HT_ ?_
           refine pv 20 46 b158_ HT_ ?_
           refine done_ (done_of HT_.out (by kernel_rfl)) ?_
           try go_wp2
           go_roundg k1
           case measure => have := HK1.out; omega
           case rel => exact ⟨(wrap64 (x13_1 + 1)), (by first | rfl | (simp; done) | (simp [*]; done)), H', ⟨by have := HK1.out; omega⟩, ⟨by exact qy BK342.out⟩, ⟨by repeat (first | (with_reducible first | exact HB.out | apply ea | apply en | apply ed | refine es ?_ GE342.out) | exact HB.out)⟩⟩
          ·replace c20 := Bool.eq_false_iff.mpr c20
           subst c20
           have H1 : (some false) = some r := by rw [if_neg (show ¬ (false = true) by decide)] at H; exact H
           clear H
           have H := H1
           clear H1
           obtain rfl := Option.some.inj H
           try go_wp2
           have n0_ := aM (blk_drew BK342.out)
           have n1_ := aM (below_drew1 HB.out)
           clear BK342
           clear HB
           have BK342 := n0_
           have HB := n1_
           clear n0_ n1_
           have p14 : 0 ≤ ((ji11) : Int) := of_decide_eq_true (by first | (with_reducible assumption) | assumption)
           have q14 : (ji11) < (a0_0.size : Int) := of_decide_eq_true (by first | (with_reducible assumption) | assumption)
           have hx14 := bt_at a0_0 (ji11)
           replace p14 := eq_true p14
           replace q14 := eq_true q14
           have p16 : 0 ≤ (x13_1 : Int) := of_decide_eq_true (by first | (with_reducible assumption) | assumption)
           have q16 : x13_1 < (a3.size : Int) := of_decide_eq_true (by first | (with_reducible assumption) | assumption)
           have hx16 := bt_at a3 x13_1
           replace p16 := eq_true p16
           replace q16 := eq_true q16
           have p343 : 0 ≤ ((ji11) : Int) := of_decide_eq_true (by first | (with_reducible assumption) | assumption)
           have q343 : (ji11) < (l1.length : Int) := of_decide_eq_true (by first | (with_reducible assumption) | assumption)
           obtain ⟨ad343, e343, hx343_0⟩ := Kd.at_int HR1.out (ji11) p343 q343
           have hw343_0 := hx343_0
           cases e343
           replace hx343_0 := (HB.out.cell (World.block_lt_of_cell? w _ hx343_0)).trans hx343_0
           replace p343 := eq_true p343
           replace q343 := eq_true q343
           refine start_ (n := 21) (S := fun w' => w'.cell? ⟨gb342, 0, none⟩ = some (.string a0_0) ∧ w'.cell? ⟨gb342, 1, none⟩ = some (.slice A0_1 l0_1.length c0_1) ∧ w'.cell? (ad343.add ((ji11)).toNat) = some (.int .u64 (rd l1 (ji11)))) (ds := []) b137_ (by kernel_rfl) rfl rfl ⟨(bC BK342.out 0).trans rfl, (bC BK342.out 1).trans rfl, ((HB.out.cell (World.block_lt_of_cell? w _ hw343_0)).trans hw343_0)⟩ (fun hHeld => ?_); refine with_tabW bureauref15_stands.tab6 bureauref15_stands.bits6 (fun HT_ HW_ => ?_)
           generalize wr.drew = w23 at BK342 HB hx343_0 hHeld ⊢
           refine pv 0 26 b138_ HT_ ?_
           refine pv 2 28 b139_ HT_ ?_
           refine pv 3 29 b140_ HT_ ?_
           refine pv 4 30 b141_ HT_ ?_
           refine pv 6 32 b142_ HT_ ?_
           refine pv 7 33 b143_ HT_ ?_
           refine pt 1 27 b144_ HT_ HW_ hHeld ?_
           refine pt 5 31 b145_ HT_ HW_ hHeld ?_
           refine pt 8 34 b146_ HT_ HW_ hHeld ?_
           refine pv 9 35 b147_ HT_ ?_
           refine pv 10 36 b148_ HT_ ?_
           refine pv 11 37 b149_ HT_ ?_
           refine pv 12 38 b150_ HT_ ?_
           refine pv 13 39 b151_ HT_ ?_
           refine pv 14 40 b152_ HT_ ?_
           refine pv 15 41 b153_ HT_ ?_
           refine pv 17 43 b154_ HT_ ?_
           refine pt 16 42 b155_ HT_ HW_ hHeld ?_
           refine one_ (i := 18) (N := some 44) b156_ rfl rfl (one_of HT_.out (by kernel_rfl)) (by decide) (fun K hK => ?_)
           refine goes_ Try.func41 (by kernel_rfl) rfl #[.int .u64 (rd l1 (ji11)), .int .u64 a2] (by rfl) rfl rfl (by (try simp only [mT, mC, mN]); first | done | (simp only [hji11]; rfl) | rfl | (simp only [lD, lT]; rfl)) ?_
           with_reducible refine (bureauref01_Below.calls (rd l1 (ji11)) a2 false _ A19.out).mono ?_
           rintro e w24 ⟨rfl, hb⟩
           refine ⟨_, rfl, ?_⟩
           have n0_ := aM (bB (g := gb342) (qy BK342.out) hb)
           have n1_ := aM (bP (by repeat (first | (with_reducible first | exact HB.out | apply ea | apply en | apply ed | refine es ?_ GE342.out) | exact HB.out)) hb)
           clear BK342
           clear HB
           have BK342 := n0_
           have HB := n1_
           clear n0_ n1_
           (try clear hb)
           (try clear hb2)
           (try clear hk)
           (try clear hi)
           refine hK.out _ _ ⟨(bC BK342.out 0).trans rfl, (bC BK342.out 1).trans rfl, ((HB.out.cell (World.block_lt_of_cell? w _ hw343_0)).trans hw343_0)⟩ (fun hHeld => ?_)
           clear hK K
           refine norm_ (a' := ?_) ?_ ?_
           rotate_left
           ·show Act.put _ (some 44) _ = _
            simp only [Act.put, sA, sZ, sS, i64_w, i32_w]
            rfl
           refine pv 19 45 b157_ HT_ ?_
           refine pv 20 46 b158_ HT_ ?_
           refine done_ (done_of HT_.out (by kernel_rfl)) ?_
           try go_wp2
           go_ret
           exact ⟨by first | rfl | (simp [errW_none, errW_some] <;> rfl) | (simp only [← hji11]; first | rfl | (simp [errW_none, errW_some] <;> rfl)) | (simp [*, errW_none, errW_some] <;> rfl), by repeat (first | (with_reducible first | exact HB.out | apply ea | apply en | apply ed | refine es ?_ GE342.out) | exact HB.out)⟩
         ·rw [if_neg c18] at H
          exact absurd H (by simp)
        ·rw [if_neg c17] at H
         have c17b0 : ((bt a0_0 (ji11)) == (bt a3 x13_1)) = false := beq_eq_false_iff_ne.mpr c17
         have c17b1 : ((bt a0_0 (ji11)) != (bt a3 x13_1)) = true := bne_iff_ne.mpr c17
         obtain rfl := Option.some.inj H
         try go_wp2
         have n0_ := aM (blk_drew BK342.out)
         have n1_ := aM (below_drew1 HB.out)
         clear BK342
         clear HB
         have BK342 := n0_
         have HB := n1_
         clear n0_ n1_
         have p14 : 0 ≤ ((ji11) : Int) := of_decide_eq_true (by first | (with_reducible assumption) | assumption)
         have q14 : (ji11) < (a0_0.size : Int) := of_decide_eq_true (by first | (with_reducible assumption) | assumption)
         have hx14 := bt_at a0_0 (ji11)
         replace p14 := eq_true p14
         replace q14 := eq_true q14
         have p16 : 0 ≤ (x13_1 : Int) := of_decide_eq_true (by first | (with_reducible assumption) | assumption)
         have q16 : x13_1 < (a3.size : Int) := of_decide_eq_true (by first | (with_reducible assumption) | assumption)
         have hx16 := bt_at a3 x13_1
         replace p16 := eq_true p16
         replace q16 := eq_true q16
         refine start_ (n := 21) (S := fun w' => w'.cell? ⟨gb342, 0, none⟩ = some (.string a0_0) ∧ w'.cell? ⟨gb342, 1, none⟩ = some (.slice A0_1 l0_1.length c0_1)) (ds := []) b137_ (by kernel_rfl) rfl rfl ⟨(bC BK342.out 0).trans rfl, (bC BK342.out 1).trans rfl⟩ (fun hHeld => ?_); refine with_tabW bureauref15_stands.tab6 bureauref15_stands.bits6 (fun HT_ HW_ => ?_)
         generalize wr.drew = w25 at BK342 HB hHeld ⊢
         refine pv 0 26 b138_ HT_ ?_
         refine pv 2 28 b139_ HT_ ?_
         refine pv 3 29 b140_ HT_ ?_
         refine pv 4 30 b141_ HT_ ?_
         refine pv 6 32 b142_ HT_ ?_
         refine pv 7 33 b143_ HT_ ?_
         refine pt 1 27 b144_ HT_ HW_ hHeld ?_
         refine pt 5 31 b145_ HT_ HW_ hHeld ?_
         refine pt 8 34 b146_ HT_ HW_ hHeld ?_
         refine pv 9 35 b147_ HT_ ?_
         refine pv 10 36 b148_ HT_ ?_
         refine pu 11 37 b149_ HT_ ?_
         refine pu 12 38 b150_ HT_ ?_
         refine pu 13 39 b151_ HT_ ?_
         refine pu 14 40 b152_ HT_ ?_
         refine pu 15 41 b153_ HT_ ?_
         refine pu 16 42 b159_ HT_ ?_
         refine pu 17 43 b155_ HT_ ?_
         refine pu 18 44 b156_ HT_ ?_
         refine pu 19 45 b157_ HT_ ?_
         refine pv 20 46 b158_ HT_ ?_
         refine done_ (done_of HT_.out (by kernel_rfl)) ?_
         try go_wp2
         go_ret
         exact ⟨by first | rfl | (simp [errW_none, errW_some] <;> rfl) | (simp only [← hji11]; first | rfl | (simp [errW_none, errW_some] <;> rfl)) | (simp [*, errW_none, errW_some] <;> rfl), by repeat (first | (with_reducible first | exact HB.out | apply ea | apply en | apply ed | refine es ?_ GE342.out) | exact HB.out)⟩
       ·rw [if_neg c15] at H
        exact absurd H (by simp)
      ·rw [if_neg c13] at H
       exact absurd H (by simp)
     ·rw [if_neg c12] at H
      exact absurd H (by simp)
    ·rw [if_neg c10] at H
     have c10b0 : decide (x13_1 < (a3.size : Int)) = false := decide_eq_false c10
     clear c10
     obtain rfl := Option.some.inj H
     go_wp2
     go_ret
     exact ⟨by first | rfl | (simp [errW_none, errW_some] <;> rfl) | (simp [*, errW_none, errW_some] <;> rfl), by repeat (first | (with_reducible first | exact HB.out | apply ea | apply en | apply ed | refine es ?_ GE342.out) | exact HB.out)⟩
end Go.Proofs.Ytnbdldpjiofafaa.PB
end

section
namespace Go.Proofs.Ytnbdldpjiofafaa.PB
open Go.RowKit Go.Proofs.YtnbdldpjiofafaaW.PrintWords Go.Proofs.YtnbdldpjiofafaaW.PrintLast Go.Proofs.YtnbdldpjiofafaaW.PrintMore
attribute [local go_sem] max2_int min2_int max_two min_two max_three min_three max_four min_four   
set_option linter.unusedVariables false
set_option linter.unusedSimpArgs false
mutual
def bureauref15_Places.l0 : Nat → ByteArray → Int → List Int → List Int → Int → ByteArray → List (S51) → Int → Int → ByteArray → ByteArray → Bool → Option (List Int)
 | 0, _, _, _, _, _, _, _, _, _, _, _, _ => none
 | k + 1, x1, x2, x9, x10, x11, x346000, x346001, x347000, x347001, x347002, x347003, x347004 => if x11 ≤ x347001 then ((bureauref06_Bounds.f k x1 x11).bind fun bt350 => (bureauref15_Places.l1 k x1 x2 x9 x10 x11 bt350.1 bt350.2.1 x346000 x346001 x347000 x347001 x347002 x347003 x347004)) else (some x10)
def bureauref15_Places.l1 : Nat → ByteArray → Int → List Int → List Int → Int → Int → Int → ByteArray → List (S51) → Int → Int → ByteArray → ByteArray → Bool → Option (List Int)
 | 0, _, _, _, _, _, _, _, _, _, _, _, _, _, _ => none
 | k + 1, x1, x2, x9, x10, x11, x12, x13, x346000, x346001, x347000, x347001, x347002, x347003, x347004 => if x12 < x13 then ((bureauref15_stands.f k x346000 x346001 x9 x2 x347002 x12 x13).bind fun t353 => (if t353 = true then (if x10.length < 17592186044416 then ((some (x10 ++ [x12] : List Int)).bind fun y354 => (if x347004 = true then (bureauref15_Places.l1 k x1 x2 x9 y354 x11 (wrap64 (x12 + (x347002.size : Int))) x13 x346000 x346001 x347000 x347001 x347002 x347003 x347004) else (bureauref15_Places.l1 k x1 x2 x9 y354 x11 x13 x13 x346000 x346001 x347000 x347001 x347002 x347003 x347004))) else (none)) else (bureauref15_Places.l1 k x1 x2 x9 x10 x11 (wrap64 (x12 + 1)) x13 x346000 x346001 x347000 x347001 x347002 x347003 x347004))) else (bureauref15_Places.l0 k x1 x2 x9 x10 (wrap64 (x11 + 1)) x346000 x346001 x347000 x347001 x347002 x347003 x347004)
end
def bureauref15_Places.f (k : Nat) (a0_0 : ByteArray) (l0_1 : List (S51)) (a1 : ByteArray) (a2 : Int) (a3_0 : Int) (a3_1 : Int) (a3_2 : ByteArray) (a3_3 : ByteArray) (a3_4 : Bool) : Option (List Int) := (bureauref03_Bytes.f k l0_1).bind fun t347 => (bureauref15_Places.l0 k a1 a2 t347 ([] : List Int) a3_0 a0_0 l0_1 a3_0 a3_1 a3_2 a3_3 a3_4)
set_option maxHeartbeats 8000000 in
set_option maxRecDepth 100000 in
theorem bureauref15_Places.calls (k : Nat) (a0_0 : ByteArray) (A0_1 : Option Addr) (c0_1 : Nat) (l0_1 : List (S51)) (a1 : ByteArray) (a2 : Int) (a3_0 : Int) (a3_1 : Int) (a3_2 : ByteArray) (a3_3 : ByteArray) (a3_4 : Bool) (r : List Int) (w : World) (hr0_1 : Kd.C k51 w A0_1 l0_1.length l0_1) (hc0_1 : l0_1.length ≤ c0_1) (h : bureauref15_Places.f k a0_0 l0_1 a1 a2 a3_0 a3_1 a3_2 a3_3 a3_4 = some r) :
  Calls Try.prog 30 #[.agg #[.string a0_0, .slice A0_1 l0_1.length c0_1], .string a1, .int .u64 a2, .agg #[.int .i64 a3_0, .int .i64 a3_1, .string a3_2, .string a3_3, .bool a3_4]] w fun e w' => ∃ v0_ : Value, e = .returned (v0_) ∧ Kd.R (Kd.int .i64) 3 w' w.heap.size (fun _ => True) v0_ r ∧ Below w.heap.size w w' := by
 have hu24 := Try.underlying24
 have hu38 := Try.underlying38
 have HR0_1 := aM hr0_1
 have HC0_1 := aM hc0_1
 clear hr0_1 hc0_1
 have HB := aM (Below.refl w.heap.size w)
 have H : ((bureauref03_Bytes.f k l0_1).bind fun t347 => (bureauref15_Places.l0 k a1 a2 t347 ([] : List Int) a3_0 a0_0 l0_1 a3_0 a3_1 a3_2 a3_3 a3_4)) = some r := h
 clear h
 replace H := Option.bind_eq_some_iff.mp H
 obtain ⟨t347, A50, H⟩ := H
 replace H : (bureauref15_Places.l0 k a1 a2 t347 ([] : List Int) a3_0 a0_0 l0_1 a3_0 a3_1 a3_2 a3_3 a3_4) = some r := H
 have A5 := aM A50
 clear A50
 have H' := aM H
 clear H
 go_enter Try.func30, Try.ntmps30
 go_wp2_with (first | ((with_reducible refine gate_dst (N := 4) rfl ?_); refine box_event ?hg (N := 4) ?hd (cs := #[.string a0_0, .slice A0_1 l0_1.length c0_1]) (t := 24) ?hr ?_; (case hd | hg => rfl); (case hr => first | (go_simp; done) | (go_simp; rfl)); intro gb345 hg w6 hbox hb; have n0_ := aM (bP (ey HB.out) hb); have n1_ := aM (hbox); have n2_ := aM ((by rw [hg]; exact (bZ (ey HB.out)) : w.heap.size ≤ gb345)); have n3_ := n2_; clear HB; have HB := n0_; have BK345 := n1_; have GW345 := n2_; have GE345 := n3_; clear n0_ n1_ n2_ n3_; clear hb hbox hg) | ((with_reducible refine gate_dst (N := 7) rfl ?_); refine box_event ?hg (N := 7) ?hd (cs := #[.int .i64 a3_0, .int .i64 a3_1, .string a3_2, .string a3_3, .bool a3_4]) (t := 38) ?hr ?_; (case hd | hg => rfl); (case hr => first | (go_simp; done) | (go_simp; rfl)); intro gb346 hg w7 hbox hb; have n0_ := aM (bB (g := gb345) (qy BK345.out) hb); have n1_ := aM (bP (by repeat (first | (with_reducible first | exact HB.out | apply ea | apply en | apply ed | refine es ?_ GE345.out) | exact HB.out)) hb); have n2_ := aM (hbox); have n3_ := aM ((by rw [hg]; exact (bZ (by repeat (first | (with_reducible first | exact HB.out | apply ea | apply en | apply ed | refine es ?_ GE345.out) | exact HB.out))) : w.heap.size ≤ gb346)); have n4_ := n3_; have n5_ := aM ((by rw [hg]; exact Nat.ne_of_lt (blk_lt (g := gb345) (qy BK345.out)) : gb345 ≠ gb346)); have n6_ := aM ((by rw [hg]; exact Nat.ne_of_gt (blk_lt (g := gb345) (qy BK345.out)) : gb346 ≠ gb345)); clear BK345 HB; have BK345 := n0_; have HB := n1_; have BK346 := n2_; have GW346 := n3_; have GE346 := n4_; have NB345_346 := n5_; have NB346_345 := n6_; clear n0_ n1_ n2_ n3_ n4_ n5_ n6_; clear hb hbox hg; have hnb8 := NB345_346.out; have hnc8 := NB346_345.out; have hcz9_0 := zC BK345.out 0 (.string a0_0); have hcz9_1 := zC BK345.out 1 (.slice A0_1 l0_1.length c0_1); have hfz9_0 := bF BK345.out 0; have hfz9_1 := bF BK345.out 1) | ((with_reducible refine gate_callee (f := 40) rfl ?_); refine goesL_ (some 17) rfl rfl Try.func40 (by kernel_rfl) rfl #[.slice A0_1 l0_1.length c0_1] rfl (by (try simp only [mT, mC, mN]); first | done | rfl | (simp only [lD, lT]; rfl)) ?_; (with_reducible refine (bureauref03_Bytes.calls k _ _ l0_1 t347 _ ?side1 ?side2 A5.out).mono ?_); (case side1 => repeat (first | exact (cB_ HR0_1.out HB.out) | (with_reducible refine Kd.C_alloc ?_ _) | (with_reducible refine Kd.C_drewN ?_ _) | (with_reducible refine Kd.C_drew ?_))); (case side2 => exact HC0_1.out); rintro e w10 ⟨v348, rfl, ho0, hb⟩; refine ⟨_, rfl, ?_⟩; have n0_ := aM (rL ho0 (bZ (by repeat (first | (with_reducible first | exact HB.out | apply ea | apply en | apply ed | refine es ?_ GE345.out | refine es ?_ GE346.out) | exact HB.out)))); have n1_ := aM (bB (g := gb345) (qy BK345.out) hb); have n2_ := aM (bB (g := gb346) (qy BK346.out) hb); have n3_ := aM (bP (by repeat (first | (with_reducible first | exact HB.out | apply ea | apply en | apply ed | refine es ?_ GE345.out | refine es ?_ GE346.out) | exact HB.out)) hb); clear BK345 BK346 HB; have HO349 := n0_; have BK345 := n1_; have BK346 := n2_; have HB := n3_; clear n0_ n1_ n2_ n3_; (try clear hb); (try clear hb2); (try clear hk); (try clear hi); (try clear ho0); have hcz11_0 := zC BK346.out 0 (.int .i64 a3_0); have hcz11_1 := zC BK346.out 1 (.int .i64 a3_1); have hcz11_2 := zC BK346.out 2 (.string a3_2); have hcz11_3 := zC BK346.out 3 (.string a3_3); have hcz11_4 := zC BK346.out 4 (.bool a3_4); have hfz11_0 := bF BK346.out 0; have hfz11_1 := bF BK346.out 1; have hfz11_2 := bF BK346.out 2; have hfz11_3 := bF BK346.out 3; have hfz11_4 := bF BK346.out 4))
 go_loopg [10, 11] k (fun kq v10 v11 w' => ∃ (x10_1 : List Int) (x11_1 : Int), v11 = .int .i64 x11_1 ∧ Aside0 (bureauref15_Places.l0 kq a1 a2 t347 x10_1 x11_1 a0_0 l0_1 a3_0 a3_1 a3_2 a3_3 a3_4 = some r) ∧ Aside0 (kq ≤ k) ∧ Aside0 (Kd.R (Kd.int .u64) 26 w' w.heap.size (fun _ => True) v348 t347) ∧ Aside0 (Kd.R (Kd.int .i64) 3 w' w.heap.size (fun _ => True) v10 x10_1) ∧ Aside0 (w'.heap[gb345]? = some (.cells #[.string a0_0, (.slice A0_1 l0_1.length c0_1)] 24 (0, 0))) ∧ Aside0 (w'.heap[gb346]? = some (.cells #[.int .i64 a3_0, .int .i64 a3_1, .string a3_2, .string a3_3, .bool a3_4] 38 (0, 0))) ∧ Aside0 (Below w.heap.size w w'))
 case atStart => exact ⟨(([] : List Int)), (a3_0), (by first | rfl | (simp; done) | (simp [*]; done)), H', ⟨Nat.le_refl _⟩, ⟨by exact ry HO349.out⟩, ⟨by first | exact Kd.R_nil _ _ _ _ _ | exact Kd.N_nil _ _ _ _ _ | exact Kd.V_nil _ _ _ _ _ | exact Kd.Q_nil _ _ _ _ _ | exact Kd.S_nil _ _ _ _ _⟩, ⟨by exact qy BK345.out⟩, ⟨by exact qy BK346.out⟩, ⟨by repeat (first | (with_reducible first | exact HB.out | apply ea | apply en | apply ed | refine es ?_ GE345.out | refine es ?_ GE346.out) | exact HB.out)⟩⟩
 case round =>
  clear H'
  try clear p2
  try clear c3
  try clear c4
  try clear c8
  try clear hcz11_0
  try clear hcz11_1
  try clear hcz11_2
  try clear hcz11_3
  try clear hcz11_4
  try clear hcz9_0
  try clear hcz9_1
  try clear hfz11_0
  try clear hfz11_1
  try clear hfz11_2
  try clear hfz11_3
  try clear hfz11_4
  try clear hfz9_0
  try clear hfz9_1
  obtain ⟨x10_1, x11_1, rfl, HA, HK1, HO_9, HO_10, BK345, BK346, HB⟩ := hrel
  cases gk with
  | zero => exact absurd HA.out (by simp [bureauref15_Places.l0])
  | succ k1 =>
   have H := HA.out
   clear HA
   simp only [bureauref15_Places.l0] at H
   by_cases c12 : x11_1 ≤ a3_1
   ·rw [if_pos c12] at H
    have c12b0 : decide (x11_1 ≤ a3_1) = true := decide_eq_true c12
    clear c12
    replace H := Option.bind_eq_some_iff.mp H
    obtain ⟨⟨t350, t351, t352⟩, A130, H⟩ := H
    replace H : (bureauref15_Places.l1 k1 a1 a2 t347 x10_1 x11_1 t350 t351 a0_0 l0_1 a3_0 a3_1 a3_2 a3_3 a3_4) = some r := H
    have A13 := aM A130
    clear A130
    have H' := aM H
    clear H
    have hnb14 := NB346_345.out
    have hnc14 := NB345_346.out
    have hcz15_0 := zC BK346.out 0 (.int .i64 a3_0)
    have hcz15_1 := zC BK346.out 1 (.int .i64 a3_1)
    have hcz15_2 := zC BK346.out 2 (.string a3_2)
    have hcz15_3 := zC BK346.out 3 (.string a3_3)
    have hcz15_4 := zC BK346.out 4 (.bool a3_4)
    have hfz15_0 := bF BK346.out 0
    have hfz15_1 := bF BK346.out 1
    have hfz15_2 := bF BK346.out 2
    have hfz15_3 := bF BK346.out 3
    have hfz15_4 := bF BK346.out 4
    go_wp2_with (first | ((with_reducible refine gate_callee (f := 31) rfl ?_); refine goesL_ (some 29) rfl rfl Try.func31 (by kernel_rfl) rfl #[.string a1, .int .i64 x11_1] rfl (by (try simp only [mT, mC, mN]); first | done | rfl | (simp only [lD, lT]; rfl)) ?_; (with_reducible refine (bureauref06_Bounds.calls k1 a1 x11_1 t350 t351 t352 _ A13.out).mono ?_); rintro e w16 ⟨rfl, hb⟩; refine ⟨_, rfl, ?_⟩; have n0_ := aM (Kd.R_below (ry HO_9.out) hb); have n1_ := aM (Kd.R_below (ry HO_10.out) hb); have n2_ := aM (bB (g := gb345) (qy BK345.out) hb); have n3_ := aM (bB (g := gb346) (qy BK346.out) hb); have n4_ := aM (bP (by repeat (first | (with_reducible first | exact HB.out | apply ea | apply en | apply ed | refine es ?_ GE345.out | refine es ?_ GE346.out) | exact HB.out)) hb); clear HO_9 HO_10 BK345 BK346 HB; have HO_9 := n0_; have HO_10 := n1_; have BK345 := n2_; have BK346 := n3_; have HB := n4_; clear n0_ n1_ n2_ n3_ n4_; (try clear hb); (try clear hb2); (try clear hk); (try clear hi)))
    go_loopg [10, 12] k1 (fun kq v10 v12 w' => ∃ (x10_2 : List Int) (x12_2 : Int), v12 = .int .i64 x12_2 ∧ Aside0 (bureauref15_Places.l1 kq a1 a2 t347 x10_2 x11_1 x12_2 t351 a0_0 l0_1 a3_0 a3_1 a3_2 a3_3 a3_4 = some r) ∧ Aside0 (kq ≤ k1) ∧ Aside0 (Kd.R (Kd.int .u64) 26 w' w.heap.size (fun _ => True) v348 t347) ∧ Aside0 (Kd.R (Kd.int .i64) 3 w' w.heap.size (fun _ => True) v10 x10_2) ∧ Aside0 (w'.heap[gb345]? = some (.cells #[.string a0_0, (.slice A0_1 l0_1.length c0_1)] 24 (0, 0))) ∧ Aside0 (w'.heap[gb346]? = some (.cells #[.int .i64 a3_0, .int .i64 a3_1, .string a3_2, .string a3_3, .bool a3_4] 38 (0, 0))) ∧ Aside0 (Below w.heap.size w w'))
    case atStart => exact ⟨(x10_1), (t350), (by first | rfl | (simp; done) | (simp [*]; done)), H', ⟨Nat.le_refl _⟩, ⟨by exact ry HO_9.out⟩, ⟨by exact ry HO_10.out⟩, ⟨by exact qy BK345.out⟩, ⟨by exact qy BK346.out⟩, ⟨by repeat (first | (with_reducible first | exact HB.out | apply ea | apply en | apply ed | refine es ?_ GE345.out | refine es ?_ GE346.out) | exact HB.out)⟩⟩
    case round =>
     clear H'
     try clear c1
     try clear p2
     try clear c3
     try clear c4
     try clear c8
     try clear c12
     try clear c12b0
     try clear c14
     try clear hcz11_0
     try clear hcz11_1
     try clear hcz11_2
     try clear hcz11_3
     try clear hcz11_4
     try clear hcz15_0
     try clear hcz15_1
     try clear hcz15_2
     try clear hcz15_3
     try clear hcz15_4
     try clear hcz9_0
     try clear hcz9_1
     try clear hfz11_0
     try clear hfz11_1
     try clear hfz11_2
     try clear hfz11_3
     try clear hfz11_4
     try clear hfz15_0
     try clear hfz15_1
     try clear hfz15_2
     try clear hfz15_3
     try clear hfz15_4
     try clear hfz9_0
     try clear hfz9_1
     try clear p2
     obtain ⟨x10_2, x12_2, rfl, HA, HK2, HO_9, HO_10, BK345, BK346, HB⟩ := hrel
     cases gk with
     | zero => exact absurd HA.out (by simp [bureauref15_Places.l1])
     | succ k2 =>
      have H := HA.out
      clear HA
      simp only [bureauref15_Places.l1] at H
      by_cases c17 : x12_2 < t351
      ·rw [if_pos c17] at H
       have c17b0 : decide (x12_2 < t351) = true := decide_eq_true c17
       clear c17
       replace H := Option.bind_eq_some_iff.mp H
       obtain ⟨t353, A180, H⟩ := H
       replace H : (if t353 = true then (if x10_2.length < 17592186044416 then ((some (x10_2 ++ [x12_2] : List Int)).bind fun y354 => (if a3_4 = true then (bureauref15_Places.l1 k2 a1 a2 t347 y354 x11_1 (wrap64 (x12_2 + (a3_2.size : Int))) t351 a0_0 l0_1 a3_0 a3_1 a3_2 a3_3 a3_4) else (bureauref15_Places.l1 k2 a1 a2 t347 y354 x11_1 t351 t351 a0_0 l0_1 a3_0 a3_1 a3_2 a3_3 a3_4))) else (none)) else (bureauref15_Places.l1 k2 a1 a2 t347 x10_2 x11_1 (wrap64 (x12_2 + 1)) t351 a0_0 l0_1 a3_0 a3_1 a3_2 a3_3 a3_4)) = some r := H
       have A18 := aM A180
       clear A180
       by_cases c19 : t353 = true
       ·subst c19
        have H1 : (if x10_2.length < 17592186044416 then ((some (x10_2 ++ [x12_2] : List Int)).bind fun y354 => (if a3_4 = true then (bureauref15_Places.l1 k2 a1 a2 t347 y354 x11_1 (wrap64 (x12_2 + (a3_2.size : Int))) t351 a0_0 l0_1 a3_0 a3_1 a3_2 a3_3 a3_4) else (bureauref15_Places.l1 k2 a1 a2 t347 y354 x11_1 t351 t351 a0_0 l0_1 a3_0 a3_1 a3_2 a3_3 a3_4))) else (none)) = some r := by rw [if_pos rfl] at H; exact H
        clear H
        have H := H1
        clear H1
        by_cases c20 : x10_2.length < 17592186044416
        ·rw [if_pos c20] at H
         have LMc20 := aM c20
         clear c20
         obtain ⟨y354, hy354⟩ : ∃ y_ : List Int, y_ = (x10_2 ++ [x12_2]) := ⟨_, rfl⟩
         replace H : (if a3_4 = true then (bureauref15_Places.l1 k2 a1 a2 t347 y354 x11_1 (wrap64 (x12_2 + (a3_2.size : Int))) t351 a0_0 l0_1 a3_0 a3_1 a3_2 a3_3 a3_4) else (bureauref15_Places.l1 k2 a1 a2 t347 y354 x11_1 t351 t351 a0_0 l0_1 a3_0 a3_1 a3_2 a3_3 a3_4)) = some r := by first | (rw [hy354]; with_reducible exact H) | (have H2_ := (Option.bind_some _ _).symm.trans H; rw [hy354]; with_reducible exact H2_) | (have H2_ := (Option.bind_some _ _).symm.trans H; with_reducible exact H2_) | with_reducible exact H | (rw [hy354]; exact H) | exact H
         have Ny354 := aM hy354
         clear hy354
         by_cases c21 : a3_4 = true
         ·subst c21
          have H1 : (bureauref15_Places.l1 k2 a1 a2 t347 y354 x11_1 (wrap64 (x12_2 + (a3_2.size : Int))) t351 a0_0 l0_1 a3_0 a3_1 a3_2 a3_3 true) = some r := by rw [if_pos rfl] at H; exact H
          clear H
          have H := H1
          clear H1
          have H' := aM H
          clear H
          have hnb22 := NB345_346.out
          have hnc22 := NB346_345.out
          have hcz23_0 := zC BK345.out 0 (.string a0_0)
          have hcz23_1 := zC BK345.out 1 (.slice A0_1 l0_1.length c0_1)
          have hfz23_0 := bF BK345.out 0
          have hfz23_1 := bF BK345.out 1
          have hcz24_0 := zC BK346.out 0 (.int .i64 a3_0)
          have hcz24_1 := zC BK346.out 1 (.int .i64 a3_1)
          have hcz24_2 := zC BK346.out 2 (.string a3_2)
          have hcz24_3 := zC BK346.out 3 (.string a3_3)
          have hcz24_4 := zC BK346.out 4 (.bool true)
          have hfz24_0 := bF BK346.out 0
          have hfz24_1 := bF BK346.out 1
          have hfz24_2 := bF BK346.out 2
          have hfz24_3 := bF BK346.out 3
          have hfz24_4 := bF BK346.out 4
          obtain ⟨Ao25, co25, eo25⟩ := Kd.R_slice HO_9.out
          subst eo25
          go_wp2_with (first | ((with_reducible refine gate_callee (f := 55) rfl ?_); refine goesL_ (some 43) rfl rfl Try.func55 (by kernel_rfl) rfl #[.agg #[.string a0_0, .slice A0_1 l0_1.length c0_1], .slice Ao25 t347.length co25, .int .u64 a2, .string a3_2, .int .i64 x12_2, .int .i64 t351] rfl (by (try simp only [mT, mC, mN]); first | done | rfl | (simp only [lD, lT]; rfl)) ?_; (with_reducible refine (bureauref15_stands.calls k2 a0_0 _ _ l0_1 _ _ t347 a2 a3_2 x12_2 t351 true _ ?side1 ?side2 ?side3 ?side4 A18.out).mono ?_); (case side1 => repeat (first | exact (cB_ HR0_1.out HB.out) | (with_reducible refine Kd.C_alloc ?_ _) | (with_reducible refine Kd.C_drewN ?_ _) | (with_reducible refine Kd.C_drew ?_))); (case side2 => exact HC0_1.out); (case side3 => repeat (first | exact (rR HO_9.out).2.2 | (with_reducible refine Kd.C_alloc ?_ _) | (with_reducible refine Kd.C_drewN ?_ _) | (with_reducible refine Kd.C_drew ?_))); (case side4 => exact (rR HO_9.out).2.1); rintro e w26 ⟨rfl, hb⟩; refine ⟨_, rfl, ?_⟩; have n0_ := aM (Kd.R_below (ry HO_9.out) hb); have n1_ := aM (Kd.R_below (ry HO_10.out) hb); have n2_ := aM (bB (g := gb345) (qy BK345.out) hb); have n3_ := aM (bB (g := gb346) (qy BK346.out) hb); have n4_ := aM (bP (by repeat (first | (with_reducible first | exact HB.out | apply ea | apply en | apply ed | refine es ?_ GE345.out | refine es ?_ GE346.out) | exact HB.out)) hb); clear HO_9 HO_10 BK345 BK346 HB; have HO_9 := n0_; have HO_10 := n1_; have BK345 := n2_; have BK346 := n3_; have HB := n4_; clear n0_ n1_ n2_ n3_ n4_; (try clear hb); (try clear hb2); (try clear hk); (try clear hi)) | ((with_reducible refine gate_builtin (b := .append) (xs := #[.tmp 47, .tmp 49]) rfl ?_); at_builtin; refine Kd.R_append (Kd.int .i64) (w0 := w) w.heap.size rfl (.tmp 47) (.tmp 49) 56 3 (.int .i64 0) 8 rfl Try.underlying56 info3 rfl (by decide) (by omega) u10 x10_2 x12_2 [.int .i64 x12_2] (fun _ => True) (fun _ => False) rfl rfl ?aP (fun _ hk => hk.elim) ?aF ?aO ?aB ?aS ?aL ?_; (case aP => exact rfl); (case aB => exact (by repeat (first | (with_reducible first | exact HB.out | apply ea | apply en | apply ed | refine es ?_ GE345.out | refine es ?_ GE346.out) | exact HB.out))); (case aF => exact (fun _ _ => trivial)); (case aO => exact (ry HO_10.out)); (case aS => exact (bZ (by repeat (first | (with_reducible first | exact HB.out | apply ea | apply en | apply ed | refine es ?_ GE345.out | refine es ?_ GE346.out) | exact HB.out)))); (case aL => have := LMc20.out; omega); intro v355 w27 ho hb hg hat; rw [← Ny354.out] at ho; have n0_ := aM (Kd.R_over' (ry HO_9.out) (Kd.R_typed (ry HO_10.out)) (by decide) hg); have n1_ := aM (blk_grown (g := gb345) (qy BK345.out) hg (Kd.R_ne HO_10.out BK345.out (by decide))); have n2_ := aM (blk_grown (g := gb346) (qy BK346.out) hg (Kd.R_ne HO_10.out BK346.out (by decide))); have n3_ := aM (hb); have n4_ := aM (ho); clear HO_9 BK345 BK346 HB HO_10; have HO_9 := n0_; have BK345 := n1_; have BK346 := n2_; have HB := n3_; have HO356 := n4_; clear n0_ n1_ n2_ n3_ n4_; clear ho hb hg hat; have hcz28_0 := zC BK346.out 0 (.int .i64 a3_0); have hcz28_1 := zC BK346.out 1 (.int .i64 a3_1); have hcz28_2 := zC BK346.out 2 (.string a3_2); have hcz28_3 := zC BK346.out 3 (.string a3_3); have hcz28_4 := zC BK346.out 4 (.bool true); have hfz28_0 := bF BK346.out 0; have hfz28_1 := bF BK346.out 1; have hfz28_2 := bF BK346.out 2; have hfz28_3 := bF BK346.out 3; have hfz28_4 := bF BK346.out 4))
          go_roundg k2
          case measure => have := HK1.out; have := HK2.out; omega
          case rel => exact ⟨(y354), (wrap64 (x12_2 + (a3_2.size : Int))), (by first | rfl | (simp; done) | (simp [*]; done)), H', ⟨by have := HK1.out; have := HK2.out; omega⟩, ⟨by exact ry HO_9.out⟩, ⟨by exact ry HO356.out⟩, ⟨by exact qy BK345.out⟩, ⟨by exact qy BK346.out⟩, ⟨by repeat (first | (with_reducible first | exact HB.out | apply ea | apply en | apply ed | refine es ?_ GE345.out | refine es ?_ GE346.out) | exact HB.out)⟩⟩
         ·replace c21 := Bool.eq_false_iff.mpr c21
          subst c21
          have H1 : (bureauref15_Places.l1 k2 a1 a2 t347 y354 x11_1 t351 t351 a0_0 l0_1 a3_0 a3_1 a3_2 a3_3 false) = some r := by rw [if_neg (show ¬ (false = true) by decide)] at H; exact H
          clear H
          have H := H1
          clear H1
          have H' := aM H
          clear H
          have hnb29 := NB345_346.out
          have hnc29 := NB346_345.out
          have hcz30_0 := zC BK345.out 0 (.string a0_0)
          have hcz30_1 := zC BK345.out 1 (.slice A0_1 l0_1.length c0_1)
          have hfz30_0 := bF BK345.out 0
          have hfz30_1 := bF BK345.out 1
          have hcz31_0 := zC BK346.out 0 (.int .i64 a3_0)
          have hcz31_1 := zC BK346.out 1 (.int .i64 a3_1)
          have hcz31_2 := zC BK346.out 2 (.string a3_2)
          have hcz31_3 := zC BK346.out 3 (.string a3_3)
          have hcz31_4 := zC BK346.out 4 (.bool false)
          have hfz31_0 := bF BK346.out 0
          have hfz31_1 := bF BK346.out 1
          have hfz31_2 := bF BK346.out 2
          have hfz31_3 := bF BK346.out 3
          have hfz31_4 := bF BK346.out 4
          obtain ⟨Ao32, co32, eo32⟩ := Kd.R_slice HO_9.out
          subst eo32
          go_wp2_with (first | ((with_reducible refine gate_callee (f := 55) rfl ?_); refine goesL_ (some 43) rfl rfl Try.func55 (by kernel_rfl) rfl #[.agg #[.string a0_0, .slice A0_1 l0_1.length c0_1], .slice Ao32 t347.length co32, .int .u64 a2, .string a3_2, .int .i64 x12_2, .int .i64 t351] rfl (by (try simp only [mT, mC, mN]); first | done | rfl | (simp only [lD, lT]; rfl)) ?_; (with_reducible refine (bureauref15_stands.calls k2 a0_0 _ _ l0_1 _ _ t347 a2 a3_2 x12_2 t351 true _ ?side1 ?side2 ?side3 ?side4 A18.out).mono ?_); (case side1 => repeat (first | exact (cB_ HR0_1.out HB.out) | (with_reducible refine Kd.C_alloc ?_ _) | (with_reducible refine Kd.C_drewN ?_ _) | (with_reducible refine Kd.C_drew ?_))); (case side2 => exact HC0_1.out); (case side3 => repeat (first | exact (rR HO_9.out).2.2 | (with_reducible refine Kd.C_alloc ?_ _) | (with_reducible refine Kd.C_drewN ?_ _) | (with_reducible refine Kd.C_drew ?_))); (case side4 => exact (rR HO_9.out).2.1); rintro e w33 ⟨rfl, hb⟩; refine ⟨_, rfl, ?_⟩; have n0_ := aM (Kd.R_below (ry HO_9.out) hb); have n1_ := aM (Kd.R_below (ry HO_10.out) hb); have n2_ := aM (bB (g := gb345) (qy BK345.out) hb); have n3_ := aM (bB (g := gb346) (qy BK346.out) hb); have n4_ := aM (bP (by repeat (first | (with_reducible first | exact HB.out | apply ea | apply en | apply ed | refine es ?_ GE345.out | refine es ?_ GE346.out) | exact HB.out)) hb); clear HO_9 HO_10 BK345 BK346 HB; have HO_9 := n0_; have HO_10 := n1_; have BK345 := n2_; have BK346 := n3_; have HB := n4_; clear n0_ n1_ n2_ n3_ n4_; (try clear hb); (try clear hb2); (try clear hk); (try clear hi)) | ((with_reducible refine gate_builtin (b := .append) (xs := #[.tmp 47, .tmp 49]) rfl ?_); at_builtin; refine Kd.R_append (Kd.int .i64) (w0 := w) w.heap.size rfl (.tmp 47) (.tmp 49) 56 3 (.int .i64 0) 8 rfl Try.underlying56 info3 rfl (by decide) (by omega) u10 x10_2 x12_2 [.int .i64 x12_2] (fun _ => True) (fun _ => False) rfl rfl ?aP (fun _ hk => hk.elim) ?aF ?aO ?aB ?aS ?aL ?_; (case aP => exact rfl); (case aB => exact (by repeat (first | (with_reducible first | exact HB.out | apply ea | apply en | apply ed | refine es ?_ GE345.out | refine es ?_ GE346.out) | exact HB.out))); (case aF => exact (fun _ _ => trivial)); (case aO => exact (ry HO_10.out)); (case aS => exact (bZ (by repeat (first | (with_reducible first | exact HB.out | apply ea | apply en | apply ed | refine es ?_ GE345.out | refine es ?_ GE346.out) | exact HB.out)))); (case aL => have := LMc20.out; omega); intro v355 w34 ho hb hg hat; rw [← Ny354.out] at ho; have n0_ := aM (Kd.R_over' (ry HO_9.out) (Kd.R_typed (ry HO_10.out)) (by decide) hg); have n1_ := aM (blk_grown (g := gb345) (qy BK345.out) hg (Kd.R_ne HO_10.out BK345.out (by decide))); have n2_ := aM (blk_grown (g := gb346) (qy BK346.out) hg (Kd.R_ne HO_10.out BK346.out (by decide))); have n3_ := aM (hb); have n4_ := aM (ho); clear HO_9 BK345 BK346 HB HO_10; have HO_9 := n0_; have BK345 := n1_; have BK346 := n2_; have HB := n3_; have HO356 := n4_; clear n0_ n1_ n2_ n3_ n4_; clear ho hb hg hat; have hcz35_0 := zC BK346.out 0 (.int .i64 a3_0); have hcz35_1 := zC BK346.out 1 (.int .i64 a3_1); have hcz35_2 := zC BK346.out 2 (.string a3_2); have hcz35_3 := zC BK346.out 3 (.string a3_3); have hcz35_4 := zC BK346.out 4 (.bool false); have hfz35_0 := bF BK346.out 0; have hfz35_1 := bF BK346.out 1; have hfz35_2 := bF BK346.out 2; have hfz35_3 := bF BK346.out 3; have hfz35_4 := bF BK346.out 4))
          go_roundg k2
          case measure => have := HK1.out; have := HK2.out; omega
          case rel => exact ⟨(y354), (t351), (by first | rfl | (simp; done) | (simp [*]; done)), H', ⟨by have := HK1.out; have := HK2.out; omega⟩, ⟨by exact ry HO_9.out⟩, ⟨by exact ry HO356.out⟩, ⟨by exact qy BK345.out⟩, ⟨by exact qy BK346.out⟩, ⟨by repeat (first | (with_reducible first | exact HB.out | apply ea | apply en | apply ed | refine es ?_ GE345.out | refine es ?_ GE346.out) | exact HB.out)⟩⟩
        ·rw [if_neg c20] at H
         exact absurd H (by simp)
       ·replace c19 := Bool.eq_false_iff.mpr c19
        subst c19
        have H1 : (bureauref15_Places.l1 k2 a1 a2 t347 x10_2 x11_1 (wrap64 (x12_2 + 1)) t351 a0_0 l0_1 a3_0 a3_1 a3_2 a3_3 a3_4) = some r := by rw [if_neg (show ¬ (false = true) by decide)] at H; exact H
        clear H
        have H := H1
        clear H1
        have H' := aM H
        clear H
        have hnb36 := NB345_346.out
        have hnc36 := NB346_345.out
        have hcz37_0 := zC BK345.out 0 (.string a0_0)
        have hcz37_1 := zC BK345.out 1 (.slice A0_1 l0_1.length c0_1)
        have hfz37_0 := bF BK345.out 0
        have hfz37_1 := bF BK345.out 1
        have hcz38_0 := zC BK346.out 0 (.int .i64 a3_0)
        have hcz38_1 := zC BK346.out 1 (.int .i64 a3_1)
        have hcz38_2 := zC BK346.out 2 (.string a3_2)
        have hcz38_3 := zC BK346.out 3 (.string a3_3)
        have hcz38_4 := zC BK346.out 4 (.bool a3_4)
        have hfz38_0 := bF BK346.out 0
        have hfz38_1 := bF BK346.out 1
        have hfz38_2 := bF BK346.out 2
        have hfz38_3 := bF BK346.out 3
        have hfz38_4 := bF BK346.out 4
        obtain ⟨Ao39, co39, eo39⟩ := Kd.R_slice HO_9.out
        subst eo39
        go_wp2_with (first | ((with_reducible refine gate_callee (f := 55) rfl ?_); refine goesL_ (some 43) rfl rfl Try.func55 (by kernel_rfl) rfl #[.agg #[.string a0_0, .slice A0_1 l0_1.length c0_1], .slice Ao39 t347.length co39, .int .u64 a2, .string a3_2, .int .i64 x12_2, .int .i64 t351] rfl (by (try simp only [mT, mC, mN]); first | done | rfl | (simp only [lD, lT]; rfl)) ?_; (with_reducible refine (bureauref15_stands.calls k2 a0_0 _ _ l0_1 _ _ t347 a2 a3_2 x12_2 t351 false _ ?side1 ?side2 ?side3 ?side4 A18.out).mono ?_); (case side1 => repeat (first | exact (cB_ HR0_1.out HB.out) | (with_reducible refine Kd.C_alloc ?_ _) | (with_reducible refine Kd.C_drewN ?_ _) | (with_reducible refine Kd.C_drew ?_))); (case side2 => exact HC0_1.out); (case side3 => repeat (first | exact (rR HO_9.out).2.2 | (with_reducible refine Kd.C_alloc ?_ _) | (with_reducible refine Kd.C_drewN ?_ _) | (with_reducible refine Kd.C_drew ?_))); (case side4 => exact (rR HO_9.out).2.1); rintro e w40 ⟨rfl, hb⟩; refine ⟨_, rfl, ?_⟩; have n0_ := aM (Kd.R_below (ry HO_9.out) hb); have n1_ := aM (Kd.R_below (ry HO_10.out) hb); have n2_ := aM (bB (g := gb345) (qy BK345.out) hb); have n3_ := aM (bB (g := gb346) (qy BK346.out) hb); have n4_ := aM (bP (by repeat (first | (with_reducible first | exact HB.out | apply ea | apply en | apply ed | refine es ?_ GE345.out | refine es ?_ GE346.out) | exact HB.out)) hb); clear HO_9 HO_10 BK345 BK346 HB; have HO_9 := n0_; have HO_10 := n1_; have BK345 := n2_; have BK346 := n3_; have HB := n4_; clear n0_ n1_ n2_ n3_ n4_; (try clear hb); (try clear hb2); (try clear hk); (try clear hi)))
        go_roundg k2
        case measure => have := HK1.out; have := HK2.out; omega
        case rel => exact ⟨(x10_2), (wrap64 (x12_2 + 1)), (by first | rfl | (simp; done) | (simp [*]; done)), H', ⟨by have := HK1.out; have := HK2.out; omega⟩, ⟨by exact ry HO_9.out⟩, ⟨by exact ry HO_10.out⟩, ⟨by exact qy BK345.out⟩, ⟨by exact qy BK346.out⟩, ⟨by repeat (first | (with_reducible first | exact HB.out | apply ea | apply en | apply ed | refine es ?_ GE345.out | refine es ?_ GE346.out) | exact HB.out)⟩⟩
      ·rw [if_neg c17] at H
       have c17b0 : decide (x12_2 < t351) = false := decide_eq_false c17
       clear c17
       have H' := aM H
       clear H
       go_wp2
       go_roundg k2
       case measure => have := HK1.out; have := HK2.out; omega
       case rel => exact ⟨(x10_2), (wrap64 (x11_1 + 1)), (by first | rfl | (simp; done) | (simp [*]; done)), H', ⟨by have := HK1.out; have := HK2.out; omega⟩, ⟨by exact ry HO_9.out⟩, ⟨by exact ry HO_10.out⟩, ⟨by exact qy BK345.out⟩, ⟨by exact qy BK346.out⟩, ⟨by repeat (first | (with_reducible first | exact HB.out | apply ea | apply en | apply ed | refine es ?_ GE345.out | refine es ?_ GE346.out) | exact HB.out)⟩⟩
   ·rw [if_neg c12] at H
    have c12b0 : decide (x11_1 ≤ a3_1) = false := decide_eq_false c12
    clear c12
    obtain rfl := Option.some.inj H
    have hnb41 := NB346_345.out
    have hnc41 := NB345_346.out
    have hcz42_0 := zC BK346.out 0 (.int .i64 a3_0)
    have hcz42_1 := zC BK346.out 1 (.int .i64 a3_1)
    have hcz42_2 := zC BK346.out 2 (.string a3_2)
    have hcz42_3 := zC BK346.out 3 (.string a3_3)
    have hcz42_4 := zC BK346.out 4 (.bool a3_4)
    have hfz42_0 := bF BK346.out 0
    have hfz42_1 := bF BK346.out 1
    have hfz42_2 := bF BK346.out 2
    have hfz42_3 := bF BK346.out 3
    have hfz42_4 := bF BK346.out 4
    go_wp2
    go_ret
    exact ⟨_, by first | rfl | (simp [errW_none, errW_some] <;> rfl) | (simp [*, errW_none, errW_some] <;> rfl), by exact ry HO_10.out, by repeat (first | (with_reducible first | exact HB.out | apply ea | apply en | apply ed | refine es ?_ GE345.out | refine es ?_ GE346.out) | exact HB.out)⟩
end Go.Proofs.Ytnbdldpjiofafaa.PB
end
