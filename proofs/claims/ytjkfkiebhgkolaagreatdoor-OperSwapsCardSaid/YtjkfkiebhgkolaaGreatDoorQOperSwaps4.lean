/- What the row hangs on, part 4. -/
import Derived.Lib.DecodeN
import Derived.Test.YtjkfkiebhgkolaaGreatDoorQOperSwaps3
section
namespace Go.Proofs.YtjkfkiebhgkolaaGreatDoor.PB
open Go.RowKit Go.Proofs.YtjkfkiebhgkolaaGreatDoorW.PrintWords Go.Proofs.YtjkfkiebhgkolaaGreatDoorW.PrintLast Go.Proofs.YtjkfkiebhgkolaaGreatDoorW.PrintMore
attribute [local go_sem] max2_int min2_int max_two min_two max_three min_three max_four min_four   
set_option linter.unusedVariables false
set_option linter.unusedSimpArgs false
def bureauref04_View.l0 : Nat → Int → List Int → List Int → Int → ByteArray → List (S68) → Option (ByteArray × Int)
 | 0, _, _, _, _, _, _ => none
 | k + 1, x1, x6, x7, x8, x314000, x314001 => if x8 < (x6.length : Int) then (if 0 ≤ x8 then ((bureauref01_Below.f (rd x6 x8) x1).bind fun t319 => (if t319 = true then (if x8 < (x314000.size : Int) then (if x7.length < 140737488355328 then (bureauref04_View.l0 k x1 x6 (x7 ++ [bt x314000 x8]) (wrap64 (x8 + 1)) x314000 x314001) else (none)) else (none)) else (if x7.length < 140737488355328 then (bureauref04_View.l0 k x1 x6 (x7 ++ [35]) (wrap64 (x8 + 1)) x314000 x314001) else (none)))) else (none)) else (some (strOfNums x7, 0))
def bureauref04_View.f (k : Nat) (a0_0 : ByteArray) (l0_1 : List (S68)) (a1 : Int) : Option (ByteArray × Int) := (bureauref04_Good.f k a0_0 l0_1).bind fun t314 => (if t314 = true then ((bureauref03_Bytes.f k l0_1).bind fun t315 => (bureauref04_View.l0 k a1 t315 ([] : List Int) 0 a0_0 l0_1)) else (some ((⟨#[]⟩ : ByteArray), 2)))
set_option maxHeartbeats 8000000 in
set_option maxRecDepth 100000 in
theorem bureauref04_View.calls (k : Nat) (a0_0 : ByteArray) (A0_1 : Option Addr) (c0_1 : Nat) (l0_1 : List (S68)) (a1 : Int) (r1 : ByteArray) (r2 : Int) (w : World) (hr0_1 : Kd.C k68 w A0_1 l0_1.length l0_1) (hc0_1 : l0_1.length ≤ c0_1) (h : bureauref04_View.f k a0_0 l0_1 a1 = some (r1, r2)) :
  Calls Tryz.prog 35 #[.agg #[.string a0_0, .slice A0_1 l0_1.length c0_1], .int .u64 a1] w fun e w' => e = .returned (.tuple #[.string r1, .int .i64 r2]) ∧ Below w.heap.size w w' := by
 have hu24 := Tryz.underlying24
 have HR0_1 := aM hr0_1
 have HC0_1 := aM hc0_1
 clear hr0_1 hc0_1
 have HB := aM (Below.refl w.heap.size w)
 have H : ((bureauref04_Good.f k a0_0 l0_1).bind fun t314 => (if t314 = true then ((bureauref03_Bytes.f k l0_1).bind fun t315 => (bureauref04_View.l0 k a1 t315 ([] : List Int) 0 a0_0 l0_1)) else (some ((⟨#[]⟩ : ByteArray), 2)))) = some (r1, r2) := h
 clear h
 replace H := Option.bind_eq_some_iff.mp H
 obtain ⟨t314, A30, H⟩ := H
 replace H : (if t314 = true then ((bureauref03_Bytes.f k l0_1).bind fun t315 => (bureauref04_View.l0 k a1 t315 ([] : List Int) 0 a0_0 l0_1)) else (some ((⟨#[]⟩ : ByteArray), 2))) = some (r1, r2) := H
 have A3 := aM A30
 clear A30
 by_cases c4 : t314 = true
 ·subst c4
  rw [if_pos rfl] at H
  replace H := Option.bind_eq_some_iff.mp H
  obtain ⟨t315, A50, H⟩ := H
  replace H : (bureauref04_View.l0 k a1 t315 ([] : List Int) 0 a0_0 l0_1) = some (r1, r2) := H
  have A5 := aM A50
  clear A50
  have H' := aM H
  clear H
  go_enter Tryz.func35, Tryz.ntmps35
  go_wp2_with (first | (refine yX 2 #[.string a0_0, .slice A0_1 l0_1.length c0_1] 24 (fun gb313 hg w6 hbox hb => ?_); have BK313 := hbox; have GW313 := yG w hg; have GE313 := GW313; replace HB := yP w hb; clear hb hbox hg; have hcz7_0 := zC BK313.out 0 (.string a0_0); have hcz7_1 := zC BK313.out 1 (.slice A0_1 l0_1.length c0_1); have hfz7_0 := bF BK313.out 0; have hfz7_1 := bF BK313.out 1) | (refine yC (some 10) Tryz.func62 #[.agg #[.string a0_0, .slice A0_1 l0_1.length c0_1]] ?_; (with_reducible refine (bureauref04_Good.calls k a0_0 _ _ l0_1 true _ ?side1 ?side2 A3.out).mono ?_); (case side1 => exact yR HR0_1); (case side2 => exact HC0_1.out); rintro e w8 ⟨rfl, hb⟩; refine ⟨_, rfl, ?_⟩; replace BK313 := yB hb BK313; replace HB := yP w hb; clear hb; have hcz9_0 := zC BK313.out 0 (.string a0_0); have hcz9_1 := zC BK313.out 1 (.slice A0_1 l0_1.length c0_1); have hfz9_0 := bF BK313.out 0; have hfz9_1 := bF BK313.out 1) | (refine yC (some 14) Tryz.func68 #[.slice A0_1 l0_1.length c0_1] ?_; (with_reducible refine (bureauref03_Bytes.calls k _ _ l0_1 t315 _ ?side1 ?side2 A5.out).mono ?_); (case side1 => exact yR HR0_1); (case side2 => exact HC0_1.out); rintro e w10 ⟨v316, rfl, ho0, hb⟩; refine ⟨_, rfl, ?_⟩; have HO317 := aM (rL ho0 (bZ (yH))); replace BK313 := yB hb BK313; replace HB := yP w hb; clear hb; (try clear ho0)))
  go_loopg [7, 8] k (fun kq v7 v8 w' => ∃ (x7_1 : List Int) (x8_1 : Int), v8 = .int .i64 x8_1 ∧ Aside0 (bureauref04_View.l0 kq a1 t315 x7_1 x8_1 a0_0 l0_1 = some (r1, r2)) ∧ Aside0 (kq ≤ k) ∧ Aside0 (Kd.R (Kd.int .u64) 26 w' w.heap.size (fun _ => True) v316 t315) ∧ Aside0 (Kd.R (Kd.int .u8) 5 w' w.heap.size (fun _ => True) v7 x7_1) ∧ Aside0 (w'.heap[gb313]? = some (.cells #[.string a0_0, (.slice A0_1 l0_1.length c0_1)] 24 (0, 0))) ∧ Aside0 (Below w.heap.size w w'))
  case atStart => exact ⟨(([] : List Int)), (0), (by first | rfl | (simp; done) | (simp [*]; done)), H', ⟨Nat.le_refl _⟩, ⟨by exact ry HO317.out⟩, ⟨yn⟩, ⟨by exact qy BK313.out⟩, ⟨yH⟩⟩
  case round =>
   clear H'
   try clear p2
   try clear c3
   try clear c4
   try clear c6
   try clear hcz7_0
   try clear hcz7_1
   try clear hcz9_0
   try clear hcz9_1
   try clear hfz7_0
   try clear hfz7_1
   try clear hfz9_0
   try clear hfz9_1
   obtain ⟨x7_1, x8_1, rfl, HA, HK1, HO_6, HO_7, BK313, HB⟩ := hrel
   cases gk with
   | zero => exact absurd HA.out (by simp [bureauref04_View.l0])
   | succ k1 =>
    have H := HA.out
    clear HA
    simp only [bureauref04_View.l0] at H
    by_cases c11 : x8_1 < (t315.length : Int)
    ·rw [if_pos c11] at H
     have c11b0 : decide (x8_1 < (t315.length : Int)) = true := decide_eq_true c11
     clear c11
     by_cases c12 : 0 ≤ x8_1
     ·rw [if_pos c12] at H
      have c12b0 : decide (0 ≤ x8_1) = true := decide_eq_true c12
      clear c12
      replace H := Option.bind_eq_some_iff.mp H
      obtain ⟨t319, A130, H⟩ := H
      replace H : (if t319 = true then (if x8_1 < (a0_0.size : Int) then (if x7_1.length < 140737488355328 then (bureauref04_View.l0 k1 a1 t315 (x7_1 ++ [bt a0_0 x8_1]) (wrap64 (x8_1 + 1)) a0_0 l0_1) else (none)) else (none)) else (if x7_1.length < 140737488355328 then (bureauref04_View.l0 k1 a1 t315 (x7_1 ++ [35]) (wrap64 (x8_1 + 1)) a0_0 l0_1) else (none))) = some (r1, r2) := H
      have A13 := aM A130
      clear A130
      by_cases c14 : t319 = true
      ·subst c14
       rw [if_pos rfl] at H
       by_cases c15 : x8_1 < (a0_0.size : Int)
       ·rw [if_pos c15] at H
        have c15b0 : decide (x8_1 < (a0_0.size : Int)) = true := decide_eq_true c15
        clear c15
        by_cases c17 : x7_1.length < 140737488355328
        ·rw [if_pos c17] at H
         have LMc17 := aM c17
         clear c17
         obtain ⟨y320, hy320⟩ : ∃ y_ : List Int, y_ = (x7_1 ++ [bt a0_0 x8_1]) := ⟨_, rfl⟩
         replace H : (bureauref04_View.l0 k1 a1 t315 y320 (wrap64 (x8_1 + 1)) a0_0 l0_1) = some (r1, r2) := by first | (rw [hy320]; with_reducible exact H) | (have H2_ := (Option.bind_some _ _).symm.trans H; rw [hy320]; with_reducible exact H2_) | (have H2_ := (Option.bind_some _ _).symm.trans H; with_reducible exact H2_) | with_reducible exact H | (rw [hy320]; exact H) | exact H
         have Ny320 := aM hy320
         clear hy320
         have H' := aM H
         clear H
         obtain ⟨Ao18, co18, eo18⟩ := Kd.R_slice HO_6.out
         subst eo18
         have p318 : 0 ≤ (x8_1 : Int) := of_decide_eq_true (by first | (with_reducible assumption) | assumption)
         have q318 : x8_1 < (t315.length : Int) := of_decide_eq_true (by first | (with_reducible assumption) | assumption)
         obtain ⟨ad318, e318, hx318_0⟩ := Kd.at_int (rR HO_6.out).2.2 x8_1 p318 q318
         cases e318
         replace p318 := eq_true p318
         replace q318 := eq_true q318
         go_wp2_with (first | (refine yC (some 26) Tryz.func69 #[.int .u64 (rd t315 x8_1), .int .u64 a1] ?_; (with_reducible refine (bureauref01_Below.calls (rd t315 x8_1) a1 true _ A13.out).mono ?_); rintro e w19 ⟨rfl, hb⟩; refine ⟨_, rfl, ?_⟩; replace HO_6 := aM (Kd.R_below (ry HO_6.out) hb); replace HO_7 := aM (Kd.R_below (ry HO_7.out) hb); replace BK313 := yB hb BK313; replace HB := yP w hb; clear hb; have hcz20_0 := zC BK313.out 0 (.string a0_0); have hcz20_1 := zC BK313.out 1 (.slice A0_1 l0_1.length c0_1); have hfz20_0 := bF BK313.out 0; have hfz20_1 := bF BK313.out 1; have p16 : 0 ≤ (x8_1 : Int) := of_decide_eq_true (by first | (with_reducible assumption) | assumption); have q16 : x8_1 < (a0_0.size : Int) := of_decide_eq_true (by first | (with_reducible assumption) | assumption); have hx16 := bt_at a0_0 x8_1; replace p16 := eq_true p16; replace q16 := eq_true q16) | ((with_reducible refine gate_builtin (b := .append) (xs := #[.tmp 27, .tmp 32]) rfl ?_); at_builtin; refine Kd.R_append (Kd.int .u8) (w0 := w) w.heap.size rfl (.tmp 27) (.tmp 32) 111 5 (.int .u8 0) 1 rfl Tryz.underlying111 info5 rfl (by decide) (by omega) u7 x7_1 (bt a0_0 x8_1) [.int .u8 (bt a0_0 x8_1)] (fun _ => True) (fun _ => False) rfl rfl ?aP (fun _ hk => hk.elim) ?aF ?aO ?aB ?aS ?aL ?_; (case aP => exact rfl); (case aB => exact (yH)); (case aF => exact (fun _ _ => trivial)); (case aO => exact (ry HO_7.out)); (case aS => exact (bZ (yH))); (case aL => have := LMc17.out; omega); intro v321 w21 ho hb hg hat; rw [← Ny320.out] at ho; have HO322 := aM (ho); replace HO_6 := aM (Kd.R_over' (ry HO_6.out) (Kd.R_typed (ry HO_7.out)) (by decide) hg); replace BK313 := aM (blk_grown (g := gb313) (qy BK313.out) hg (Kd.R_ne HO_7.out BK313.out (by decide))); replace HB := aM (hb); clear HO_7; clear ho hb hg hat))
         go_roundg k1
         case measure => have := HK1.out; omega
         case rel => exact ⟨(y320), (wrap64 (x8_1 + 1)), (by first | rfl | (simp; done) | (simp [*]; done)), H', ⟨by have := HK1.out; omega⟩, ⟨by exact ry HO_6.out⟩, ⟨by exact ry HO322.out⟩, ⟨by exact qy BK313.out⟩, ⟨yH⟩⟩
        ·rw [if_neg c17] at H
         exact absurd H (by simp)
       ·rw [if_neg c15] at H
        exact absurd H (by simp)
      ·replace c14 := Bool.eq_false_iff.mpr c14
       subst c14
       rw [if_neg (show ¬ (false = true) by decide)] at H
       by_cases c22 : x7_1.length < 140737488355328
       ·rw [if_pos c22] at H
        have LMc22 := aM c22
        clear c22
        obtain ⟨y323, hy323⟩ : ∃ y_ : List Int, y_ = (x7_1 ++ [35]) := ⟨_, rfl⟩
        replace H : (bureauref04_View.l0 k1 a1 t315 y323 (wrap64 (x8_1 + 1)) a0_0 l0_1) = some (r1, r2) := by first | (rw [hy323]; with_reducible exact H) | (have H2_ := (Option.bind_some _ _).symm.trans H; rw [hy323]; with_reducible exact H2_) | (have H2_ := (Option.bind_some _ _).symm.trans H; with_reducible exact H2_) | with_reducible exact H | (rw [hy323]; exact H) | exact H
        have Ny323 := aM hy323
        clear hy323
        have H' := aM H
        clear H
        obtain ⟨Ao23, co23, eo23⟩ := Kd.R_slice HO_6.out
        subst eo23
        have p318 : 0 ≤ (x8_1 : Int) := of_decide_eq_true (by first | (with_reducible assumption) | assumption)
        have q318 : x8_1 < (t315.length : Int) := of_decide_eq_true (by first | (with_reducible assumption) | assumption)
        obtain ⟨ad318, e318, hx318_0⟩ := Kd.at_int (rR HO_6.out).2.2 x8_1 p318 q318
        cases e318
        replace p318 := eq_true p318
        replace q318 := eq_true q318
        go_wp2_with (first | (refine yC (some 26) Tryz.func69 #[.int .u64 (rd t315 x8_1), .int .u64 a1] ?_; (with_reducible refine (bureauref01_Below.calls (rd t315 x8_1) a1 false _ A13.out).mono ?_); rintro e w24 ⟨rfl, hb⟩; refine ⟨_, rfl, ?_⟩; replace HO_6 := aM (Kd.R_below (ry HO_6.out) hb); replace HO_7 := aM (Kd.R_below (ry HO_7.out) hb); replace BK313 := yB hb BK313; replace HB := yP w hb; clear hb) | ((with_reducible refine gate_builtin (b := .append) (xs := #[.tmp 34, .tmp 35]) rfl ?_); at_builtin; refine Kd.R_append (Kd.int .u8) (w0 := w) w.heap.size rfl (.tmp 34) (.tmp 35) 111 5 (.int .u8 0) 1 rfl Tryz.underlying111 info5 rfl (by decide) (by omega) u7 x7_1 35 [.int .u8 35] (fun _ => True) (fun _ => False) rfl rfl ?aP (fun _ hk => hk.elim) ?aF ?aO ?aB ?aS ?aL ?_; (case aP => exact rfl); (case aB => exact (yH)); (case aF => exact (fun _ _ => trivial)); (case aO => exact (ry HO_7.out)); (case aS => exact (bZ (yH))); (case aL => have := LMc22.out; omega); intro v324 w25 ho hb hg hat; rw [← Ny323.out] at ho; have HO325 := aM (ho); replace HO_6 := aM (Kd.R_over' (ry HO_6.out) (Kd.R_typed (ry HO_7.out)) (by decide) hg); replace BK313 := aM (blk_grown (g := gb313) (qy BK313.out) hg (Kd.R_ne HO_7.out BK313.out (by decide))); replace HB := aM (hb); clear HO_7; clear ho hb hg hat))
        go_roundg k1
        case measure => have := HK1.out; omega
        case rel => exact ⟨(y323), (wrap64 (x8_1 + 1)), (by first | rfl | (simp; done) | (simp [*]; done)), H', ⟨by have := HK1.out; omega⟩, ⟨by exact ry HO_6.out⟩, ⟨by exact ry HO325.out⟩, ⟨by exact qy BK313.out⟩, ⟨yH⟩⟩
       ·rw [if_neg c22] at H
        exact absurd H (by simp)
     ·rw [if_neg c12] at H
      exact absurd H (by simp)
    ·rw [if_neg c11] at H
     have c11b0 : decide (x8_1 < (t315.length : Int)) = false := decide_eq_false c11
     clear c11
     simp only [Option.some.injEq, Prod.mk.injEq] at H
     obtain ⟨rfl, rfl⟩ := H
     obtain ⟨Ao26, co26, eo26⟩ := Kd.R_slice HO_6.out
     subst eo26
     have hcv27 := own_string (P := Tryz.prog) Tryz.underlying111 Tryz.underlying5 Tryz.underlying9 (Kd.own_of_R HO_7.out)
     go_wp2
     go_ret2
     exact ⟨ye, yH⟩
 ·replace c4 := Bool.eq_false_iff.mpr c4
  subst c4
  rw [if_neg (show ¬ (false = true) by decide)] at H
  simp only [Option.some.injEq, Prod.mk.injEq] at H
  obtain ⟨rfl, rfl⟩ := H
  go_enter Tryz.func35, Tryz.ntmps35
  go_wp2_with (first | (refine yX 2 #[.string a0_0, .slice A0_1 l0_1.length c0_1] 24 (fun gb313 hg w28 hbox hb => ?_); have BK313 := hbox; have GW313 := yG w hg; have GE313 := GW313; replace HB := yP w hb; clear hb hbox hg; have hcz29_0 := zC BK313.out 0 (.string a0_0); have hcz29_1 := zC BK313.out 1 (.slice A0_1 l0_1.length c0_1); have hfz29_0 := bF BK313.out 0; have hfz29_1 := bF BK313.out 1) | (refine yC (some 10) Tryz.func62 #[.agg #[.string a0_0, .slice A0_1 l0_1.length c0_1]] ?_; (with_reducible refine (bureauref04_Good.calls k a0_0 _ _ l0_1 false _ ?side1 ?side2 A3.out).mono ?_); (case side1 => exact yR HR0_1); (case side2 => exact HC0_1.out); rintro e w30 ⟨rfl, hb⟩; refine ⟨_, rfl, ?_⟩; replace BK313 := yB hb BK313; replace HB := yP w hb; clear hb))
  go_ret2
  exact ⟨ye, yH⟩
end Go.Proofs.YtjkfkiebhgkolaaGreatDoor.PB
end

section
namespace Go.Proofs.YtjkfkiebhgkolaaGreatDoor.PB
open Go.RowKit Go.Proofs.YtjkfkiebhgkolaaGreatDoorW.PrintWords
set_option linter.unusedVariables false
def seen (x y : Int) : Bool := Go.bits .andNot .u64 x y == 0
def hide (y x c : Int) : Int := if seen x y = true then c else 35
def hideAll (y : Int) (L B : List Int) : List Int := List.zipWith (hide y) L B
theorem hideAll_len (y : Int) (L B : List Int) : (hideAll y L B).length = min L.length B.length := List.length_zipWith
theorem paintN_app : ∀ (n : Nat) (P B : List Int), n ≤ B.length → paintN P.length n (P ++ B) = P ++ (List.replicate n 35 ++ B.drop n)
 | 0, P, B, _ => by simp [paintN]
 | n + 1, P, [], h => by simp at h
 | n + 1, P, b :: B, h => by
  have := paintN_app n (P ++ [35]) B (by simpa using h)
  rw [List.length_append, List.length_singleton] at this
  simp only [paintN]
  rw [show (P ++ b :: B).set P.length 35 = P ++ [35] ++ B by simp, this]
  simp [List.replicate_succ]
theorem hide_rep (y x : Int) : ∀ (n : Nat) (B : List Int), n ≤ B.length → List.zipWith (hide y) (List.replicate n x) (B.take n) = if seen x y = true then B.take n else List.replicate n 35
 | 0, B, _ => by simp
 | n + 1, [], h => by simp at h
 | n + 1, b :: B, h => by
  rw [List.replicate_succ, List.take_succ_cons, List.zipWith_cons_cons, hide_rep y x n B (by simpa using h)]
  unfold hide
  by_cases hs : seen x y = true
  ·rw [if_pos hs, if_pos hs, if_pos hs]
  ·rw [if_neg hs, if_neg hs, if_neg hs, List.replicate_succ]
theorem viewTo_app (y : Int) : ∀ (l : List S68) (P B : List Int), B.length = (bytes l).length → viewTo y l P.length (P ++ B) = P ++ hideAll y (bytes l) B
 | [], P, B, h => by
  have : B = [] := List.eq_nil_of_length_eq_zero (by simpa [bytes] using h)
  subst this
  simp [viewTo, hideAll, bytes]
 | r :: l, P, B, h => by
  rw [bytes_cons, List.length_append, List.length_replicate] at h
  have hn : r.f1.toNat ≤ B.length := by omega
  have hz : hideAll y (bytes (r :: l)) B = List.zipWith (hide y) (List.replicate r.f1.toNat r.f0) (B.take r.f1.toNat) ++ hideAll y (bytes l) (B.drop r.f1.toNat) := by
   unfold hideAll
   rw [bytes_cons]
   conv => lhs; rw [← List.take_append_drop r.f1.toNat B]
   rw [List.zipWith_append]
   rw [List.length_replicate, List.length_take]
   omega
  rw [hz, hide_rep _ _ _ _ hn]
  simp only [viewTo]
  by_cases hs : seen r.f0 y = true
  ·rw [if_pos (show (Go.bits .andNot .u64 r.f0 y == 0) = true from hs), if_pos hs]
   have := viewTo_app y l (P ++ B.take r.f1.toNat) (B.drop r.f1.toNat) (by rw [List.length_drop]; omega)
   rw [List.length_append, List.length_take, show min r.f1.toNat B.length = r.f1.toNat by omega, List.append_assoc, List.take_append_drop, List.append_assoc] at this
   exact this
  ·rw [if_neg (show ¬ (Go.bits .andNot .u64 r.f0 y == 0) = true from hs), if_neg hs, paintN_app _ _ _ hn]
   have := viewTo_app y l (P ++ List.replicate r.f1.toNat 35) (B.drop r.f1.toNat) (by rw [List.length_drop]; omega)
   rw [List.length_append, List.length_replicate, List.append_assoc, List.append_assoc] at this
   exact this
def viewS (s : ByteArray) (l : List S68) (y : Int) : ByteArray × Int := if goodT s l = true then (strOfNums (hideAll y (bytes l) (bytesOf s)), 0) else (⟨#[]⟩, 2)
theorem view_ev (s : ByteArray) (l : List S68) (hl : l.length ≤ big) (y : Int) : Ev (fun k => strip_View.f k s l y) (viewS s l y) := by
 unfold strip_View.f viewS
 refine Ev.bind (goodT_ev s l hl) ?_
 refine Ev.ite (fun hg => ?_) (fun _ => Ev.now _)
 obtain ⟨g1, g2, g3, g4, g5⟩ := goodT_facts hg
 refine Ev.pos ⟨nrm_nonneg g2, by omega, by omega⟩ (ev_val (Ev.now _) ?_)
 have := viewTo_app y l [] (bytesOf s) (by rw [bytesOf_len, g3])
 simp only [List.length_nil, List.nil_append] at this
 rw [this]
theorem bt_bytesOf (s : ByteArray) (i : Nat) (hi : i < s.size) : (bytesOf s).getD i 0 = bt s (i : Int) := by
 rw [bytesOf_getD s i hi]
 unfold bt
 rw [dif_pos (show ((i : Int).toNat) < s.size by rw [Int.toNat_natCast]; exact hi)]
 have hd : i < s.data.toList.length := by rw [Array.length_toList]; exact hi
 rw [List.getD_eq_getElem?_getD, List.getElem?_eq_getElem hd]
 rfl
theorem rview_ev (s : ByteArray) (l : List S68) (hl : l.length ≤ big) (y : Int) (hw : ∀ r ∈ l, 0 ≤ r.f0 ∧ r.f0 < 18446744073709551616) (hy : 0 ≤ y ∧ y < 18446744073709551616) : Ev (fun k => bureauref04_View.f k s l y) (viewS s l y) := by
 unfold bureauref04_View.f viewS
 refine Ev.bind (rgoodT_ev s l hl) ?_
 refine Ev.ite (fun hg => ?_) (fun _ => Ev.now _)
 obtain ⟨g1, g2, g3, g4, g5⟩ := goodT_facts hg
 refine Ev.bind (bytes_ev l hl (by omega)) ?_
 have hwb : ∀ x ∈ bytes l, 0 ≤ x ∧ x < 18446744073709551616 := fun x hx => by obtain ⟨r, hr, rfl⟩ := bytes_mem hx; exact hw r hr
 generalize bytes l = L at *
 have loop : ∀ (d i : Nat) (acc : List Int), i + d = L.length → acc.length = i → Ev (fun k => bureauref04_View.l0 k y L acc (i : Int) s l) (strOfNums (acc ++ hideAll y (L.drop i) ((bytesOf s).drop i)), 0) := by
  intro d
  induction d with
  | zero =>
   intro i acc hi ha
   refine Ev.step (fun k => by simp only [bureauref04_View.l0]; rfl) ?_
   refine Ev.neg (by omega) (ev_val (Ev.now _) ?_)
   rw [List.drop_eq_nil_of_le (by omega)]
   simp [hideAll]
  | succ d ih =>
   intro i acc hi ha
   have hlt : i < L.length := by omega
   have hls : i < s.size := by omega
   have hrd : rd L (i : Int) = L.getD i 0 := by unfold rd; rw [Int.toNat_natCast]
   refine Ev.step (fun k => by simp only [bureauref04_View.l0]; rfl) ?_
   refine Ev.pos (by omega) (Ev.pos (by omega) ?_)
   rw [hrd, w1 hlt (by omega)]
   have hx := hwb (L.getD i 0) (by rw [List.getD_eq_getElem?_getD, List.getElem?_eq_getElem hlt]; exact List.getElem_mem hlt)
   have hj : bureauref01_Below.f (L.getD i 0) y = some (seen (L.getD i 0) y) := by unfold bureauref01_Below.f; rw [if_pos ⟨hx.1, hx.2, hy.1, hy.2⟩]; rfl
   rw [hj, dropI hlt, dropI (show i < (bytesOf s).length by rw [bytesOf_len]; exact hls)]
   refine Ev.bind (Ev.now _) ?_
   by_cases hs : seen (L.getD i 0) y = true
   ·refine Ev.pos hs (Ev.pos (by omega) (Ev.pos (by omega) ?_))
    refine ev_val (ih (i + 1) _ (by omega) (by simp [ha])) ?_
    rw [bt_bytesOf s i hls, List.append_assoc]
    generalize L.getD i 0 = xx at *
    simp [hideAll, hide, hs]
   ·refine Ev.neg hs (Ev.pos (by omega) ?_)
    refine ev_val (ih (i + 1) _ (by omega) (by simp [ha])) ?_
    rw [List.append_assoc]
    generalize L.getD i 0 = xx at *
    simp [hideAll, hide, hs]
 exact loop L.length 0 [] (by omega) rfl
theorem strOf_bt (xs : List Int) (i : Nat) (hi : i < xs.length) (hr : 0 ≤ xs.getD i 0 ∧ xs.getD i 0 ≤ 255) : bt (strOfNums xs) (i : Int) = xs.getD i 0 := by
 have hs : i < (strOfNums xs).size := by rw [strOfNums_size]; exact hi
 rw [← bt_bytesOf _ _ hs, bytesOf_getD _ _ hs, strOfNums_data]
 have hg : xs.getD i 0 = xs[i] := by rw [List.getD_eq_getElem?_getD, List.getElem?_eq_getElem hi]; rfl
 rw [hg] at hr ⊢
 rw [List.getD_eq_getElem?_getD, List.getElem?_map, List.getElem?_eq_getElem hi]
 simp only [Option.map_some, Option.getD_some]
 rw [UInt8.toNat_ofNat']
 omega
theorem strOf_inj {xs ys : List Int} (hx : ∀ x ∈ xs, 0 ≤ x ∧ x ≤ 255) (hy : ∀ x ∈ ys, 0 ≤ x ∧ x ≤ 255) (h : strOfNums xs = strOfNums ys) : xs = ys := by
 have h1 : xs.length = ys.length := by rw [← strOfNums_size, ← strOfNums_size, h]
 apply List.ext_getElem? 
 intro i
 by_cases hi : i < xs.length
 ·have hg : ∀ (zs : List Int), i < zs.length → zs[i]? = some (zs.getD i 0) := fun zs hz => by rw [List.getD_eq_getElem?_getD, List.getElem?_eq_getElem hz]; rfl
  have hm : ∀ (zs : List Int), i < zs.length → zs.getD i 0 ∈ zs := fun zs hz => by rw [List.getD_eq_getElem?_getD, List.getElem?_eq_getElem hz]; exact List.getElem_mem hz
  rw [hg xs hi, hg ys (by omega), ← strOf_bt xs i hi (hx _ (hm xs hi)), ← strOf_bt ys i (by omega) (hy _ (hm ys (by omega))), h]
 ·rw [List.getElem?_eq_none (by omega), List.getElem?_eq_none (by omega)]
end Go.Proofs.YtjkfkiebhgkolaaGreatDoor.PB
end

section
namespace Go.Proofs.YtjkfkiebhgkolaaGreatDoor.PB
open Go.RowKit Go.Proofs.YtjkfkiebhgkolaaGreatDoorW.PrintWords Go.Proofs.YtjkfkiebhgkolaaGreatDoorW.PrintLast Go.Proofs.YtjkfkiebhgkolaaGreatDoorW.PrintMore
attribute [local go_sem] max2_int min2_int max_two min_two max_three min_three max_four min_four   
set_option linter.unusedVariables false
set_option linter.unusedSimpArgs false
def bureaulaw04_Fits.f (a0_0 : ByteArray) (l0_1 : List (S68)) : Option (Bool) := if (a0_0.size : Int) ≤ 5000 then (some (decide ((l0_1.length : Int) ≤ 5000))) else (some false)
set_option maxHeartbeats 8000000 in
set_option maxRecDepth 100000 in
theorem bureaulaw04_Fits.calls (a0_0 : ByteArray) (A0_1 : Option Addr) (c0_1 : Nat) (l0_1 : List (S68)) (r : Bool) (w : World) (hr0_1 : Kd.C k68 w A0_1 l0_1.length l0_1) (hc0_1 : l0_1.length ≤ c0_1) (h : bureaulaw04_Fits.f a0_0 l0_1 = some r) :
  Calls Tryz.prog 28 #[.agg #[.string a0_0, .slice A0_1 l0_1.length c0_1]] w fun e w' => e = .returned (.bool r) ∧ Below w.heap.size w w' := by
 have hu24 := Tryz.underlying24
 have HR0_1 := aM hr0_1
 have HC0_1 := aM hc0_1
 clear hr0_1 hc0_1
 have HB := aM (Below.refl w.heap.size w)
 have H : (if (a0_0.size : Int) ≤ 5000 then (some (decide ((l0_1.length : Int) ≤ 5000))) else (some false)) = some r := h
 clear h
 by_cases c2 : (a0_0.size : Int) ≤ 5000
 ·rw [if_pos c2] at H
  have c2b0 : decide ((a0_0.size : Int) ≤ 5000) = true := decide_eq_true c2
  have c2b1 : decide (a0_0.size ≤ 5000) = true := decide_eq_true (by omega)
  clear c2
  obtain rfl := Option.some.inj H
  go_enter Tryz.func28, Tryz.ntmps28
  go_wp2_with (first | ((with_reducible refine gate_dst (N := 1) rfl ?_); (try (refine gate_guard (by rfl) ?_; dsimp only)); refine box_event ?hg (N := 1) ?hd (cs := #[.string a0_0, .slice A0_1 l0_1.length c0_1]) (t := 24) ?hr ?_; (case hd | hg => rfl); (case hr => first | (go_simp; done) | (go_simp; rfl)); intro gb276 hg w3 hbox hb; have BK276 := aM (hbox); have GW276 := yG w hg; have GE276 := GW276; replace HB := yP w hb; clear hb hbox hg; have hcz4_0 := zC BK276.out 0 (.string a0_0); have hcz4_1 := zC BK276.out 1 (.slice A0_1 l0_1.length c0_1); have hfz4_0 := bF BK276.out 0; have hfz4_1 := bF BK276.out 1))
  go_ret
  exact ⟨ye, yH⟩
 ·rw [if_neg c2] at H
  have c2b0 : decide ((a0_0.size : Int) ≤ 5000) = false := decide_eq_false c2
  have c2b1 : decide (a0_0.size ≤ 5000) = false := decide_eq_false (by omega)
  clear c2
  obtain rfl := Option.some.inj H
  go_enter Tryz.func28, Tryz.ntmps28
  go_wp2_with (first | ((with_reducible refine gate_dst (N := 1) rfl ?_); (try (refine gate_guard (by rfl) ?_; dsimp only)); refine box_event ?hg (N := 1) ?hd (cs := #[.string a0_0, .slice A0_1 l0_1.length c0_1]) (t := 24) ?hr ?_; (case hd | hg => rfl); (case hr => first | (go_simp; done) | (go_simp; rfl)); intro gb276 hg w5 hbox hb; have BK276 := aM (hbox); have GW276 := yG w hg; have GE276 := GW276; replace HB := yP w hb; clear hb hbox hg; have hcz6_0 := zC BK276.out 0 (.string a0_0); have hcz6_1 := zC BK276.out 1 (.slice A0_1 l0_1.length c0_1); have hfz6_0 := bF BK276.out 0; have hfz6_1 := bF BK276.out 1))
  go_ret
  exact ⟨ye, yH⟩
end Go.Proofs.YtjkfkiebhgkolaaGreatDoor.PB
end

section
namespace Go.Proofs.YtjkfkiebhgkolaaGreatDoor.PB
open Go.RowKit Go.Proofs.YtjkfkiebhgkolaaGreatDoorW.PrintWords
set_option linter.unusedVariables false
theorem fits_eq (s : ByteArray) (l : List S68) : bureaulaw04_Fits.f s l = some (decide (s.size ≤ 5000 ∧ l.length ≤ 5000)) := by
 unfold bureaulaw04_Fits.f
 by_cases h : s.size ≤ 5000
 ·rw [if_pos (by omega)]
  congr 1
  rw [Bool.eq_iff_iff, decide_eq_true_iff, decide_eq_true_iff]
  omega
 ·rw [if_neg (by omega)]
  simp [h]
theorem wfT {x : S24} (h : wf24 x) : ∀ r ∈ x.f1, 0 ≤ r.f0 ∧ r.f0 < 18446744073709551616 := wf_labels h.2.2
theorem len_big {n : Nat} (h : n ≤ 20000) : n ≤ big := by unfold big; omega
theorem ext_all (s : ByteArray) : s.extract 0 s.size = s := by
 apply ByteArray.ext
 rw [ByteArray.data_extract]
 exact Array.extract_size
theorem ext_none (s : ByteArray) : s.extract s.size s.size = ByteArray.empty := by
 apply ByteArray.ext
 rw [ByteArray.data_extract]
 simp
theorem goodT_pack {s : ByteArray} {B : List Int} (h : B.length = s.size) (h4 : s.size ≤ 4096) : goodT s (pack B) = true := by
 obtain ⟨g1, t1⟩ := good_pack (show B.length ≤ 4096 by omega)
 exact goodT_iff.2 ⟨g1, by omega⟩
theorem catT_pack (s x : ByteArray) (B C : List Int) (hB : B.length = s.size) (hC : C.length = x.size) (h : s.size + x.size ≤ 4096) : catT s (pack B) x (pack C) = (s ++ x, pack (B ++ C), 0) := by
 have g1 := goodT_pack hB (by omega)
 have g2 := goodT_pack hC (by omega)
 unfold catT spliceT
 rw [if_pos (withinT_iff.2 ⟨g1, by omega, by omega, by omega⟩), if_pos g2, if_neg (by omega), Int.toNat_natCast, pack_bytes, pack_bytes, ext_all, ext_none, ← hB, List.take_length, List.drop_length, List.append_nil, ByteArray.append_empty]
end Go.Proofs.YtjkfkiebhgkolaaGreatDoor.PB
end

section
namespace Go.Proofs.YtjkfkiebhgkolaaGreatDoor.PB
open Go.RowKit Go.Proofs.YtjkfkiebhgkolaaGreatDoorW.PrintWords Go.Proofs.YtjkfkiebhgkolaaGreatDoorW.PrintLast Go.Proofs.YtjkfkiebhgkolaaGreatDoorW.PrintMore
set_option linter.unusedVariables false
set_option linter.unusedSimpArgs false
def edit_own.f (a0_0 : ByteArray) (l0_1 : List S68) : Option (ByteArray × List S68) := if l0_1.length * 16 ≤ 140737488355328 then some (a0_0, l0_1) else none
set_option maxHeartbeats 4000000 in
set_option maxRecDepth 100000 in
theorem edit_own.calls (a0_0 : ByteArray) (A0_1 : Option Addr) (c0_1 : Nat) (l0_1 : List S68) (r1 : ByteArray) (r2 : List S68) (w : World) (hr0_1 : Kd.C k68 w A0_1 l0_1.length l0_1) (hc0_1 : l0_1.length ≤ c0_1) (h : edit_own.f a0_0 l0_1 = some (r1, r2)) :
  Calls Tryz.prog 148 #[.agg #[.string a0_0, .slice A0_1 l0_1.length c0_1]] w fun e w' => ∃ v1_ : Value, e = .returned (.agg #[.string r1, v1_]) ∧ Kd.R k68 68 w' w.heap.size (fun _ => True) v1_ r2 ∧ Below w.heap.size w w' := by
 have hu24 := Tryz.underlying24
 unfold edit_own.f at h
 by_cases hl : l0_1.length * 16 ≤ 140737488355328
 case neg => rw [if_neg hl] at h; cases h
 rw [if_pos hl] at h
 simp only [Option.some.injEq, Prod.mk.injEq] at h
 obtain ⟨rfl, rfl⟩ := h
 have HR := aM hr0_1
 have HL := aM hl
 clear hr0_1 hl
 have HB := aM (Below.refl w.heap.size w)
 go_enter Tryz.func148, Tryz.ntmps148
 go_wp2_with fail
 have BK1 := aM (blk_drew (blk_alloc (blk_new w (.cells #[.string a0_0, .slice A0_1 l0_1.length c0_1] 24)) (.cells #[.string (⟨#[]⟩ : ByteArray), .slice none 0 0] 24)))
 have BK2 := aM (blk_drew (blk_new (w.alloc (.cells #[.string a0_0, .slice A0_1 l0_1.length c0_1] 24)) (.cells #[.string (⟨#[]⟩ : ByteArray), .slice none 0 0] 24)))
 have HB2 := aM (((((Below.refl w.heap.size w).alloc (Nat.le_refl _) (.cells #[.string a0_0, .slice A0_1 l0_1.length c0_1] 24)).alloc (by simp) (.cells #[.string (⟨#[]⟩ : ByteArray), .slice none 0 0] 24))).drew)
 rw [show (w.alloc (.cells #[.string a0_0, .slice A0_1 l0_1.length c0_1] 24)).heap.size = w.heap.size + 1 by simp] at BK2
 refine start_ (n := 7) (S := fun w' => w'.cell? ⟨w.heap.size, 0, none⟩ = some (.string a0_0) ∧ w'.cell? ⟨w.heap.size, 1, none⟩ = some (.slice A0_1 l0_1.length c0_1)) (ds := [6]) #[false, false, false, false, false, false, false] (by kernel_rfl) rfl rfl ⟨(bC BK1.out 0).trans rfl, (bC BK1.out 1).trans rfl⟩ (fun hHeld => ?_)
 generalize ((w.alloc (.cells #[.string a0_0, .slice A0_1 l0_1.length c0_1] 24)).alloc (.cells #[.string (⟨#[]⟩ : ByteArray), .slice none 0 0] 24)).drew = w2 at BK1 BK2 HB2 hHeld ⊢
 refine pure_ (i := 0) (N := some 3) (v := ?_) (a' := ?_) #[true, false, false, false, false, false, false] rfl rfl (by kernel_rfl) (fun _ _ _ h => h) (Or.inl ⟨by rfl, ?_⟩) ?_ ?_
 rotate_left
 ·intro w'
  go_simp
  with_reducible rfl
 rotate_left
 ·simp only [Act.put, List.setIfInBounds_toArray, List.set_cons_zero, List.set_cons_succ]
  rfl
 refine pure_ (i := 2) (N := some 5) (v := ?_) (a' := ?_) #[true, false, true, false, false, false, false] rfl rfl (by kernel_rfl) (fun _ _ _ h => h) (Or.inl ⟨by rfl, ?_⟩) ?_ ?_
 rotate_left
 ·intro w'
  go_simp
  with_reducible rfl
 rotate_left
 ·simp only [Act.put, List.setIfInBounds_toArray, List.set_cons_zero, List.set_cons_succ]
  rfl
 refine take_ (i := 1) (N := some 4) (v := ?_) (a' := ?_) #[true, true, true, false, false, false, false] rfl rfl (by kernel_rfl) (fun _ _ _ h => h) (Or.inl ⟨by rfl, ?_⟩) hHeld ?_ ?_
 rotate_left
 ·rintro w' ⟨s0, s1⟩
  go_simp
  with_reducible rfl
 rotate_left
 ·simp only [Act.put, List.setIfInBounds_toArray, List.set_cons_zero, List.set_cons_succ]
  rfl
 refine take_ (i := 3) (N := some 6) (v := ?_) (a' := ?_) #[true, true, true, true, false, false, false] rfl rfl (by kernel_rfl) (fun _ _ _ h => h) (Or.inl ⟨by rfl, ?_⟩) hHeld ?_ ?_
 rotate_left
 ·rintro w' ⟨s0, s1⟩
  go_simp
  with_reducible rfl
 rotate_left
 ·simp only [Act.put, List.setIfInBounds_toArray, List.set_cons_zero, List.set_cons_succ]
  rfl
 refine one_ (i := 4) (N := some 7) #[true, true, true, true, true, false, false] rfl rfl (by kernel_rfl) (by decide) (fun K hK => ?_)
 refine Kd.R_append_rows_step k68 (w0 := w) w.heap.size (by rfl) (.const (.slice none 0 0)) (.tmp 6) 22 68 (.agg #[(.int .u64 0), (.int .i64 0)]) 16 rfl Tryz.underlying22 info68 rfl (by decide) (by omega) (.slice none 0 0) [] l0_1 A0_1 l0_1.length c0_1 (fun _ => True) (fun _ => False) rfl rfl (Kd.R_nil _ _ _ _ _) (cB_ HR.out HB2.out) (fun x cs h => by rw [k68_open h]; exact k68_mkM _ _ _ x) (fun _ h => h.elim) (fun _ _ => trivial) HB2.out HB2.out.size (by simpa using HL.out) ?_
 intro v1 w3 ho hb hg1 hat
 rw [List.nil_append] at ho
 have BK3 := aM (blk_grown BK1.out hg1 (by simp [Value.ownBlock]))
 have BK4 := aM (blk_grown BK2.out hg1 (by simp [Value.ownBlock]))
 have HO := aM ho
 have HB3 := aM hb
 obtain ⟨A1, c1, rfl⟩ := Kd.R_slice ho
 clear ho hb hg1 hat
 refine hK.out _ _ ⟨(bC BK3.out 0).trans rfl, (bC BK3.out 1).trans rfl⟩ (fun hHeld => ?_)
 clear hK K
 refine norm_ (a' := ?_) ?_ ?_
 rotate_left
 ·show Act.put _ (some 7) _ = _
  simp only [Act.put, List.setIfInBounds_toArray, List.set_cons_zero, List.set_cons_succ]
  rfl
 refine pure_ (i := 5) (N := some 8) (v := ?_) (a' := ?_) #[true, true, true, true, true, true, false] rfl rfl (by kernel_rfl) (fun _ _ _ h => h) (Or.inl ⟨by rfl, ?_⟩) ?_ ?_
 rotate_left
 ·intro w'
  go_simp
  with_reducible rfl
 rotate_left
 ·simp only [Act.put, List.setIfInBounds_toArray, List.set_cons_zero, List.set_cons_succ]
  rfl
 refine last_ (i := 6) (N := none) #[true, true, true, true, true, true, true] rfl rfl (by kernel_rfl) (by decide) (fun K hK => ?_)
 have hs0 : w3.cell? ⟨w.heap.size + 1, 0, none⟩ = some (.string (⟨#[]⟩ : ByteArray)) := (bC BK4.out 0).trans rfl
 have hf0 := bF BK4.out 0
 have hs1 : w3.cell? ⟨w.heap.size + 1, 1, none⟩ = some (.slice none 0 0) := (bC BK4.out 1).trans rfl
 have hf1 := bF BK4.out 1
 refine skip_ (w1 := ?_) (by rfl) rfl ?_ ?_
 rotate_left
 ·go_simp
  rfl
 refine hK.out _ _ (done_ (by kernel_rfl) ?_)
 clear hK K
 go_wp2
 refine bodyPost_ret (results_cell_row rfl _ _ (w.heap.size + 1) 24 #[.string a0_0, .slice A1 l0_1.length c1] (0, 0) _ rfl (bU (cs := #[.string a0_0, .slice none 0 0]) (bU (cs := #[.string (⟨#[]⟩ : ByteArray), .slice none 0 0]) BK4.out 0 _ rfl) 1 _ rfl) Tryz.underlying24 rfl (by kernel_rfl)) rfl ?_
 exact ⟨_, rfl, rM (rF (p := ⟨w.heap.size + 1, 1, none⟩) (rF (p := ⟨w.heap.size + 1, 0, none⟩) (rT HO.out BK4.out (by decide)) (fun _ hk => hk.2) (.string a0_0)) (fun _ hk => hk.2) _) (fun _ hk => hk.1), (HB3.out.setCell (Nat.le_succ _) _).setCell (Nat.le_succ _) _⟩
end Go.Proofs.YtjkfkiebhgkolaaGreatDoor.PB
end

section
namespace Go.Proofs.YtjkfkiebhgkolaaGreatDoor.PB
open Go.RowKit Go.Proofs.YtjkfkiebhgkolaaGreatDoorW.PrintWords Go.Proofs.YtjkfkiebhgkolaaGreatDoorW.PrintLast Go.Proofs.YtjkfkiebhgkolaaGreatDoorW.PrintMore
attribute [local go_sem] max2_int min2_int max_two min_two max_three min_three max_four min_four   
set_option linter.unusedVariables false
set_option linter.unusedSimpArgs false
def edit_good.f (k : Nat) (a0_0 : Int) (a0_1 : ByteArray) (l0_2 : List (S68)) (a0_3 : ByteArray) (l0_4 : List (S68)) : Option (Bool) := (strip_Good.f k a0_1 l0_2).bind fun t151 => (if t151 = true then ((strip_Good.f k a0_3 l0_4).bind fun t152 => (if t152 = true then (if a0_0 ≥ 0 then (some (decide (a0_0 ≤ 4096))) else (some false)) else (some false))) else (some false))
set_option maxHeartbeats 8000000 in
set_option maxRecDepth 100000 in
theorem edit_good.calls (k : Nat) (a0_0 : Int) (a0_1 : ByteArray) (A0_2 : Option Addr) (c0_2 : Nat) (l0_2 : List (S68)) (a0_3 : ByteArray) (A0_4 : Option Addr) (c0_4 : Nat) (l0_4 : List (S68)) (r : Bool) (w : World) (hr0_2 : Kd.C k68 w A0_2 l0_2.length l0_2) (hc0_2 : l0_2.length ≤ c0_2) (hr0_4 : Kd.C k68 w A0_4 l0_4.length l0_4) (hc0_4 : l0_4.length ≤ c0_4) (h : edit_good.f k a0_0 a0_1 l0_2 a0_3 l0_4 = some r) :
  Calls Tryz.prog 149 #[.agg #[.int .i64 a0_0, .string a0_1, .slice A0_2 l0_2.length c0_2, .string a0_3, .slice A0_4 l0_4.length c0_4]] w fun e w' => e = .returned (.bool r) ∧ Below w.heap.size w w' := by
 have hu36 := Tryz.underlying36
 have hu24 := Tryz.underlying24
 have HR0_2 := aM hr0_2
 have HC0_2 := aM hc0_2
 clear hr0_2 hc0_2
 have HR0_4 := aM hr0_4
 have HC0_4 := aM hc0_4
 clear hr0_4 hc0_4
 have HB := aM (Below.refl w.heap.size w)
 have H : ((strip_Good.f k a0_1 l0_2).bind fun t151 => (if t151 = true then ((strip_Good.f k a0_3 l0_4).bind fun t152 => (if t152 = true then (if a0_0 ≥ 0 then (some (decide (a0_0 ≤ 4096))) else (some false)) else (some false))) else (some false))) = some r := h
 clear h
 replace H := Option.bind_eq_some_iff.mp H
 obtain ⟨t151, A20, H⟩ := H
 replace H : (if t151 = true then ((strip_Good.f k a0_3 l0_4).bind fun t152 => (if t152 = true then (if a0_0 ≥ 0 then (some (decide (a0_0 ≤ 4096))) else (some false)) else (some false))) else (some false)) = some r := H
 have A2 := aM A20
 clear A20
 by_cases c3 : t151 = true
 ·subst c3
  rw [if_pos rfl] at H
  replace H := Option.bind_eq_some_iff.mp H
  obtain ⟨t152, A40, H⟩ := H
  replace H : (if t152 = true then (if a0_0 ≥ 0 then (some (decide (a0_0 ≤ 4096))) else (some false)) else (some false)) = some r := H
  have A4 := aM A40
  clear A40
  by_cases c5 : t152 = true
  ·subst c5
   rw [if_pos rfl] at H
   by_cases c6 : a0_0 ≥ 0
   ·rw [if_pos c6] at H
    have c6b0 : decide (0 ≤ a0_0) = true := decide_eq_true c6
    clear c6
    obtain rfl := Option.some.inj H
    go_enter Tryz.func149, Tryz.ntmps149
    go_wp2_with (first | (refine yX 1 #[.int .i64 a0_0, .string a0_1, .slice A0_2 l0_2.length c0_2, .string a0_3, .slice A0_4 l0_4.length c0_4] 36 (fun gb150 hg w7 hbox hb => ?_); have BK150 := hbox; have GW150 := yG w hg; have GE150 := GW150; replace HB := yP w hb; clear hb hbox hg; have hcz8_0 := zC BK150.out 0 (.int .i64 a0_0); have hcz8_1 := zC BK150.out 1 (.string a0_1); have hcz8_2 := zC BK150.out 2 (.slice A0_2 l0_2.length c0_2); have hcz8_3 := zC BK150.out 3 (.string a0_3); have hcz8_4 := zC BK150.out 4 (.slice A0_4 l0_4.length c0_4); have hfz8_0 := bF BK150.out 0; have hfz8_1 := bF BK150.out 1; have hfz8_2 := bF BK150.out 2; have hfz8_3 := bF BK150.out 3; have hfz8_4 := bF BK150.out 4) | (refine yC (some 5) Tryz.func59 #[.agg #[.string a0_1, .slice A0_2 l0_2.length c0_2]] ?_; (with_reducible refine (strip_Good.calls k a0_1 _ _ l0_2 true _ ?side1 ?side2 A2.out).mono ?_); (case side1 => exact yR HR0_2); (case side2 => exact HC0_2.out); rintro e w9 ⟨rfl, hb⟩; refine ⟨_, rfl, ?_⟩; replace BK150 := yB hb BK150; replace HB := yP w hb; clear hb; have hcz10_0 := zC BK150.out 0 (.int .i64 a0_0); have hcz10_1 := zC BK150.out 1 (.string a0_1); have hcz10_2 := zC BK150.out 2 (.slice A0_2 l0_2.length c0_2); have hcz10_3 := zC BK150.out 3 (.string a0_3); have hcz10_4 := zC BK150.out 4 (.slice A0_4 l0_4.length c0_4); have hfz10_0 := bF BK150.out 0; have hfz10_1 := bF BK150.out 1; have hfz10_2 := bF BK150.out 2; have hfz10_3 := bF BK150.out 3; have hfz10_4 := bF BK150.out 4) | (go_at_call 59; (with_reducible refine (strip_Good.calls k a0_3 _ _ l0_4 true _ ?side1 ?side2 A4.out).mono ?_); (case side1 => exact yR HR0_4); (case side2 => exact HC0_4.out); rintro e w11 ⟨rfl, hb⟩; replace BK150 := yB hb BK150; replace HB := yP w hb; clear hb; have hcz12_0 := zC BK150.out 0 (.int .i64 a0_0); have hcz12_1 := zC BK150.out 1 (.string a0_1); have hcz12_2 := zC BK150.out 2 (.slice A0_2 l0_2.length c0_2); have hcz12_3 := zC BK150.out 3 (.string a0_3); have hcz12_4 := zC BK150.out 4 (.slice A0_4 l0_4.length c0_4); have hfz12_0 := bF BK150.out 0; have hfz12_1 := bF BK150.out 1; have hfz12_2 := bF BK150.out 2; have hfz12_3 := bF BK150.out 3; have hfz12_4 := bF BK150.out 4))
    go_ret
    exact ⟨ye, yH⟩
   ·rw [if_neg c6] at H
    have c6b0 : decide (0 ≤ a0_0) = false := decide_eq_false c6
    clear c6
    obtain rfl := Option.some.inj H
    go_enter Tryz.func149, Tryz.ntmps149
    go_wp2_with (first | (refine yX 1 #[.int .i64 a0_0, .string a0_1, .slice A0_2 l0_2.length c0_2, .string a0_3, .slice A0_4 l0_4.length c0_4] 36 (fun gb150 hg w13 hbox hb => ?_); have BK150 := hbox; have GW150 := yG w hg; have GE150 := GW150; replace HB := yP w hb; clear hb hbox hg; have hcz14_0 := zC BK150.out 0 (.int .i64 a0_0); have hcz14_1 := zC BK150.out 1 (.string a0_1); have hcz14_2 := zC BK150.out 2 (.slice A0_2 l0_2.length c0_2); have hcz14_3 := zC BK150.out 3 (.string a0_3); have hcz14_4 := zC BK150.out 4 (.slice A0_4 l0_4.length c0_4); have hfz14_0 := bF BK150.out 0; have hfz14_1 := bF BK150.out 1; have hfz14_2 := bF BK150.out 2; have hfz14_3 := bF BK150.out 3; have hfz14_4 := bF BK150.out 4) | (refine yC (some 5) Tryz.func59 #[.agg #[.string a0_1, .slice A0_2 l0_2.length c0_2]] ?_; (with_reducible refine (strip_Good.calls k a0_1 _ _ l0_2 true _ ?side1 ?side2 A2.out).mono ?_); (case side1 => exact yR HR0_2); (case side2 => exact HC0_2.out); rintro e w15 ⟨rfl, hb⟩; refine ⟨_, rfl, ?_⟩; replace BK150 := yB hb BK150; replace HB := yP w hb; clear hb; have hcz16_0 := zC BK150.out 0 (.int .i64 a0_0); have hcz16_1 := zC BK150.out 1 (.string a0_1); have hcz16_2 := zC BK150.out 2 (.slice A0_2 l0_2.length c0_2); have hcz16_3 := zC BK150.out 3 (.string a0_3); have hcz16_4 := zC BK150.out 4 (.slice A0_4 l0_4.length c0_4); have hfz16_0 := bF BK150.out 0; have hfz16_1 := bF BK150.out 1; have hfz16_2 := bF BK150.out 2; have hfz16_3 := bF BK150.out 3; have hfz16_4 := bF BK150.out 4) | (go_at_call 59; (with_reducible refine (strip_Good.calls k a0_3 _ _ l0_4 true _ ?side1 ?side2 A4.out).mono ?_); (case side1 => exact yR HR0_4); (case side2 => exact HC0_4.out); rintro e w17 ⟨rfl, hb⟩; replace BK150 := yB hb BK150; replace HB := yP w hb; clear hb; have hcz18_0 := zC BK150.out 0 (.int .i64 a0_0); have hcz18_1 := zC BK150.out 1 (.string a0_1); have hcz18_2 := zC BK150.out 2 (.slice A0_2 l0_2.length c0_2); have hcz18_3 := zC BK150.out 3 (.string a0_3); have hcz18_4 := zC BK150.out 4 (.slice A0_4 l0_4.length c0_4); have hfz18_0 := bF BK150.out 0; have hfz18_1 := bF BK150.out 1; have hfz18_2 := bF BK150.out 2; have hfz18_3 := bF BK150.out 3; have hfz18_4 := bF BK150.out 4))
    go_ret
    exact ⟨ye, yH⟩
  ·replace c5 := Bool.eq_false_iff.mpr c5
   subst c5
   rw [if_neg (show ¬ (false = true) by decide)] at H
   obtain rfl := Option.some.inj H
   go_enter Tryz.func149, Tryz.ntmps149
   go_wp2_with (first | (refine yX 1 #[.int .i64 a0_0, .string a0_1, .slice A0_2 l0_2.length c0_2, .string a0_3, .slice A0_4 l0_4.length c0_4] 36 (fun gb150 hg w19 hbox hb => ?_); have BK150 := hbox; have GW150 := yG w hg; have GE150 := GW150; replace HB := yP w hb; clear hb hbox hg; have hcz20_0 := zC BK150.out 0 (.int .i64 a0_0); have hcz20_1 := zC BK150.out 1 (.string a0_1); have hcz20_2 := zC BK150.out 2 (.slice A0_2 l0_2.length c0_2); have hcz20_3 := zC BK150.out 3 (.string a0_3); have hcz20_4 := zC BK150.out 4 (.slice A0_4 l0_4.length c0_4); have hfz20_0 := bF BK150.out 0; have hfz20_1 := bF BK150.out 1; have hfz20_2 := bF BK150.out 2; have hfz20_3 := bF BK150.out 3; have hfz20_4 := bF BK150.out 4) | (refine yC (some 5) Tryz.func59 #[.agg #[.string a0_1, .slice A0_2 l0_2.length c0_2]] ?_; (with_reducible refine (strip_Good.calls k a0_1 _ _ l0_2 true _ ?side1 ?side2 A2.out).mono ?_); (case side1 => exact yR HR0_2); (case side2 => exact HC0_2.out); rintro e w21 ⟨rfl, hb⟩; refine ⟨_, rfl, ?_⟩; replace BK150 := yB hb BK150; replace HB := yP w hb; clear hb; have hcz22_0 := zC BK150.out 0 (.int .i64 a0_0); have hcz22_1 := zC BK150.out 1 (.string a0_1); have hcz22_2 := zC BK150.out 2 (.slice A0_2 l0_2.length c0_2); have hcz22_3 := zC BK150.out 3 (.string a0_3); have hcz22_4 := zC BK150.out 4 (.slice A0_4 l0_4.length c0_4); have hfz22_0 := bF BK150.out 0; have hfz22_1 := bF BK150.out 1; have hfz22_2 := bF BK150.out 2; have hfz22_3 := bF BK150.out 3; have hfz22_4 := bF BK150.out 4) | (go_at_call 59; (with_reducible refine (strip_Good.calls k a0_3 _ _ l0_4 false _ ?side1 ?side2 A4.out).mono ?_); (case side1 => exact yR HR0_4); (case side2 => exact HC0_4.out); rintro e w23 ⟨rfl, hb⟩; replace BK150 := yB hb BK150; replace HB := yP w hb; clear hb))
   go_ret
   exact ⟨ye, yH⟩
 ·replace c3 := Bool.eq_false_iff.mpr c3
  subst c3
  rw [if_neg (show ¬ (false = true) by decide)] at H
  obtain rfl := Option.some.inj H
  go_enter Tryz.func149, Tryz.ntmps149
  go_wp2_with (first | (refine yX 1 #[.int .i64 a0_0, .string a0_1, .slice A0_2 l0_2.length c0_2, .string a0_3, .slice A0_4 l0_4.length c0_4] 36 (fun gb150 hg w24 hbox hb => ?_); have BK150 := hbox; have GW150 := yG w hg; have GE150 := GW150; replace HB := yP w hb; clear hb hbox hg; have hcz25_0 := zC BK150.out 0 (.int .i64 a0_0); have hcz25_1 := zC BK150.out 1 (.string a0_1); have hcz25_2 := zC BK150.out 2 (.slice A0_2 l0_2.length c0_2); have hcz25_3 := zC BK150.out 3 (.string a0_3); have hcz25_4 := zC BK150.out 4 (.slice A0_4 l0_4.length c0_4); have hfz25_0 := bF BK150.out 0; have hfz25_1 := bF BK150.out 1; have hfz25_2 := bF BK150.out 2; have hfz25_3 := bF BK150.out 3; have hfz25_4 := bF BK150.out 4) | (refine yC (some 5) Tryz.func59 #[.agg #[.string a0_1, .slice A0_2 l0_2.length c0_2]] ?_; (with_reducible refine (strip_Good.calls k a0_1 _ _ l0_2 false _ ?side1 ?side2 A2.out).mono ?_); (case side1 => exact yR HR0_2); (case side2 => exact HC0_2.out); rintro e w26 ⟨rfl, hb⟩; refine ⟨_, rfl, ?_⟩; replace BK150 := yB hb BK150; replace HB := yP w hb; clear hb))
  go_ret
  exact ⟨ye, yH⟩
def edit_Apply.f (k : Nat) (a0_0 : ByteArray) (l0_1 : List (S68)) (a1_0 : Int) (a1_1 : ByteArray) (l1_2 : List (S68)) (a1_3 : ByteArray) (l1_4 : List (S68)) : Option (ByteArray × (List (S68)) × Int) := (edit_good.f k a1_0 a1_1 l1_2 a1_3 l1_4).bind fun t161 => (if t161 = true then ((strip_Cut.f k a0_0 l0_1 a1_0 (wrap64 (a1_0 + (a1_1.size : Int)))).bind fun bt162 => (if bt162.2.2 = 0 then ((strip_Same.f k bt162.1 bt162.2.1 a1_1 l1_2).bind fun t168 => (if t168 = true then ((strip_Splice.f k a0_0 l0_1 a1_0 (wrap64 (a1_0 + (a1_1.size : Int))) a1_3 l1_4).bind fun bt169 => (some (bt169.1, bt169.2.1, bt169.2.2))) else (some ((⟨#[]⟩ : ByteArray), ([] : List (S68)), 7)))) else (some ((⟨#[]⟩ : ByteArray), ([] : List (S68)), bt162.2.2)))) else (some ((⟨#[]⟩ : ByteArray), ([] : List (S68)), 2)))
set_option maxHeartbeats 8000000 in
set_option maxRecDepth 100000 in
theorem edit_Apply.calls (k : Nat) (a0_0 : ByteArray) (A0_1 : Option Addr) (c0_1 : Nat) (l0_1 : List (S68)) (a1_0 : Int) (a1_1 : ByteArray) (A1_2 : Option Addr) (c1_2 : Nat) (l1_2 : List (S68)) (a1_3 : ByteArray) (A1_4 : Option Addr) (c1_4 : Nat) (l1_4 : List (S68)) (r1 : ByteArray) (r2 : List (S68)) (r3 : Int) (w : World) (hr0_1 : Kd.C k68 w A0_1 l0_1.length l0_1) (hc0_1 : l0_1.length ≤ c0_1) (hr1_2 : Kd.C k68 w A1_2 l1_2.length l1_2) (hc1_2 : l1_2.length ≤ c1_2) (hr1_4 : Kd.C k68 w A1_4 l1_4.length l1_4) (hc1_4 : l1_4.length ≤ c1_4) (h : edit_Apply.f k a0_0 l0_1 a1_0 a1_1 l1_2 a1_3 l1_4 = some (r1, r2, r3)) :
  Calls Tryz.prog 105 #[.agg #[.string a0_0, .slice A0_1 l0_1.length c0_1], .agg #[.int .i64 a1_0, .string a1_1, .slice A1_2 l1_2.length c1_2, .string a1_3, .slice A1_4 l1_4.length c1_4]] w fun e w' => ∃ v1_ : Value, e = .returned (.tuple #[.agg #[.string r1, v1_], .int .i64 r3]) ∧ Kd.R k68 68 w' w.heap.size (fun _ => True) v1_ r2 ∧ Below w.heap.size w w' := by
 have hu24 := Tryz.underlying24
 have hu36 := Tryz.underlying36
 have HR0_1 := aM hr0_1
 have HC0_1 := aM hc0_1
 clear hr0_1 hc0_1
 have HR1_2 := aM hr1_2
 have HC1_2 := aM hc1_2
 clear hr1_2 hc1_2
 have HR1_4 := aM hr1_4
 have HC1_4 := aM hc1_4
 clear hr1_4 hc1_4
 have HB := aM (Below.refl w.heap.size w)
 have H : ((edit_good.f k a1_0 a1_1 l1_2 a1_3 l1_4).bind fun t161 => (if t161 = true then ((strip_Cut.f k a0_0 l0_1 a1_0 (wrap64 (a1_0 + (a1_1.size : Int)))).bind fun bt162 => (if bt162.2.2 = 0 then ((strip_Same.f k bt162.1 bt162.2.1 a1_1 l1_2).bind fun t168 => (if t168 = true then ((strip_Splice.f k a0_0 l0_1 a1_0 (wrap64 (a1_0 + (a1_1.size : Int))) a1_3 l1_4).bind fun bt169 => (some (bt169.1, bt169.2.1, bt169.2.2))) else (some ((⟨#[]⟩ : ByteArray), ([] : List (S68)), 7)))) else (some ((⟨#[]⟩ : ByteArray), ([] : List (S68)), bt162.2.2)))) else (some ((⟨#[]⟩ : ByteArray), ([] : List (S68)), 2)))) = some (r1, r2, r3) := h
 clear h
 replace H := Option.bind_eq_some_iff.mp H
 obtain ⟨t161, A30, H⟩ := H
 replace H : (if t161 = true then ((strip_Cut.f k a0_0 l0_1 a1_0 (wrap64 (a1_0 + (a1_1.size : Int)))).bind fun bt162 => (if bt162.2.2 = 0 then ((strip_Same.f k bt162.1 bt162.2.1 a1_1 l1_2).bind fun t168 => (if t168 = true then ((strip_Splice.f k a0_0 l0_1 a1_0 (wrap64 (a1_0 + (a1_1.size : Int))) a1_3 l1_4).bind fun bt169 => (some (bt169.1, bt169.2.1, bt169.2.2))) else (some ((⟨#[]⟩ : ByteArray), ([] : List (S68)), 7)))) else (some ((⟨#[]⟩ : ByteArray), ([] : List (S68)), bt162.2.2)))) else (some ((⟨#[]⟩ : ByteArray), ([] : List (S68)), 2))) = some (r1, r2, r3) := H
 have A3 := aM A30
 clear A30
 by_cases c4 : t161 = true
 ·subst c4
  rw [if_pos rfl] at H
  replace H := Option.bind_eq_some_iff.mp H
  obtain ⟨⟨t162, t163, t166⟩, A50, H⟩ := H
  replace H : (if t166 = 0 then ((strip_Same.f k t162 t163 a1_1 l1_2).bind fun t168 => (if t168 = true then ((strip_Splice.f k a0_0 l0_1 a1_0 (wrap64 (a1_0 + (a1_1.size : Int))) a1_3 l1_4).bind fun bt169 => (some (bt169.1, bt169.2.1, bt169.2.2))) else (some ((⟨#[]⟩ : ByteArray), ([] : List (S68)), 7)))) else (some ((⟨#[]⟩ : ByteArray), ([] : List (S68)), t166))) = some (r1, r2, r3) := H
  have A5 := aM A50
  clear A50
  by_cases c6 : t166 = 0
  ·rw [if_pos c6] at H
   have c6b0 : (t166 == 0) = true := beq_iff_eq.mpr c6
   have c6b1 : (t166 != 0) = false := bne_eq_false_iff_eq.mpr c6
   clear c6
   replace H := Option.bind_eq_some_iff.mp H
   obtain ⟨t168, A70, H⟩ := H
   replace H : (if t168 = true then ((strip_Splice.f k a0_0 l0_1 a1_0 (wrap64 (a1_0 + (a1_1.size : Int))) a1_3 l1_4).bind fun bt169 => (some (bt169.1, bt169.2.1, bt169.2.2))) else (some ((⟨#[]⟩ : ByteArray), ([] : List (S68)), 7))) = some (r1, r2, r3) := H
   have A7 := aM A70
   clear A70
   by_cases c8 : t168 = true
   ·subst c8
    rw [if_pos rfl] at H
    replace H := Option.bind_eq_some_iff.mp H
    obtain ⟨⟨t169, t170, t173⟩, A90, H⟩ := H
    replace H : (some (t169, t170, t173)) = some (r1, r2, r3) := H
    have A9 := aM A90
    clear A90
    simp only [Option.some.injEq, Prod.mk.injEq] at H
    obtain ⟨rfl, rfl, rfl⟩ := H
    go_enter Tryz.func105, Tryz.ntmps105
    go_wp2_with (first | (refine yX 2 #[.string a0_0, .slice A0_1 l0_1.length c0_1] 24 (fun gb158 hg w10 hbox hb => ?_); have BK158 := hbox; have GW158 := yG w hg; have GE158 := GW158; replace HB := yP w hb; clear hb hbox hg) | (refine yX 3 #[.int .i64 a1_0, .string a1_1, .slice A1_2 l1_2.length c1_2, .string a1_3, .slice A1_4 l1_4.length c1_4] 36 (fun gb159 hg w11 hbox hb => ?_); have BK159 := hbox; have GW159 := yG w hg; have GE159 := GW159; have NB158_159 := yN hg BK158; have NB159_158 := yM hg BK158; replace BK158 := yB hb BK158; replace HB := yP w hb; clear hb hbox hg) | (refine yX 4 #[.string (⟨#[]⟩ : ByteArray), .slice none 0 0] 24 (fun gb160 hg w12 hbox hb => ?_); have BK160 := hbox; have GW160 := yG w hg; have GE160 := GW160; have NB158_160 := yN hg BK158; have NB160_158 := yM hg BK158; have NB159_160 := yN hg BK159; have NB160_159 := yM hg BK159; replace BK158 := yB hb BK158; replace BK159 := yB hb BK159; replace HB := yP w hb; clear hb hbox hg; have hnb13 := NB159_158.out; have hnc13 := NB158_159.out; have hnb14 := NB159_160.out; have hnc14 := NB160_159.out; have hcz15_0 := zC BK159.out 0 (.int .i64 a1_0); have hcz15_1 := zC BK159.out 1 (.string a1_1); have hcz15_2 := zC BK159.out 2 (.slice A1_2 l1_2.length c1_2); have hcz15_3 := zC BK159.out 3 (.string a1_3); have hcz15_4 := zC BK159.out 4 (.slice A1_4 l1_4.length c1_4); have hfz15_0 := bF BK159.out 0; have hfz15_1 := bF BK159.out 1; have hfz15_2 := bF BK159.out 2; have hfz15_3 := bF BK159.out 3; have hfz15_4 := bF BK159.out 4) | (refine yC (some 10) Tryz.func149 #[.agg #[.int .i64 a1_0, .string a1_1, .slice A1_2 l1_2.length c1_2, .string a1_3, .slice A1_4 l1_4.length c1_4]] ?_; (with_reducible refine (edit_good.calls k a1_0 a1_1 _ _ l1_2 a1_3 _ _ l1_4 true _ ?side1 ?side2 ?side3 ?side4 A3.out).mono ?_); (case side1 => exact yR HR1_2); (case side2 => exact HC1_2.out); (case side3 => exact yR HR1_4); (case side4 => exact HC1_4.out); rintro e w16 ⟨rfl, hb⟩; refine ⟨_, rfl, ?_⟩; replace BK158 := yB hb BK158; replace BK159 := yB hb BK159; replace BK160 := yB hb BK160; replace HB := yP w hb; clear hb; have hcz17_0 := zC BK159.out 0 (.int .i64 a1_0); have hcz17_1 := zC BK159.out 1 (.string a1_1); have hcz17_2 := zC BK159.out 2 (.slice A1_2 l1_2.length c1_2); have hcz17_3 := zC BK159.out 3 (.string a1_3); have hcz17_4 := zC BK159.out 4 (.slice A1_4 l1_4.length c1_4); have hfz17_0 := bF BK159.out 0; have hfz17_1 := bF BK159.out 1; have hfz17_2 := bF BK159.out 2; have hfz17_3 := bF BK159.out 3; have hfz17_4 := bF BK159.out 4; have hnb18 := NB158_160.out; have hnc18 := NB160_158.out; have hcz19_0 := zC BK158.out 0 (.string a0_0); have hcz19_1 := zC BK158.out 1 (.slice A0_1 l0_1.length c0_1); have hfz19_0 := bF BK158.out 0; have hfz19_1 := bF BK158.out 1) | (refine yC (some 25) Tryz.func74 #[.agg #[.string a0_0, .slice A0_1 l0_1.length c0_1], .int .i64 a1_0, .int .i64 (wrap64 (a1_0 + (a1_1.size : Int)))] ?_; (with_reducible refine (strip_Cut.calls k a0_0 _ _ l0_1 a1_0 (wrap64 (a1_0 + (a1_1.size : Int))) t162 t163 t166 _ ?side1 ?side2 A5.out).mono ?_); (case side1 => exact yR HR0_1); (case side2 => exact HC0_1.out); rintro e w20 ⟨v164, rfl, ho0, hb⟩; refine ⟨_, rfl, ?_⟩; have HO165 := aM (rL ho0 (bZ (yH))); replace BK158 := yB hb BK158; replace BK159 := yB hb BK159; replace BK160 := yB hb BK160; replace HB := yP w hb; clear hb; (try clear ho0)) | (refine yX 7 #[.string (⟨#[]⟩ : ByteArray), .slice none 0 0] 24 (fun gb167 hg w21 hbox hb => ?_); have BK167 := hbox; have GW167 := yG w hg; have GE167 := GW167; have NB158_167 := yN hg BK158; have NB167_158 := yM hg BK158; have NB159_167 := yN hg BK159; have NB167_159 := yM hg BK159; have NB160_167 := yN hg BK160; have NB167_160 := yM hg BK160; replace HO165 := aM (Kd.R_below (ry HO165.out) hb); replace BK158 := yB hb BK158; replace BK159 := yB hb BK159; replace BK160 := yB hb BK160; replace HB := yP w hb; clear hb hbox hg; have hnb22 := NB167_158.out; have hnc22 := NB158_167.out; have hnb23 := NB167_159.out; have hnc23 := NB159_167.out; have hnb24 := NB167_160.out; have hnc24 := NB160_167.out; have hcz25_0 := zC BK167.out 0 (.string (⟨#[]⟩ : ByteArray)); have hcz25_1 := zC BK167.out 1 (.slice none 0 0); have hfz25_0 := bF BK167.out 0; have hfz25_1 := bF BK167.out 1; obtain ⟨Ao26, co26, eo26⟩ := Kd.R_slice HO165.out; subst eo26; have hcz27_0 := zC BK159.out 0 (.int .i64 a1_0); have hcz27_1 := zC BK159.out 1 (.string a1_1); have hcz27_2 := zC BK159.out 2 (.slice A1_2 l1_2.length c1_2); have hcz27_3 := zC BK159.out 3 (.string a1_3); have hcz27_4 := zC BK159.out 4 (.slice A1_4 l1_4.length c1_4); have hfz27_0 := bF BK159.out 0; have hfz27_1 := bF BK159.out 1; have hfz27_2 := bF BK159.out 2; have hfz27_3 := bF BK159.out 3; have hfz27_4 := bF BK159.out 4) | (refine yC (some 37) Tryz.func150 #[.agg #[.string t162, .slice Ao26 t163.length co26], .agg #[.string a1_1, .slice A1_2 l1_2.length c1_2]] ?_; (with_reducible refine (strip_Same.calls k t162 _ _ t163 a1_1 _ _ l1_2 true _ ?side1 ?side2 ?side3 ?side4 A7.out).mono ?_); (case side1 => refine (rR (e := 68) (base := w.heap.size) (ok := fun k_ => True) (n := t163.length) (c := co26) ?_).2.2; exact (by (with_reducible repeat (first | apply ra | apply rn | apply rd_)); exact (rM (rF (p := ⟨gb167, 1, none⟩) (rF (p := ⟨gb167, 0, none⟩) (rT HO165.out BK167.out (by decide)) (fun _ hk => hk.2) (.string t162)) (fun _ hk => hk.2) (.slice Ao26 t163.length co26)) (fun _ h_ => h_.1)))); (case side2 => exact (rR HO165.out).2.1); (case side3 => exact cB_ HR1_2.out (yH)); (case side4 => exact HC1_2.out); rintro e w28 ⟨rfl, hb⟩; refine ⟨_, rfl, ?_⟩; replace HO165 := aM (Kd.R_below (by (with_reducible repeat (first | apply ra | apply rn | apply rd_)); exact (rM (rF (p := ⟨gb167, 1, none⟩) (rF (p := ⟨gb167, 0, none⟩) (rT HO165.out BK167.out (by decide)) (fun _ hk => hk.2) (.string t162)) (fun _ hk => hk.2) (.slice Ao26 t163.length co26)) (fun _ h_ => h_.1))) hb); replace BK158 := aM (bB (g := gb158) (o := .cells #[.string a0_0, .slice A0_1 l0_1.length c0_1] 24 (0, 0)) (by (with_reducible repeat (first | apply qn | apply qd | apply qa)); refine bR ?_ NB158_167.out _; (with_reducible repeat (first | apply qn | apply qd | apply qa)); refine bR ?_ NB158_167.out _; exact qy BK158.out) hb); replace BK159 := aM (bB (g := gb159) (o := .cells #[.int .i64 a1_0, .string a1_1, .slice A1_2 l1_2.length c1_2, .string a1_3, .slice A1_4 l1_4.length c1_4] 36 (0, 0)) (by (with_reducible repeat (first | apply qn | apply qd | apply qa)); refine bR ?_ NB159_167.out _; (with_reducible repeat (first | apply qn | apply qd | apply qa)); refine bR ?_ NB159_167.out _; exact qy BK159.out) hb); replace BK160 := aM (bB (g := gb160) (o := .cells #[.string (⟨#[]⟩ : ByteArray), .slice none 0 0] 24 (0, 0)) (by (with_reducible repeat (first | apply qn | apply qd | apply qa)); refine bR ?_ NB160_167.out _; (with_reducible repeat (first | apply qn | apply qd | apply qa)); refine bR ?_ NB160_167.out _; exact qy BK160.out) hb); replace BK167 := aM (bB (g := gb167) (o := .cells #[.string t162, .slice Ao26 t163.length co26] 24 (0, 0)) (by (with_reducible repeat (first | apply qn | apply qd | apply qa)); refine bU (cs := #[.string t162, .slice none 0 0]) ?_ 1 _ rfl; (with_reducible repeat (first | apply qn | apply qd | apply qa)); refine bU (cs := #[.string (⟨#[]⟩ : ByteArray), .slice none 0 0]) ?_ 0 _ rfl; exact qy BK167.out) hb); replace HB := yP w hb; clear hb; have hcz29_0 := zC BK158.out 0 (.string a0_0); have hcz29_1 := zC BK158.out 1 (.slice A0_1 l0_1.length c0_1); have hfz29_0 := bF BK158.out 0; have hfz29_1 := bF BK158.out 1; have hcz30_0 := zC BK159.out 0 (.int .i64 a1_0); have hcz30_1 := zC BK159.out 1 (.string a1_1); have hcz30_2 := zC BK159.out 2 (.slice A1_2 l1_2.length c1_2); have hcz30_3 := zC BK159.out 3 (.string a1_3); have hcz30_4 := zC BK159.out 4 (.slice A1_4 l1_4.length c1_4); have hfz30_0 := bF BK159.out 0; have hfz30_1 := bF BK159.out 1; have hfz30_2 := bF BK159.out 2; have hfz30_3 := bF BK159.out 3; have hfz30_4 := bF BK159.out 4) | (refine yC (some 46) Tryz.func147 #[.agg #[.string a0_0, .slice A0_1 l0_1.length c0_1], .int .i64 a1_0, .int .i64 (wrap64 (a1_0 + (a1_1.size : Int))), .agg #[.string a1_3, .slice A1_4 l1_4.length c1_4]] ?_; (with_reducible refine (strip_Splice.calls k a0_0 _ _ l0_1 a1_0 (wrap64 (a1_0 + (a1_1.size : Int))) a1_3 _ _ l1_4 t169 t170 t173 _ ?side1 ?side2 ?side3 ?side4 A9.out).mono ?_); (case side1 => exact yR HR0_1); (case side2 => exact HC0_1.out); (case side3 => exact yR HR1_4); (case side4 => exact HC1_4.out); rintro e w31 ⟨v171, rfl, ho0, hb⟩; refine ⟨_, rfl, ?_⟩; have HO172 := aM (rL (Kd.R_new' ho0 (Kd.R_lt (ry HO165.out))) (bZ (yH))); replace HO165 := aM (rE (ry HO165.out) (Kd.R_base ho0) hb); replace BK158 := yB hb BK158; replace BK159 := yB hb BK159; replace BK160 := yB hb BK160; replace BK167 := yB hb BK167; replace HB := yP w hb; clear hb; (try clear ho0); have hcz32_0 := zC BK160.out 0 (.string (⟨#[]⟩ : ByteArray)); have hcz32_1 := zC BK160.out 1 (.slice none 0 0); have hfz32_0 := bF BK160.out 0; have hfz32_1 := bF BK160.out 1; obtain ⟨Ao33, co33, eo33⟩ := Kd.R_slice HO172.out; subst eo33))
    refine bodyPost_ret (results_ct rfl _ _ gb160 24 #[.string t169, .slice Ao33 t170.length co33] (0, 0) _ rfl (by (with_reducible repeat (first | apply qn | apply qd | apply qa)); refine bU (cs := #[.string t169, .slice none 0 0]) ?_ 1 _ rfl; (with_reducible repeat (first | apply qn | apply qd | apply qa)); refine bU (cs := #[.string (⟨#[]⟩ : ByteArray), .slice none 0 0]) ?_ 0 _ rfl; exact qy BK160.out) Tryz.underlying24 rfl (by kernel_rfl)) rfl ?_
    exact ⟨_, ye, by (with_reducible repeat (first | apply ra | apply rn | apply rd_)); exact rM (rF (p := ⟨gb160, 1, none⟩) (rF (p := ⟨gb160, 0, none⟩) (rT HO172.out BK160.out (by decide)) (fun _ hk => hk.2) (.string t169)) (fun _ hk => hk.2) (.slice Ao33 t170.length co33)) (fun _ hk => trivial), yH⟩
   ·replace c8 := Bool.eq_false_iff.mpr c8
    subst c8
    rw [if_neg (show ¬ (false = true) by decide)] at H
    simp only [Option.some.injEq, Prod.mk.injEq] at H
    obtain ⟨rfl, rfl, rfl⟩ := H
    go_enter Tryz.func105, Tryz.ntmps105
    go_wp2_with (first | (refine yX 2 #[.string a0_0, .slice A0_1 l0_1.length c0_1] 24 (fun gb158 hg w34 hbox hb => ?_); have BK158 := hbox; have GW158 := yG w hg; have GE158 := GW158; replace HB := yP w hb; clear hb hbox hg) | (refine yX 3 #[.int .i64 a1_0, .string a1_1, .slice A1_2 l1_2.length c1_2, .string a1_3, .slice A1_4 l1_4.length c1_4] 36 (fun gb159 hg w35 hbox hb => ?_); have BK159 := hbox; have GW159 := yG w hg; have GE159 := GW159; have NB158_159 := yN hg BK158; have NB159_158 := yM hg BK158; replace BK158 := yB hb BK158; replace HB := yP w hb; clear hb hbox hg) | (refine yX 4 #[.string (⟨#[]⟩ : ByteArray), .slice none 0 0] 24 (fun gb160 hg w36 hbox hb => ?_); have BK160 := hbox; have GW160 := yG w hg; have GE160 := GW160; have NB158_160 := yN hg BK158; have NB160_158 := yM hg BK158; have NB159_160 := yN hg BK159; have NB160_159 := yM hg BK159; replace BK158 := yB hb BK158; replace BK159 := yB hb BK159; replace HB := yP w hb; clear hb hbox hg; have hnb37 := NB159_158.out; have hnc37 := NB158_159.out; have hnb38 := NB159_160.out; have hnc38 := NB160_159.out; have hcz39_0 := zC BK159.out 0 (.int .i64 a1_0); have hcz39_1 := zC BK159.out 1 (.string a1_1); have hcz39_2 := zC BK159.out 2 (.slice A1_2 l1_2.length c1_2); have hcz39_3 := zC BK159.out 3 (.string a1_3); have hcz39_4 := zC BK159.out 4 (.slice A1_4 l1_4.length c1_4); have hfz39_0 := bF BK159.out 0; have hfz39_1 := bF BK159.out 1; have hfz39_2 := bF BK159.out 2; have hfz39_3 := bF BK159.out 3; have hfz39_4 := bF BK159.out 4) | (refine yC (some 10) Tryz.func149 #[.agg #[.int .i64 a1_0, .string a1_1, .slice A1_2 l1_2.length c1_2, .string a1_3, .slice A1_4 l1_4.length c1_4]] ?_; (with_reducible refine (edit_good.calls k a1_0 a1_1 _ _ l1_2 a1_3 _ _ l1_4 true _ ?side1 ?side2 ?side3 ?side4 A3.out).mono ?_); (case side1 => exact yR HR1_2); (case side2 => exact HC1_2.out); (case side3 => exact yR HR1_4); (case side4 => exact HC1_4.out); rintro e w40 ⟨rfl, hb⟩; refine ⟨_, rfl, ?_⟩; replace BK158 := yB hb BK158; replace BK159 := yB hb BK159; replace BK160 := yB hb BK160; replace HB := yP w hb; clear hb; have hcz41_0 := zC BK159.out 0 (.int .i64 a1_0); have hcz41_1 := zC BK159.out 1 (.string a1_1); have hcz41_2 := zC BK159.out 2 (.slice A1_2 l1_2.length c1_2); have hcz41_3 := zC BK159.out 3 (.string a1_3); have hcz41_4 := zC BK159.out 4 (.slice A1_4 l1_4.length c1_4); have hfz41_0 := bF BK159.out 0; have hfz41_1 := bF BK159.out 1; have hfz41_2 := bF BK159.out 2; have hfz41_3 := bF BK159.out 3; have hfz41_4 := bF BK159.out 4; have hnb42 := NB158_160.out; have hnc42 := NB160_158.out; have hcz43_0 := zC BK158.out 0 (.string a0_0); have hcz43_1 := zC BK158.out 1 (.slice A0_1 l0_1.length c0_1); have hfz43_0 := bF BK158.out 0; have hfz43_1 := bF BK158.out 1) | (refine yC (some 25) Tryz.func74 #[.agg #[.string a0_0, .slice A0_1 l0_1.length c0_1], .int .i64 a1_0, .int .i64 (wrap64 (a1_0 + (a1_1.size : Int)))] ?_; (with_reducible refine (strip_Cut.calls k a0_0 _ _ l0_1 a1_0 (wrap64 (a1_0 + (a1_1.size : Int))) t162 t163 t166 _ ?side1 ?side2 A5.out).mono ?_); (case side1 => exact yR HR0_1); (case side2 => exact HC0_1.out); rintro e w44 ⟨v164, rfl, ho0, hb⟩; refine ⟨_, rfl, ?_⟩; have HO165 := aM (rL ho0 (bZ (yH))); replace BK158 := yB hb BK158; replace BK159 := yB hb BK159; replace BK160 := yB hb BK160; replace HB := yP w hb; clear hb; (try clear ho0)) | (refine yX 7 #[.string (⟨#[]⟩ : ByteArray), .slice none 0 0] 24 (fun gb167 hg w45 hbox hb => ?_); have BK167 := hbox; have GW167 := yG w hg; have GE167 := GW167; have NB158_167 := yN hg BK158; have NB167_158 := yM hg BK158; have NB159_167 := yN hg BK159; have NB167_159 := yM hg BK159; have NB160_167 := yN hg BK160; have NB167_160 := yM hg BK160; replace HO165 := aM (Kd.R_below (ry HO165.out) hb); replace BK158 := yB hb BK158; replace BK159 := yB hb BK159; replace BK160 := yB hb BK160; replace HB := yP w hb; clear hb hbox hg; have hnb46 := NB167_158.out; have hnc46 := NB158_167.out; have hnb47 := NB167_159.out; have hnc47 := NB159_167.out; have hnb48 := NB167_160.out; have hnc48 := NB160_167.out; have hcz49_0 := zC BK167.out 0 (.string (⟨#[]⟩ : ByteArray)); have hcz49_1 := zC BK167.out 1 (.slice none 0 0); have hfz49_0 := bF BK167.out 0; have hfz49_1 := bF BK167.out 1; obtain ⟨Ao50, co50, eo50⟩ := Kd.R_slice HO165.out; subst eo50; have hcz51_0 := zC BK159.out 0 (.int .i64 a1_0); have hcz51_1 := zC BK159.out 1 (.string a1_1); have hcz51_2 := zC BK159.out 2 (.slice A1_2 l1_2.length c1_2); have hcz51_3 := zC BK159.out 3 (.string a1_3); have hcz51_4 := zC BK159.out 4 (.slice A1_4 l1_4.length c1_4); have hfz51_0 := bF BK159.out 0; have hfz51_1 := bF BK159.out 1; have hfz51_2 := bF BK159.out 2; have hfz51_3 := bF BK159.out 3; have hfz51_4 := bF BK159.out 4) | (refine yC (some 37) Tryz.func150 #[.agg #[.string t162, .slice Ao50 t163.length co50], .agg #[.string a1_1, .slice A1_2 l1_2.length c1_2]] ?_; (with_reducible refine (strip_Same.calls k t162 _ _ t163 a1_1 _ _ l1_2 false _ ?side1 ?side2 ?side3 ?side4 A7.out).mono ?_); (case side1 => refine (rR (e := 68) (base := w.heap.size) (ok := fun k_ => True) (n := t163.length) (c := co50) ?_).2.2; exact (by (with_reducible repeat (first | apply ra | apply rn | apply rd_)); exact (rM (rF (p := ⟨gb167, 1, none⟩) (rF (p := ⟨gb167, 0, none⟩) (rT HO165.out BK167.out (by decide)) (fun _ hk => hk.2) (.string t162)) (fun _ hk => hk.2) (.slice Ao50 t163.length co50)) (fun _ h_ => h_.1)))); (case side2 => exact (rR HO165.out).2.1); (case side3 => exact cB_ HR1_2.out (yH)); (case side4 => exact HC1_2.out); rintro e w52 ⟨rfl, hb⟩; refine ⟨_, rfl, ?_⟩; replace HO165 := aM (Kd.R_below (by (with_reducible repeat (first | apply ra | apply rn | apply rd_)); exact (rM (rF (p := ⟨gb167, 1, none⟩) (rF (p := ⟨gb167, 0, none⟩) (rT HO165.out BK167.out (by decide)) (fun _ hk => hk.2) (.string t162)) (fun _ hk => hk.2) (.slice Ao50 t163.length co50)) (fun _ h_ => h_.1))) hb); replace BK158 := aM (bB (g := gb158) (o := .cells #[.string a0_0, .slice A0_1 l0_1.length c0_1] 24 (0, 0)) (by (with_reducible repeat (first | apply qn | apply qd | apply qa)); refine bR ?_ NB158_167.out _; (with_reducible repeat (first | apply qn | apply qd | apply qa)); refine bR ?_ NB158_167.out _; exact qy BK158.out) hb); replace BK159 := aM (bB (g := gb159) (o := .cells #[.int .i64 a1_0, .string a1_1, .slice A1_2 l1_2.length c1_2, .string a1_3, .slice A1_4 l1_4.length c1_4] 36 (0, 0)) (by (with_reducible repeat (first | apply qn | apply qd | apply qa)); refine bR ?_ NB159_167.out _; (with_reducible repeat (first | apply qn | apply qd | apply qa)); refine bR ?_ NB159_167.out _; exact qy BK159.out) hb); replace BK160 := aM (bB (g := gb160) (o := .cells #[.string (⟨#[]⟩ : ByteArray), .slice none 0 0] 24 (0, 0)) (by (with_reducible repeat (first | apply qn | apply qd | apply qa)); refine bR ?_ NB160_167.out _; (with_reducible repeat (first | apply qn | apply qd | apply qa)); refine bR ?_ NB160_167.out _; exact qy BK160.out) hb); replace BK167 := aM (bB (g := gb167) (o := .cells #[.string t162, .slice Ao50 t163.length co50] 24 (0, 0)) (by (with_reducible repeat (first | apply qn | apply qd | apply qa)); refine bU (cs := #[.string t162, .slice none 0 0]) ?_ 1 _ rfl; (with_reducible repeat (first | apply qn | apply qd | apply qa)); refine bU (cs := #[.string (⟨#[]⟩ : ByteArray), .slice none 0 0]) ?_ 0 _ rfl; exact qy BK167.out) hb); replace HB := yP w hb; clear hb; have hcz53_0 := zC BK160.out 0 (.string (⟨#[]⟩ : ByteArray)); have hcz53_1 := zC BK160.out 1 (.slice none 0 0); have hfz53_0 := bF BK160.out 0; have hfz53_1 := bF BK160.out 1))
    refine bodyPost_ret (results_ct rfl _ _ gb160 24 #[.string (⟨#[]⟩ : ByteArray), .slice none 0 0] (0, 0) _ rfl (by (with_reducible repeat (first | apply qn | apply qd | apply qa)); refine bU (cs := #[.string (⟨#[]⟩ : ByteArray), .slice none 0 0]) ?_ 1 _ rfl; (with_reducible repeat (first | apply qn | apply qd | apply qa)); refine bU (cs := #[.string (⟨#[]⟩ : ByteArray), .slice none 0 0]) ?_ 0 _ rfl; exact qy BK160.out) Tryz.underlying24 rfl (by kernel_rfl)) rfl ?_
    exact ⟨_, ye, yn, yH⟩
  ·rw [if_neg c6] at H
   have c6b0 : (t166 == 0) = false := beq_eq_false_iff_ne.mpr c6
   have c6b1 : (t166 != 0) = true := bne_iff_ne.mpr c6
   simp only [Option.some.injEq, Prod.mk.injEq] at H
   obtain ⟨rfl, rfl, rfl⟩ := H
   go_enter Tryz.func105, Tryz.ntmps105
   go_wp2_with (first | (refine yX 2 #[.string a0_0, .slice A0_1 l0_1.length c0_1] 24 (fun gb158 hg w54 hbox hb => ?_); have BK158 := hbox; have GW158 := yG w hg; have GE158 := GW158; replace HB := yP w hb; clear hb hbox hg) | (refine yX 3 #[.int .i64 a1_0, .string a1_1, .slice A1_2 l1_2.length c1_2, .string a1_3, .slice A1_4 l1_4.length c1_4] 36 (fun gb159 hg w55 hbox hb => ?_); have BK159 := hbox; have GW159 := yG w hg; have GE159 := GW159; have NB158_159 := yN hg BK158; have NB159_158 := yM hg BK158; replace BK158 := yB hb BK158; replace HB := yP w hb; clear hb hbox hg) | (refine yX 4 #[.string (⟨#[]⟩ : ByteArray), .slice none 0 0] 24 (fun gb160 hg w56 hbox hb => ?_); have BK160 := hbox; have GW160 := yG w hg; have GE160 := GW160; have NB158_160 := yN hg BK158; have NB160_158 := yM hg BK158; have NB159_160 := yN hg BK159; have NB160_159 := yM hg BK159; replace BK158 := yB hb BK158; replace BK159 := yB hb BK159; replace HB := yP w hb; clear hb hbox hg; have hnb57 := NB159_158.out; have hnc57 := NB158_159.out; have hnb58 := NB159_160.out; have hnc58 := NB160_159.out; have hcz59_0 := zC BK159.out 0 (.int .i64 a1_0); have hcz59_1 := zC BK159.out 1 (.string a1_1); have hcz59_2 := zC BK159.out 2 (.slice A1_2 l1_2.length c1_2); have hcz59_3 := zC BK159.out 3 (.string a1_3); have hcz59_4 := zC BK159.out 4 (.slice A1_4 l1_4.length c1_4); have hfz59_0 := bF BK159.out 0; have hfz59_1 := bF BK159.out 1; have hfz59_2 := bF BK159.out 2; have hfz59_3 := bF BK159.out 3; have hfz59_4 := bF BK159.out 4) | (refine yC (some 10) Tryz.func149 #[.agg #[.int .i64 a1_0, .string a1_1, .slice A1_2 l1_2.length c1_2, .string a1_3, .slice A1_4 l1_4.length c1_4]] ?_; (with_reducible refine (edit_good.calls k a1_0 a1_1 _ _ l1_2 a1_3 _ _ l1_4 true _ ?side1 ?side2 ?side3 ?side4 A3.out).mono ?_); (case side1 => exact yR HR1_2); (case side2 => exact HC1_2.out); (case side3 => exact yR HR1_4); (case side4 => exact HC1_4.out); rintro e w60 ⟨rfl, hb⟩; refine ⟨_, rfl, ?_⟩; replace BK158 := yB hb BK158; replace BK159 := yB hb BK159; replace BK160 := yB hb BK160; replace HB := yP w hb; clear hb; have hcz61_0 := zC BK159.out 0 (.int .i64 a1_0); have hcz61_1 := zC BK159.out 1 (.string a1_1); have hcz61_2 := zC BK159.out 2 (.slice A1_2 l1_2.length c1_2); have hcz61_3 := zC BK159.out 3 (.string a1_3); have hcz61_4 := zC BK159.out 4 (.slice A1_4 l1_4.length c1_4); have hfz61_0 := bF BK159.out 0; have hfz61_1 := bF BK159.out 1; have hfz61_2 := bF BK159.out 2; have hfz61_3 := bF BK159.out 3; have hfz61_4 := bF BK159.out 4; have hnb62 := NB158_160.out; have hnc62 := NB160_158.out; have hcz63_0 := zC BK158.out 0 (.string a0_0); have hcz63_1 := zC BK158.out 1 (.slice A0_1 l0_1.length c0_1); have hfz63_0 := bF BK158.out 0; have hfz63_1 := bF BK158.out 1) | (refine yC (some 25) Tryz.func74 #[.agg #[.string a0_0, .slice A0_1 l0_1.length c0_1], .int .i64 a1_0, .int .i64 (wrap64 (a1_0 + (a1_1.size : Int)))] ?_; (with_reducible refine (strip_Cut.calls k a0_0 _ _ l0_1 a1_0 (wrap64 (a1_0 + (a1_1.size : Int))) t162 t163 t166 _ ?side1 ?side2 A5.out).mono ?_); (case side1 => exact yR HR0_1); (case side2 => exact HC0_1.out); rintro e w64 ⟨v164, rfl, ho0, hb⟩; refine ⟨_, rfl, ?_⟩; have HO165 := aM (rL ho0 (bZ (yH))); replace BK158 := yB hb BK158; replace BK159 := yB hb BK159; replace BK160 := yB hb BK160; replace HB := yP w hb; clear hb; (try clear ho0)) | (refine yX 7 #[.string (⟨#[]⟩ : ByteArray), .slice none 0 0] 24 (fun gb167 hg w65 hbox hb => ?_); have BK167 := hbox; have GW167 := yG w hg; have GE167 := GW167; have NB158_167 := yN hg BK158; have NB167_158 := yM hg BK158; have NB159_167 := yN hg BK159; have NB167_159 := yM hg BK159; have NB160_167 := yN hg BK160; have NB167_160 := yM hg BK160; replace HO165 := aM (Kd.R_below (ry HO165.out) hb); replace BK158 := yB hb BK158; replace BK159 := yB hb BK159; replace BK160 := yB hb BK160; replace HB := yP w hb; clear hb hbox hg; have hnb66 := NB167_158.out; have hnc66 := NB158_167.out; have hnb67 := NB167_159.out; have hnc67 := NB159_167.out; have hnb68 := NB167_160.out; have hnc68 := NB160_167.out; have hcz69_0 := zC BK167.out 0 (.string (⟨#[]⟩ : ByteArray)); have hcz69_1 := zC BK167.out 1 (.slice none 0 0); have hfz69_0 := bF BK167.out 0; have hfz69_1 := bF BK167.out 1; obtain ⟨Ao70, co70, eo70⟩ := Kd.R_slice HO165.out; subst eo70; have hcz71_0 := zC BK160.out 0 (.string (⟨#[]⟩ : ByteArray)); have hcz71_1 := zC BK160.out 1 (.slice none 0 0); have hfz71_0 := bF BK160.out 0; have hfz71_1 := bF BK160.out 1))
   refine bodyPost_ret (results_ct rfl _ _ gb160 24 #[.string (⟨#[]⟩ : ByteArray), .slice none 0 0] (0, 0) _ rfl (by (with_reducible repeat (first | apply qn | apply qd | apply qa)); refine bU (cs := #[.string (⟨#[]⟩ : ByteArray), .slice none 0 0]) ?_ 1 _ rfl; (with_reducible repeat (first | apply qn | apply qd | apply qa)); refine bU (cs := #[.string (⟨#[]⟩ : ByteArray), .slice none 0 0]) ?_ 0 _ rfl; (with_reducible repeat (first | apply qn | apply qd | apply qa)); refine bR ?_ NB160_167.out _; (with_reducible repeat (first | apply qn | apply qd | apply qa)); refine bR ?_ NB160_167.out _; exact qy BK160.out) Tryz.underlying24 rfl (by kernel_rfl)) rfl ?_
   exact ⟨_, ye, yn, yH⟩
 ·replace c4 := Bool.eq_false_iff.mpr c4
  subst c4
  rw [if_neg (show ¬ (false = true) by decide)] at H
  simp only [Option.some.injEq, Prod.mk.injEq] at H
  obtain ⟨rfl, rfl, rfl⟩ := H
  go_enter Tryz.func105, Tryz.ntmps105
  go_wp2_with (first | (refine yX 2 #[.string a0_0, .slice A0_1 l0_1.length c0_1] 24 (fun gb158 hg w72 hbox hb => ?_); have BK158 := hbox; have GW158 := yG w hg; have GE158 := GW158; replace HB := yP w hb; clear hb hbox hg) | (refine yX 3 #[.int .i64 a1_0, .string a1_1, .slice A1_2 l1_2.length c1_2, .string a1_3, .slice A1_4 l1_4.length c1_4] 36 (fun gb159 hg w73 hbox hb => ?_); have BK159 := hbox; have GW159 := yG w hg; have GE159 := GW159; have NB158_159 := yN hg BK158; have NB159_158 := yM hg BK158; replace BK158 := yB hb BK158; replace HB := yP w hb; clear hb hbox hg) | (refine yX 4 #[.string (⟨#[]⟩ : ByteArray), .slice none 0 0] 24 (fun gb160 hg w74 hbox hb => ?_); have BK160 := hbox; have GW160 := yG w hg; have GE160 := GW160; have NB158_160 := yN hg BK158; have NB160_158 := yM hg BK158; have NB159_160 := yN hg BK159; have NB160_159 := yM hg BK159; replace BK158 := yB hb BK158; replace BK159 := yB hb BK159; replace HB := yP w hb; clear hb hbox hg; have hnb75 := NB159_158.out; have hnc75 := NB158_159.out; have hnb76 := NB159_160.out; have hnc76 := NB160_159.out; have hcz77_0 := zC BK159.out 0 (.int .i64 a1_0); have hcz77_1 := zC BK159.out 1 (.string a1_1); have hcz77_2 := zC BK159.out 2 (.slice A1_2 l1_2.length c1_2); have hcz77_3 := zC BK159.out 3 (.string a1_3); have hcz77_4 := zC BK159.out 4 (.slice A1_4 l1_4.length c1_4); have hfz77_0 := bF BK159.out 0; have hfz77_1 := bF BK159.out 1; have hfz77_2 := bF BK159.out 2; have hfz77_3 := bF BK159.out 3; have hfz77_4 := bF BK159.out 4) | (refine yC (some 10) Tryz.func149 #[.agg #[.int .i64 a1_0, .string a1_1, .slice A1_2 l1_2.length c1_2, .string a1_3, .slice A1_4 l1_4.length c1_4]] ?_; (with_reducible refine (edit_good.calls k a1_0 a1_1 _ _ l1_2 a1_3 _ _ l1_4 false _ ?side1 ?side2 ?side3 ?side4 A3.out).mono ?_); (case side1 => exact yR HR1_2); (case side2 => exact HC1_2.out); (case side3 => exact yR HR1_4); (case side4 => exact HC1_4.out); rintro e w78 ⟨rfl, hb⟩; refine ⟨_, rfl, ?_⟩; replace BK158 := yB hb BK158; replace BK159 := yB hb BK159; replace BK160 := yB hb BK160; replace HB := yP w hb; clear hb; have hnb79 := NB160_158.out; have hnc79 := NB158_160.out; have hcz80_0 := zC BK160.out 0 (.string (⟨#[]⟩ : ByteArray)); have hcz80_1 := zC BK160.out 1 (.slice none 0 0); have hfz80_0 := bF BK160.out 0; have hfz80_1 := bF BK160.out 1))
  refine bodyPost_ret (results_ct rfl _ _ gb160 24 #[.string (⟨#[]⟩ : ByteArray), .slice none 0 0] (0, 0) _ rfl (by (with_reducible repeat (first | apply qn | apply qd | apply qa)); refine bU (cs := #[.string (⟨#[]⟩ : ByteArray), .slice none 0 0]) ?_ 1 _ rfl; (with_reducible repeat (first | apply qn | apply qd | apply qa)); refine bU (cs := #[.string (⟨#[]⟩ : ByteArray), .slice none 0 0]) ?_ 0 _ rfl; exact qy BK160.out) Tryz.underlying24 rfl (by kernel_rfl)) rfl ?_
  exact ⟨_, ye, yn, yH⟩
def bureauref07_Good.f (k : Nat) (a0_0 : Int) (a0_1 : ByteArray) (l0_2 : List (S68)) (a0_3 : ByteArray) (l0_4 : List (S68)) : Option (Bool) := (bureauref04_Good.f k a0_1 l0_2).bind fun t356 => (if t356 = true then ((bureauref04_Good.f k a0_3 l0_4).bind fun t357 => (if t357 = true then (if a0_0 ≥ 0 then (some (decide (a0_0 ≤ 4096))) else (some false)) else (some false))) else (some false))
set_option maxHeartbeats 8000000 in
set_option maxRecDepth 100000 in
theorem bureauref07_Good.calls (k : Nat) (a0_0 : Int) (a0_1 : ByteArray) (A0_2 : Option Addr) (c0_2 : Nat) (l0_2 : List (S68)) (a0_3 : ByteArray) (A0_4 : Option Addr) (c0_4 : Nat) (l0_4 : List (S68)) (r : Bool) (w : World) (hr0_2 : Kd.C k68 w A0_2 l0_2.length l0_2) (hc0_2 : l0_2.length ≤ c0_2) (hr0_4 : Kd.C k68 w A0_4 l0_4.length l0_4) (hc0_4 : l0_4.length ≤ c0_4) (h : bureauref07_Good.f k a0_0 a0_1 l0_2 a0_3 l0_4 = some r) :
  Calls Tryz.prog 118 #[.agg #[.int .i64 a0_0, .string a0_1, .slice A0_2 l0_2.length c0_2, .string a0_3, .slice A0_4 l0_4.length c0_4]] w fun e w' => e = .returned (.bool r) ∧ Below w.heap.size w w' := by
 have hu36 := Tryz.underlying36
 have hu24 := Tryz.underlying24
 have HR0_2 := aM hr0_2
 have HC0_2 := aM hc0_2
 clear hr0_2 hc0_2
 have HR0_4 := aM hr0_4
 have HC0_4 := aM hc0_4
 clear hr0_4 hc0_4
 have HB := aM (Below.refl w.heap.size w)
 have H : ((bureauref04_Good.f k a0_1 l0_2).bind fun t356 => (if t356 = true then ((bureauref04_Good.f k a0_3 l0_4).bind fun t357 => (if t357 = true then (if a0_0 ≥ 0 then (some (decide (a0_0 ≤ 4096))) else (some false)) else (some false))) else (some false))) = some r := h
 clear h
 replace H := Option.bind_eq_some_iff.mp H
 obtain ⟨t356, A20, H⟩ := H
 replace H : (if t356 = true then ((bureauref04_Good.f k a0_3 l0_4).bind fun t357 => (if t357 = true then (if a0_0 ≥ 0 then (some (decide (a0_0 ≤ 4096))) else (some false)) else (some false))) else (some false)) = some r := H
 have A2 := aM A20
 clear A20
 by_cases c3 : t356 = true
 ·subst c3
  rw [if_pos rfl] at H
  replace H := Option.bind_eq_some_iff.mp H
  obtain ⟨t357, A40, H⟩ := H
  replace H : (if t357 = true then (if a0_0 ≥ 0 then (some (decide (a0_0 ≤ 4096))) else (some false)) else (some false)) = some r := H
  have A4 := aM A40
  clear A40
  by_cases c5 : t357 = true
  ·subst c5
   rw [if_pos rfl] at H
   by_cases c6 : a0_0 ≥ 0
   ·rw [if_pos c6] at H
    have c6b0 : decide (0 ≤ a0_0) = true := decide_eq_true c6
    clear c6
    obtain rfl := Option.some.inj H
    go_enter Tryz.func118, Tryz.ntmps118
    go_wp2_with (first | (refine yX 1 #[.int .i64 a0_0, .string a0_1, .slice A0_2 l0_2.length c0_2, .string a0_3, .slice A0_4 l0_4.length c0_4] 36 (fun gb355 hg w7 hbox hb => ?_); have BK355 := hbox; have GW355 := yG w hg; have GE355 := GW355; replace HB := yP w hb; clear hb hbox hg; have hcz8_0 := zC BK355.out 0 (.int .i64 a0_0); have hcz8_1 := zC BK355.out 1 (.string a0_1); have hcz8_2 := zC BK355.out 2 (.slice A0_2 l0_2.length c0_2); have hcz8_3 := zC BK355.out 3 (.string a0_3); have hcz8_4 := zC BK355.out 4 (.slice A0_4 l0_4.length c0_4); have hfz8_0 := bF BK355.out 0; have hfz8_1 := bF BK355.out 1; have hfz8_2 := bF BK355.out 2; have hfz8_3 := bF BK355.out 3; have hfz8_4 := bF BK355.out 4) | (refine yC (some 5) Tryz.func62 #[.agg #[.string a0_1, .slice A0_2 l0_2.length c0_2]] ?_; (with_reducible refine (bureauref04_Good.calls k a0_1 _ _ l0_2 true _ ?side1 ?side2 A2.out).mono ?_); (case side1 => exact yR HR0_2); (case side2 => exact HC0_2.out); rintro e w9 ⟨rfl, hb⟩; refine ⟨_, rfl, ?_⟩; replace BK355 := yB hb BK355; replace HB := yP w hb; clear hb; have hcz10_0 := zC BK355.out 0 (.int .i64 a0_0); have hcz10_1 := zC BK355.out 1 (.string a0_1); have hcz10_2 := zC BK355.out 2 (.slice A0_2 l0_2.length c0_2); have hcz10_3 := zC BK355.out 3 (.string a0_3); have hcz10_4 := zC BK355.out 4 (.slice A0_4 l0_4.length c0_4); have hfz10_0 := bF BK355.out 0; have hfz10_1 := bF BK355.out 1; have hfz10_2 := bF BK355.out 2; have hfz10_3 := bF BK355.out 3; have hfz10_4 := bF BK355.out 4) | (go_at_call 62; (with_reducible refine (bureauref04_Good.calls k a0_3 _ _ l0_4 true _ ?side1 ?side2 A4.out).mono ?_); (case side1 => exact yR HR0_4); (case side2 => exact HC0_4.out); rintro e w11 ⟨rfl, hb⟩; replace BK355 := yB hb BK355; replace HB := yP w hb; clear hb; have hcz12_0 := zC BK355.out 0 (.int .i64 a0_0); have hcz12_1 := zC BK355.out 1 (.string a0_1); have hcz12_2 := zC BK355.out 2 (.slice A0_2 l0_2.length c0_2); have hcz12_3 := zC BK355.out 3 (.string a0_3); have hcz12_4 := zC BK355.out 4 (.slice A0_4 l0_4.length c0_4); have hfz12_0 := bF BK355.out 0; have hfz12_1 := bF BK355.out 1; have hfz12_2 := bF BK355.out 2; have hfz12_3 := bF BK355.out 3; have hfz12_4 := bF BK355.out 4))
    go_ret
    exact ⟨ye, yH⟩
   ·rw [if_neg c6] at H
    have c6b0 : decide (0 ≤ a0_0) = false := decide_eq_false c6
    clear c6
    obtain rfl := Option.some.inj H
    go_enter Tryz.func118, Tryz.ntmps118
    go_wp2_with (first | (refine yX 1 #[.int .i64 a0_0, .string a0_1, .slice A0_2 l0_2.length c0_2, .string a0_3, .slice A0_4 l0_4.length c0_4] 36 (fun gb355 hg w13 hbox hb => ?_); have BK355 := hbox; have GW355 := yG w hg; have GE355 := GW355; replace HB := yP w hb; clear hb hbox hg; have hcz14_0 := zC BK355.out 0 (.int .i64 a0_0); have hcz14_1 := zC BK355.out 1 (.string a0_1); have hcz14_2 := zC BK355.out 2 (.slice A0_2 l0_2.length c0_2); have hcz14_3 := zC BK355.out 3 (.string a0_3); have hcz14_4 := zC BK355.out 4 (.slice A0_4 l0_4.length c0_4); have hfz14_0 := bF BK355.out 0; have hfz14_1 := bF BK355.out 1; have hfz14_2 := bF BK355.out 2; have hfz14_3 := bF BK355.out 3; have hfz14_4 := bF BK355.out 4) | (refine yC (some 5) Tryz.func62 #[.agg #[.string a0_1, .slice A0_2 l0_2.length c0_2]] ?_; (with_reducible refine (bureauref04_Good.calls k a0_1 _ _ l0_2 true _ ?side1 ?side2 A2.out).mono ?_); (case side1 => exact yR HR0_2); (case side2 => exact HC0_2.out); rintro e w15 ⟨rfl, hb⟩; refine ⟨_, rfl, ?_⟩; replace BK355 := yB hb BK355; replace HB := yP w hb; clear hb; have hcz16_0 := zC BK355.out 0 (.int .i64 a0_0); have hcz16_1 := zC BK355.out 1 (.string a0_1); have hcz16_2 := zC BK355.out 2 (.slice A0_2 l0_2.length c0_2); have hcz16_3 := zC BK355.out 3 (.string a0_3); have hcz16_4 := zC BK355.out 4 (.slice A0_4 l0_4.length c0_4); have hfz16_0 := bF BK355.out 0; have hfz16_1 := bF BK355.out 1; have hfz16_2 := bF BK355.out 2; have hfz16_3 := bF BK355.out 3; have hfz16_4 := bF BK355.out 4) | (go_at_call 62; (with_reducible refine (bureauref04_Good.calls k a0_3 _ _ l0_4 true _ ?side1 ?side2 A4.out).mono ?_); (case side1 => exact yR HR0_4); (case side2 => exact HC0_4.out); rintro e w17 ⟨rfl, hb⟩; replace BK355 := yB hb BK355; replace HB := yP w hb; clear hb; have hcz18_0 := zC BK355.out 0 (.int .i64 a0_0); have hcz18_1 := zC BK355.out 1 (.string a0_1); have hcz18_2 := zC BK355.out 2 (.slice A0_2 l0_2.length c0_2); have hcz18_3 := zC BK355.out 3 (.string a0_3); have hcz18_4 := zC BK355.out 4 (.slice A0_4 l0_4.length c0_4); have hfz18_0 := bF BK355.out 0; have hfz18_1 := bF BK355.out 1; have hfz18_2 := bF BK355.out 2; have hfz18_3 := bF BK355.out 3; have hfz18_4 := bF BK355.out 4))
    go_ret
    exact ⟨ye, yH⟩
  ·replace c5 := Bool.eq_false_iff.mpr c5
   subst c5
   rw [if_neg (show ¬ (false = true) by decide)] at H
   obtain rfl := Option.some.inj H
   go_enter Tryz.func118, Tryz.ntmps118
   go_wp2_with (first | (refine yX 1 #[.int .i64 a0_0, .string a0_1, .slice A0_2 l0_2.length c0_2, .string a0_3, .slice A0_4 l0_4.length c0_4] 36 (fun gb355 hg w19 hbox hb => ?_); have BK355 := hbox; have GW355 := yG w hg; have GE355 := GW355; replace HB := yP w hb; clear hb hbox hg; have hcz20_0 := zC BK355.out 0 (.int .i64 a0_0); have hcz20_1 := zC BK355.out 1 (.string a0_1); have hcz20_2 := zC BK355.out 2 (.slice A0_2 l0_2.length c0_2); have hcz20_3 := zC BK355.out 3 (.string a0_3); have hcz20_4 := zC BK355.out 4 (.slice A0_4 l0_4.length c0_4); have hfz20_0 := bF BK355.out 0; have hfz20_1 := bF BK355.out 1; have hfz20_2 := bF BK355.out 2; have hfz20_3 := bF BK355.out 3; have hfz20_4 := bF BK355.out 4) | (refine yC (some 5) Tryz.func62 #[.agg #[.string a0_1, .slice A0_2 l0_2.length c0_2]] ?_; (with_reducible refine (bureauref04_Good.calls k a0_1 _ _ l0_2 true _ ?side1 ?side2 A2.out).mono ?_); (case side1 => exact yR HR0_2); (case side2 => exact HC0_2.out); rintro e w21 ⟨rfl, hb⟩; refine ⟨_, rfl, ?_⟩; replace BK355 := yB hb BK355; replace HB := yP w hb; clear hb; have hcz22_0 := zC BK355.out 0 (.int .i64 a0_0); have hcz22_1 := zC BK355.out 1 (.string a0_1); have hcz22_2 := zC BK355.out 2 (.slice A0_2 l0_2.length c0_2); have hcz22_3 := zC BK355.out 3 (.string a0_3); have hcz22_4 := zC BK355.out 4 (.slice A0_4 l0_4.length c0_4); have hfz22_0 := bF BK355.out 0; have hfz22_1 := bF BK355.out 1; have hfz22_2 := bF BK355.out 2; have hfz22_3 := bF BK355.out 3; have hfz22_4 := bF BK355.out 4) | (go_at_call 62; (with_reducible refine (bureauref04_Good.calls k a0_3 _ _ l0_4 false _ ?side1 ?side2 A4.out).mono ?_); (case side1 => exact yR HR0_4); (case side2 => exact HC0_4.out); rintro e w23 ⟨rfl, hb⟩; replace BK355 := yB hb BK355; replace HB := yP w hb; clear hb))
   go_ret
   exact ⟨ye, yH⟩
 ·replace c3 := Bool.eq_false_iff.mpr c3
  subst c3
  rw [if_neg (show ¬ (false = true) by decide)] at H
  obtain rfl := Option.some.inj H
  go_enter Tryz.func118, Tryz.ntmps118
  go_wp2_with (first | (refine yX 1 #[.int .i64 a0_0, .string a0_1, .slice A0_2 l0_2.length c0_2, .string a0_3, .slice A0_4 l0_4.length c0_4] 36 (fun gb355 hg w24 hbox hb => ?_); have BK355 := hbox; have GW355 := yG w hg; have GE355 := GW355; replace HB := yP w hb; clear hb hbox hg; have hcz25_0 := zC BK355.out 0 (.int .i64 a0_0); have hcz25_1 := zC BK355.out 1 (.string a0_1); have hcz25_2 := zC BK355.out 2 (.slice A0_2 l0_2.length c0_2); have hcz25_3 := zC BK355.out 3 (.string a0_3); have hcz25_4 := zC BK355.out 4 (.slice A0_4 l0_4.length c0_4); have hfz25_0 := bF BK355.out 0; have hfz25_1 := bF BK355.out 1; have hfz25_2 := bF BK355.out 2; have hfz25_3 := bF BK355.out 3; have hfz25_4 := bF BK355.out 4) | (refine yC (some 5) Tryz.func62 #[.agg #[.string a0_1, .slice A0_2 l0_2.length c0_2]] ?_; (with_reducible refine (bureauref04_Good.calls k a0_1 _ _ l0_2 false _ ?side1 ?side2 A2.out).mono ?_); (case side1 => exact yR HR0_2); (case side2 => exact HC0_2.out); rintro e w26 ⟨rfl, hb⟩; refine ⟨_, rfl, ?_⟩; replace BK355 := yB hb BK355; replace HB := yP w hb; clear hb))
  go_ret
  exact ⟨ye, yH⟩
end Go.Proofs.YtjkfkiebhgkolaaGreatDoor.PB
end

section
namespace Go.Proofs.YtjkfkiebhgkolaaGreatDoor.PB
open Go.RowKit Go.Proofs.YtjkfkiebhgkolaaGreatDoorW.PrintWords
set_option linter.unusedVariables false
def goodE (a : Int) (o : ByteArray) (ol : List S68) (n : ByteArray) (nl : List S68) : Bool := goodT o ol && (goodT n nl && (decide (0 ≤ a) && decide (a ≤ 4096)))
theorem goodE_iff {a : Int} {o n : ByteArray} {ol nl : List S68} : goodE a o ol n nl = true ↔ goodT o ol = true ∧ goodT n nl = true ∧ 0 ≤ a ∧ a ≤ 4096 := by simp [goodE]
theorem goodE_ev (a : Int) (o : ByteArray) (ol : List S68) (n : ByteArray) (nl : List S68) (hl : ol.length ≤ big) (hm : nl.length ≤ big) : Ev (fun k => edit_good.f k a o ol n nl) (goodE a o ol n nl) := by
 unfold edit_good.f
 refine Ev.bind (goodT_ev o ol hl) ?_
 by_cases h1 : goodT o ol = true
 ·refine Ev.pos h1 (Ev.bind (goodT_ev n nl hm) ?_)
  by_cases h2 : goodT n nl = true
  ·refine Ev.pos h2 ?_
   by_cases h3 : 0 ≤ a
   ·exact Ev.pos h3 (ev_val (Ev.now _) (by simp [goodE, h1, h2, h3]))
   ·exact Ev.neg h3 (ev_val (Ev.now _) (by simp [goodE, h3]))
  ·exact Ev.neg h2 (ev_val (Ev.now _) (by simp [goodE, h2]))
 ·exact Ev.neg h1 (ev_val (Ev.now _) (by simp [goodE, h1]))
theorem rgoodE_ev (a : Int) (o : ByteArray) (ol : List S68) (n : ByteArray) (nl : List S68) (hl : ol.length ≤ big) (hm : nl.length ≤ big) : Ev (fun k => bureauref07_Good.f k a o ol n nl) (goodE a o ol n nl) := by
 unfold bureauref07_Good.f
 refine Ev.bind (rgoodT_ev o ol hl) ?_
 by_cases h1 : goodT o ol = true
 ·refine Ev.pos h1 (Ev.bind (rgoodT_ev n nl hm) ?_)
  by_cases h2 : goodT n nl = true
  ·refine Ev.pos h2 ?_
   by_cases h3 : 0 ≤ a
   ·exact Ev.pos h3 (ev_val (Ev.now _) (by simp [goodE, h1, h2, h3]))
   ·exact Ev.neg h3 (ev_val (Ev.now _) (by simp [goodE, h3]))
  ·exact Ev.neg h2 (ev_val (Ev.now _) (by simp [goodE, h2]))
 ·exact Ev.neg h1 (ev_val (Ev.now _) (by simp [goodE, h1]))
theorem goodE_facts {a : Int} {o n : ByteArray} {ol nl : List S68} (h : goodE a o ol n nl = true) : 0 ≤ a ∧ a ≤ 4096 ∧ o.size ≤ 4096 ∧ n.size ≤ 4096 := by
 obtain ⟨h1, h2, h3, h4⟩ := goodE_iff.1 h
 obtain ⟨_, _, _, g4, _⟩ := goodT_facts h1
 obtain ⟨_, _, _, q4, _⟩ := goodT_facts h2
 exact ⟨h3, h4, g4, q4⟩
def applyT (s : ByteArray) (l : List S68) (a : Int) (o : ByteArray) (ol : List S68) (n : ByteArray) (nl : List S68) : TX :=
 if goodE a o ol n nl = true then (if (cutS s l a (a + (o.size : Int))).2.2 = 0 then (if sameT (cutS s l a (a + (o.size : Int))).1 (cutS s l a (a + (o.size : Int))).2.1 o ol = true then spliceT s l a (a + (o.size : Int)) n nl else (⟨#[]⟩, [], 7)) else (⟨#[]⟩, [], (cutS s l a (a + (o.size : Int))).2.2)) else (⟨#[]⟩, [], 2)
theorem apply_ev (s : ByteArray) (l : List S68) (hls : l.length ≤ big) (a : Int) (o : ByteArray) (ol : List S68) (n : ByteArray) (nl : List S68) (hl : ol.length ≤ big) (hm : nl.length ≤ big) :
  Ev (fun k => edit_Apply.f k s l a o ol n nl) (applyT s l a o ol n nl) := by
 unfold edit_Apply.f applyT
 refine Ev.bind (goodE_ev a o ol n nl hl hm) ?_
 refine Ev.ite (fun hg => ?_) (fun _ => Ev.now _)
 obtain ⟨f1, f2, f3, f4⟩ := goodE_facts hg
 rw [show wrap64 (a + (o.size : Int)) = a + (o.size : Int) by unfold wrap64; omega]
 refine Ev.bind (cut_ev s l hls _ _) ?_
 refine Ev.ite (fun _ => ?_) (fun _ => Ev.now _)
 refine Ev.bind (same4_ev _ _ _ _ (len_big (cutS_len _ _ _ _))) ?_
 exact Ev.ite (fun _ => Ev.bind (splice4_ev s l hls _ _ n nl hm) (Ev.now _)) (fun _ => Ev.now _)
theorem applyT_len (s : ByteArray) (l : List S68) (a : Int) (o : ByteArray) (ol : List S68) (n : ByteArray) (nl : List S68) : (applyT s l a o ol n nl).2.1.length ≤ 20000 := by
 unfold applyT
 split
 ·split
  ·split
   ·exact spliceT_len _ _ _ _ _ _
   ·simp
  ·simp
 ·simp
theorem own_eq (s : ByteArray) (l : List S68) (hl : l.length ≤ big) : edit_own.f s l = some (s, l) := by
 unfold edit_own.f
 unfold big at hl
 rw [if_pos (by omega)]
theorem ext_list (s : ByteArray) (i j : Nat) : (s.extract i j).data.toList = (s.data.toList.take j).drop i := by
 rw [ByteArray.data_extract, Array.toList_extract, List.extract_eq_take_drop, List.drop_take]
theorem size_list (s : ByteArray) : s.data.toList.length = s.size := by rw [Array.length_toList]; rfl
theorem app_list (s t : ByteArray) : (s ++ t).data.toList = s.data.toList ++ t.data.toList := by rw [ByteArray.data_append, Array.toList_append]
theorem data_inj {a b : ByteArray} (h : a.data.toList = b.data.toList) : a = b := ByteArray.ext (Array.toList_inj.1 h)
theorem good_pack_bytes {s : ByteArray} {l : List S68} (h : goodT s l = true) : l = pack (bytes l) := by
 obtain ⟨_, h2, _⟩ := goodT_facts h
 exact (pack_of_nrm h2).symm
end Go.Proofs.YtjkfkiebhgkolaaGreatDoor.PB
end

section
namespace Go.Proofs.YtjkfkiebhgkolaaGreatDoor.PB
open Go.RowKit Go.Proofs.YtjkfkiebhgkolaaGreatDoorW.PrintWords Go.Proofs.YtjkfkiebhgkolaaGreatDoorW.PrintLast Go.Proofs.YtjkfkiebhgkolaaGreatDoorW.PrintMore
attribute [local go_sem] max2_int min2_int max_two min_two max_three min_three max_four min_four   
set_option linter.unusedVariables false
set_option linter.unusedSimpArgs false
def bureauref02_Bytes.f (a0 : Int) : Option (ByteArray) := if a0 < 128 then (some (strOfNums (([(a0) % 256] : List Int)))) else (if a0 < 2048 then (some (strOfNums (([(wrap64 (192 + (wrap64 (Int.tdiv a0 64)))) % 256, (wrap64 (128 + (Int.tmod a0 64))) % 256] : List Int)))) else (if a0 < 65536 then (some (strOfNums (([(wrap64 (224 + (wrap64 (Int.tdiv a0 4096)))) % 256, (wrap64 (128 + (Int.tmod (wrap64 (Int.tdiv a0 64)) 64))) % 256, (wrap64 (128 + (Int.tmod a0 64))) % 256] : List Int)))) else (some (strOfNums (([(wrap64 (240 + (wrap64 (Int.tdiv a0 262144)))) % 256, (wrap64 (128 + (Int.tmod (wrap64 (Int.tdiv a0 4096)) 64))) % 256, (wrap64 (128 + (Int.tmod (wrap64 (Int.tdiv a0 64)) 64))) % 256, (wrap64 (128 + (Int.tmod a0 64))) % 256] : List Int))))))
set_option maxHeartbeats 8000000 in
set_option maxRecDepth 100000 in
theorem bureauref02_Bytes.calls (a0 : Int) (r : ByteArray) (w : World) (h : bureauref02_Bytes.f a0 = some r) :
  Calls Tryz.prog 56 #[.int .i64 a0] w fun e w' => e = .returned (.string r) ∧ Below w.heap.size w w' := by
 have HB := aM (Below.refl w.heap.size w)
 have H : (if a0 < 128 then (some (strOfNums (([(a0) % 256] : List Int)))) else (if a0 < 2048 then (some (strOfNums (([(wrap64 (192 + (wrap64 (Int.tdiv a0 64)))) % 256, (wrap64 (128 + (Int.tmod a0 64))) % 256] : List Int)))) else (if a0 < 65536 then (some (strOfNums (([(wrap64 (224 + (wrap64 (Int.tdiv a0 4096)))) % 256, (wrap64 (128 + (Int.tmod (wrap64 (Int.tdiv a0 64)) 64))) % 256, (wrap64 (128 + (Int.tmod a0 64))) % 256] : List Int)))) else (some (strOfNums (([(wrap64 (240 + (wrap64 (Int.tdiv a0 262144)))) % 256, (wrap64 (128 + (Int.tmod (wrap64 (Int.tdiv a0 4096)) 64))) % 256, (wrap64 (128 + (Int.tmod (wrap64 (Int.tdiv a0 64)) 64))) % 256, (wrap64 (128 + (Int.tmod a0 64))) % 256] : List Int))))))) = some r := h
 clear h
 by_cases c2 : a0 < 128
 ·rw [if_pos c2] at H
  have c2b0 : decide (a0 < 128) = true := decide_eq_true c2
  clear c2
  obtain ⟨y456, hy456⟩ : ∃ y_ : List Int, y_ = (([(a0) % 256] : List Int)) := ⟨_, rfl⟩
  replace H : (some (strOfNums y456)) = some r := by first | (rw [hy456]; with_reducible exact H) | (have H2_ := (Option.bind_some _ _).symm.trans H; rw [hy456]; with_reducible exact H2_) | (have H2_ := (Option.bind_some _ _).symm.trans H; with_reducible exact H2_) | with_reducible exact H | (rw [hy456]; exact H) | exact H
  have Ny456 := aM hy456
  clear hy456
  obtain rfl := Option.some.inj H
  go_enter Tryz.func56, Tryz.ntmps56
  go_wp2_with (first | ((with_reducible refine gate_dst (N := 8) rfl ?_); refine Kd.R_lit (Kd.int .u8) _ 5 ?hg (N := 8) ?hd (xs := ([(a0) % 256] : List Int)) (inner := [.int .u8 ((a0) % 256)]) (ok := fun _ => True) (okp := fun _ => True) ?hr ?hp (fun _ hk => hk) trivial (Below.refl _ _) (Nat.le_refl _) (by simp) ?_; (case hd | hg => rfl); (case hr => first | (go_simp; done) | (go_simp; rfl)); (case hp => exact (Reps.one (show Kd.M (Kd.int .u8) _ _ _ ((a0) % 256) [.int .u8 ((a0) % 256)] from rfl) (Reps.none _ _))); intro v457 w3 ho4 hb hg_ hnew_; clear hg_ hnew_; (first | rw [← Ny456.out] at ho4 | (simp only [Int.reduceToNat] at ho4; rw [← Ny456.out] at ho4)); have HO458 := aM (rL ho4 (bZ (ey HB.out))); replace HB := yP w hb; clear hb ho4; have hcv5 := own_string (P := Tryz.prog) Tryz.underlying111 Tryz.underlying5 Tryz.underlying9 (Kd.own_of_R HO458.out)))
  go_ret
  exact ⟨ye, by exact ey HB.out⟩
 ·rw [if_neg c2] at H
  have c2b0 : decide (a0 < 128) = false := decide_eq_false c2
  clear c2
  by_cases c6 : a0 < 2048
  ·rw [if_pos c6] at H
   have c6b0 : decide (a0 < 2048) = true := decide_eq_true c6
   clear c6
   obtain ⟨y459, hy459⟩ : ∃ y_ : List Int, y_ = (([(wrap64 (192 + (wrap64 (Int.tdiv a0 64)))) % 256, (wrap64 (128 + (Int.tmod a0 64))) % 256] : List Int)) := ⟨_, rfl⟩
   replace H : (some (strOfNums y459)) = some r := by first | (rw [hy459]; with_reducible exact H) | (have H2_ := (Option.bind_some _ _).symm.trans H; rw [hy459]; with_reducible exact H2_) | (have H2_ := (Option.bind_some _ _).symm.trans H; with_reducible exact H2_) | with_reducible exact H | (rw [hy459]; exact H) | exact H
   have Ny459 := aM hy459
   clear hy459
   obtain rfl := Option.some.inj H
   go_enter Tryz.func56, Tryz.ntmps56
   go_wp2_with (first | ((with_reducible refine gate_dst (N := 21) rfl ?_); refine Kd.R_lit (Kd.int .u8) _ 5 ?hg (N := 21) ?hd (xs := ([(wrap64 (192 + (wrap64 (Int.tdiv a0 64)))) % 256, (wrap64 (128 + (Int.tmod a0 64))) % 256] : List Int)) (inner := [.int .u8 ((wrap64 (192 + (wrap64 (Int.tdiv a0 64)))) % 256), .int .u8 ((wrap64 (128 + (Int.tmod a0 64))) % 256)]) (ok := fun _ => True) (okp := fun _ => True) ?hr ?hp (fun _ hk => hk) trivial (Below.refl _ _) (Nat.le_refl _) (by simp) ?_; (case hd | hg => rfl); (case hr => first | (go_simp; done) | (go_simp; rfl)); (case hp => exact (Reps.one (show Kd.M (Kd.int .u8) _ _ _ ((wrap64 (192 + (wrap64 (Int.tdiv a0 64)))) % 256) [.int .u8 ((wrap64 (192 + (wrap64 (Int.tdiv a0 64)))) % 256)] from rfl) (Reps.one (show Kd.M (Kd.int .u8) _ _ _ ((wrap64 (128 + (Int.tmod a0 64))) % 256) [.int .u8 ((wrap64 (128 + (Int.tmod a0 64))) % 256)] from rfl) (Reps.none _ _)))); intro v460 w7 ho8 hb hg_ hnew_; clear hg_ hnew_; (first | rw [← Ny459.out] at ho8 | (simp only [Int.reduceToNat] at ho8; rw [← Ny459.out] at ho8)); have HO461 := aM (rL ho8 (bZ (ey HB.out))); replace HB := yP w hb; clear hb ho8; have hcv9 := own_string (P := Tryz.prog) Tryz.underlying111 Tryz.underlying5 Tryz.underlying9 (Kd.own_of_R HO461.out)))
   go_ret
   exact ⟨ye, by exact ey HB.out⟩
  ·rw [if_neg c6] at H
   have c6b0 : decide (a0 < 2048) = false := decide_eq_false c6
   clear c6
   by_cases c10 : a0 < 65536
   ·rw [if_pos c10] at H
    have c10b0 : decide (a0 < 65536) = true := decide_eq_true c10
    clear c10
    obtain ⟨y462, hy462⟩ : ∃ y_ : List Int, y_ = (([(wrap64 (224 + (wrap64 (Int.tdiv a0 4096)))) % 256, (wrap64 (128 + (Int.tmod (wrap64 (Int.tdiv a0 64)) 64))) % 256, (wrap64 (128 + (Int.tmod a0 64))) % 256] : List Int)) := ⟨_, rfl⟩
    replace H : (some (strOfNums y462)) = some r := by first | (rw [hy462]; with_reducible exact H) | (have H2_ := (Option.bind_some _ _).symm.trans H; rw [hy462]; with_reducible exact H2_) | (have H2_ := (Option.bind_some _ _).symm.trans H; with_reducible exact H2_) | with_reducible exact H | (rw [hy462]; exact H) | exact H
    have Ny462 := aM hy462
    clear hy462
    obtain rfl := Option.some.inj H
    go_enter Tryz.func56, Tryz.ntmps56
    go_wp2_with (first | ((with_reducible refine gate_dst (N := 39) rfl ?_); refine Kd.R_lit (Kd.int .u8) _ 5 ?hg (N := 39) ?hd (xs := ([(wrap64 (224 + (wrap64 (Int.tdiv a0 4096)))) % 256, (wrap64 (128 + (Int.tmod (wrap64 (Int.tdiv a0 64)) 64))) % 256, (wrap64 (128 + (Int.tmod a0 64))) % 256] : List Int)) (inner := [.int .u8 ((wrap64 (224 + (wrap64 (Int.tdiv a0 4096)))) % 256), .int .u8 ((wrap64 (128 + (Int.tmod (wrap64 (Int.tdiv a0 64)) 64))) % 256), .int .u8 ((wrap64 (128 + (Int.tmod a0 64))) % 256)]) (ok := fun _ => True) (okp := fun _ => True) ?hr ?hp (fun _ hk => hk) trivial (Below.refl _ _) (Nat.le_refl _) (by simp) ?_; (case hd | hg => rfl); (case hr => first | (go_simp; done) | (go_simp; rfl)); (case hp => exact (Reps.one (show Kd.M (Kd.int .u8) _ _ _ ((wrap64 (224 + (wrap64 (Int.tdiv a0 4096)))) % 256) [.int .u8 ((wrap64 (224 + (wrap64 (Int.tdiv a0 4096)))) % 256)] from rfl) (Reps.one (show Kd.M (Kd.int .u8) _ _ _ ((wrap64 (128 + (Int.tmod (wrap64 (Int.tdiv a0 64)) 64))) % 256) [.int .u8 ((wrap64 (128 + (Int.tmod (wrap64 (Int.tdiv a0 64)) 64))) % 256)] from rfl) (Reps.one (show Kd.M (Kd.int .u8) _ _ _ ((wrap64 (128 + (Int.tmod a0 64))) % 256) [.int .u8 ((wrap64 (128 + (Int.tmod a0 64))) % 256)] from rfl) (Reps.none _ _))))); intro v463 w11 ho12 hb hg_ hnew_; clear hg_ hnew_; (first | rw [← Ny462.out] at ho12 | (simp only [Int.reduceToNat] at ho12; rw [← Ny462.out] at ho12)); have HO464 := aM (rL ho12 (bZ (ey HB.out))); replace HB := yP w hb; clear hb ho12; have hcv13 := own_string (P := Tryz.prog) Tryz.underlying111 Tryz.underlying5 Tryz.underlying9 (Kd.own_of_R HO464.out)))
    go_ret
    exact ⟨ye, by exact ey HB.out⟩
   ·rw [if_neg c10] at H
    have c10b0 : decide (a0 < 65536) = false := decide_eq_false c10
    clear c10
    obtain ⟨y465, hy465⟩ : ∃ y_ : List Int, y_ = (([(wrap64 (240 + (wrap64 (Int.tdiv a0 262144)))) % 256, (wrap64 (128 + (Int.tmod (wrap64 (Int.tdiv a0 4096)) 64))) % 256, (wrap64 (128 + (Int.tmod (wrap64 (Int.tdiv a0 64)) 64))) % 256, (wrap64 (128 + (Int.tmod a0 64))) % 256] : List Int)) := ⟨_, rfl⟩
    replace H : (some (strOfNums y465)) = some r := by first | (rw [hy465]; with_reducible exact H) | (have H2_ := (Option.bind_some _ _).symm.trans H; rw [hy465]; with_reducible exact H2_) | (have H2_ := (Option.bind_some _ _).symm.trans H; with_reducible exact H2_) | with_reducible exact H | (rw [hy465]; exact H) | exact H
    have Ny465 := aM hy465
    clear hy465
    obtain rfl := Option.some.inj H
    go_enter Tryz.func56, Tryz.ntmps56
    go_wp2_with (first | ((with_reducible refine gate_dst (N := 59) rfl ?_); refine Kd.R_lit (Kd.int .u8) _ 5 ?hg (N := 59) ?hd (xs := ([(wrap64 (240 + (wrap64 (Int.tdiv a0 262144)))) % 256, (wrap64 (128 + (Int.tmod (wrap64 (Int.tdiv a0 4096)) 64))) % 256, (wrap64 (128 + (Int.tmod (wrap64 (Int.tdiv a0 64)) 64))) % 256, (wrap64 (128 + (Int.tmod a0 64))) % 256] : List Int)) (inner := [.int .u8 ((wrap64 (240 + (wrap64 (Int.tdiv a0 262144)))) % 256), .int .u8 ((wrap64 (128 + (Int.tmod (wrap64 (Int.tdiv a0 4096)) 64))) % 256), .int .u8 ((wrap64 (128 + (Int.tmod (wrap64 (Int.tdiv a0 64)) 64))) % 256), .int .u8 ((wrap64 (128 + (Int.tmod a0 64))) % 256)]) (ok := fun _ => True) (okp := fun _ => True) ?hr ?hp (fun _ hk => hk) trivial (Below.refl _ _) (Nat.le_refl _) (by simp) ?_; (case hd | hg => rfl); (case hr => first | (go_simp; done) | (go_simp; rfl)); (case hp => exact (Reps.one (show Kd.M (Kd.int .u8) _ _ _ ((wrap64 (240 + (wrap64 (Int.tdiv a0 262144)))) % 256) [.int .u8 ((wrap64 (240 + (wrap64 (Int.tdiv a0 262144)))) % 256)] from rfl) (Reps.one (show Kd.M (Kd.int .u8) _ _ _ ((wrap64 (128 + (Int.tmod (wrap64 (Int.tdiv a0 4096)) 64))) % 256) [.int .u8 ((wrap64 (128 + (Int.tmod (wrap64 (Int.tdiv a0 4096)) 64))) % 256)] from rfl) (Reps.one (show Kd.M (Kd.int .u8) _ _ _ ((wrap64 (128 + (Int.tmod (wrap64 (Int.tdiv a0 64)) 64))) % 256) [.int .u8 ((wrap64 (128 + (Int.tmod (wrap64 (Int.tdiv a0 64)) 64))) % 256)] from rfl) (Reps.one (show Kd.M (Kd.int .u8) _ _ _ ((wrap64 (128 + (Int.tmod a0 64))) % 256) [.int .u8 ((wrap64 (128 + (Int.tmod a0 64))) % 256)] from rfl) (Reps.none _ _)))))); intro v466 w14 ho15 hb hg_ hnew_; clear hg_ hnew_; (first | rw [← Ny465.out] at ho15 | (simp only [Int.reduceToNat] at ho15; rw [← Ny465.out] at ho15)); have HO467 := aM (rL ho15 (bZ (ey HB.out))); replace HB := yP w hb; clear hb ho15; have hcv16 := own_string (P := Tryz.prog) Tryz.underlying111 Tryz.underlying5 Tryz.underlying9 (Kd.own_of_R HO467.out)))
    go_ret
    exact ⟨ye, by exact ey HB.out⟩
def bureauref02_May.f (a0 : Int) : Option (Bool) := if a0 ≥ 0 then (if a0 ≤ 1114111 then (if a0 < 55296 then (some true) else (some (decide (a0 > 57343)))) else (some false)) else (some false)
set_option maxHeartbeats 8000000 in
set_option maxRecDepth 100000 in
theorem bureauref02_May.calls (a0 : Int) (r : Bool) (w : World) (h : bureauref02_May.f a0 = some r) :
  Calls Tryz.prog 106 #[.int .i64 a0] w fun e w' => e = .returned (.bool r) ∧ Drawn0 w w' := by
 have H : (if a0 ≥ 0 then (if a0 ≤ 1114111 then (if a0 < 55296 then (some true) else (some (decide (a0 > 57343)))) else (some false)) else (some false)) = some r := h
 clear h
 by_cases c2 : a0 ≥ 0
 ·rw [if_pos c2] at H
  have c2b0 : decide (0 ≤ a0) = true := decide_eq_true c2
  clear c2
  by_cases c3 : a0 ≤ 1114111
  ·rw [if_pos c3] at H
   have c3b0 : decide (a0 ≤ 1114111) = true := decide_eq_true c3
   clear c3
   by_cases c4 : a0 < 55296
   ·rw [if_pos c4] at H
    have c4b0 : decide (a0 < 55296) = true := decide_eq_true c4
    clear c4
    obtain rfl := Option.some.inj H
    go_enter Tryz.func106, Tryz.ntmps106
    go_wp2
    go_ret
    exact ⟨by first | rfl | (simp; done) | (simp [*]; done), by repeat (first | exact Drawn0.refl _ | apply Drawn0.step)⟩
   ·rw [if_neg c4] at H
    have c4b0 : decide (a0 < 55296) = false := decide_eq_false c4
    clear c4
    obtain rfl := Option.some.inj H
    go_enter Tryz.func106, Tryz.ntmps106
    go_wp2
    go_ret
    exact ⟨by first | rfl | (simp; done) | (simp [*]; done), by repeat (first | exact Drawn0.refl _ | apply Drawn0.step)⟩
  ·rw [if_neg c3] at H
   have c3b0 : decide (a0 ≤ 1114111) = false := decide_eq_false c3
   clear c3
   obtain rfl := Option.some.inj H
   go_enter Tryz.func106, Tryz.ntmps106
   go_wp2
   go_ret
   exact ⟨by first | rfl | (simp; done) | (simp [*]; done), by repeat (first | exact Drawn0.refl _ | apply Drawn0.step)⟩
 ·rw [if_neg c2] at H
  have c2b0 : decide (0 ≤ a0) = false := decide_eq_false c2
  clear c2
  obtain rfl := Option.some.inj H
  go_enter Tryz.func106, Tryz.ntmps106
  go_wp2
  go_ret
  exact ⟨by first | rfl | (simp; done) | (simp [*]; done), by repeat (first | exact Drawn0.refl _ | apply Drawn0.step)⟩
mutual
def bureauref02_number.j0 : Nat → ByteArray → Int → Option (Int)
 | 0, _, _ => none
 | k + 1, x0, x3 => bureauref02_number.l0 k x0 x3 1
def bureauref02_number.l0 : Nat → ByteArray → Int → Int → Option (Int)
 | 0, _, _, _ => none
 | k + 1, x0, x3, x4 => if x4 < (x0.size : Int) then (if 0 ≤ x4 then (bureauref02_number.l0 k x0 (wrap64 ((wrap64 (x3 * 64)) + (Int.tmod (wrap64 (bt x0 x4)) 64))) (wrap64 (x4 + 1))) else (none)) else (some x3)
end
def bureauref02_number.f (k : Nat) (a0 : ByteArray) : Option (Int) := if 0 < (a0.size : Int) then (if (a0.size : Int) = 2 then (bureauref02_number.j0 k a0 (Int.tmod (wrap64 (bt a0 0)) 32)) else (if (a0.size : Int) = 3 then (bureauref02_number.j0 k a0 (Int.tmod (wrap64 (bt a0 0)) 16)) else (if (a0.size : Int) = 4 then (bureauref02_number.j0 k a0 (Int.tmod (wrap64 (bt a0 0)) 8)) else (bureauref02_number.j0 k a0 (wrap64 (bt a0 0)))))) else (none)
set_option maxHeartbeats 8000000 in
set_option maxRecDepth 100000 in
theorem bureauref02_number.calls (k : Nat) (a0 : ByteArray) (r : Int) (w : World) (h : bureauref02_number.f k a0 = some r) :
  Calls Tryz.prog 166 #[.string a0] w fun e w' => e = .returned (.int .i64 r) ∧ Drawn0 w w' := by
 have H : (if 0 < (a0.size : Int) then (if (a0.size : Int) = 2 then (bureauref02_number.j0 k a0 (Int.tmod (wrap64 (bt a0 0)) 32)) else (if (a0.size : Int) = 3 then (bureauref02_number.j0 k a0 (Int.tmod (wrap64 (bt a0 0)) 16)) else (if (a0.size : Int) = 4 then (bureauref02_number.j0 k a0 (Int.tmod (wrap64 (bt a0 0)) 8)) else (bureauref02_number.j0 k a0 (wrap64 (bt a0 0)))))) else (none)) = some r := h
 clear h
 by_cases c2 : 0 < (a0.size : Int)
 ·rw [if_pos c2] at H
  have c2b0 : decide (0 < (a0.size : Int)) = true := decide_eq_true c2
  have c2b1 : decide (0 < a0.size) = true := decide_eq_true (by omega)
  clear c2
  have HC4 := aM H
  clear H
  have p3 : 0 ≤ (0 : Int) := (by omega)
  have q3 : 0 < a0.size := (by have : (0 : Int) < (a0.size : Int) := of_decide_eq_true (by first | (with_reducible assumption) | assumption); omega)
  have hx3 : ∀ h : 0 < a0.size, ((a0[0]'h).toNat : Int) = bt a0 0 := bt_at a0 0
  clear p3
  have qi3 : (0 < (a0.size : Int)) = True := eq_true (of_decide_eq_true (by first | (with_reducible assumption) | assumption))
  replace q3 := eq_true q3
  go_enter Tryz.func166, Tryz.ntmps166
  go_upto_block 0 with (fail)
  go_cut [3] (fun v3 wc => ∃ (kq : Nat) (x3_3 : Int), v3 = .int .i64 x3_3 ∧ Aside0 (bureauref02_number.j0 kq a0 x3_3 = some r) ∧ Aside0 (kq ≤ k) ∧ Drawn0 w wc)
  case first =>
   have H := HC4.out
   clear HC4
   by_cases c5 : (a0.size : Int) = 2
   ·rw [if_pos c5] at H
    have c5b0 : ((a0.size : Int) == 2) = true := beq_iff_eq.mpr c5
    have c5b1 : ((a0.size : Int) != 2) = false := bne_eq_false_iff_eq.mpr c5
    clear c5
    (first | rw [c5b0] | (simp only [i64_w, i32_w]; rw [c5b0]) | skip)
    have H' := aM H
    clear H
    go_wp2
    go_meet
    case rel => exact ⟨_, (Int.tmod (wrap64 (bt a0 0)) 32), (by first | rfl | (simp; done) | (simp [*]; done)), H', ⟨by first | omega | exact Nat.le_refl _⟩, by repeat (first | exact Drawn0.refl _ | apply Drawn0.step)⟩
   ·rw [if_neg c5] at H
    have c5b0 : ((a0.size : Int) == 2) = false := beq_eq_false_iff_ne.mpr c5
    have c5b1 : ((a0.size : Int) != 2) = true := bne_iff_ne.mpr c5
    (first | rw [c5b0] | (simp only [i64_w, i32_w]; rw [c5b0]) | skip)
    by_cases c6 : (a0.size : Int) = 3
    ·rw [if_pos c6] at H
     have c6b0 : ((a0.size : Int) == 3) = true := beq_iff_eq.mpr c6
     have c6b1 : ((a0.size : Int) != 3) = false := bne_eq_false_iff_eq.mpr c6
     clear c6
     have H' := aM H
     clear H
     go_wp2
     go_meet
     case rel => exact ⟨_, (Int.tmod (wrap64 (bt a0 0)) 16), (by first | rfl | (simp; done) | (simp [*]; done)), H', ⟨by first | omega | exact Nat.le_refl _⟩, by repeat (first | exact Drawn0.refl _ | apply Drawn0.step)⟩
    ·rw [if_neg c6] at H
     have c6b0 : ((a0.size : Int) == 3) = false := beq_eq_false_iff_ne.mpr c6
     have c6b1 : ((a0.size : Int) != 3) = true := bne_iff_ne.mpr c6
     by_cases c7 : (a0.size : Int) = 4
     ·rw [if_pos c7] at H
      have c7b0 : ((a0.size : Int) == 4) = true := beq_iff_eq.mpr c7
      have c7b1 : ((a0.size : Int) != 4) = false := bne_eq_false_iff_eq.mpr c7
      clear c7
      have H' := aM H
      clear H
      go_wp2
      go_meet
      case rel => exact ⟨_, (Int.tmod (wrap64 (bt a0 0)) 8), (by first | rfl | (simp; done) | (simp [*]; done)), H', ⟨by first | omega | exact Nat.le_refl _⟩, by repeat (first | exact Drawn0.refl _ | apply Drawn0.step)⟩
     ·rw [if_neg c7] at H
      have c7b0 : ((a0.size : Int) == 4) = false := beq_eq_false_iff_ne.mpr c7
      have c7b1 : ((a0.size : Int) != 4) = true := bne_iff_ne.mpr c7
      have H' := aM H
      clear H
      go_wp2
      go_meet
      case rel => exact ⟨_, (wrap64 (bt a0 0)), (by first | rfl | (simp; done) | (simp [*]; done)), H', ⟨by first | omega | exact Nat.le_refl _⟩, by repeat (first | exact Drawn0.refl _ | apply Drawn0.step)⟩
  case rest =>
   clear HC4
   try clear c1
   try clear c2
   try clear c2b0
   try clear c2b1
   try clear p2
   try clear p3
   try clear q3
   try clear hx3
   try clear qi3
   try clear c5
   try clear c5b0
   try clear c5b1
   try clear c6
   try clear c6b0
   try clear c6b1
   try clear p6
   try clear c7
   try clear c7b0
   try clear c7b1
   try clear p3
   try clear q3
   obtain ⟨kq, x3_3, rfl, HA, HJ3, ⟨mc3, rfl⟩⟩ := hcut
   cases kq with
   | zero => exact absurd HA.out (by simp [bureauref02_number.j0])
   | succ kj3 =>
    have H := HA.out
    clear HA
    simp only [bureauref02_number.j0] at H
    have H' := aM H
    clear H
    go_wp2
    go_loopg [3, 4] kj3 (fun kq v3 v4 w' => ∃ (x3_2 : Int) (x4_2 : Int), v3 = .int .i64 x3_2 ∧ v4 = .int .i64 x4_2 ∧ Aside0 (bureauref02_number.l0 kq a0 x3_2 x4_2 = some r) ∧ Aside0 (kq ≤ kj3) ∧ Drawn0 w w')
    case atStart => exact ⟨(x3_3), (1), (by first | rfl | (simp; done) | (simp [*]; done)), (by first | rfl | (simp; done) | (simp [*]; done)), H', ⟨Nat.le_refl _⟩, by repeat (first | exact Drawn0.refl _ | apply Drawn0.step)⟩
    case round =>
     clear H'
     try clear c1
     try clear c2
     try clear c2b0
     try clear c2b1
     try clear p2
     try clear c3
     try clear p3
     try clear q3
     try clear hx3
     try clear qi3
     try clear c5
     try clear c5b0
     try clear c5b1
     try clear c6
     try clear c6b0
     try clear c6b1
     try clear p6
     try clear c7
     try clear c7b0
     try clear c7b1
     try clear p2
     try clear p3
     try clear p6
     try clear q3
     obtain ⟨x3_2, x4_2, rfl, rfl, HA, HK2, ⟨m2, rfl⟩⟩ := hrel
     cases gk with
     | zero => exact absurd HA.out (by simp [bureauref02_number.l0])
     | succ k2 =>
      have H := HA.out
      clear HA
      simp only [bureauref02_number.l0] at H
      by_cases c8 : x4_2 < (a0.size : Int)
      ·rw [if_pos c8] at H
       have c8b0 : decide (x4_2 < (a0.size : Int)) = true := decide_eq_true c8
       clear c8
       by_cases c9 : 0 ≤ x4_2
       ·rw [if_pos c9] at H
        have c9b0 : decide (0 ≤ x4_2) = true := decide_eq_true c9
        clear c9
        have H' := aM H
        clear H
        have p10 : 0 ≤ (x4_2 : Int) := of_decide_eq_true (by first | (with_reducible assumption) | assumption)
        have q10 : x4_2 < (a0.size : Int) := of_decide_eq_true (by first | (with_reducible assumption) | assumption)
        have hx10 := bt_at a0 x4_2
        replace p10 := eq_true p10
        replace q10 := eq_true q10
        go_wp2
        go_roundg k2
        case measure => have := HJ3.out; have := HK2.out; omega
        case rel => exact ⟨(wrap64 ((wrap64 (x3_2 * 64)) + (Int.tmod (wrap64 (bt a0 x4_2)) 64))), (wrap64 (x4_2 + 1)), (by first | rfl | (simp; done) | (simp [*]; done)), (by first | rfl | (simp; done) | (simp [*]; done)), H', ⟨by have := HJ3.out; have := HK2.out; omega⟩, by repeat (first | exact Drawn0.refl _ | apply Drawn0.step)⟩
       ·rw [if_neg c9] at H
        exact absurd H (by simp)
      ·rw [if_neg c8] at H
       have c8b0 : decide (x4_2 < (a0.size : Int)) = false := decide_eq_false c8
       clear c8
       obtain rfl := Option.some.inj H
       go_wp2
       go_ret
       exact ⟨by first | rfl | (simp; done) | (simp [*]; done), by repeat (first | exact Drawn0.refl _ | apply Drawn0.step)⟩
 ·rw [if_neg c2] at H
  exact absurd H (by simp)
mutual
def bureauref02_one.l0 : Nat → ByteArray → Int → Int → Option (Int × Int × Int × Bool)
 | 0, _, _, _ => none
 | k + 1, x0, x1, x5 => if x5 ≤ 4 then (bureauref02_one.j1 k x0 x1 x5 (decide (x5 ≤ (wrap64 ((x0.size : Int) - x1))))) else (bureauref02_one.j1 k x0 x1 x5 false)
def bureauref02_one.j1 : Nat → ByteArray → Int → Int → Bool → Option (Int × Int × Int × Bool)
 | 0, _, _, _, _ => none
 | k + 1, x0, x1, x5, x17 => if x17 = true then (if 0 ≤ x1 then (if x1 ≤ (wrap64 (x1 + x5)) then (if (wrap64 (x1 + x5)) ≤ (x0.size : Int) then ((bureauref02_number.f k (x0.extract (x1 : Int).toNat ((wrap64 (x1 + x5)) : Int).toNat)).bind fun t469 => ((bureauref02_May.f t469).bind fun t470 => (if t470 = true then ((bureauref02_Bytes.f t469).bind fun t471 => (if t471.toList = (x0.extract (x1 : Int).toNat ((wrap64 (x1 + x5)) : Int).toNat).toList then (some (x1, x5, t469, true)) else (bureauref02_one.l0 k x0 x1 (wrap64 (x5 + 1))))) else (bureauref02_one.l0 k x0 x1 (wrap64 (x5 + 1)))))) else (none)) else (none)) else (none)) else (some (x1, 1, 65533, false))
end
def bureauref02_one.f (k : Nat) (a0 : ByteArray) (a1 : Int) : Option (Int × Int × Int × Bool) := bureauref02_one.l0 k a0 a1 1
set_option maxHeartbeats 8000000 in
set_option maxRecDepth 100000 in
theorem bureauref02_one.calls (k : Nat) (a0 : ByteArray) (a1 : Int) (r1 : Int) (r2 : Int) (r3 : Int) (r4 : Bool) (w : World) (h : bureauref02_one.f k a0 a1 = some (r1, r2, r3, r4)) :
  Calls Tryz.prog 151 #[.string a0, .int .i64 a1] w fun e w' => e = .returned (.agg #[.int .i64 r1, .int .i64 r2, .int .i64 r3, .bool r4]) ∧ Below w.heap.size w w' := by
 have hu185 := Tryz.underlying185
 have HB := aM (Below.refl w.heap.size w)
 have H : (bureauref02_one.l0 k a0 a1 1) = some (r1, r2, r3, r4) := h
 clear h
 have H' := aM H
 clear H
 go_enter Tryz.func151, Tryz.ntmps151
 go_wp2_with (first | ((with_reducible refine gate_dst (N := 4) rfl ?_); (try (refine gate_guard (by rfl) ?_; dsimp only)); refine box_event ?hg (N := 4) ?hd (cs := #[.int .i64 0, .int .i64 0, .int .i64 0, .bool false]) (t := 185) ?hr ?_; (case hd | hg => rfl); (case hr => first | (go_simp; done) | (go_simp; rfl)); intro gb468 hg w3 hbox hb; have BK468 := aM (hbox); have GW468 := yG w hg; have GE468 := GW468; replace HB := yP w hb; clear hb hbox hg))
 go_loopg [5] k (fun kq v5 w' => ∃ (x5_1 : Int) (x469000_1 : Int) (x469001_1 : Int) (x469002_1 : Int) (x469003_1 : Bool), v5 = .int .i64 x5_1 ∧ Aside0 (bureauref02_one.l0 kq a0 a1 x5_1 = some (r1, r2, r3, r4)) ∧ Aside0 (kq ≤ k) ∧ Aside0 (w'.heap[gb468]? = some (.cells #[.int .i64 x469000_1, .int .i64 x469001_1, .int .i64 x469002_1, .bool x469003_1] 185 (0, 0))) ∧ Aside0 (Below w.heap.size w w'))
 case atStart => exact ⟨(1), (0), (0), (0), (false), (by first | rfl | (simp; done) | (simp [*]; done)), H', ⟨Nat.le_refl _⟩, ⟨by exact qy BK468.out⟩, ⟨yH⟩⟩
 case round =>
  clear H'
  try clear c1
  try clear p2
  obtain ⟨x5_1, x469000_1, x469001_1, x469002_1, x469003_1, rfl, HA, HK1, BK468, HB⟩ := hrel
  cases gk with
  | zero => exact absurd HA.out (by simp [bureauref02_one.l0])
  | succ k1 =>
   have H := HA.out
   clear HA
   simp only [bureauref02_one.l0] at H
   have HC4 := aM H
   clear H
   go_upto_region 2 with (fail)
   go_cut [17] (fun v17 wc => ∃ (kq : Nat) (x17_3 : Bool), v17 = .bool x17_3 ∧ Aside0 (bureauref02_one.j1 kq a0 a1 x5_1 x17_3 = some (r1, r2, r3, r4)) ∧ Aside0 (kq ≤ k1) ∧ Aside0 (wc.heap[gb468]? = some (.cells #[.int .i64 x469000_1, .int .i64 x469001_1, .int .i64 x469002_1, .bool x469003_1] 185 (0, 0))) ∧ Aside0 (Below w.heap.size w wc))
   case first =>
    have H := HC4.out
    clear HC4
    by_cases c5 : x5_1 ≤ 4
    ·rw [if_pos c5] at H
     have c5b0 : decide (x5_1 ≤ 4) = true := decide_eq_true c5
     clear c5
     (first | rw [c5b0] | (simp only [i64_w, i32_w]; rw [c5b0]) | skip)
     have H' := aM H
     clear H
     go_wp2
     go_meet
     case rel => exact ⟨_, (decide (x5_1 ≤ (wrap64 ((a0.size : Int) - a1)))), (by first | rfl | (simp; done) | (simp [*]; done)), H', ⟨by have := HK1.out; first | omega | exact Nat.le_refl _⟩, ⟨by exact qy BK468.out⟩, ⟨yH⟩⟩
    ·rw [if_neg c5] at H
     have c5b0 : decide (x5_1 ≤ 4) = false := decide_eq_false c5
     clear c5
     (first | rw [c5b0] | (simp only [i64_w, i32_w]; rw [c5b0]) | skip)
     have H' := aM H
     clear H
     go_wp2
     go_meet
     case rel => exact ⟨_, (false), (by first | rfl | (simp; done) | (simp [*]; done)), H', ⟨by have := HK1.out; first | omega | exact Nat.le_refl _⟩, ⟨by exact qy BK468.out⟩, ⟨yH⟩⟩
   case rest =>
    clear HC4
    try clear c1
    try clear p2
    try clear c5
    try clear c5b0
    try clear p2
    obtain ⟨kq, x17_3, rfl, HA, HJ3, BK468, HB⟩ := hcut
    cases kq with
    | zero => exact absurd HA.out (by simp [bureauref02_one.j1])
    | succ kj3 =>
     have H := HA.out
     clear HA
     simp only [bureauref02_one.j1] at H
     by_cases c6 : x17_3 = true
     ·subst c6
      rw [if_pos rfl] at H
      by_cases c7 : 0 ≤ a1
      ·rw [if_pos c7] at H
       have c7b0 := eq_true c7
       have c7b1 : decide (0 ≤ a1) = true := decide_eq_true c7
       clear c7
       by_cases c8 : a1 ≤ (wrap64 (a1 + x5_1))
       ·rw [if_pos c8] at H
        have c8b0 := eq_true c8
        have c8b1 : decide (a1 ≤ (wrap64 (a1 + x5_1))) = true := decide_eq_true c8
        by_cases c9 : (wrap64 (a1 + x5_1)) ≤ (a0.size : Int)
        ·rw [if_pos c9] at H
         have c9b0 := eq_true c9
         have c9b1 : decide ((wrap64 (a1 + x5_1)) ≤ (a0.size : Int)) = true := decide_eq_true c9
         replace H := Option.bind_eq_some_iff.mp H
         obtain ⟨t469, A100, H⟩ := H
         replace H : ((bureauref02_May.f t469).bind fun t470 => (if t470 = true then ((bureauref02_Bytes.f t469).bind fun t471 => (if t471.toList = (a0.extract (a1 : Int).toNat ((wrap64 (a1 + x5_1)) : Int).toNat).toList then (some (a1, x5_1, t469, true)) else (bureauref02_one.l0 kj3 a0 a1 (wrap64 (x5_1 + 1))))) else (bureauref02_one.l0 kj3 a0 a1 (wrap64 (x5_1 + 1))))) = some (r1, r2, r3, r4) := H
         have A10 := aM A100
         clear A100
         replace H := Option.bind_eq_some_iff.mp H
         obtain ⟨t470, A110, H⟩ := H
         replace H : (if t470 = true then ((bureauref02_Bytes.f t469).bind fun t471 => (if t471.toList = (a0.extract (a1 : Int).toNat ((wrap64 (a1 + x5_1)) : Int).toNat).toList then (some (a1, x5_1, t469, true)) else (bureauref02_one.l0 kj3 a0 a1 (wrap64 (x5_1 + 1))))) else (bureauref02_one.l0 kj3 a0 a1 (wrap64 (x5_1 + 1)))) = some (r1, r2, r3, r4) := H
         have A11 := aM A110
         clear A110
         by_cases c12 : t470 = true
         ·subst c12
          rw [if_pos rfl] at H
          replace H := Option.bind_eq_some_iff.mp H
          obtain ⟨t471, A130, H⟩ := H
          replace H : (if t471.toList = (a0.extract (a1 : Int).toNat ((wrap64 (a1 + x5_1)) : Int).toNat).toList then (some (a1, x5_1, t469, true)) else (bureauref02_one.l0 kj3 a0 a1 (wrap64 (x5_1 + 1)))) = some (r1, r2, r3, r4) := H
          have A13 := aM A130
          clear A130
          by_cases c14 : t471.toList = (a0.extract (a1 : Int).toNat ((wrap64 (a1 + x5_1)) : Int).toNat).toList
          ·rw [if_pos c14] at H
           have c14b0 : (t471.toList == (a0.extract (a1 : Int).toNat ((wrap64 (a1 + x5_1)) : Int).toNat).toList) = true := beq_iff_eq.mpr c14
           have c14b1 : (t471.toList != (a0.extract (a1 : Int).toNat ((wrap64 (a1 + x5_1)) : Int).toNat).toList) = false := bne_eq_false_iff_eq.mpr c14
           clear c14
           simp only [Option.some.injEq, Prod.mk.injEq] at H
           obtain ⟨rfl, rfl, rfl, rfl⟩ := H
           go_wp2_with (first | (refine yC (some 27) Tryz.func166 #[.string (a0.extract (a1 : Int).toNat ((wrap64 (a1 + x5_1)) : Int).toNat)] ?_; (with_reducible refine (bureauref02_number.calls kj3 (a0.extract (a1 : Int).toNat ((wrap64 (a1 + x5_1)) : Int).toNat) t469 _ A10.out).mono ?_); rintro e w' ⟨rfl, ⟨nd, rfl⟩⟩; refine ⟨_, rfl, ?_⟩; (try (rw [drewN_self wc]; generalize hq_ : World.drewN wc _ = wc; have n0_ : Aside0 (wc.heap[gb468]? = some (.cells #[.int .i64 x469000_1, .int .i64 x469001_1, .int .i64 x469002_1, .bool x469003_1] 185 (0, 0))) := ⟨by rw [← hq_]; exact (qy BK468.out)⟩; have n1_ : Aside0 (Below w.heap.size w wc) := ⟨by rw [← hq_]; exact (yH)⟩; clear BK468 HB hq_; have BK468 := n0_; have HB := n1_; clear n0_ n1_))) | (refine yC (some 29) Tryz.func106 #[.int .i64 t469] ?_; (with_reducible refine (bureauref02_May.calls t469 true _ A11.out).mono ?_); rintro e w' ⟨rfl, ⟨nd, rfl⟩⟩; refine ⟨_, rfl, ?_⟩; (try (rw [drewN_self wc]; generalize hq_ : World.drewN wc _ = wc; have n0_ : Aside0 (wc.heap[gb468]? = some (.cells #[.int .i64 x469000_1, .int .i64 x469001_1, .int .i64 x469002_1, .bool x469003_1] 185 (0, 0))) := ⟨by rw [← hq_]; exact (qy BK468.out)⟩; have n1_ : Aside0 (Below w.heap.size w wc) := ⟨by rw [← hq_]; exact (yH)⟩; clear BK468 HB hq_; have BK468 := n0_; have HB := n1_; clear n0_ n1_))) | (go_at_call 56; (with_reducible refine (bureauref02_Bytes.calls t469 t471 _ A13.out).mono ?_); rintro e w15 ⟨rfl, hb⟩; replace BK468 := yB hb BK468; replace HB := yP w hb; clear hb; have hcz16_0 := zC BK468.out 0 (.int .i64 x469000_1); have hcz16_1 := zC BK468.out 1 (.int .i64 x469001_1); have hcz16_2 := zC BK468.out 2 (.int .i64 x469002_1); have hcz16_3 := zC BK468.out 3 (.bool x469003_1); have hfz16_0 := bF BK468.out 0; have hfz16_1 := bF BK468.out 1; have hfz16_2 := bF BK468.out 2; have hfz16_3 := bF BK468.out 3))
           refine bodyPost_ret (results_cell_row rfl _ _ gb468 185 #[.int .i64 a1, .int .i64 x5_1, .int .i64 t469, .bool true] (0, 0) _ rfl (by (with_reducible repeat (first | apply qn | apply qd | apply qa)); refine bU (cs := #[.int .i64 a1, .int .i64 x5_1, .int .i64 t469, .bool x469003_1]) ?_ 3 _ rfl; (with_reducible repeat (first | apply qn | apply qd | apply qa)); refine bU (cs := #[.int .i64 a1, .int .i64 x5_1, .int .i64 x469002_1, .bool x469003_1]) ?_ 2 _ rfl; (with_reducible repeat (first | apply qn | apply qd | apply qa)); refine bU (cs := #[.int .i64 a1, .int .i64 x469001_1, .int .i64 x469002_1, .bool x469003_1]) ?_ 1 _ rfl; (with_reducible repeat (first | apply qn | apply qd | apply qa)); refine bU (cs := #[.int .i64 x469000_1, .int .i64 x469001_1, .int .i64 x469002_1, .bool x469003_1]) ?_ 0 _ rfl; exact qy BK468.out) Tryz.underlying185 rfl (by kernel_rfl)) rfl ?_
           exact ⟨ye, yH⟩
          ·rw [if_neg c14] at H
           have c14b0 : (t471.toList == (a0.extract (a1 : Int).toNat ((wrap64 (a1 + x5_1)) : Int).toNat).toList) = false := beq_eq_false_iff_ne.mpr c14
           have c14b1 : (t471.toList != (a0.extract (a1 : Int).toNat ((wrap64 (a1 + x5_1)) : Int).toNat).toList) = true := bne_iff_ne.mpr c14
           have H' := aM H
           clear H
           go_wp2_with (first | (refine yC (some 27) Tryz.func166 #[.string (a0.extract (a1 : Int).toNat ((wrap64 (a1 + x5_1)) : Int).toNat)] ?_; (with_reducible refine (bureauref02_number.calls kj3 (a0.extract (a1 : Int).toNat ((wrap64 (a1 + x5_1)) : Int).toNat) t469 _ A10.out).mono ?_); rintro e w' ⟨rfl, ⟨nd, rfl⟩⟩; refine ⟨_, rfl, ?_⟩) | (refine yC (some 29) Tryz.func106 #[.int .i64 t469] ?_; (with_reducible refine (bureauref02_May.calls t469 true _ A11.out).mono ?_); rintro e w' ⟨rfl, ⟨nd, rfl⟩⟩; refine ⟨_, rfl, ?_⟩) | (go_at_call 56; (with_reducible refine (bureauref02_Bytes.calls t469 t471 _ A13.out).mono ?_); rintro e w17 ⟨rfl, hb⟩; replace BK468 := yB hb BK468; replace HB := yP w hb; clear hb))
           go_roundg kj3
           case measure => have := HK1.out; have := HJ3.out; omega
           case rel => exact ⟨(wrap64 (x5_1 + 1)), (x469000_1), (x469001_1), (x469002_1), (x469003_1), (by first | rfl | (simp; done) | (simp [*]; done)), H', ⟨by have := HK1.out; have := HJ3.out; omega⟩, ⟨by exact qy BK468.out⟩, ⟨yH⟩⟩
         ·replace c12 := Bool.eq_false_iff.mpr c12
          subst c12
          rw [if_neg (show ¬ (false = true) by decide)] at H
          have H' := aM H
          clear H
          go_wp2_with (first | (refine yC (some 27) Tryz.func166 #[.string (a0.extract (a1 : Int).toNat ((wrap64 (a1 + x5_1)) : Int).toNat)] ?_; (with_reducible refine (bureauref02_number.calls kj3 (a0.extract (a1 : Int).toNat ((wrap64 (a1 + x5_1)) : Int).toNat) t469 _ A10.out).mono ?_); rintro e w' ⟨rfl, ⟨nd, rfl⟩⟩; refine ⟨_, rfl, ?_⟩) | (refine yC (some 29) Tryz.func106 #[.int .i64 t469] ?_; (with_reducible refine (bureauref02_May.calls t469 false _ A11.out).mono ?_); rintro e w' ⟨rfl, ⟨nd, rfl⟩⟩; refine ⟨_, rfl, ?_⟩))
          go_roundg kj3
          case measure => have := HK1.out; have := HJ3.out; omega
          case rel => exact ⟨(wrap64 (x5_1 + 1)), (x469000_1), (x469001_1), (x469002_1), (x469003_1), (by first | rfl | (simp; done) | (simp [*]; done)), H', ⟨by have := HK1.out; have := HJ3.out; omega⟩, ⟨by exact qy BK468.out⟩, ⟨yH⟩⟩
        ·rw [if_neg c9] at H
         exact absurd H (by simp)
       ·rw [if_neg c8] at H
        exact absurd H (by simp)
      ·rw [if_neg c7] at H
       exact absurd H (by simp)
     ·replace c6 := Bool.eq_false_iff.mpr c6
      subst c6
      rw [if_neg (show ¬ (false = true) by decide)] at H
      simp only [Option.some.injEq, Prod.mk.injEq] at H
      obtain ⟨rfl, rfl, rfl, rfl⟩ := H
      have hcz18_0 := zC BK468.out 0 (.int .i64 x469000_1)
      have hcz18_1 := zC BK468.out 1 (.int .i64 x469001_1)
      have hcz18_2 := zC BK468.out 2 (.int .i64 x469002_1)
      have hcz18_3 := zC BK468.out 3 (.bool x469003_1)
      have hfz18_0 := bF BK468.out 0
      have hfz18_1 := bF BK468.out 1
      have hfz18_2 := bF BK468.out 2
      have hfz18_3 := bF BK468.out 3
      go_wp2
      refine bodyPost_ret (results_cell_row rfl _ _ gb468 185 #[.int .i64 a1, .int .i64 1, .int .i64 65533, .bool false] (0, 0) _ rfl (by (with_reducible repeat (first | apply qn | apply qd | apply qa)); refine bU (cs := #[.int .i64 a1, .int .i64 1, .int .i64 65533, .bool x469003_1]) ?_ 3 _ rfl; (with_reducible repeat (first | apply qn | apply qd | apply qa)); refine bU (cs := #[.int .i64 a1, .int .i64 1, .int .i64 x469002_1, .bool x469003_1]) ?_ 2 _ rfl; (with_reducible repeat (first | apply qn | apply qd | apply qa)); refine bU (cs := #[.int .i64 a1, .int .i64 x469001_1, .int .i64 x469002_1, .bool x469003_1]) ?_ 1 _ rfl; (with_reducible repeat (first | apply qn | apply qd | apply qa)); refine bU (cs := #[.int .i64 x469000_1, .int .i64 x469001_1, .int .i64 x469002_1, .bool x469003_1]) ?_ 0 _ rfl; exact qy BK468.out) Tryz.underlying185 rfl (by kernel_rfl)) rfl ?_
      exact ⟨ye, yH⟩
end Go.Proofs.YtjkfkiebhgkolaaGreatDoor.PB
end

section
namespace Go.Proofs.YtjkfkiebhgkolaaGreatDoor.PB
open Go.RowKit Go.Proofs.YtjkfkiebhgkolaaGreatDoorW.PrintWords
set_option linter.unusedVariables false
set_option linter.unusedSimpArgs false
def sgW (v : ByteArray) (i : Nat) : Nat := (Utf8.decode v i).2
def sgR (v : ByteArray) (i : Nat) : Nat := (Utf8.decode v i).1
def bN (v : ByteArray) (i : Nat) : Nat := (v.get! i).toNat
theorem bN_lt (v : ByteArray) (i : Nat) : bN v i < 256 := (v.get! i).toNat_lt
theorem bt_bN (v : ByteArray) (i : Nat) : bt v (i : Int) = (bN v i : Int) := by
 unfold bt bN
 rw [Int.toNat_natCast]
 by_cases h : i < v.size
 ·rw [dif_pos h]
  have : v.get! i = v[i] := by
   simp [ByteArray.get!, getElem!_pos, h]
   rfl
  rw [this]
 ·rw [dif_neg h]
  have : v.get! i = 0 := by
   simp only [ByteArray.get!]
   rw [getElem!_neg]
   ·rfl
   ·exact h
  rw [this]
  rfl
theorem sg_at (v : ByteArray) (i : Nat) : Utf8.decode v i = Lib.decodeN (v.size - i) (bN v i) (bN v (i + 1)) (bN v (i + 2)) (bN v (i + 3)) := Lib.decode_at v i
theorem ext_nums (v : ByteArray) (i m : Nat) (h : i + m ≤ v.size) : v.extract i (i + m) = strOfNums ((List.range m).map (fun j => (bN v (i + j) : Int))) := by
 apply data_inj
 rw [ext_list, strOfNums_data]
 apply List.ext_getElem?
 intro j
 rw [List.map_map, List.getElem?_map, List.getElem?_drop, List.getElem?_take]
 by_cases hj : j < m
 ·rw [if_pos (by omega), List.getElem?_range hj]
  have hd : i + j < v.data.toList.length := by rw [Array.length_toList]; exact (by show i + j < v.size; omega)
  rw [List.getElem?_eq_getElem hd]
  simp only [Option.map_some, Function.comp, Option.some.injEq, Int.toNat_natCast]
  have h2 := bt_bytesOf v (i + j) (by omega)
  rw [bytesOf_getD v (i + j) (by omega), bt_bN] at h2
  rw [List.getD_eq_getElem?_getD, List.getElem?_eq_getElem hd] at h2
  have h3 : (v.data.toList[i + j]).toNat = bN v (i + j) := by
   have h4 : (((v.data.toList[i + j]).toNat : Nat) : Int) = (bN v (i + j) : Int) := by simpa using h2
   exact_mod_cast h4
  rw [← h3, UInt8.ofNat_toNat]
 ·rw [if_neg (by omega), List.getElem?_eq_none (by simpa using hj)]
  rfl
theorem enc_eq (xs : List Int) (v : ByteArray) (i m : Nat) (h : i + m ≤ v.size) (hx : ∀ x ∈ xs, 0 ≤ x ∧ x ≤ 255) : (strOfNums xs).toList = (v.extract i (i + m)).toList ↔ xs = (List.range m).map (fun j => (bN v (i + j) : Int)) := by
 rw [ext_nums v i m h]
 constructor
 ·intro e
  refine strOf_inj hx (fun x hx => ?_) (toList_inj e)
  obtain ⟨j, _, rfl⟩ := List.mem_map.1 hx
  have := bN_lt v (i + j)
  omega
 ·rintro rfl; rfl
theorem bt_ext (v : ByteArray) (i m j : Nat) (h : i + m ≤ v.size) (hj : j < m) : bt (v.extract i (i + m)) (j : Int) = (bN v (i + j) : Int) := by
 rw [ext_nums v i m h, strOf_bt _ j (by simpa using hj)]
 ·simp [List.getD_eq_getElem?_getD, hj]
 ·simp only [List.getD_eq_getElem?_getD, List.getElem?_map, List.getElem?_range hj, Option.map_some, Option.getD_some]
  have := bN_lt v (i + j)
  omega
theorem ext_m (v : ByteArray) (i m : Nat) (h : i + m ≤ v.size) : (v.extract i (i + m)).size = m := by
 rw [ByteArray.size_extract]
 omega
def numb (v : ByteArray) (i : Nat) : Nat → Nat
 | 1 => bN v i
 | 2 => bN v i % 32 * 64 + bN v (i + 1) % 64
 | 3 => (bN v i % 16 * 64 + bN v (i + 1) % 64) * 64 + bN v (i + 2) % 64
 | _ => ((bN v i % 8 * 64 + bN v (i + 1) % 64) * 64 + bN v (i + 2) % 64) * 64 + bN v (i + 3) % 64
theorem wnat {n : Nat} {x : Int} (h : x = (n : Int)) (hn : x ≤ 1000000000000) : wrap64 x = (n : Int) := by subst h; unfold wrap64; omega
set_option maxHeartbeats 1000000 in
theorem number_ev (v : ByteArray) (i m : Nat) (h : i + m ≤ v.size) (h1 : 1 ≤ m) (h4 : m ≤ 4) : Ev (fun k => bureauref02_number.f k (v.extract i (i + m))) (numb v i m : Int) := by
 have hs := ext_m v i m h
 have b0 := bt_ext v i m 0 h (by omega)
 have l0 := bN_lt v i
 have l1 := bN_lt v (i + 1)
 have l2 := bN_lt v (i + 2)
 have l3 := bN_lt v (i + 3)
 rw [Int.natCast_zero, Nat.add_zero] at b0
 have mod64 : ∀ n : Nat, Int.tmod (n : Int) 64 = ((n % 64 : Nat) : Int) := fun n => by rw [Int.tmod_eq_emod_of_nonneg (by omega)]; rfl
 have step : ∀ (j x y : Nat), j < m → x ≤ 100000000 → y = x * 64 + bN v (i + j) % 64 → ∀ {r : Int}, Ev (fun k => bureauref02_number.l0 k (v.extract i (i + m)) (y : Int) ((j + 1 : Nat) : Int)) r → Ev (fun k => bureauref02_number.l0 k (v.extract i (i + m)) (x : Int) (j : Int)) r := fun j x y hj hx hy r hr => by
  have := bN_lt v (i + j)
  refine Ev.step (fun k => by simp only [bureauref02_number.l0]; rfl) ?_
  refine Ev.pos (by rw [hs]; omega) (Ev.pos (by omega) ?_)
  rw [bt_ext v i m j h hj]
  have e0 : wrap64 ((bN v (i + j) : Nat) : Int) = ((bN v (i + j) : Nat) : Int) := wnat rfl (by omega)
  rw [e0, mod64]
  have e1 : wrap64 ((x : Int) * 64) = ((x * 64 : Nat) : Int) := wnat (by omega) (by omega)
  have hm64 : bN v (i + j) % 64 < 64 := Nat.mod_lt _ (by decide)
  generalize bN v (i + j) % 64 = z at hy hm64 ⊢
  clear e0 this l0 l1 l2 l3 b0
  have e2 : wrap64 (((x * 64 : Nat) : Int) + ((z : Nat) : Int)) = (y : Int) := wnat (by omega) (by omega)
  have e3 : wrap64 ((j : Int) + 1) = ((j + 1 : Nat) : Int) := wnat (by omega) (by omega)
  rw [e1, e2, e3]
  exact hr
 have stop : ∀ (x : Nat), Ev (fun k => bureauref02_number.l0 k (v.extract i (i + m)) (x : Int) ((m : Nat) : Int)) (x : Int) := fun x => by
  refine Ev.step (fun k => by simp only [bureauref02_number.l0]; rfl) ?_
  exact Ev.neg (by rw [hs]; omega) (Ev.now _)
 have tm : ∀ (q : Nat), Int.tmod (wrap64 (bt (v.extract i (i + m)) 0)) (q : Int) = ((bN v i % q : Nat) : Int) := fun q => by
  rw [b0, wnat (n := bN v i) rfl (by omega), Int.tmod_eq_emod_of_nonneg (by omega)]; rfl
 unfold bureauref02_number.f
 refine Ev.pos (by rw [hs]; omega) ?_
 rw [hs]
 have j0 : ∀ (x : Nat) {r : Int}, Ev (fun k => bureauref02_number.l0 k (v.extract i (i + m)) (x : Int) ((1 : Nat) : Int)) r → Ev (fun k => bureauref02_number.j0 k (v.extract i (i + m)) (x : Int)) r := fun x r hr =>
  Ev.step (fun k => by simp only [bureauref02_number.j0]; rfl) hr
 match m, h1, h4 with
 | 1, _, _ =>
  refine Ev.neg (by decide) (Ev.neg (by decide) (Ev.neg (by decide) ?_))
  rw [b0, wnat (n := bN v i) rfl (by omega)]
  exact j0 _ (stop _)
 | 2, _, _ =>
  refine Ev.pos (by decide) ?_
  rw [show (32 : Int) = ((32 : Nat) : Int) from rfl, tm]
  exact j0 _ (step 1 _ (numb v i 2) (by omega) (by omega) rfl (stop _))
 | 3, _, _ =>
  refine Ev.neg (by decide) (Ev.pos (by decide) ?_)
  rw [show (16 : Int) = ((16 : Nat) : Int) from rfl, tm]
  exact j0 _ (step 1 _ (bN v i % 16 * 64 + bN v (i + 1) % 64) (by omega) (by omega) rfl (step 2 _ (numb v i 3) (by omega) (by omega) rfl (stop _)))
 | 4, _, _ =>
  refine Ev.neg (by decide) (Ev.neg (by decide) (Ev.pos (by decide) ?_))
  rw [show (8 : Int) = ((8 : Nat) : Int) from rfl, tm]
  exact j0 _ (step 1 _ (bN v i % 8 * 64 + bN v (i + 1) % 64) (by omega) (by omega) rfl (step 2 _ ((bN v i % 8 * 64 + bN v (i + 1) % 64) * 64 + bN v (i + 2) % 64) (by omega) (by omega) rfl (step 3 _ (numb v i 4) (by omega) (by omega) rfl (stop _))))
theorem may_f (r : Nat) : bureauref02_May.f (r : Int) = some (decide (r ≤ 1114111 ∧ ¬ (55296 ≤ r ∧ r ≤ 57343))) := by
 unfold bureauref02_May.f
 by_cases h1 : r ≤ 1114111
 ·rw [if_pos (by omega), if_pos (by omega)]
  by_cases h2 : r < 55296
  ·rw [if_pos (by omega), decide_eq_true (by omega)]
  ·rw [if_neg (by omega)]
   by_cases h3 : r > 57343
   ·rw [decide_eq_true (by omega), decide_eq_true (by omega)]
   ·rw [decide_eq_false (by omega), decide_eq_false (by omega)]
 ·rw [if_pos (by omega), if_neg (by omega), decide_eq_false (by omega)]
def encI (r : Nat) : List Int :=
 if r < 128 then [(r : Int)] else if r < 2048 then [((192 + r / 64 : Nat) : Int), ((128 + r % 64 : Nat) : Int)]
 else if r < 65536 then [((224 + r / 4096 : Nat) : Int), ((128 + r / 64 % 64 : Nat) : Int), ((128 + r % 64 : Nat) : Int)]
 else [((240 + r / 262144 : Nat) : Int), ((128 + r / 4096 % 64 : Nat) : Int), ((128 + r / 64 % 64 : Nat) : Int), ((128 + r % 64 : Nat) : Int)]
theorem encI_byte (r : Nat) (h : r ≤ 1114111) : ∀ x ∈ encI r, 0 ≤ x ∧ x ≤ 255 := by
 intro x hx
 unfold encI at hx
 repeat' split at hx
 all_goals
  simp only [List.mem_cons, List.not_mem_nil, or_false] at hx
  omega
theorem bytes_f (r : Nat) (h : r ≤ 1114111) : bureauref02_Bytes.f (r : Int) = some (strOfNums (encI r)) := by
 have td : ∀ q : Nat, wrap64 (Int.tdiv (r : Int) (q : Int)) = ((r / q : Nat) : Int) := fun q => by
  rw [Int.tdiv_eq_ediv_of_nonneg (by omega)]
  exact wnat (n := r / q) (by rw [Int.natCast_ediv]) (by have := Nat.div_le_self r q; omega)
 have tm : ∀ a q : Nat, Int.tmod (a : Int) (q : Int) = ((a % q : Nat) : Int) := fun a q => by rw [Int.tmod_eq_emod_of_nonneg (by omega)]; rfl
 have m1 : ∀ a : Nat, Int.tmod (a : Int) 64 = ((a % 64 : Nat) : Int) := fun a => tm a 64
 have l1 : ∀ a : Nat, a % 64 < 64 := fun a => Nat.mod_lt _ (by decide)
 have ad : ∀ (c a : Nat), c + a ≤ 255 → (wrap64 ((c : Int) + (a : Int))) % 256 = ((c + a : Nat) : Int) := fun c a h => by
  rw [wnat (n := c + a) (by omega) (by omega)]; omega
 unfold bureauref02_Bytes.f encI
 by_cases h1 : r < 128
 ·rw [if_pos (by omega), if_pos h1]
  congr 3
  omega
 ·rw [if_neg (by omega), if_neg h1]
  by_cases h2 : r < 2048
  ·rw [if_pos (by omega), if_pos h2]
   rw [show (64 : Int) = ((64 : Nat) : Int) from rfl, td 64, tm r 64, show (192 : Int) = ((192 : Nat) : Int) from rfl, show (128 : Int) = ((128 : Nat) : Int) from rfl, ad 192 _ (by omega), ad 128 _ (by have := l1 r; omega)]
  ·rw [if_neg (by omega), if_neg h2]
   by_cases h3 : r < 65536
   ·rw [if_pos (by omega), if_pos h3]
    rw [show (64 : Int) = ((64 : Nat) : Int) from rfl, show (4096 : Int) = ((4096 : Nat) : Int) from rfl, td 64, td 4096, tm r 64, tm (r / 64) 64, show (224 : Int) = ((224 : Nat) : Int) from rfl, show (128 : Int) = ((128 : Nat) : Int) from rfl, ad 224 _ (by omega), ad 128 _ (by have := l1 r; omega), ad 128 _ (by have := l1 (r / 64); omega)]
   ·rw [if_neg (by omega), if_neg h3]
    rw [show (64 : Int) = ((64 : Nat) : Int) from rfl, show (4096 : Int) = ((4096 : Nat) : Int) from rfl, show (262144 : Int) = ((262144 : Nat) : Int) from rfl, td 64, td 4096, td 262144, tm r 64, tm (r / 64) 64, tm (r / 4096) 64, show (240 : Int) = ((240 : Nat) : Int) from rfl, show (128 : Int) = ((128 : Nat) : Int) from rfl, ad 240 _ (by omega), ad 128 _ (by have := l1 r; omega), ad 128 _ (by have := l1 (r / 64); omega), ad 128 _ (by have := l1 (r / 4096); omega)]
def hitU (v : ByteArray) (i m : Nat) : Prop := i + m ≤ v.size ∧ (numb v i m ≤ 1114111 ∧ ¬ (55296 ≤ numb v i m ∧ numb v i m ≤ 57343)) ∧ encI (numb v i m) = (List.range m).map (fun j => (bN v (i + j) : Int))
instance (v : ByteArray) (i m : Nat) : Decidable (hitU v i m) := by unfold hitU; infer_instance
theorem hit1 (v : ByteArray) (i : Nat) (hi : i < v.size) : hitU v i 1 ↔ bN v i < 128 := by
 have := bN_lt v i
 unfold hitU encI
 simp only [numb, List.range_succ, List.range_zero, List.nil_append, List.map_cons, List.map_nil, Nat.add_zero]
 constructor
 ·rintro ⟨_, _, h⟩
  repeat' split at h
  all_goals first | assumption | simp at h
 ·intro h
  rw [if_pos h]
  exact ⟨by omega, by omega, rfl⟩
theorem hit2 (v : ByteArray) (i : Nat) (hi : i < v.size) : hitU v i 2 ↔ 1 < v.size - i ∧ bN v i / 32 = 6 ∧ bN v (i + 1) / 64 = 2 ∧ 128 ≤ bN v i % 32 * 64 + bN v (i + 1) % 64 := by
 have := bN_lt v i
 have := bN_lt v (i + 1)
 unfold hitU encI
 simp only [numb, List.range_succ, List.range_zero, List.nil_append, List.map_append, List.map_cons, List.map_nil, Nat.add_zero, List.cons_append]
 constructor
 ·rintro ⟨_, _, h⟩
  repeat' split at h
  all_goals simp only [List.cons.injEq, reduceCtorEq, and_false, and_true] at h
  all_goals omega
 ·rintro ⟨h1, h2, h3, h4⟩
  rw [if_neg (by omega), if_pos (by omega)]
  simp only [List.cons.injEq, and_true]
  omega
set_option maxHeartbeats 1000000 in
theorem hit3 (v : ByteArray) (i : Nat) (hi : i < v.size) : hitU v i 3 ↔ 2 < v.size - i ∧ bN v i / 16 = 14 ∧ bN v (i + 1) / 64 = 2 ∧ bN v (i + 2) / 64 = 2 ∧ 2048 ≤ numb v i 3 ∧ ¬ (55296 ≤ numb v i 3 ∧ numb v i 3 ≤ 57343) := by
 have := bN_lt v i
 have := bN_lt v (i + 1)
 have := bN_lt v (i + 2)
 unfold hitU encI
 simp only [numb, List.range_succ, List.range_zero, List.nil_append, List.map_append, List.map_cons, List.map_nil, Nat.add_zero, List.cons_append]
 constructor
 ·rintro ⟨_, _, h⟩
  repeat' split at h
  all_goals simp only [List.cons.injEq, reduceCtorEq, and_false, and_true] at h
  all_goals omega
 ·rintro ⟨h1, h2, h3, h4, h5, h6⟩
  rw [if_neg (by omega), if_neg (by omega), if_pos (by omega)]
  simp only [List.cons.injEq, and_true]
  omega
set_option maxHeartbeats 2000000 in
theorem hit4 (v : ByteArray) (i : Nat) (hi : i < v.size) : hitU v i 4 ↔ 3 < v.size - i ∧ bN v i / 8 = 30 ∧ bN v (i + 1) / 64 = 2 ∧ bN v (i + 2) / 64 = 2 ∧ bN v (i + 3) / 64 = 2 ∧ 65536 ≤ numb v i 4 ∧ numb v i 4 ≤ 1114111 := by
 have := bN_lt v i
 have := bN_lt v (i + 1)
 have := bN_lt v (i + 2)
 have := bN_lt v (i + 3)
 unfold hitU encI
 simp only [numb, List.range_succ, List.range_zero, List.nil_append, List.map_append, List.map_cons, List.map_nil, Nat.add_zero, List.cons_append]
 constructor
 ·rintro ⟨_, _, h⟩
  repeat' split at h
  all_goals simp only [List.cons.injEq, reduceCtorEq, and_false, and_true] at h
  all_goals omega
 ·rintro ⟨h1, h2, h3, h4, h5, h6, h7⟩
  rw [if_neg (by omega), if_neg (by omega), if_neg (by omega)]
  simp only [List.cons.injEq, and_true]
  omega
set_option maxHeartbeats 2000000 in
theorem sg_cases (v : ByteArray) (i : Nat) (hi : i < v.size) :
  (hitU v i 1 ∧ sgW v i = 1 ∧ sgR v i = numb v i 1) ∨ (¬ hitU v i 1 ∧ hitU v i 2 ∧ sgW v i = 2 ∧ sgR v i = numb v i 2) ∨ (¬ hitU v i 1 ∧ ¬ hitU v i 2 ∧ hitU v i 3 ∧ sgW v i = 3 ∧ sgR v i = numb v i 3) ∨ (¬ hitU v i 1 ∧ ¬ hitU v i 2 ∧ ¬ hitU v i 3 ∧ hitU v i 4 ∧ sgW v i = 4 ∧ sgR v i = numb v i 4) ∨ (¬ hitU v i 1 ∧ ¬ hitU v i 2 ∧ ¬ hitU v i 3 ∧ ¬ hitU v i 4 ∧ sgW v i = 1 ∧ sgR v i = 65533) := by
 rw [hit1 v i hi, hit2 v i hi, hit3 v i hi, hit4 v i hi]
 unfold sgW sgR
 rw [sg_at]
 have := bN_lt v i
 have := bN_lt v (i + 1)
 have := bN_lt v (i + 2)
 have := bN_lt v (i + 3)
 simp only [numb]
 unfold Lib.decodeN
 generalize bN v i = b0 at *
 generalize bN v (i + 1) = b1 at *
 generalize bN v (i + 2) = b2 at *
 generalize bN v (i + 3) = b3 at *
 generalize v.size - i = n at *
 by_cases h0 : b0 < 128
 ·rw [if_pos h0]
  exact .inl ⟨h0, rfl, rfl⟩
 rw [if_neg h0]
 by_cases h1 : b0 / 32 = 6 ∧ 1 < n ∧ b1 / 64 = 2
 ·rw [if_pos h1]
  by_cases h2 : b0 % 32 * 64 + b1 % 64 ≥ 128
  ·rw [if_pos h2]
   exact .inr (.inl ⟨h0, ⟨h1.2.1, h1.1, h1.2.2, h2⟩, rfl, rfl⟩)
  ·rw [if_neg h2]
   exact .inr (.inr (.inr (.inr ⟨h0, by omega, by omega, by omega, rfl, rfl⟩)))
 rw [if_neg h1]
 by_cases h2 : b0 / 16 = 14 ∧ (1 < n ∧ b1 / 64 = 2) ∧ 2 < n ∧ b2 / 64 = 2
 ·rw [if_pos h2]
  split
  ·exact .inr (.inr (.inl ⟨h0, by omega, by omega, rfl, by show _ = _; omega⟩))
  ·exact .inr (.inr (.inr (.inr ⟨h0, by omega, by omega, by omega, rfl, rfl⟩)))
 rw [if_neg h2]
 by_cases h3 : b0 / 8 = 30 ∧ (1 < n ∧ b1 / 64 = 2) ∧ (2 < n ∧ b2 / 64 = 2) ∧ 3 < n ∧ b3 / 64 = 2
 ·rw [if_pos h3]
  split
  ·exact .inr (.inr (.inr (.inl ⟨h0, by omega, by omega, by omega, rfl, by show _ = _; omega⟩)))
  ·exact .inr (.inr (.inr (.inr ⟨h0, by omega, by omega, by omega, rfl, rfl⟩)))
 rw [if_neg h3]
 exact .inr (.inr (.inr (.inr ⟨h0, by omega, by omega, by omega, rfl, rfl⟩)))
def sgWhole (v : ByteArray) (i : Nat) : Bool := decide (hitU v i 1 ∨ hitU v i 2 ∨ hitU v i 3 ∨ hitU v i 4)
theorem one_ev (v : ByteArray) (i : Nat) (hi : i < v.size) (hv : v.size ≤ 100000000) : Ev (fun k => bureauref02_one.f k v (i : Int)) ((i : Int), (sgW v i : Int), (sgR v i : Int), sgWhole v i) := by
 unfold bureauref02_one.f
 have hw : wrap64 ((v.size : Int) - (i : Int)) = ((v.size - i : Nat) : Int) := wnat (by omega) (by omega)
 have yes : ∀ m : Nat, 1 ≤ m → m ≤ 4 → hitU v i m → Ev (fun k => bureauref02_one.l0 k v (i : Int) (m : Int)) ((i : Int), (m : Int), (numb v i m : Int), true) := fun m h1 h4 h => by
  have hx : wrap64 ((i : Int) + (m : Int)) = ((i + m : Nat) : Int) := wnat (by omega) (by have := h.1; omega)
  refine Ev.step (fun k => by simp only [bureauref02_one.l0]; rfl) (Ev.pos (by omega) ?_)
  refine Ev.step (fun k => by simp only [bureauref02_one.j1]; rfl) ?_
  rw [hw, hx]
  refine Ev.pos (decide_eq_true (by have := h.1; omega)) (Ev.pos (by omega) (Ev.pos (by omega) (Ev.pos (by have := h.1; omega) ?_)))
  rw [Int.toNat_natCast, Int.toNat_natCast]
  refine Ev.bind (number_ev v i m h.1 h1 h4) ?_
  rw [may_f, decide_eq_true h.2.1]
  refine Ev.bind (Ev.now _) (Ev.pos rfl ?_)
  rw [bytes_f _ h.2.1.1]
  refine Ev.bind (Ev.now _) (Ev.pos ?_ (Ev.now _))
  exact (enc_eq _ v i m h.1 (encI_byte _ h.2.1.1)).2 h.2.2
 have no : ∀ m : Nat, 1 ≤ m → m ≤ 4 → ¬ hitU v i m → ∀ {r : Int × Int × Int × Bool}, (v.size < i + m → r = ((i : Int), 1, 65533, false)) → Ev (fun k => bureauref02_one.l0 k v (i : Int) ((m + 1 : Nat) : Int)) r → Ev (fun k => bureauref02_one.l0 k v (i : Int) (m : Int)) r := fun m h1 h4 h r hr hn => by
  refine Ev.step (fun k => by simp only [bureauref02_one.l0]; rfl) (Ev.pos (by omega) ?_)
  refine Ev.step (fun k => by simp only [bureauref02_one.j1]; rfl) ?_
  rw [hw]
  by_cases hs : v.size < i + m
  ·rw [hr hs]
   exact Ev.neg (by rw [decide_eq_false (by omega)]; decide) (Ev.now _)
  have hx : wrap64 ((i : Int) + (m : Int)) = ((i + m : Nat) : Int) := wnat (by omega) (by omega)
  have hm : wrap64 ((m : Int) + 1) = ((m + 1 : Nat) : Int) := wnat (by omega) (by omega)
  rw [hx, hm]
  refine Ev.pos (decide_eq_true (by omega)) (Ev.pos (by omega) (Ev.pos (by omega) (Ev.pos (by omega) ?_)))
  rw [Int.toNat_natCast, Int.toNat_natCast]
  refine Ev.bind (number_ev v i m (by omega) h1 h4) ?_
  rw [may_f]
  refine Ev.bind (Ev.now _) ?_
  by_cases hmay : numb v i m ≤ 1114111 ∧ ¬ (55296 ≤ numb v i m ∧ numb v i m ≤ 57343)
  ·rw [decide_eq_true hmay, bytes_f _ hmay.1]
   refine Ev.pos rfl (Ev.bind (Ev.now _) (Ev.neg (fun e => h ⟨by omega, hmay, ?_⟩) hn))
   exact (enc_eq _ v i m (by omega) (encI_byte _ hmay.1)).1 e
  ·rw [decide_eq_false hmay]
   exact Ev.neg (by decide) hn
 have end5 : Ev (fun k => bureauref02_one.l0 k v (i : Int) ((4 + 1 : Nat) : Int)) ((i : Int), (1 : Int), (65533 : Int), false) := by
  refine Ev.step (fun k => by simp only [bureauref02_one.l0]; rfl) (Ev.neg (by decide) ?_)
  exact Ev.step (fun k => by simp only [bureauref02_one.j1]; rfl) (Ev.neg (by decide) (Ev.now _))
 have over : ∀ m m' : Nat, v.size < i + m → m ≤ m' → ¬ hitU v i m' := fun m m' h hm e => by have := e.1; omega
 rw [show (1 : Int) = ((1 : Nat) : Int) from rfl]
 rcases sg_cases v i hi with ⟨h1, e1, e2⟩ | ⟨h1, h2, e1, e2⟩ | ⟨h1, h2, h3, e1, e2⟩ | ⟨h1, h2, h3, h4, e1, e2⟩ | ⟨h1, h2, h3, h4, e1, e2⟩
 ·rw [e1, e2, show sgWhole v i = true from decide_eq_true (.inl h1)]
  exact yes 1 (by omega) (by omega) h1
 ·rw [e1, e2, show sgWhole v i = true from decide_eq_true (.inr (.inl h2))]
  exact no 1 (by omega) (by omega) h1 (fun h => absurd h2 (over _ _ h (by omega))) (yes 2 (by omega) (by omega) h2)
 ·rw [e1, e2, show sgWhole v i = true from decide_eq_true (.inr (.inr (.inl h3)))]
  exact no 1 (by omega) (by omega) h1 (fun h => absurd h3 (over _ _ h (by omega))) (no 2 (by omega) (by omega) h2 (fun h => absurd h3 (over _ _ h (by omega))) (yes 3 (by omega) (by omega) h3))
 ·rw [e1, e2, show sgWhole v i = true from decide_eq_true (.inr (.inr (.inr h4)))]
  exact no 1 (by omega) (by omega) h1 (fun h => absurd h4 (over _ _ h (by omega))) (no 2 (by omega) (by omega) h2 (fun h => absurd h4 (over _ _ h (by omega))) (no 3 (by omega) (by omega) h3 (fun h => absurd h4 (over _ _ h (by omega))) (yes 4 (by omega) (by omega) h4)))
 ·rw [e1, e2, show sgWhole v i = false from decide_eq_false (by rintro (h | h | h | h) <;> contradiction)]
  exact no 1 (by omega) (by omega) h1 (fun _ => rfl) (no 2 (by omega) (by omega) h2 (fun _ => rfl) (no 3 (by omega) (by omega) h3 (fun _ => rfl) (no 4 (by omega) (by omega) h4 (fun _ => rfl) end5)))
end Go.Proofs.YtjkfkiebhgkolaaGreatDoor.PB
end

section
namespace Go.Proofs.YtjkfkiebhgkolaaGreatDoor.PB
open Go.RowKit Go.Proofs.YtjkfkiebhgkolaaGreatDoorW.PrintWords Go.Proofs.YtjkfkiebhgkolaaGreatDoorW.PrintLast Go.Proofs.YtjkfkiebhgkolaaGreatDoorW.PrintMore
attribute [local go_sem] max2_int min2_int max_two min_two max_three min_three max_four min_four   
set_option linter.unusedVariables false
set_option linter.unusedSimpArgs false
def bureauref02_Signs.l0 : Nat → ByteArray → List (S185) → Int → Option ((List (S185)))
 | 0, _, _, _ => none
 | k + 1, x0, x3, x4 => if x4 < (x0.size : Int) then ((bureauref02_one.f k x0 x4).bind fun bt472 => (if x3.length < 4398046511104 then (bureauref02_Signs.l0 k x0 (x3 ++ [(⟨bt472.1, bt472.2.1, bt472.2.2.1, bt472.2.2.2⟩ : S185)]) (wrap64 (x4 + bt472.2.1))) else (none))) else (some x3)
def bureauref02_Signs.f (k : Nat) (a0 : ByteArray) : Option ((List (S185))) := bureauref02_Signs.l0 k a0 ([] : List (S185)) 0
set_option maxHeartbeats 8000000 in
set_option maxRecDepth 100000 in
theorem bureauref02_Signs.calls (k : Nat) (a0 : ByteArray) (r : List (S185)) (w : World) (h : bureauref02_Signs.f k a0 = some r) :
  Calls Tryz.prog 107 #[.string a0] w fun e w' => ∃ v0_ : Value, e = .returned (v0_) ∧ Kd.R k185 185 w' w.heap.size (fun _ => True) v0_ r ∧ Below w.heap.size w w' := by
 have hu185 := Tryz.underlying185
 have HB := aM (Below.refl w.heap.size w)
 have H : (bureauref02_Signs.l0 k a0 ([] : List (S185)) 0) = some r := h
 clear h
 have H' := aM H
 clear H
 go_enter Tryz.func107, Tryz.ntmps107
 go_wp2
 go_loopg [3, 4] k (fun kq v3 v4 w' => ∃ (x3_1 : List (S185)) (x4_1 : Int), v4 = .int .i64 x4_1 ∧ Aside0 (bureauref02_Signs.l0 kq a0 x3_1 x4_1 = some r) ∧ Aside0 (kq ≤ k) ∧ Aside0 (Kd.R k185 185 w' w.heap.size (fun _ => True) v3 x3_1) ∧ Aside0 (Below w.heap.size w w'))
 case atStart => exact ⟨(([] : List (S185))), (0), (by first | rfl | (simp; done) | (simp [*]; done)), H', ⟨Nat.le_refl _⟩, ⟨yn⟩, ⟨by exact ey HB.out⟩⟩
 case round =>
  clear H'
  try clear c1
  obtain ⟨x3_1, x4_1, rfl, HA, HK1, HO_3, HB⟩ := hrel
  cases gk with
  | zero => exact absurd HA.out (by simp [bureauref02_Signs.l0])
  | succ k1 =>
   have H := HA.out
   clear HA
   simp only [bureauref02_Signs.l0] at H
   by_cases c2 : x4_1 < (a0.size : Int)
   ·rw [if_pos c2] at H
    have c2b0 : decide (x4_1 < (a0.size : Int)) = true := decide_eq_true c2
    clear c2
    replace H := Option.bind_eq_some_iff.mp H
    obtain ⟨⟨t472, t473, t474, t475⟩, A30, H⟩ := H
    replace H : (if x3_1.length < 4398046511104 then (bureauref02_Signs.l0 k1 a0 (x3_1 ++ [(⟨t472, t473, t474, t475⟩ : S185)]) (wrap64 (x4_1 + t473))) else (none)) = some r := H
    have A3 := aM A30
    clear A30
    by_cases c4 : x3_1.length < 4398046511104
    ·rw [if_pos c4] at H
     have LMc4 := aM c4
     clear c4
     obtain ⟨y477, hy477⟩ : ∃ y_ : List (S185), y_ = (x3_1 ++ [(⟨t472, t473, t474, t475⟩ : S185)]) := ⟨_, rfl⟩
     replace H : (bureauref02_Signs.l0 k1 a0 y477 (wrap64 (x4_1 + t473))) = some r := by first | (rw [hy477]; with_reducible exact H) | (have H2_ := (Option.bind_some _ _).symm.trans H; rw [hy477]; with_reducible exact H2_) | (have H2_ := (Option.bind_some _ _).symm.trans H; with_reducible exact H2_) | with_reducible exact H | (rw [hy477]; exact H) | exact H
     have Ny477 := aM hy477
     clear hy477
     have H' := aM H
     clear H
     go_wp2_with (first | (refine yC (some 12) Tryz.func151 #[.string a0, .int .i64 x4_1] ?_; (with_reducible refine (bureauref02_one.calls k1 a0 x4_1 t472 t473 t474 t475 _ A3.out).mono ?_); rintro e w5 ⟨rfl, hb⟩; refine ⟨_, rfl, ?_⟩; replace HO_3 := aM (Kd.R_below (ry HO_3.out) hb); replace HB := yP w hb; clear hb) | (refine yX 5 #[.int .i64 0, .int .i64 0, .int .i64 0, .bool false] 185 (fun gb476 hg w6 hbox hb => ?_); have BK476 := hbox; have GW476 := yG w hg; have GE476 := GW476; replace HO_3 := aM (Kd.R_below (Kd.R_elderB (ry HO_3.out) gb476 (Nat.le_of_eq hg.symm)) hb); replace HB := yP w hb; clear hb hbox hg; have hcz7_0 := zC BK476.out 0 (.int .i64 0); have hcz7_1 := zC BK476.out 1 (.int .i64 0); have hcz7_2 := zC BK476.out 2 (.int .i64 0); have hcz7_3 := zC BK476.out 3 (.bool false); have hfz7_0 := bF BK476.out 0; have hfz7_1 := bF BK476.out 1; have hfz7_2 := bF BK476.out 2; have hfz7_3 := bF BK476.out 3) | ((with_reducible refine gate_builtin (b := .append) (xs := #[.tmp 13, .tmp 15]) rfl ?_); at_builtin; refine Kd.R_append k185 (w0 := w) w.heap.size rfl (.tmp 13) (.tmp 15) 154 185 (.agg #[(.int .i64 0), (.int .i64 0), (.int .i64 0), (.bool false)]) 32 rfl Tryz.underlying154 info185 rfl (by decide) (by omega) u3 x3_1 (⟨t472, t473, t474, t475⟩ : S185) [.int .i64 t472, .int .i64 t473, .int .i64 t474, .bool t475] (fun k_ => k_ ≠ gb476) (fun _ => False) rfl (by first | (go_simp; done) | (go_simp; rfl)) ?aP (fun _ hk => hk.elim) ?aF ?aO ?aB ?aS ?aL ?_; (case aP => exact k185_mkM _ _ _ (⟨t472, t473, t474, t475⟩ : S185)); (case aB => exact (yH)); (case aF => exact (fun k_ hk => Kd.freshB (g := gb476) (o := .cells #[.int .i64 t472, .int .i64 t473, .int .i64 t474, .bool t475] 185 (0, 0)) (by (with_reducible repeat (first | apply qn | apply qd | apply qa)); refine bU (cs := #[.int .i64 t472, .int .i64 t473, .int .i64 t474, .bool false]) ?_ 3 _ rfl; (with_reducible repeat (first | apply qn | apply qd | apply qa)); refine bU (cs := #[.int .i64 t472, .int .i64 t473, .int .i64 0, .bool false]) ?_ 2 _ rfl; (with_reducible repeat (first | apply qn | apply qd | apply qa)); refine bU (cs := #[.int .i64 t472, .int .i64 0, .int .i64 0, .bool false]) ?_ 1 _ rfl; (with_reducible repeat (first | apply qn | apply qd | apply qa)); refine bU (cs := #[.int .i64 0, .int .i64 0, .int .i64 0, .bool false]) ?_ 0 _ rfl; exact qy BK476.out) k_ hk)); (case aO => exact (by (with_reducible repeat (first | apply ra | apply rn | apply rd_)); exact rM (rF (p := ⟨gb476, 3, none⟩) (rF (p := ⟨gb476, 2, none⟩) (rF (p := ⟨gb476, 1, none⟩) (rF (p := ⟨gb476, 0, none⟩) (rM HO_3.out (fun k_ hk => (⟨hk, hk.2⟩ : _ ∧ k_ ≠ gb476))) (fun _ hk => hk.2) (.int .i64 t472)) (fun _ hk => hk.2) (.int .i64 t473)) (fun _ hk => hk.2) (.int .i64 t474)) (fun _ hk => hk.2) (.bool t475)) (fun _ hk => hk.1.2))); (case aS => exact (bZ (yH))); (case aL => have := LMc4.out; omega); intro v478 w8 ho hb hg hat; rw [← Ny477.out] at ho; have HO479 := aM (ho); replace BK476 := aM (blk_grown (g := gb476) (o := .cells #[.int .i64 t472, .int .i64 t473, .int .i64 t474, .bool t475] 185 (0, 0)) (by (with_reducible repeat (first | apply qn | apply qd | apply qa)); refine bU (cs := #[.int .i64 t472, .int .i64 t473, .int .i64 t474, .bool false]) ?_ 3 _ rfl; (with_reducible repeat (first | apply qn | apply qd | apply qa)); refine bU (cs := #[.int .i64 t472, .int .i64 t473, .int .i64 0, .bool false]) ?_ 2 _ rfl; (with_reducible repeat (first | apply qn | apply qd | apply qa)); refine bU (cs := #[.int .i64 t472, .int .i64 0, .int .i64 0, .bool false]) ?_ 1 _ rfl; (with_reducible repeat (first | apply qn | apply qd | apply qa)); refine bU (cs := #[.int .i64 0, .int .i64 0, .int .i64 0, .bool false]) ?_ 0 _ rfl; exact qy BK476.out) hg (Kd.R_away HO_3.out (fun _ hk => hk.2))); replace HB := aM (hb); clear HO_3; clear ho hb hg hat; have hcz9_0 := zC BK476.out 0 (.int .i64 t472); have hcz9_1 := zC BK476.out 1 (.int .i64 t473); have hcz9_2 := zC BK476.out 2 (.int .i64 t474); have hcz9_3 := zC BK476.out 3 (.bool t475); have hfz9_0 := bF BK476.out 0; have hfz9_1 := bF BK476.out 1; have hfz9_2 := bF BK476.out 2; have hfz9_3 := bF BK476.out 3))
     go_roundg k1
     case measure => have := HK1.out; omega
     case rel => exact ⟨(y477), (wrap64 (x4_1 + t473)), (by first | rfl | (simp; done) | (simp [*]; done)), H', ⟨by have := HK1.out; omega⟩, ⟨by (with_reducible repeat (first | apply ra | apply rn | apply rd_)); exact rM HO479.out (fun _ hk => trivial)⟩, ⟨yH⟩⟩
    ·rw [if_neg c4] at H
     exact absurd H (by simp)
   ·rw [if_neg c2] at H
    have c2b0 : decide (x4_1 < (a0.size : Int)) = false := decide_eq_false c2
    clear c2
    obtain rfl := Option.some.inj H
    go_wp2
    go_ret
    exact ⟨_, ye, by exact ry HO_3.out, by exact ey HB.out⟩
def bureauref02_which.l0 : Nat → List (S185) → Int → Int → Option (Int)
 | 0, _, _, _ => none
 | k + 1, x0, x1, x5 => if x5 < (x0.length : Int) then (if 0 ≤ x5 then (if x1 < (wrap64 (((rd_T185 x0 x5).f0) + ((rd_T185 x0 x5).f1))) then (some x5) else (bureauref02_which.l0 k x0 x1 (wrap64 (x5 + 1)))) else (none)) else (some (x0.length : Int))
def bureauref02_which.f (k : Nat) (l0 : List (S185)) (a1 : Int) : Option (Int) := bureauref02_which.l0 k l0 a1 0
set_option maxHeartbeats 8000000 in
set_option maxRecDepth 100000 in
theorem bureauref02_which.calls (k : Nat) (A0 : Option Addr) (c0 : Nat) (l0 : List (S185)) (a1 : Int) (r : Int) (w : World) (hr0 : Kd.C k185 w A0 l0.length l0) (hc0 : l0.length ≤ c0) (h : bureauref02_which.f k l0 a1 = some r) :
  Calls Tryz.prog 109 #[.slice A0 l0.length c0, .int .i64 a1] w fun e w' => e = .returned (.int .i64 r) ∧ Drawn0 w w' := by
 have HR0 := aM hr0
 have HC0 := aM hc0
 clear hr0 hc0
 have H : (bureauref02_which.l0 k l0 a1 0) = some r := h
 clear h
 have H' := aM H
 clear H
 go_enter Tryz.func109, Tryz.ntmps109
 go_wp2
 repeat (go_quiet (fail); try go_wp2)
 go_loopg [5] k (fun kq v5 w' => ∃ (x5_1 : Int), v5 = .int .i64 x5_1 ∧ Aside0 (bureauref02_which.l0 kq l0 a1 x5_1 = some r) ∧ Aside0 (kq ≤ k) ∧ Drawn0 w w')
 case atStart => exact ⟨(0), (by first | rfl | (simp; done) | (simp [*]; done)), H', ⟨Nat.le_refl _⟩, by repeat (first | exact Drawn0.refl _ | apply Drawn0.step)⟩
 case round =>
  clear H'
  try clear c1
  try clear p2
  obtain ⟨x5_1, rfl, HA, HK1, ⟨m1, rfl⟩⟩ := hrel
  cases gk with
  | zero => exact absurd HA.out (by simp [bureauref02_which.l0])
  | succ k1 =>
   have H := HA.out
   clear HA
   simp only [bureauref02_which.l0] at H
   by_cases c3 : x5_1 < (l0.length : Int)
   ·rw [if_pos c3] at H
    have c3b0 : decide (x5_1 < (l0.length : Int)) = true := decide_eq_true c3
    clear c3
    by_cases c4 : 0 ≤ x5_1
    ·rw [if_pos c4] at H
     have c4b0 : decide (0 ≤ x5_1) = true := decide_eq_true c4
     clear c4
     by_cases c5 : a1 < (wrap64 (((rd_T185 l0 x5_1).f0) + ((rd_T185 l0 x5_1).f1)))
     ·rw [if_pos c5] at H
      have c5b0 : decide (a1 < (wrap64 (((rd_T185 l0 x5_1).f0) + ((rd_T185 l0 x5_1).f1)))) = true := decide_eq_true c5
      clear c5
      obtain rfl := Option.some.inj H
      have p480 : 0 ≤ (x5_1 : Int) := of_decide_eq_true (by first | (with_reducible assumption) | assumption)
      have q480 : x5_1 < (l0.length : Int) := of_decide_eq_true (by first | (with_reducible assumption) | assumption)
      obtain ⟨ad480, e480, hx480_0, hx480_1, hx480_2, hx480_3⟩ := at_T185 HR0.out x5_1 p480 q480
      cases e480
      replace p480 := eq_true p480
      replace q480 := eq_true q480
      have p481 : 0 ≤ (x5_1 : Int) := of_decide_eq_true (by first | (with_reducible assumption) | assumption)
      have q481 : x5_1 < (l0.length : Int) := of_decide_eq_true (by first | (with_reducible assumption) | assumption)
      obtain ⟨ad481, e481, hx481_0, hx481_1, hx481_2, hx481_3⟩ := at_T185 HR0.out x5_1 p481 q481
      obtain rfl : ad480 = ad481 := (by injection e481)
      replace p481 := eq_true p481
      replace q481 := eq_true q481
      go_wp2
      repeat (go_quiet (fail); try go_wp2)
      go_ret
      exact ⟨by first | rfl | (simp; done) | (simp [*]; done), by repeat (first | exact Drawn0.refl _ | apply Drawn0.step)⟩
     ·rw [if_neg c5] at H
      have c5b0 : decide (a1 < (wrap64 (((rd_T185 l0 x5_1).f0) + ((rd_T185 l0 x5_1).f1)))) = false := decide_eq_false c5
      clear c5
      have H' := aM H
      clear H
      have p480 : 0 ≤ (x5_1 : Int) := of_decide_eq_true (by first | (with_reducible assumption) | assumption)
      have q480 : x5_1 < (l0.length : Int) := of_decide_eq_true (by first | (with_reducible assumption) | assumption)
      obtain ⟨ad480, e480, hx480_0, hx480_1, hx480_2, hx480_3⟩ := at_T185 HR0.out x5_1 p480 q480
      cases e480
      replace p480 := eq_true p480
      replace q480 := eq_true q480
      have p481 : 0 ≤ (x5_1 : Int) := of_decide_eq_true (by first | (with_reducible assumption) | assumption)
      have q481 : x5_1 < (l0.length : Int) := of_decide_eq_true (by first | (with_reducible assumption) | assumption)
      obtain ⟨ad481, e481, hx481_0, hx481_1, hx481_2, hx481_3⟩ := at_T185 HR0.out x5_1 p481 q481
      obtain rfl : ad480 = ad481 := (by injection e481)
      replace p481 := eq_true p481
      replace q481 := eq_true q481
      go_wp2
      repeat (go_quiet (fail); try go_wp2)
      go_roundg k1
      case measure => have := HK1.out; omega
      case rel => exact ⟨(wrap64 (x5_1 + 1)), (by first | rfl | (simp; done) | (simp [*]; done)), H', ⟨by have := HK1.out; omega⟩, by repeat (first | exact Drawn0.refl _ | apply Drawn0.step)⟩
    ·rw [if_neg c4] at H
     exact absurd H (by simp)
   ·rw [if_neg c3] at H
    have c3b0 : decide (x5_1 < (l0.length : Int)) = false := decide_eq_false c3
    clear c3
    obtain rfl := Option.some.inj H
    go_wp2
    repeat (go_quiet (fail); try go_wp2)
    go_ret
    exact ⟨by first | rfl | (simp; done) | (simp [*]; done), by repeat (first | exact Drawn0.refl _ | apply Drawn0.step)⟩
def bureauref02_begins.f (a0 : ByteArray) (l1 : List (S185)) (a2 : Int) : Option (Int) := if a2 ≥ 0 then (if a2 < (l1.length : Int) then (if 0 ≤ a2 then (some ((rd_T185 l1 a2).f0)) else (none)) else (some (a0.size : Int))) else (some (a0.size : Int))
set_option maxHeartbeats 8000000 in
set_option maxRecDepth 100000 in
theorem bureauref02_begins.calls (a0 : ByteArray) (A1 : Option Addr) (c1 : Nat) (l1 : List (S185)) (a2 : Int) (r : Int) (w : World) (hr1 : Kd.C k185 w A1 l1.length l1) (hc1 : l1.length ≤ c1) (h : bureauref02_begins.f a0 l1 a2 = some r) :
  Calls Tryz.prog 108 #[.string a0, .slice A1 l1.length c1, .int .i64 a2] w fun e w' => e = .returned (.int .i64 r) ∧ Drawn0 w w' := by
 have HR1 := aM hr1
 have HC1 := aM hc1
 clear hr1 hc1
 have H : (if a2 ≥ 0 then (if a2 < (l1.length : Int) then (if 0 ≤ a2 then (some ((rd_T185 l1 a2).f0)) else (none)) else (some (a0.size : Int))) else (some (a0.size : Int))) = some r := h
 clear h
 by_cases c4 : a2 ≥ 0
 ·rw [if_pos c4] at H
  have c4b0 : decide (0 ≤ a2) = true := decide_eq_true c4
  clear c4
  by_cases c5 : a2 < (l1.length : Int)
  ·rw [if_pos c5] at H
   have c5b0 : decide (a2 < (l1.length : Int)) = true := decide_eq_true c5
   clear c5
   by_cases c6 : 0 ≤ a2
   ·rw [if_pos c6] at H
    have c6b0 : decide (0 ≤ a2) = true := decide_eq_true c6
    clear c6
    obtain rfl := Option.some.inj H
    have p830 : 0 ≤ (a2 : Int) := of_decide_eq_true (by first | (with_reducible assumption) | assumption)
    have q830 : a2 < (l1.length : Int) := of_decide_eq_true (by first | (with_reducible assumption) | assumption)
    obtain ⟨ad830, e830, hx830_0, hx830_1, hx830_2, hx830_3⟩ := at_T185 HR1.out a2 p830 q830
    cases e830
    replace p830 := eq_true p830
    replace q830 := eq_true q830
    go_enter Tryz.func108, Tryz.ntmps108
    go_wp2
    go_ret
    exact ⟨by first | rfl | (simp; done) | (simp [*]; done), by repeat (first | exact Drawn0.refl _ | apply Drawn0.step)⟩
   ·rw [if_neg c6] at H
    exact absurd H (by simp)
  ·rw [if_neg c5] at H
   have c5b0 : decide (a2 < (l1.length : Int)) = false := decide_eq_false c5
   clear c5
   obtain rfl := Option.some.inj H
   go_enter Tryz.func108, Tryz.ntmps108
   go_wp2
   go_ret
   exact ⟨by first | rfl | (simp; done) | (simp [*]; done), by repeat (first | exact Drawn0.refl _ | apply Drawn0.step)⟩
 ·rw [if_neg c4] at H
  have c4b0 : decide (0 ≤ a2) = false := decide_eq_false c4
  clear c4
  obtain rfl := Option.some.inj H
  go_enter Tryz.func108, Tryz.ntmps108
  go_wp2
  go_ret
  exact ⟨by first | rfl | (simp; done) | (simp [*]; done), by repeat (first | exact Drawn0.refl _ | apply Drawn0.step)⟩
def bureauref02_Align.f (k : Nat) (a0 : ByteArray) (a1 : Int) : Option (Int) := (bureauref02_Signs.f k a0).bind fun t831 => ((bureauref02_which.f k t831 a1).bind fun t834 => ((bureauref02_begins.f a0 t831 t834).bind fun t835 => (some t835)))
set_option maxHeartbeats 8000000 in
set_option maxRecDepth 100000 in
theorem bureauref02_Align.calls (k : Nat) (a0 : ByteArray) (a1 : Int) (r : Int) (w : World) (h : bureauref02_Align.f k a0 a1 = some r) :
  Calls Tryz.prog 52 #[.string a0, .int .i64 a1] w fun e w' => e = .returned (.int .i64 r) ∧ Below w.heap.size w w' := by
 have HB := aM (Below.refl w.heap.size w)
 have H : ((bureauref02_Signs.f k a0).bind fun t831 => ((bureauref02_which.f k t831 a1).bind fun t834 => ((bureauref02_begins.f a0 t831 t834).bind fun t835 => (some t835)))) = some r := h
 clear h
 replace H := Option.bind_eq_some_iff.mp H
 obtain ⟨t831, A30, H⟩ := H
 replace H : ((bureauref02_which.f k t831 a1).bind fun t834 => ((bureauref02_begins.f a0 t831 t834).bind fun t835 => (some t835))) = some r := H
 have A3 := aM A30
 clear A30
 replace H := Option.bind_eq_some_iff.mp H
 obtain ⟨t834, A40, H⟩ := H
 replace H : ((bureauref02_begins.f a0 t831 t834).bind fun t835 => (some t835)) = some r := H
 have A4 := aM A40
 clear A40
 replace H := Option.bind_eq_some_iff.mp H
 obtain ⟨t835, A50, H⟩ := H
 replace H : (some t835) = some r := H
 have A5 := aM A50
 clear A50
 obtain rfl := Option.some.inj H
 go_enter Tryz.func52, Tryz.ntmps52
 go_wp2_with (first | (refine yC (some 7) Tryz.func107 #[.string a0] ?_; (with_reducible refine (bureauref02_Signs.calls k a0 t831 _ A3.out).mono ?_); rintro e w6 ⟨v832, rfl, ho0, hb⟩; refine ⟨_, rfl, ?_⟩; have HO833 := aM (rL ho0 (bZ (ey HB.out))); replace HB := yP w hb; clear hb; (try clear ho0); obtain ⟨Ao7, co7, eo7⟩ := Kd.R_slice HO833.out; subst eo7) | (refine yC (some 12) Tryz.func109 #[.slice Ao7 t831.length co7, .int .i64 a1] ?_; (with_reducible refine (bureauref02_which.calls k _ _ t831 a1 t834 _ ?side1 ?side2 A4.out).mono ?_); (case side1 => repeat (first | exact (rR HO833.out).2.2 | (with_reducible refine Kd.C_alloc ?_ _) | (with_reducible refine Kd.C_drewN ?_ _) | (with_reducible refine Kd.C_drew ?_))); (case side2 => exact (rR HO833.out).2.1); rintro e w' ⟨rfl, ⟨nd, rfl⟩⟩; refine ⟨_, rfl, ?_⟩) | (refine yC (some 13) Tryz.func108 #[.string a0, .slice Ao7 t831.length co7, .int .i64 t834] ?_; (with_reducible refine (bureauref02_begins.calls a0 _ _ t831 t834 t835 _ ?side1 ?side2 A5.out).mono ?_); (case side1 => repeat (first | exact (rR HO833.out).2.2 | (with_reducible refine Kd.C_alloc ?_ _) | (with_reducible refine Kd.C_drewN ?_ _) | (with_reducible refine Kd.C_drew ?_))); (case side2 => exact (rR HO833.out).2.1); rintro e w' ⟨rfl, ⟨nd, rfl⟩⟩; refine ⟨_, rfl, ?_⟩))
 go_ret
 exact ⟨ye, by exact ey HB.out⟩
def bureauref02_Next.f (k : Nat) (a0 : ByteArray) (a1 : Int) : Option (Int) := (bureauref02_Signs.f k a0).bind fun t836 => ((bureauref02_which.f k t836 a1).bind fun t839 => ((bureauref02_begins.f a0 t836 (wrap64 (t839 + 1))).bind fun t840 => (some t840)))
set_option maxHeartbeats 8000000 in
set_option maxRecDepth 100000 in
theorem bureauref02_Next.calls (k : Nat) (a0 : ByteArray) (a1 : Int) (r : Int) (w : World) (h : bureauref02_Next.f k a0 a1 = some r) :
  Calls Tryz.prog 55 #[.string a0, .int .i64 a1] w fun e w' => e = .returned (.int .i64 r) ∧ Below w.heap.size w w' := by
 have HB := aM (Below.refl w.heap.size w)
 have H : ((bureauref02_Signs.f k a0).bind fun t836 => ((bureauref02_which.f k t836 a1).bind fun t839 => ((bureauref02_begins.f a0 t836 (wrap64 (t839 + 1))).bind fun t840 => (some t840)))) = some r := h
 clear h
 replace H := Option.bind_eq_some_iff.mp H
 obtain ⟨t836, A30, H⟩ := H
 replace H : ((bureauref02_which.f k t836 a1).bind fun t839 => ((bureauref02_begins.f a0 t836 (wrap64 (t839 + 1))).bind fun t840 => (some t840))) = some r := H
 have A3 := aM A30
 clear A30
 replace H := Option.bind_eq_some_iff.mp H
 obtain ⟨t839, A40, H⟩ := H
 replace H : ((bureauref02_begins.f a0 t836 (wrap64 (t839 + 1))).bind fun t840 => (some t840)) = some r := H
 have A4 := aM A40
 clear A40
 replace H := Option.bind_eq_some_iff.mp H
 obtain ⟨t840, A50, H⟩ := H
 replace H : (some t840) = some r := H
 have A5 := aM A50
 clear A50
 obtain rfl := Option.some.inj H
 go_enter Tryz.func55, Tryz.ntmps55
 go_wp2_with (first | (refine yC (some 7) Tryz.func107 #[.string a0] ?_; (with_reducible refine (bureauref02_Signs.calls k a0 t836 _ A3.out).mono ?_); rintro e w6 ⟨v837, rfl, ho0, hb⟩; refine ⟨_, rfl, ?_⟩; have HO838 := aM (rL ho0 (bZ (ey HB.out))); replace HB := yP w hb; clear hb; (try clear ho0); obtain ⟨Ao7, co7, eo7⟩ := Kd.R_slice HO838.out; subst eo7) | (refine yC (some 12) Tryz.func109 #[.slice Ao7 t836.length co7, .int .i64 a1] ?_; (with_reducible refine (bureauref02_which.calls k _ _ t836 a1 t839 _ ?side1 ?side2 A4.out).mono ?_); (case side1 => repeat (first | exact (rR HO838.out).2.2 | (with_reducible refine Kd.C_alloc ?_ _) | (with_reducible refine Kd.C_drewN ?_ _) | (with_reducible refine Kd.C_drew ?_))); (case side2 => exact (rR HO838.out).2.1); rintro e w' ⟨rfl, ⟨nd, rfl⟩⟩; refine ⟨_, rfl, ?_⟩) | (refine yC (some 14) Tryz.func108 #[.string a0, .slice Ao7 t836.length co7, .int .i64 (wrap64 (t839 + 1))] ?_; (with_reducible refine (bureauref02_begins.calls a0 _ _ t836 (wrap64 (t839 + 1)) t840 _ ?side1 ?side2 A5.out).mono ?_); (case side1 => repeat (first | exact (rR HO838.out).2.2 | (with_reducible refine Kd.C_alloc ?_ _) | (with_reducible refine Kd.C_drewN ?_ _) | (with_reducible refine Kd.C_drew ?_))); (case side2 => exact (rR HO838.out).2.1); rintro e w' ⟨rfl, ⟨nd, rfl⟩⟩; refine ⟨_, rfl, ?_⟩))
 go_ret
 exact ⟨ye, by exact ey HB.out⟩
end Go.Proofs.YtjkfkiebhgkolaaGreatDoor.PB
end

section
namespace Go.Proofs.YtjkfkiebhgkolaaGreatDoor.PB
open Go.RowKit Go.Proofs.YtjkfkiebhgkolaaGreatDoorW.PrintWords
set_option linter.unusedVariables false
set_option linter.unusedSimpArgs false
theorem sg_width (v : ByteArray) (i : Nat) (hi : i < v.size) : 1 ≤ sgW v i ∧ sgW v i ≤ 4 ∧ i + sgW v i ≤ v.size := by
 rcases sg_cases v i hi with ⟨h1, e1, e2⟩ | ⟨h1, h2, e1, e2⟩ | ⟨h1, h2, h3, e1, e2⟩ | ⟨h1, h2, h3, h4, e1, e2⟩ | ⟨h1, h2, h3, h4, e1, e2⟩
 ·have := h1.1; omega
 ·have := h2.1; omega
 ·have := h3.1; omega
 ·have := h4.1; omega
 ·omega
theorem sg_tail (v : ByteArray) (i j : Nat) (hi : i < v.size) (h1 : 1 ≤ j) (h2 : j < sgW v i) : bN v (i + j) / 64 = 2 ∧ bN v i / 64 ≠ 2 := by
 rcases sg_cases v i hi with ⟨_, e1, e2⟩ | ⟨_, h, e1, e2⟩ | ⟨_, _, h, e1, e2⟩ | ⟨_, _, _, h, e1, e2⟩ | ⟨_, _, _, _, e1, e2⟩
 ·omega
 ·rw [hit2 v i hi] at h
  obtain rfl : j = 1 := by omega
  omega
 ·rw [hit3 v i hi] at h
  have : j = 1 ∨ j = 2 := by omega
  rcases this with rfl | rfl <;> omega
 ·rw [hit4 v i hi] at h
  have : j = 1 ∨ j = 2 ∨ j = 3 := by omega
  rcases this with rfl | rfl | rfl <;> omega
 ·omega
def posN (v : ByteArray) : Nat → Nat
 | 0 => 0
 | n + 1 => if posN v n < v.size then posN v n + sgW v (posN v n) else posN v n
def Reach (v : ByteArray) (p : Nat) : Prop := ∃ n, posN v n = p
theorem Reach.zero {v : ByteArray} : Reach v 0 := ⟨0, rfl⟩
theorem Reach.step {v : ByteArray} {i : Nat} (h : Reach v i) (hi : i < v.size) : Reach v (i + sgW v i) := by
 obtain ⟨n, rfl⟩ := h
 exact ⟨n + 1, by rw [show posN v (n + 1) = (if posN v n < v.size then posN v n + sgW v (posN v n) else posN v n) from rfl, if_pos hi]⟩
theorem posN_le (v : ByteArray) : ∀ n, posN v n ≤ v.size
 | 0 => Nat.zero_le _
 | n + 1 => by
  unfold posN
  split
  ·rename_i h
   exact (sg_width v _ h).2.2
  ·exact posN_le v n
theorem posN_mono (v : ByteArray) {m : Nat} : ∀ {n : Nat}, m ≤ n → posN v m ≤ posN v n
 | 0, h => by
  obtain rfl : m = 0 := by omega
  exact Nat.le_refl _
 | n + 1, h => by
  by_cases e : m = n + 1
  ·subst e; exact Nat.le_refl _
  ·have := posN_mono v (m := m) (n := n) (by omega)
   show _ ≤ (if posN v n < v.size then posN v n + sgW v (posN v n) else posN v n)
   split <;> omega
def alN (v : ByteArray) (a : Nat) : Nat → Nat → Nat
 | 0, i => i
 | f + 1, i => if a < i + sgW v i then i else alN v a f (i + sgW v i)
theorem alN_spec (v : ByteArray) (a : Nat) (ha : a < v.size) : ∀ (f i : Nat), Reach v i → i ≤ a → a < i + f → Reach v (alN v a f i) ∧ alN v a f i ≤ a ∧ a < alN v a f i + sgW v (alN v a f i)
 | 0, i, _, h1, h2 => by omega
 | f + 1, i, hr, h1, h2 => by
  unfold alN
  by_cases h : a < i + sgW v i
  ·rw [if_pos h]
   exact ⟨hr, h1, h⟩
  ·rw [if_neg h]
   have := sg_width v i (by omega)
   exact alN_spec v a ha f _ (.step hr (by omega)) (by omega) (by omega)
def alignN (v : ByteArray) (a : Nat) : Nat := alN v a v.size 0
theorem align_spec (v : ByteArray) (a : Nat) (ha : a < v.size) : Reach v (alignN v a) ∧ alignN v a ≤ a ∧ a < alignN v a + sgW v (alignN v a) := alN_spec v a ha v.size 0 .zero (Nat.zero_le _) (by omega)
theorem reach_apart {v : ByteArray} {p q : Nat} (hp : Reach v p) (hq : Reach v q) (h : p < q) : p + sgW v p ≤ q := by
 obtain ⟨m, rfl⟩ := hp
 obtain ⟨n, rfl⟩ := hq
 have hmn : m < n := by
  apply Nat.lt_of_not_le
  intro e
  have := posN_mono v e
  omega
 have h1 := posN_mono v (m := m + 1) (n := n) hmn
 have h2 := posN_le v n
 rw [show posN v (m + 1) = (if posN v m < v.size then posN v m + sgW v (posN v m) else posN v m) from rfl, if_pos (by omega)] at h1
 exact h1
theorem align_uniq {v : ByteArray} {a p : Nat} (ha : a < v.size) (hp : Reach v p) (h1 : p ≤ a) (h2 : a < p + sgW v p) : alignN v a = p := by
 obtain ⟨h3, h4, h5⟩ := align_spec v a ha
 rcases Nat.lt_trichotomy (alignN v a) p with h | h | h
 ·have := reach_apart h3 hp h; omega
 ·exact h
 ·have := reach_apart hp h3 h; omega
theorem align_self {v : ByteArray} {p : Nat} (hp : Reach v p) (h : p < v.size) : alignN v p = p := align_uniq h hp (Nat.le_refl _) (by have := sg_width v p h; omega)
theorem reach_lead {v : ByteArray} {p : Nat} (h : p < v.size) (hl : bN v p / 64 ≠ 2) : Reach v p := by
 obtain ⟨h3, h4, h5⟩ := align_spec v p h
 by_cases e : alignN v p = p
 ·rw [← e]; exact h3
 ·exfalso
  have := (sg_tail v (alignN v p) (p - alignN v p) (by omega) (by omega) (by omega)).1
  rw [show alignN v p + (p - alignN v p) = p by omega] at this
  exact hl this
def backN (v : ByteArray) (a : Nat) : Nat → Nat → Nat
 | 0, _ => a
 | f + 1, k => if a < k then a else if bN v (a - k) / 64 = 2 then backN v a f (k + 1) else if k < sgW v (a - k) then a - k else a
theorem back_is {v : ByteArray} {a : Nat} (ha : a < v.size) : backN v a 4 0 = alignN v a := by
 obtain ⟨h3, h4, h5⟩ := align_spec v a ha
 have hw := sg_width v (alignN v a) (by omega)
 
 have key : ∀ f k, f + k = 4 → (∀ j, j < k → j ≤ a ∧ bN v (a - j) / 64 = 2) → backN v a f k = alignN v a := by
  intro f
  induction f with
  | zero =>
   intro k hk hb
   unfold backN
   have hd : a - alignN v a < 4 := by omega
   by_cases e : alignN v a = a
   ·exact e.symm
   ·exfalso
    have h1 := (sg_tail v (alignN v a) (a - alignN v a) (by omega) (by omega) (by omega)).2
    have h2 := (hb (a - alignN v a) (by omega)).2
    rw [show a - (a - alignN v a) = alignN v a by omega] at h2
    exact h1 h2
  | succ f ih =>
   intro k hk hb
   unfold backN
   have stay : (∀ j, j < k → j ≤ a ∧ bN v (a - j) / 64 = 2) → k ≤ a - alignN v a ∨ alignN v a = a := fun hb => by
    by_cases e : alignN v a = a
    ·exact .inr e
    ·refine .inl (Nat.le_of_not_lt fun h => ?_)
     have h1 := (sg_tail v (alignN v a) (a - alignN v a) (by omega) (by omega) (by omega)).2
     have h2 := (hb (a - alignN v a) h).2
     rw [show a - (a - alignN v a) = alignN v a by omega] at h2
     exact h1 h2
   by_cases c1 : a < k
   ·rw [if_pos c1]
    rcases stay hb with h | h
    ·omega
    ·exact h.symm
   ·rw [if_neg c1]
    by_cases c2 : bN v (a - k) / 64 = 2
    ·rw [if_pos c2]
     exact ih (k + 1) (by omega) (fun j hj => by
      by_cases e : j = k
      ·subst e; exact ⟨by omega, c2⟩
      ·exact hb j (by omega))
    ·rw [if_neg c2]
     have hr := reach_lead (v := v) (p := a - k) (by omega) c2
     by_cases c3 : k < sgW v (a - k)
     ·rw [if_pos c3]
      exact (align_uniq ha hr (by omega) (by omega)).symm
     ·rw [if_neg c3]
      rcases stay hb with h | h
      ·exfalso
       by_cases e : alignN v a = a - k
       ·rw [e] at h5; omega
       ·have := reach_apart h3 hr (by omega)
        omega
      ·exact h.symm
 exact key 4 0 rfl (fun j hj => by omega)
def sgRec (v : ByteArray) (i : Nat) : S185 := ⟨(i : Int), (sgW v i : Int), (sgR v i : Int), sgWhole v i⟩
def sgL (v : ByteArray) : Nat → Nat → List S185
 | 0, _ => []
 | f + 1, i => if i < v.size then sgRec v i :: sgL v f (i + sgW v i) else []
def signsL (v : ByteArray) : List S185 := sgL v v.size 0
theorem sgL_len (v : ByteArray) : ∀ f i, (sgL v f i).length ≤ f
 | 0, _ => Nat.le_refl _
 | f + 1, i => by
  unfold sgL
  split
  ·have := sgL_len v f (i + sgW v i)
   rw [List.length_cons]
   omega
  ·exact Nat.zero_le _
theorem signs_ev (v : ByteArray) (hv : v.size ≤ 100000000) : Ev (fun k => bureauref02_Signs.f k v) (signsL v) := by
 unfold bureauref02_Signs.f signsL
 have loop : ∀ (f i : Nat) (acc : List S185), v.size ≤ i + f → acc.length + f ≤ v.size → Ev (fun k => bureauref02_Signs.l0 k v acc (i : Int)) (acc ++ sgL v f i) := by
  intro f
  induction f with
  | zero =>
   intro i acc h1 h2
   refine Ev.step (fun k => by simp only [bureauref02_Signs.l0]; rfl) (Ev.neg (by omega) ?_)
   unfold sgL
   rw [List.append_nil]
   exact Ev.now _
  | succ f ih =>
   intro i acc h1 h2
   refine Ev.step (fun k => by simp only [bureauref02_Signs.l0]; rfl) ?_
   unfold sgL
   by_cases hi : i < v.size
   ·rw [if_pos hi]
    refine Ev.pos (by omega) (Ev.bind (one_ev v i hi hv) (Ev.pos (by omega) ?_))
    have hw := sg_width v i hi
    have e : wrap64 ((i : Int) + (sgW v i : Int)) = ((i + sgW v i : Nat) : Int) := wnat (by omega) (by omega)
    show Ev (fun k => bureauref02_Signs.l0 k v (acc ++ [sgRec v i]) (wrap64 ((i : Int) + (sgW v i : Int)))) _
    rw [e]
    have h9 := ih (i + sgW v i) (acc ++ [sgRec v i]) (by omega) (by rw [List.length_append, List.length_singleton]; omega)
    rw [List.append_assoc] at h9
    exact h9
   ·rw [if_neg hi, List.append_nil]
    exact Ev.neg (by omega) (Ev.now _)
 have := loop v.size 0 [] (by omega) (by simp)
 rw [List.nil_append] at this
 exact this
theorem rdS_at {L : List S185} {j : Nat} {x : S185} (h : L[j]? = some x) : rd_T185 L (j : Int) = x := by
 unfold rd_T185
 rw [Int.toNat_natCast, List.getD_eq_getElem?_getD, h]
 rfl
def WhichIs (v : ByteArray) (a : Nat) (L : List S185) (idx : Nat) : Prop :=
 (v.size ≤ a ∧ idx = L.length) ∨ (a < v.size ∧ idx < L.length ∧ L[idx]? = some (sgRec v (alignN v a)) ∧ (L.length ≤ idx + 1 → alignN v a + sgW v (alignN v a) = v.size) ∧ (∀ y, L[idx + 1]? = some y → y.f0 = ((alignN v a + sgW v (alignN v a) : Nat) : Int)))
theorem which_ev (v : ByteArray) (hv : v.size ≤ 100000000) (a : Int) : ∃ idx : Nat, Ev (fun k => bureauref02_which.f k (signsL v) a) (idx : Int) ∧ WhichIs v a.toNat (signsL v) idx := by
 unfold bureauref02_which.f
 have hL : (signsL v).length ≤ v.size := sgL_len v _ _
 have loop : ∀ (f i j : Nat), (signsL v).drop j = sgL v f i → j ≤ (signsL v).length → v.size ≤ i + f → Reach v i → i ≤ a.toNat → ∃ idx : Nat, Ev (fun k => bureauref02_which.l0 k (signsL v) a (j : Int)) (idx : Int) ∧ WhichIs v a.toNat (signsL v) idx := by
  intro f
  induction f with
  | zero =>
   intro i j hd hj hs hr hia
   have hlen : (signsL v).length = j := by
    have := congrArg List.length hd
    rw [List.length_drop] at this
    simp [sgL] at this
    omega
   refine ⟨(signsL v).length, ?_, .inl ⟨by omega, rfl⟩⟩
   exact Ev.step (fun k => by simp only [bureauref02_which.l0]; rfl) (Ev.neg (by omega) (Ev.now _))
  | succ f ih =>
   intro i j hd hj hs hr hia
   unfold sgL at hd
   by_cases hi : i < v.size
   ·rw [if_pos hi] at hd
    have hjl : j < (signsL v).length := by
     have := congrArg List.length hd
     rw [List.length_drop, List.length_cons] at this
     omega
    have hg : (signsL v)[j]? = some (sgRec v i) := by
     have := congrArg (fun l => l[0]?) hd
     simpa [List.getElem?_drop] using this
    have hd2 : (signsL v).drop (j + 1) = sgL v f (i + sgW v i) := by
     have := congrArg List.tail hd
     rwa [List.tail_drop, List.tail_cons] at this
    have hw := sg_width v i hi
    have e : wrap64 (((sgRec v i).f0) + ((sgRec v i).f1)) = ((i + sgW v i : Nat) : Int) := wnat (by show (i : Int) + (sgW v i : Int) = _; omega) (by show (i : Int) + (sgW v i : Int) ≤ _; omega)
    by_cases hc : a.toNat < i + sgW v i
    ·refine ⟨j, ?_, .inr ⟨by omega, hjl, ?_⟩⟩
     ·refine Ev.step (fun k => by simp only [bureauref02_which.l0]; rfl) (Ev.pos (by omega) (Ev.pos (by omega) ?_))
      rw [rdS_at hg, e]
      exact Ev.pos (by omega) (Ev.now _)
     ·have ha : alignN v a.toNat = i := align_uniq (by omega) hr hia hc
      rw [ha]
      refine ⟨hg, fun h => ?_, fun y hy => ?_⟩
      ·have h0 := congrArg List.length hd2
       rw [List.length_drop] at h0
       have : (sgL v f (i + sgW v i)).length = 0 := by omega
       have hz := List.eq_nil_of_length_eq_zero this
       cases f with
       | zero => omega
       | succ f =>
        unfold sgL at hz
        by_cases h5 : i + sgW v i < v.size
        ·rw [if_pos h5] at hz; cases hz
        ·omega
      ·have h1 := congrArg (fun l => l[0]?) hd2
       simp only [List.getElem?_drop, Nat.add_zero] at h1
       rw [hy] at h1
       cases f with
       | zero => simp [sgL] at h1
       | succ f =>
        unfold sgL at h1
        by_cases h5 : i + sgW v i < v.size
        ·rw [if_pos h5] at h1
         simp only [List.getElem?_cons_zero, Option.some.injEq] at h1
         rw [h1]
         rfl
        ·rw [if_neg h5] at h1; simp at h1
    ·obtain ⟨idx, h1, h2⟩ := ih (i + sgW v i) (j + 1) hd2 hjl (by omega) (hr.step hi) (by omega)
     refine ⟨idx, ?_, h2⟩
     refine Ev.step (fun k => by simp only [bureauref02_which.l0]; rfl) (Ev.pos (by omega) (Ev.pos (by omega) ?_))
     rw [rdS_at hg, e]
     refine Ev.neg (by omega) ?_
     rw [wnat (n := j + 1) (by omega) (by omega)]
     exact h1
   ·rw [if_neg hi] at hd
    have hlen : (signsL v).length = j := by
     have := congrArg List.length hd
     rw [List.length_drop] at this
     simp at this
     omega
    refine ⟨(signsL v).length, ?_, .inl ⟨by omega, rfl⟩⟩
    exact Ev.step (fun k => by simp only [bureauref02_which.l0]; rfl) (Ev.neg (by omega) (Ev.now _))
 exact loop v.size 0 0 rfl (Nat.zero_le _) (by omega) .zero (Nat.zero_le _)
def alignS (v : ByteArray) (a : Int) : Nat := if a.toNat < v.size then alignN v a.toNat else v.size
def nextS (v : ByteArray) (a : Int) : Nat := if a.toNat < v.size then alignN v a.toNat + sgW v (alignN v a.toNat) else v.size
def atG (v : ByteArray) (a : Int) : Nat × Nat := if a.toNat < v.size then (sgR v (alignN v a.toNat), sgW v (alignN v a.toNat)) else (0, 0)
theorem begins_at (v : ByteArray) {L : List S185} {j : Nat} {x : S185} (h : L[j]? = some x) : bureauref02_begins.f v L (j : Int) = some x.f0 := by
 have hj : j < L.length := (List.getElem?_eq_some_iff.1 h).1
 unfold bureauref02_begins.f
 rw [if_pos (by omega), if_pos (by omega), if_pos (by omega), rdS_at h]
theorem begins_end (v : ByteArray) {L : List S185} {j : Nat} (h : L.length ≤ j) : bureauref02_begins.f v L (j : Int) = some (v.size : Int) := by
 unfold bureauref02_begins.f
 rw [if_pos (by omega), if_neg (by omega)]
theorem ralign_ev (v : ByteArray) (hv : v.size ≤ 100000000) (a : Int) : Ev (fun k => bureauref02_Align.f k v a) (alignS v a : Int) := by
 unfold bureauref02_Align.f
 obtain ⟨idx, h1, h2⟩ := which_ev v hv a
 refine Ev.bind (signs_ev v hv) (Ev.bind h1 ?_)
 unfold alignS
 rcases h2 with ⟨h3, h4⟩ | ⟨h3, h4, h5, h6, h7⟩
 ·rw [if_neg (by omega), begins_end v (by omega)]
  exact Ev.now _
 ·rw [if_pos h3, begins_at v h5]
  exact Ev.now _
theorem rnext_ev (v : ByteArray) (hv : v.size ≤ 100000000) (a : Int) : Ev (fun k => bureauref02_Next.f k v a) (nextS v a : Int) := by
 unfold bureauref02_Next.f
 obtain ⟨idx, h1, h2⟩ := which_ev v hv a
 have hL : (signsL v).length ≤ v.size := sgL_len v _ _
 refine Ev.bind (signs_ev v hv) (Ev.bind h1 ?_)
 unfold nextS
 have hidx : idx ≤ (signsL v).length := by rcases h2 with ⟨_, h⟩ | ⟨_, h, _⟩ <;> omega
 rw [wnat (x := (idx : Int) + 1) (n := idx + 1) (by omega) (by omega)]
 rcases h2 with ⟨h3, h4⟩ | ⟨h3, h4, h5, h6, h7⟩
 ·rw [if_neg (by omega), begins_end v (by omega)]
  exact Ev.now _
 ·rw [if_pos h3]
  by_cases hn : (signsL v).length ≤ idx + 1
  ·rw [begins_end v hn, ← h6 hn]
   exact Ev.now _
  ·have h8 : (signsL v)[idx + 1]? = some ((signsL v)[idx + 1]'(by omega)) := List.getElem?_eq_getElem (by omega)
   rw [begins_at v h8, h7 _ h8]
   exact Ev.now _
end Go.Proofs.YtjkfkiebhgkolaaGreatDoor.PB
end

section
namespace Go.Proofs.YtjkfkiebhgkolaaGreatDoor.PB
open Go.RowKit Go.Proofs.YtjkfkiebhgkolaaGreatDoorW.PrintWords Go.Proofs.YtjkfkiebhgkolaaGreatDoorW.PrintLast Go.Proofs.YtjkfkiebhgkolaaGreatDoorW.PrintMore
attribute [local go_sem] max2_int min2_int max_two min_two max_three min_three max_four min_four   
set_option linter.unusedVariables false
set_option linter.unusedSimpArgs false
mutual
def glyph_Align.l0 : Nat → ByteArray → Int → Int → Option (Int)
 | 0, _, _, _ => none
 | k + 1, x0, x1, x5 => if x5 < 4 then (glyph_Align.j1 k x0 x1 x5 (decide (x5 ≤ x1))) else (glyph_Align.j1 k x0 x1 x5 false)
def glyph_Align.j1 : Nat → ByteArray → Int → Int → Bool → Option (Int)
 | 0, _, _, _, _ => none
 | k + 1, x0, x1, x5, x22 => if x22 = true then (if 0 ≤ (wrap64 (x1 - x5)) then (if (wrap64 (x1 - x5)) < (x0.size : Int) then ((utf8_RuneStart.f (bt x0 (wrap64 (x1 - x5)))).bind fun t186 => (if t186 = true then (if (wrap64 (x1 - x5)) ≤ (x0.size : Int) then ((utf8_DecodeRuneInString.f (x0.extract ((wrap64 (x1 - x5)) : Int).toNat x0.size)).bind fun bt187 => (if bt187.2 > x5 then (some (wrap64 (x1 - x5))) else (some x1))) else (none)) else (glyph_Align.l0 k x0 x1 (wrap64 (x5 + 1))))) else (none)) else (none)) else (some x1)
end
def glyph_Align.f (k : Nat) (a0 : ByteArray) (a1 : Int) : Option (Int) := if a1 < 0 then (some 0) else (if a1 ≥ (a0.size : Int) then (some (a0.size : Int)) else (glyph_Align.l0 k a0 a1 0))
set_option maxHeartbeats 8000000 in
set_option maxRecDepth 100000 in
theorem glyph_Align.calls (k : Nat) (a0 : ByteArray) (a1 : Int) (r : Int) (w : World) (hMX : NumOk w) (h : glyph_Align.f k a0 a1 = some r) :
  Calls Tryz.prog 43 #[.string a0, .int .i64 a1] w fun e w' => e = .returned (.int .i64 r) ∧ Below w.heap.size w w' := by
 have HMX := aM hMX
 clear hMX
 have HB := aM (Below.refl w.heap.size w)
 have H : (if a1 < 0 then (some 0) else (if a1 ≥ (a0.size : Int) then (some (a0.size : Int)) else (glyph_Align.l0 k a0 a1 0))) = some r := h
 clear h
 by_cases c3 : a1 < 0
 ·rw [if_pos c3] at H
  have c3b0 : decide (a1 < 0) = true := decide_eq_true c3
  clear c3
  obtain rfl := Option.some.inj H
  go_enter Tryz.func43, Tryz.ntmps43
  go_wp2
  go_ret
  exact ⟨ye, by exact ey HB.out⟩
 ·rw [if_neg c3] at H
  have c3b0 : decide (a1 < 0) = false := decide_eq_false c3
  clear c3
  by_cases c4 : a1 ≥ (a0.size : Int)
  ·rw [if_pos c4] at H
   have c4b0 : decide ((a0.size : Int) ≤ a1) = true := decide_eq_true c4
   clear c4
   obtain rfl := Option.some.inj H
   go_enter Tryz.func43, Tryz.ntmps43
   go_wp2
   go_ret
   exact ⟨ye, by exact ey HB.out⟩
  ·rw [if_neg c4] at H
   have c4b0 : decide ((a0.size : Int) ≤ a1) = false := decide_eq_false c4
   clear c4
   have H' := aM H
   clear H
   go_enter Tryz.func43, Tryz.ntmps43
   go_wp2
   go_loopg [5] k (fun kq v5 w' => ∃ (x5_1 : Int), v5 = .int .i64 x5_1 ∧ Aside0 (glyph_Align.l0 kq a0 a1 x5_1 = some r) ∧ Aside0 (kq ≤ k) ∧ Aside0 (Below w.heap.size w w'))
   case atStart => exact ⟨(0), (by first | rfl | (simp; done) | (simp [*]; done)), H', ⟨Nat.le_refl _⟩, ⟨by exact ey HB.out⟩⟩
   case round =>
    clear H'
    try clear p2
    try clear c3
    try clear c3b0
    try clear c4
    try clear c4b0
    obtain ⟨x5_1, rfl, HA, HK1, HB⟩ := hrel
    cases gk with
    | zero => exact absurd HA.out (by simp [glyph_Align.l0])
    | succ k1 =>
     have H := HA.out
     clear HA
     simp only [glyph_Align.l0] at H
     have HC5 := aM H
     clear H
     go_upto_region 6 with (fail)
     go_cut [22] (fun v22 wc => ∃ (kq : Nat) (x22_4 : Bool), v22 = .bool x22_4 ∧ Aside0 (glyph_Align.j1 kq a0 a1 x5_1 x22_4 = some r) ∧ Aside0 (kq ≤ k1) ∧ Aside0 (Below w.heap.size w wc))
     case first =>
      have H := HC5.out
      clear HC5
      by_cases c6 : x5_1 < 4
      ·rw [if_pos c6] at H
       have c6b0 : decide (x5_1 < 4) = true := decide_eq_true c6
       clear c6
       (first | rw [c6b0] | (simp only [i64_w, i32_w]; rw [c6b0]) | skip)
       have H' := aM H
       clear H
       go_wp2
       go_meet
       case rel => exact ⟨_, (decide (x5_1 ≤ a1)), (by first | rfl | (simp; done) | (simp [*]; done)), H', ⟨by have := HK1.out; first | omega | exact Nat.le_refl _⟩, ⟨by exact ey HB.out⟩⟩
      ·rw [if_neg c6] at H
       have c6b0 : decide (x5_1 < 4) = false := decide_eq_false c6
       clear c6
       (first | rw [c6b0] | (simp only [i64_w, i32_w]; rw [c6b0]) | skip)
       have H' := aM H
       clear H
       go_wp2
       go_meet
       case rel => exact ⟨_, (false), (by first | rfl | (simp; done) | (simp [*]; done)), H', ⟨by have := HK1.out; first | omega | exact Nat.le_refl _⟩, ⟨by exact ey HB.out⟩⟩
     case rest =>
      clear HC5
      try clear p2
      try clear c3
      try clear c3b0
      try clear c4
      try clear c4b0
      try clear c6
      try clear c6b0
      try clear p2
      obtain ⟨kq, x22_4, rfl, HA, HJ4, HB⟩ := hcut
      cases kq with
      | zero => exact absurd HA.out (by simp [glyph_Align.j1])
      | succ kj4 =>
       have H := HA.out
       clear HA
       simp only [glyph_Align.j1] at H
       by_cases c7 : x22_4 = true
       ·subst c7
        rw [if_pos rfl] at H
        obtain ⟨ji8, hji8⟩ : ∃ j_ : Int, (wrap64 (a1 - x5_1)) = j_ := ⟨_, rfl⟩
        replace H : (if 0 ≤ (ji8) then (if (ji8) < (a0.size : Int) then ((utf8_RuneStart.f (bt a0 (ji8))).bind fun t186 => (if t186 = true then (if (ji8) ≤ (a0.size : Int) then ((utf8_DecodeRuneInString.f (a0.extract ((ji8) : Int).toNat a0.size)).bind fun bt187 => (if bt187.2 > x5_1 then (some ji8) else (some a1))) else (none)) else (glyph_Align.l0 kj4 a0 a1 (wrap64 (x5_1 + 1))))) else (none)) else (none)) = some r := by first | (rw [hji8] at H; exact H) | (simp only [hji8] at H ⊢; exact H)
        have hji8w : (IntKind.i64.wrap (a1 - x5_1)) = ji8 := (i64_w _).trans hji8
        by_cases c9 : 0 ≤ (ji8)
        ·rw [if_pos c9] at H
         have c9b0 : decide (0 ≤ (ji8)) = true := decide_eq_true c9
         clear c9
         by_cases c10 : (ji8) < (a0.size : Int)
         ·rw [if_pos c10] at H
          have c10b0 : decide ((ji8) < (a0.size : Int)) = true := decide_eq_true c10
          clear c10
          replace H := Option.bind_eq_some_iff.mp H
          obtain ⟨t186, A120, H⟩ := H
          replace H : (if t186 = true then (if (ji8) ≤ (a0.size : Int) then ((utf8_DecodeRuneInString.f (a0.extract ((ji8) : Int).toNat a0.size)).bind fun bt187 => (if bt187.2 > x5_1 then (some ji8) else (some a1))) else (none)) else (glyph_Align.l0 kj4 a0 a1 (wrap64 (x5_1 + 1)))) = some r := H
          have A12 := aM A120
          clear A120
          by_cases c13 : t186 = true
          ·subst c13
           rw [if_pos rfl] at H
           have c14b0 := eq_true (of_decide_eq_true (by first | (with_reducible assumption) | assumption) : 0 ≤ (ji8))
           by_cases c15 : (ji8) ≤ (a0.size : Int)
           ·rw [if_pos c15] at H
            have c15b0 := eq_true c15
            have c15b1 : decide ((ji8) ≤ (a0.size : Int)) = true := decide_eq_true c15
            clear c15
            replace H := Option.bind_eq_some_iff.mp H
            obtain ⟨⟨t187, t188⟩, A160, H⟩ := H
            replace H : (if t188 > x5_1 then (some ji8) else (some a1)) = some r := H
            have A16 := aM A160
            clear A160
            by_cases c17 : t188 > x5_1
            ·rw [if_pos c17] at H
             have c17b0 : decide (x5_1 < t188) = true := decide_eq_true c17
             clear c17
             obtain rfl := Option.some.inj H
             have p11 : 0 ≤ ((ji8) : Int) := of_decide_eq_true (by first | (with_reducible assumption) | assumption)
             have q11 : (ji8) < (a0.size : Int) := of_decide_eq_true (by first | (with_reducible assumption) | assumption)
             have hx11 := bt_at a0 (ji8)
             replace p11 := eq_true p11
             replace q11 := eq_true q11
             go_wp2_with (first | ((with_reducible refine gate_callee (f := 92) rfl ?_); refine goesL_ (some 30) rfl rfl Tryz.func92 (by kernel_rfl) rfl #[.int .u8 (bt a0 (ji8))] rfl (by (try simp only [mT, mC, mN]); first | done | (simp only [hji8]; rfl) | rfl | (simp only [lD, lT]; rfl)) ?_; (with_reducible refine (utf8_RuneStart.calls (bt a0 (ji8)) true _ A12.out).mono ?_); rintro e w18 ⟨rfl, hb⟩; refine ⟨_, rfl, ?_⟩; replace HB := yP w hb; clear hb) | ((with_reducible refine gate_callee (f := 93) rfl ?_); refine goesL_ (some 38) rfl rfl Tryz.func93 (by kernel_rfl) rfl #[.string (a0.extract ((ji8) : Int).toNat a0.size)] rfl (by (try simp only [mT, mC, mN]); first | done | (simp only [hji8]; rfl) | rfl | (simp only [lD, lT]; rfl)) ?_; (with_reducible refine (utf8_DecodeRuneInString.calls (a0.extract ((ji8) : Int).toNat a0.size) t187 t188 _ ?mx46 A16.out).mono ?_); (case mx46 => exact NumOk.below HMX.out (ey HB.out)); rintro e w19 ⟨rfl, hb⟩; refine ⟨_, rfl, ?_⟩; replace HB := yP w hb; clear hb))
             go_ret
             exact ⟨by first | rfl | (simp [errW_none, errW_some] <;> rfl) | (simp only [← hji8]; first | rfl | (simp [errW_none, errW_some] <;> rfl)) | (simp [*, errW_none, errW_some] <;> rfl), by exact ey HB.out⟩
            ·rw [if_neg c17] at H
             have c17b0 : decide (x5_1 < t188) = false := decide_eq_false c17
             clear c17
             obtain rfl := Option.some.inj H
             have p11 : 0 ≤ ((ji8) : Int) := of_decide_eq_true (by first | (with_reducible assumption) | assumption)
             have q11 : (ji8) < (a0.size : Int) := of_decide_eq_true (by first | (with_reducible assumption) | assumption)
             have hx11 := bt_at a0 (ji8)
             replace p11 := eq_true p11
             replace q11 := eq_true q11
             go_wp2_with (first | ((with_reducible refine gate_callee (f := 92) rfl ?_); refine goesL_ (some 30) rfl rfl Tryz.func92 (by kernel_rfl) rfl #[.int .u8 (bt a0 (ji8))] rfl (by (try simp only [mT, mC, mN]); first | done | (simp only [hji8]; rfl) | rfl | (simp only [lD, lT]; rfl)) ?_; (with_reducible refine (utf8_RuneStart.calls (bt a0 (ji8)) true _ A12.out).mono ?_); rintro e w20 ⟨rfl, hb⟩; refine ⟨_, rfl, ?_⟩; replace HB := yP w hb; clear hb) | ((with_reducible refine gate_callee (f := 93) rfl ?_); refine goesL_ (some 38) rfl rfl Tryz.func93 (by kernel_rfl) rfl #[.string (a0.extract ((ji8) : Int).toNat a0.size)] rfl (by (try simp only [mT, mC, mN]); first | done | (simp only [hji8]; rfl) | rfl | (simp only [lD, lT]; rfl)) ?_; (with_reducible refine (utf8_DecodeRuneInString.calls (a0.extract ((ji8) : Int).toNat a0.size) t187 t188 _ ?mx47 A16.out).mono ?_); (case mx47 => exact NumOk.below HMX.out (ey HB.out)); rintro e w21 ⟨rfl, hb⟩; refine ⟨_, rfl, ?_⟩; replace HB := yP w hb; clear hb))
             go_ret
             exact ⟨by first | rfl | (simp [errW_none, errW_some] <;> rfl) | (simp only [← hji8]; first | rfl | (simp [errW_none, errW_some] <;> rfl)) | (simp [*, errW_none, errW_some] <;> rfl), by exact ey HB.out⟩
           ·rw [if_neg c15] at H
            exact absurd H (by simp)
          ·replace c13 := Bool.eq_false_iff.mpr c13
           subst c13
           rw [if_neg (show ¬ (false = true) by decide)] at H
           have H' := aM H
           clear H
           have p11 : 0 ≤ ((ji8) : Int) := of_decide_eq_true (by first | (with_reducible assumption) | assumption)
           have q11 : (ji8) < (a0.size : Int) := of_decide_eq_true (by first | (with_reducible assumption) | assumption)
           have hx11 := bt_at a0 (ji8)
           replace p11 := eq_true p11
           replace q11 := eq_true q11
           go_wp2_with (first | ((with_reducible refine gate_callee (f := 92) rfl ?_); refine goesL_ (some 30) rfl rfl Tryz.func92 (by kernel_rfl) rfl #[.int .u8 (bt a0 (ji8))] rfl (by (try simp only [mT, mC, mN]); first | done | (simp only [hji8]; rfl) | rfl | (simp only [lD, lT]; rfl)) ?_; (with_reducible refine (utf8_RuneStart.calls (bt a0 (ji8)) false _ A12.out).mono ?_); rintro e w22 ⟨rfl, hb⟩; refine ⟨_, rfl, ?_⟩; replace HB := yP w hb; clear hb))
           go_roundg kj4
           case measure => have := HK1.out; have := HJ4.out; omega
           case rel => exact ⟨(wrap64 (x5_1 + 1)), (by first | rfl | (simp; done) | (simp [*]; done)), H', ⟨by have := HK1.out; have := HJ4.out; omega⟩, ⟨by exact ey HB.out⟩⟩
         ·rw [if_neg c10] at H
          exact absurd H (by simp)
        ·rw [if_neg c9] at H
         exact absurd H (by simp)
       ·replace c7 := Bool.eq_false_iff.mpr c7
        subst c7
        rw [if_neg (show ¬ (false = true) by decide)] at H
        obtain rfl := Option.some.inj H
        go_wp2
        go_ret
        exact ⟨ye, by exact ey HB.out⟩
def glyph_At.f (k : Nat) (a0 : ByteArray) (a1 : Int) : Option (Int × Int) := (glyph_Align.f k a0 a1).bind fun t208 => (if t208 = (a0.size : Int) then (some (0, 0)) else (if 0 ≤ t208 then (if t208 ≤ (a0.size : Int) then ((utf8_DecodeRuneInString.f (a0.extract (t208 : Int).toNat a0.size)).bind fun bt209 => (some (bt209.1, bt209.2))) else (none)) else (none)))
set_option maxHeartbeats 8000000 in
set_option maxRecDepth 100000 in
theorem glyph_At.calls (k : Nat) (a0 : ByteArray) (a1 : Int) (r1 : Int) (r2 : Int) (w : World) (hMX : NumOk w) (h : glyph_At.f k a0 a1 = some (r1, r2)) :
  Calls Tryz.prog 96 #[.string a0, .int .i64 a1] w fun e w' => e = .returned (.tuple #[.int .i32 r1, .int .i64 r2]) ∧ Below w.heap.size w w' := by
 have HMX := aM hMX
 clear hMX
 have HB := aM (Below.refl w.heap.size w)
 have H : ((glyph_Align.f k a0 a1).bind fun t208 => (if t208 = (a0.size : Int) then (some (0, 0)) else (if 0 ≤ t208 then (if t208 ≤ (a0.size : Int) then ((utf8_DecodeRuneInString.f (a0.extract (t208 : Int).toNat a0.size)).bind fun bt209 => (some (bt209.1, bt209.2))) else (none)) else (none)))) = some (r1, r2) := h
 clear h
 replace H := Option.bind_eq_some_iff.mp H
 obtain ⟨t208, A30, H⟩ := H
 replace H : (if t208 = (a0.size : Int) then (some (0, 0)) else (if 0 ≤ t208 then (if t208 ≤ (a0.size : Int) then ((utf8_DecodeRuneInString.f (a0.extract (t208 : Int).toNat a0.size)).bind fun bt209 => (some (bt209.1, bt209.2))) else (none)) else (none))) = some (r1, r2) := H
 have A3 := aM A30
 clear A30
 by_cases c4 : t208 = (a0.size : Int)
 ·rw [if_pos c4] at H
  have c4b0 : (t208 == (a0.size : Int)) = true := beq_iff_eq.mpr c4
  have c4b1 : (t208 != (a0.size : Int)) = false := bne_eq_false_iff_eq.mpr c4
  clear c4
  simp only [Option.some.injEq, Prod.mk.injEq] at H
  obtain ⟨rfl, rfl⟩ := H
  go_enter Tryz.func96, Tryz.ntmps96
  go_wp2_with (first | (refine yC (some 8) Tryz.func43 #[.string a0, .int .i64 a1] ?_; (with_reducible refine (glyph_Align.calls k a0 a1 t208 _ ?mx48 A3.out).mono ?_); (case mx48 => exact NumOk.below HMX.out (ey HB.out)); rintro e w5 ⟨rfl, hb⟩; refine ⟨_, rfl, ?_⟩; replace HB := yP w hb; clear hb))
  go_ret2
  exact ⟨ye, by exact ey HB.out⟩
 ·rw [if_neg c4] at H
  have c4b0 : (t208 == (a0.size : Int)) = false := beq_eq_false_iff_ne.mpr c4
  have c4b1 : (t208 != (a0.size : Int)) = true := bne_iff_ne.mpr c4
  by_cases c6 : 0 ≤ t208
  ·rw [if_pos c6] at H
   have c6b0 := eq_true c6
   have c6b1 : decide (0 ≤ t208) = true := decide_eq_true c6
   clear c6
   by_cases c7 : t208 ≤ (a0.size : Int)
   ·rw [if_pos c7] at H
    have c7b0 := eq_true c7
    have c7b1 : decide (t208 ≤ (a0.size : Int)) = true := decide_eq_true c7
    clear c7
    replace H := Option.bind_eq_some_iff.mp H
    obtain ⟨⟨t209, t210⟩, A80, H⟩ := H
    replace H : (some (t209, t210)) = some (r1, r2) := H
    have A8 := aM A80
    clear A80
    simp only [Option.some.injEq, Prod.mk.injEq] at H
    obtain ⟨rfl, rfl⟩ := H
    go_enter Tryz.func96, Tryz.ntmps96
    go_wp2_with (first | (refine yC (some 8) Tryz.func43 #[.string a0, .int .i64 a1] ?_; (with_reducible refine (glyph_Align.calls k a0 a1 t208 _ ?mx49 A3.out).mono ?_); (case mx49 => exact NumOk.below HMX.out (ey HB.out)); rintro e w9 ⟨rfl, hb⟩; refine ⟨_, rfl, ?_⟩; replace HB := yP w hb; clear hb) | (refine yC (some 16) Tryz.func93 #[.string (a0.extract (t208 : Int).toNat a0.size)] ?_; (with_reducible refine (utf8_DecodeRuneInString.calls (a0.extract (t208 : Int).toNat a0.size) t209 t210 _ ?mx50 A8.out).mono ?_); (case mx50 => exact NumOk.below HMX.out (ey HB.out)); rintro e w10 ⟨rfl, hb⟩; refine ⟨_, rfl, ?_⟩; replace HB := yP w hb; clear hb))
    go_ret2
    exact ⟨ye, by exact ey HB.out⟩
   ·rw [if_neg c7] at H
    exact absurd H (by simp)
  ·rw [if_neg c6] at H
   exact absurd H (by simp)
def glyph_Next.f (k : Nat) (a0 : ByteArray) (a1 : Int) : Option (Int) := (glyph_At.f k a0 a1).bind fun bt211 => ((glyph_Align.f k a0 a1).bind fun t213 => (some (wrap64 (t213 + bt211.2))))
set_option maxHeartbeats 8000000 in
set_option maxRecDepth 100000 in
theorem glyph_Next.calls (k : Nat) (a0 : ByteArray) (a1 : Int) (r : Int) (w : World) (hMX : NumOk w) (h : glyph_Next.f k a0 a1 = some r) :
  Calls Tryz.prog 47 #[.string a0, .int .i64 a1] w fun e w' => e = .returned (.int .i64 r) ∧ Below w.heap.size w w' := by
 have HMX := aM hMX
 clear hMX
 have HB := aM (Below.refl w.heap.size w)
 have H : ((glyph_At.f k a0 a1).bind fun bt211 => ((glyph_Align.f k a0 a1).bind fun t213 => (some (wrap64 (t213 + bt211.2))))) = some r := h
 clear h
 replace H := Option.bind_eq_some_iff.mp H
 obtain ⟨⟨t211, t212⟩, A30, H⟩ := H
 replace H : ((glyph_Align.f k a0 a1).bind fun t213 => (some (wrap64 (t213 + t212)))) = some r := H
 have A3 := aM A30
 clear A30
 replace H := Option.bind_eq_some_iff.mp H
 obtain ⟨t213, A40, H⟩ := H
 replace H : (some (wrap64 (t213 + t212))) = some r := H
 have A4 := aM A40
 clear A40
 obtain rfl := Option.some.inj H
 go_enter Tryz.func47, Tryz.ntmps47
 go_wp2_with (first | (refine yC (some 10) Tryz.func96 #[.string a0, .int .i64 a1] ?_; (with_reducible refine (glyph_At.calls k a0 a1 t211 t212 _ ?mx51 A3.out).mono ?_); (case mx51 => exact NumOk.below HMX.out (ey HB.out)); rintro e w5 ⟨rfl, hb⟩; refine ⟨_, rfl, ?_⟩; replace HB := yP w hb; clear hb) | (refine yC (some 15) Tryz.func43 #[.string a0, .int .i64 a1] ?_; (with_reducible refine (glyph_Align.calls k a0 a1 t213 _ ?mx52 A4.out).mono ?_); (case mx52 => exact NumOk.below HMX.out (ey HB.out)); rintro e w6 ⟨rfl, hb⟩; refine ⟨_, rfl, ?_⟩; replace HB := yP w hb; clear hb))
 go_ret
 exact ⟨ye, by exact ey HB.out⟩
end Go.Proofs.YtjkfkiebhgkolaaGreatDoor.PB
end

section
namespace Go.Proofs.YtjkfkiebhgkolaaGreatDoor.PB
open Go.RowKit Go.Proofs.YtjkfkiebhgkolaaGreatDoorW.PrintWords
set_option linter.unusedVariables false
set_option linter.unusedSimpArgs false
theorem suf_size (v : ByteArray) (p : Nat) : (v.extract p v.size).size = v.size - p := by rw [ByteArray.size_extract]; omega
theorem suf_bN (v : ByteArray) (p j : Nat) (hp : p ≤ v.size) : bN (v.extract p v.size) j = bN v (p + j) := by
 have h1 := bt_bN (v.extract p v.size) j
 have h2 := bt_bN v (p + j)
 by_cases h : p + j < v.size
 ·have h3 := bt_ext v p (v.size - p) j (by omega) (by omega)
  rw [show p + (v.size - p) = v.size by omega] at h3
  rw [h1] at h3
  exact_mod_cast h3
 ·have e1 : bt (v.extract p v.size) (j : Int) = 0 := by unfold bt; rw [dif_neg (by rw [Int.toNat_natCast, suf_size]; omega)]
  have e2 : bt v ((p + j : Nat) : Int) = 0 := by unfold bt; rw [dif_neg (by rw [Int.toNat_natCast]; omega)]
  rw [e1] at h1
  rw [e2] at h2
  omega
theorem suf_dec (v : ByteArray) (p : Nat) (hp : p < v.size) : Lib.decodeGo (v.extract p v.size) = Utf8.decode v p := by
 unfold Lib.decodeGo
 rw [if_neg (by rw [suf_size]; omega), sg_at, sg_at, suf_size, suf_bN v p _ (by omega), suf_bN v p _ (by omega), suf_bN v p _ (by omega), suf_bN v p _ (by omega)]
 simp only [Nat.sub_zero, Nat.add_zero, Nat.zero_add]
theorem runeStart_f (v : ByteArray) (p : Nat) : utf8_RuneStart.f (bt v (p : Int)) = some (decide (bN v p / 64 ≠ 2)) := by
 have := bN_lt v p
 unfold utf8_RuneStart.f
 rw [bt_bN, if_pos (by omega)]
 congr 1
 unfold Lib.runeStart
 rw [Bool.eq_iff_iff]
 simp
 omega
theorem decode_f (v : ByteArray) (p : Nat) (hp : p < v.size) : utf8_DecodeRuneInString.f (v.extract p v.size) = some ((sgR v p : Int), (sgW v p : Int)) := by
 unfold utf8_DecodeRuneInString.f sgR sgW
 rw [suf_dec v p hp]
theorem galign_ev (v : ByteArray) (hv : v.size ≤ 100000000) (a : Int) : Ev (fun k => glyph_Align.f k v a) (alignS v a : Int) := by
 unfold glyph_Align.f
 by_cases h0 : a < 0
 ·refine Ev.pos h0 (ev_val (Ev.now _) ?_)
  unfold alignS
  rw [show a.toNat = 0 by omega]
  split
  ·rw [align_self .zero (by omega)]; rfl
  ·omega
 refine Ev.neg h0 ?_
 by_cases h1 : a ≥ (v.size : Int)
 ·refine Ev.pos h1 (ev_val (Ev.now _) ?_)
  unfold alignS
  rw [if_neg (by omega)]
 refine Ev.neg h1 ?_
 obtain ⟨n, rfl⟩ : ∃ n : Nat, a = (n : Int) := ⟨a.toNat, by omega⟩
 have hn : n < v.size := by omega
 unfold alignS
 rw [Int.toNat_natCast, if_pos hn, ← back_is hn]
 have loop : ∀ (f j : Nat), f + j = 4 → Ev (fun k => glyph_Align.l0 k v (n : Int) (j : Int)) (backN v n f j : Int) := by
  intro f
  induction f with
  | zero =>
   intro j hj
   obtain rfl : j = 4 := by omega
   refine Ev.step (fun k => by simp only [glyph_Align.l0]; rfl) (Ev.neg (by decide) ?_)
   exact Ev.step (fun k => by simp only [glyph_Align.j1]; rfl) (Ev.neg (by decide) (Ev.now _))
  | succ f ih =>
   intro j hj
   refine Ev.step (fun k => by simp only [glyph_Align.l0]; rfl) (Ev.pos (by omega) ?_)
   refine Ev.step (fun k => by simp only [glyph_Align.j1]; rfl) ?_
   unfold backN
   by_cases hc : n < j
   ·rw [if_pos hc]
    exact Ev.neg (by rw [decide_eq_false (by omega)]; decide) (Ev.now _)
   ·rw [if_neg hc]
    have e : wrap64 ((n : Int) - (j : Int)) = ((n - j : Nat) : Int) := wnat (by omega) (by omega)
    rw [e]
    refine Ev.pos (decide_eq_true (by omega)) (Ev.pos (by omega) (Ev.pos (by omega) ?_))
    rw [runeStart_f]
    refine Ev.bind (Ev.now _) ?_
    by_cases h2 : bN v (n - j) / 64 = 2
    ·rw [if_pos h2]
     refine Ev.neg (by rw [decide_eq_false (by simpa using h2)]; decide) ?_
     rw [wnat (x := (j : Int) + 1) (n := j + 1) (by omega) (by omega)]
     exact ih (j + 1) (by omega)
    ·rw [if_neg h2]
     refine Ev.pos (decide_eq_true h2) (Ev.pos (by omega) ?_)
     rw [Int.toNat_natCast, decode_f v (n - j) (by omega)]
     refine Ev.bind (Ev.now _) ?_
     by_cases h3 : j < sgW v (n - j)
     ·rw [if_pos h3]
      exact Ev.pos (by show (sgW v (n - j) : Int) > (j : Int); omega) (Ev.now _)
     ·rw [if_neg h3]
      exact Ev.neg (by show ¬ (sgW v (n - j) : Int) > (j : Int); omega) (Ev.now _)
 exact loop 4 0 rfl
theorem alignS_le (v : ByteArray) (a : Int) : alignS v a ≤ v.size := by
 unfold alignS
 split
 ·rename_i h
  have := (align_spec v a.toNat h).2.1
  omega
 ·exact Nat.le_refl _
theorem alignS_lt (v : ByteArray) (a : Int) : alignS v a < v.size ↔ a.toNat < v.size := by
 unfold alignS
 split
 ·rename_i h
  have := (align_spec v a.toNat h).2.1
  omega
 ·omega
theorem gat_ev (v : ByteArray) (hv : v.size ≤ 100000000) (a : Int) : Ev (fun k => glyph_At.f k v a) (((atG v a).1 : Int), ((atG v a).2 : Int)) := by
 unfold glyph_At.f
 refine Ev.bind (galign_ev v hv a) ?_
 by_cases h : a.toNat < v.size
 ·have h1 := (alignS_lt v a).2 h
  refine Ev.neg (by omega) (Ev.pos (by omega) (Ev.pos (by omega) ?_))
  rw [Int.toNat_natCast, decode_f v _ h1, show atG v a = (sgR v (alignN v a.toNat), sgW v (alignN v a.toNat)) from if_pos h, show alignS v a = alignN v a.toNat from if_pos h]
  exact Ev.bind (Ev.now _) (Ev.now _)
 ·rw [show atG v a = (0, 0) from if_neg h, show alignS v a = v.size from if_neg h]
  exact Ev.pos rfl (Ev.now _)
theorem gnext_ev (v : ByteArray) (hv : v.size ≤ 100000000) (a : Int) : Ev (fun k => glyph_Next.f k v a) (nextS v a : Int) := by
 unfold glyph_Next.f
 refine Ev.bind (gat_ev v hv a) (Ev.bind (galign_ev v hv a) (ev_val (Ev.now _) ?_))
 by_cases h : a.toNat < v.size
 ·have h1 := align_spec v a.toNat h
  have h2 := sg_width v (alignN v a.toNat) (by omega)
  rw [show atG v a = (sgR v (alignN v a.toNat), sgW v (alignN v a.toNat)) from if_pos h, show alignS v a = alignN v a.toNat from if_pos h, show nextS v a = alignN v a.toNat + sgW v (alignN v a.toNat) from if_pos h]
  exact wnat (by show (alignN v a.toNat : Int) + (sgW v (alignN v a.toNat) : Int) = _; omega) (by show (alignN v a.toNat : Int) + (sgW v (alignN v a.toNat) : Int) ≤ _; omega)
 ·rw [show atG v a = (0, 0) from if_neg h, show alignS v a = v.size from if_neg h, show nextS v a = v.size from if_neg h]
  exact wnat (by show (v.size : Int) + ((0 : Nat) : Int) = _; omega) (by show (v.size : Int) + ((0 : Nat) : Int) ≤ _; omega)
end Go.Proofs.YtjkfkiebhgkolaaGreatDoor.PB
end

section
namespace Go.Proofs.YtjkfkiebhgkolaaGreatDoor.PB
open Go.RowKit Go.Proofs.YtjkfkiebhgkolaaGreatDoorW.PrintWords Go.Proofs.YtjkfkiebhgkolaaGreatDoorW.PrintLast Go.Proofs.YtjkfkiebhgkolaaGreatDoorW.PrintMore
attribute [local go_sem] max2_int min2_int max_two min_two max_three min_three max_four min_four   
set_option linter.unusedVariables false
set_option linter.unusedSimpArgs false
def line_Of.f (a0 : ByteArray) (a1 : Int) : Option (Int) := if 0 ≤ (mn (mx a1 0) (a0.size : Int)) then (if (mn (mx a1 0) (a0.size : Int)) ≤ (a0.size : Int) then ((strings_Count.f (a0.extract 0 ((mn (mx a1 0) (a0.size : Int)) : Int).toNat) (⟨#[10]⟩ : ByteArray)).bind fun t205 => (some t205)) else (none)) else (none)
set_option maxHeartbeats 8000000 in
set_option maxRecDepth 100000 in
theorem line_Of.calls (a0 : ByteArray) (a1 : Int) (r : Int) (w : World) (h : line_Of.f a0 a1 = some r) :
  Calls Tryz.prog 45 #[.string a0, .int .i64 a1] w fun e w' => e = .returned (.int .i64 r) ∧ Below w.heap.size w w' := by
 have HB := aM (Below.refl w.heap.size w)
 have H : (if 0 ≤ (mn (mx a1 0) (a0.size : Int)) then (if (mn (mx a1 0) (a0.size : Int)) ≤ (a0.size : Int) then ((strings_Count.f (a0.extract 0 ((mn (mx a1 0) (a0.size : Int)) : Int).toNat) (⟨#[10]⟩ : ByteArray)).bind fun t205 => (some t205)) else (none)) else (none)) = some r := h
 clear h
 obtain ⟨ji3, hji3⟩ : ∃ j_ : Int, (mx a1 0) = j_ := ⟨_, rfl⟩
 replace H : (if 0 ≤ (mn (ji3) (a0.size : Int)) then (if (mn (ji3) (a0.size : Int)) ≤ (a0.size : Int) then ((strings_Count.f (a0.extract 0 ((mn (ji3) (a0.size : Int)) : Int).toNat) (⟨#[10]⟩ : ByteArray)).bind fun t205 => (some t205)) else (none)) else (none)) = some r := by first | (rw [hji3] at H; exact H) | (simp only [hji3] at H ⊢; exact H)
 (try (have hji3l : 0 ≤ ji3 := by (rw [← hji3]; unfold mx; (repeat' split) <;> omega)))
 (try (have hji3m : 0 ≤ ji3 := by omega))
 have hji3_ : (if a1 < 0 then 0 else a1) = ji3 := hji3
 obtain ⟨ji4, hji4⟩ : ∃ j_ : Int, (mn (ji3) (a0.size : Int)) = j_ := ⟨_, rfl⟩
 replace H : (if 0 ≤ (ji4) then (if (ji4) ≤ (a0.size : Int) then ((strings_Count.f (a0.extract 0 ((ji4) : Int).toNat) (⟨#[10]⟩ : ByteArray)).bind fun t205 => (some t205)) else (none)) else (none)) = some r := by first | (rw [hji4] at H; exact H) | (simp only [hji4] at H ⊢; exact H)
 have hji4_ : (if (a0.size : Int) < (ji3) then (a0.size : Int) else (ji3)) = ji4 := hji4
 by_cases c5 : 0 ≤ (ji4)
 ·rw [if_pos c5] at H
  have c5b0 := eq_true c5
  have c5b1 : decide (0 ≤ (ji4)) = true := decide_eq_true c5
  clear c5
  by_cases c6 : (ji4) ≤ (a0.size : Int)
  ·rw [if_pos c6] at H
   have c6b0 := eq_true c6
   have c6b1 : decide ((ji4) ≤ (a0.size : Int)) = true := decide_eq_true c6
   clear c6
   replace H := Option.bind_eq_some_iff.mp H
   obtain ⟨t205, A70, H⟩ := H
   replace H : (some t205) = some r := H
   have A7 := aM A70
   clear A70
   obtain rfl := Option.some.inj H
   go_enter Tryz.func45, Tryz.ntmps45
   go_wp2_with (first | ((with_reducible refine gate_callee (f := 95) rfl ?_); refine goesL_ (some 12) rfl rfl Tryz.func95 (by kernel_rfl) rfl #[.string (a0.extract 0 ((ji4) : Int).toNat), .string (⟨#[10]⟩ : ByteArray)] rfl (by (try simp only [mT, mC, mN]); first | done | (simp only [hji4]; rfl) | rfl | (simp only [lD, lT]; rfl)) ?_; (with_reducible refine (strings_Count.calls (a0.extract 0 ((ji4) : Int).toNat) (⟨#[10]⟩ : ByteArray) t205 _ A7.out).mono ?_); rintro e w8 ⟨rfl, hb⟩; refine ⟨_, rfl, ?_⟩; replace HB := yP w hb; clear hb))
   go_ret
   exact ⟨by first | rfl | (simp [errW_none, errW_some] <;> rfl) | (simp only [← hji3, ← hji4]; first | rfl | (simp [errW_none, errW_some] <;> rfl)) | (simp [*, errW_none, errW_some] <;> rfl), by exact ey HB.out⟩
  ·rw [if_neg c6] at H
   exact absurd H (by simp)
 ·rw [if_neg c5] at H
  exact absurd H (by simp)
def line_into.f (k : Nat) (a0 : ByteArray) (a1 : Int) : Option (Int × Int) := (line_Count.f a0).bind fun t177 => ((line_Bounds.f k a0 (mn (mx a1 0) (wrap64 (t177 - 1)))).bind fun bt178 => (some (bt178.1, bt178.2.1)))
set_option maxHeartbeats 8000000 in
set_option maxRecDepth 100000 in
theorem line_into.calls (k : Nat) (a0 : ByteArray) (a1 : Int) (r1 : Int) (r2 : Int) (w : World) (h : line_into.f k a0 a1 = some (r1, r2)) :
  Calls Tryz.prog 126 #[.string a0, .int .i64 a1] w fun e w' => e = .returned (.tuple #[.int .i64 r1, .int .i64 r2]) ∧ Below w.heap.size w w' := by
 have HB := aM (Below.refl w.heap.size w)
 have H : ((line_Count.f a0).bind fun t177 => ((line_Bounds.f k a0 (mn (mx a1 0) (wrap64 (t177 - 1)))).bind fun bt178 => (some (bt178.1, bt178.2.1)))) = some (r1, r2) := h
 clear h
 obtain ⟨ji3, hji3⟩ : ∃ j_ : Int, (mx a1 0) = j_ := ⟨_, rfl⟩
 replace H : ((line_Count.f a0).bind fun t177 => ((line_Bounds.f k a0 (mn (ji3) (wrap64 (t177 - 1)))).bind fun bt178 => (some (bt178.1, bt178.2.1)))) = some (r1, r2) := by first | (rw [hji3] at H; exact H) | (simp only [hji3] at H ⊢; exact H)
 (try (have hji3l : 0 ≤ ji3 := by (rw [← hji3]; unfold mx; (repeat' split) <;> omega)))
 (try (have hji3m : 0 ≤ ji3 := by omega))
 have hji3_ : (if a1 < 0 then 0 else a1) = ji3 := hji3
 replace H := Option.bind_eq_some_iff.mp H
 obtain ⟨t177, A40, H⟩ := H
 replace H : ((line_Bounds.f k a0 (mn (ji3) (wrap64 (t177 - 1)))).bind fun bt178 => (some (bt178.1, bt178.2.1))) = some (r1, r2) := H
 have A4 := aM A40
 clear A40
 obtain ⟨ji5, hji5⟩ : ∃ j_ : Int, (mn (ji3) (wrap64 (t177 - 1))) = j_ := ⟨_, rfl⟩
 replace H : ((line_Bounds.f k a0 (ji5)).bind fun bt178 => (some (bt178.1, bt178.2.1))) = some (r1, r2) := by first | (rw [hji5] at H; exact H) | (simp only [hji5] at H ⊢; exact H)
 (try rw [hji5] at A4)
 have hji5_ : (if (wrap64 (t177 - 1)) < (ji3) then (wrap64 (t177 - 1)) else (ji3)) = ji5 := hji5
 replace H := Option.bind_eq_some_iff.mp H
 obtain ⟨⟨t178, t179, t180⟩, A60, H⟩ := H
 replace H : (some (t178, t179)) = some (r1, r2) := H
 have A6 := aM A60
 clear A60
 simp only [Option.some.injEq, Prod.mk.injEq] at H
 obtain ⟨rfl, rfl⟩ := H
 go_enter Tryz.func126, Tryz.ntmps126
 go_wp2_with (first | (refine yC (some 14) Tryz.func72 #[.string a0] ?_; (with_reducible refine (line_Count.calls a0 t177 _ A4.out).mono ?_); rintro e w7 ⟨rfl, hb⟩; refine ⟨_, rfl, ?_⟩; replace HB := yP w hb; clear hb) | ((with_reducible refine gate_callee (f := 44) rfl ?_); refine goesL_ (some 17) rfl rfl Tryz.func44 (by kernel_rfl) rfl #[.string a0, .int .i64 ji5] rfl (by (try simp only [mT, mC, mN]); first | done | (simp only [hji5]; rfl) | rfl | (simp only [lD, lT]; rfl)) ?_; (with_reducible refine (line_Bounds.calls k a0 ji5 t178 t179 t180 _ A6.out).mono ?_); rintro e w8 ⟨rfl, hb⟩; refine ⟨_, rfl, ?_⟩; replace HB := yP w hb; clear hb))
 go_ret2
 exact ⟨by first | rfl | (simp [errW_none, errW_some] <;> rfl) | (simp only [← hji3, ← hji5]; first | rfl | (simp [errW_none, errW_some] <;> rfl)) | (simp [*, errW_none, errW_some] <;> rfl), by exact ey HB.out⟩
def line_Whole.j0 : Nat → ByteArray → Int → Int → Bool → Option (Int × Int × Int)
 | 0, _, _, _, _ => none
 | k + 1, x0, x1, x2, x25 => if x25 = true then (some (0, 0, 2)) else ((line_into.f k x0 x1).bind fun bt182 => ((line_into.f k x0 x2).bind fun bt184 => (if bt184.2 < (x0.size : Int) then (some (bt182.1, wrap64 (bt184.2 + 1), 0)) else (if x1 > 0 then (some (wrap64 (bt182.1 - 1), bt184.2, 0)) else (some (0, (x0.size : Int), 0))))))
def line_Whole.f (k : Nat) (a0 : ByteArray) (a1 : Int) (a2 : Int) : Option (Int × Int × Int) := if a1 < 0 then (line_Whole.j0 k a0 a1 a2 true) else (if a2 < a1 then (line_Whole.j0 k a0 a1 a2 true) else ((line_Count.f a0).bind fun t181 => (line_Whole.j0 k a0 a1 a2 (decide (a2 ≥ t181)))))
set_option maxHeartbeats 8000000 in
set_option maxRecDepth 100000 in
theorem line_Whole.calls (k : Nat) (a0 : ByteArray) (a1 : Int) (a2 : Int) (r1 : Int) (r2 : Int) (r3 : Int) (w : World) (h : line_Whole.f k a0 a1 a2 = some (r1, r2, r3)) :
  Calls Tryz.prog 76 #[.string a0, .int .i64 a1, .int .i64 a2] w fun e w' => e = .returned (.tuple #[.int .i64 r1, .int .i64 r2, .int .i64 r3]) ∧ Below w.heap.size w w' := by
 have HB := aM (Below.refl w.heap.size w)
 have H : (if a1 < 0 then (line_Whole.j0 k a0 a1 a2 true) else (if a2 < a1 then (line_Whole.j0 k a0 a1 a2 true) else ((line_Count.f a0).bind fun t181 => (line_Whole.j0 k a0 a1 a2 (decide (a2 ≥ t181)))))) = some (r1, r2, r3) := h
 clear h
 have HC4 := aM H
 clear H
 go_enter Tryz.func76, Tryz.ntmps76
 go_upto_region 1 with (fail)
 go_cut [25] (fun v25 wc => ∃ (kq : Nat) (x25_3 : Bool), v25 = .bool x25_3 ∧ Aside0 (line_Whole.j0 kq a0 a1 a2 x25_3 = some (r1, r2, r3)) ∧ Aside0 (kq ≤ k) ∧ Aside0 (Below w.heap.size w wc))
 case first =>
  have H := HC4.out
  clear HC4
  by_cases c5 : a1 < 0
  ·rw [if_pos c5] at H
   have c5b0 : decide (a1 < 0) = true := decide_eq_true c5
   clear c5
   (first | rw [c5b0] | (simp only [i64_w, i32_w]; rw [c5b0]) | skip)
   have H' := aM H
   clear H
   go_wp2
   go_meet
   case rel => exact ⟨_, (true), (by first | rfl | (simp; done) | (simp [*]; done)), H', ⟨by first | omega | exact Nat.le_refl _⟩, ⟨by exact ey HB.out⟩⟩
  ·rw [if_neg c5] at H
   have c5b0 : decide (a1 < 0) = false := decide_eq_false c5
   clear c5
   (first | rw [c5b0] | (simp only [i64_w, i32_w]; rw [c5b0]) | skip)
   by_cases c6 : a2 < a1
   ·rw [if_pos c6] at H
    have c6b0 : decide (a2 < a1) = true := decide_eq_true c6
    clear c6
    have H' := aM H
    clear H
    go_wp2
    go_meet
    case rel => exact ⟨_, (true), (by first | rfl | (simp; done) | (simp [*]; done)), H', ⟨by first | omega | exact Nat.le_refl _⟩, ⟨by exact ey HB.out⟩⟩
   ·rw [if_neg c6] at H
    have c6b0 : decide (a2 < a1) = false := decide_eq_false c6
    clear c6
    replace H := Option.bind_eq_some_iff.mp H
    obtain ⟨t181, A70, H⟩ := H
    replace H : (line_Whole.j0 k a0 a1 a2 (decide (a2 ≥ t181))) = some (r1, r2, r3) := H
    have A7 := aM A70
    clear A70
    have H' := aM H
    clear H
    go_wp2_with (first | (go_at_call 72; (with_reducible refine (line_Count.calls a0 t181 _ A7.out).mono ?_); rintro e w8 ⟨rfl, hb⟩; replace HB := yP w hb; clear hb))
    go_meet
    case rel => exact ⟨_, (decide (a2 ≥ t181)), (by first | rfl | (simp; done) | (simp [*]; done)), H', ⟨by first | omega | exact Nat.le_refl _⟩, ⟨by exact ey HB.out⟩⟩
 case rest =>
  clear HC4
  try clear p2
  try clear c5
  try clear c5b0
  try clear c6
  try clear c6b0
  try clear c7
  obtain ⟨kq, x25_3, rfl, HA, HJ3, HB⟩ := hcut
  cases kq with
  | zero => exact absurd HA.out (by simp [line_Whole.j0])
  | succ kj3 =>
   have H := HA.out
   clear HA
   simp only [line_Whole.j0] at H
   by_cases c9 : x25_3 = true
   ·subst c9
    rw [if_pos rfl] at H
    simp only [Option.some.injEq, Prod.mk.injEq] at H
    obtain ⟨rfl, rfl, rfl⟩ := H
    go_wp2
    go_ret3
    exact ⟨ye, by exact ey HB.out⟩
   ·replace c9 := Bool.eq_false_iff.mpr c9
    subst c9
    rw [if_neg (show ¬ (false = true) by decide)] at H
    replace H := Option.bind_eq_some_iff.mp H
    obtain ⟨⟨t182, t183⟩, A100, H⟩ := H
    replace H : ((line_into.f kj3 a0 a2).bind fun bt184 => (if bt184.2 < (a0.size : Int) then (some (t182, wrap64 (bt184.2 + 1), 0)) else (if a1 > 0 then (some (wrap64 (t182 - 1), bt184.2, 0)) else (some (0, (a0.size : Int), 0))))) = some (r1, r2, r3) := H
    have A10 := aM A100
    clear A100
    replace H := Option.bind_eq_some_iff.mp H
    obtain ⟨⟨t184, t185⟩, A110, H⟩ := H
    replace H : (if t185 < (a0.size : Int) then (some (t182, wrap64 (t185 + 1), 0)) else (if a1 > 0 then (some (wrap64 (t182 - 1), t185, 0)) else (some (0, (a0.size : Int), 0)))) = some (r1, r2, r3) := H
    have A11 := aM A110
    clear A110
    by_cases c12 : t185 < (a0.size : Int)
    ·rw [if_pos c12] at H
     have c12b0 : decide (t185 < (a0.size : Int)) = true := decide_eq_true c12
     clear c12
     simp only [Option.some.injEq, Prod.mk.injEq] at H
     obtain ⟨rfl, rfl, rfl⟩ := H
     go_wp2_with (first | (refine yC (some 29) Tryz.func126 #[.string a0, .int .i64 a1] ?_; (with_reducible refine (line_into.calls kj3 a0 a1 t182 t183 _ A10.out).mono ?_); rintro e w13 ⟨rfl, hb⟩; refine ⟨_, rfl, ?_⟩; replace HB := yP w hb; clear hb) | (refine yC (some 35) Tryz.func126 #[.string a0, .int .i64 a2] ?_; (with_reducible refine (line_into.calls kj3 a0 a2 t184 t185 _ A11.out).mono ?_); rintro e w14 ⟨rfl, hb⟩; refine ⟨_, rfl, ?_⟩; replace HB := yP w hb; clear hb))
     go_ret3
     exact ⟨ye, by exact ey HB.out⟩
    ·rw [if_neg c12] at H
     have c12b0 : decide (t185 < (a0.size : Int)) = false := decide_eq_false c12
     clear c12
     by_cases c15 : a1 > 0
     ·rw [if_pos c15] at H
      have c15b0 : decide (0 < a1) = true := decide_eq_true c15
      clear c15
      simp only [Option.some.injEq, Prod.mk.injEq] at H
      obtain ⟨rfl, rfl, rfl⟩ := H
      go_wp2_with (first | (refine yC (some 29) Tryz.func126 #[.string a0, .int .i64 a1] ?_; (with_reducible refine (line_into.calls kj3 a0 a1 t182 t183 _ A10.out).mono ?_); rintro e w16 ⟨rfl, hb⟩; refine ⟨_, rfl, ?_⟩; replace HB := yP w hb; clear hb) | (refine yC (some 35) Tryz.func126 #[.string a0, .int .i64 a2] ?_; (with_reducible refine (line_into.calls kj3 a0 a2 t184 t185 _ A11.out).mono ?_); rintro e w17 ⟨rfl, hb⟩; refine ⟨_, rfl, ?_⟩; replace HB := yP w hb; clear hb))
      go_ret3
      exact ⟨ye, by exact ey HB.out⟩
     ·rw [if_neg c15] at H
      have c15b0 : decide (0 < a1) = false := decide_eq_false c15
      clear c15
      simp only [Option.some.injEq, Prod.mk.injEq] at H
      obtain ⟨rfl, rfl, rfl⟩ := H
      go_wp2_with (first | (refine yC (some 29) Tryz.func126 #[.string a0, .int .i64 a1] ?_; (with_reducible refine (line_into.calls kj3 a0 a1 t182 t183 _ A10.out).mono ?_); rintro e w18 ⟨rfl, hb⟩; refine ⟨_, rfl, ?_⟩; replace HB := yP w hb; clear hb) | (refine yC (some 35) Tryz.func126 #[.string a0, .int .i64 a2] ?_; (with_reducible refine (line_into.calls kj3 a0 a2 t184 t185 _ A11.out).mono ?_); rintro e w19 ⟨rfl, hb⟩; refine ⟨_, rfl, ?_⟩; replace HB := yP w hb; clear hb))
      go_ret3
      exact ⟨ye, by exact ey HB.out⟩
mutual
def bureauref06_Of.l0 : Nat → ByteArray → Int → Int → Int → Option (Int)
 | 0, _, _, _, _ => none
 | k + 1, x0, x1, x5, x6 => if x6 < (x0.size : Int) then (bureauref06_Of.j1 k x0 x1 x5 x6 (decide (x6 < x1))) else (bureauref06_Of.j1 k x0 x1 x5 x6 false)
def bureauref06_Of.j1 : Nat → ByteArray → Int → Int → Int → Bool → Option (Int)
 | 0, _, _, _, _, _ => none
 | k + 1, x0, x1, x5, x6, x15 => if x15 = true then (if 0 ≤ x6 then (if x6 < (x0.size : Int) then (if (bt x0 x6) = 10 then (bureauref06_Of.l0 k x0 x1 (wrap64 (x5 + 1)) (wrap64 (x6 + 1))) else (bureauref06_Of.l0 k x0 x1 x5 (wrap64 (x6 + 1)))) else (none)) else (none)) else (some x5)
end
def bureauref06_Of.f (k : Nat) (a0 : ByteArray) (a1 : Int) : Option (Int) := bureauref06_Of.l0 k a0 a1 0 0
set_option maxHeartbeats 8000000 in
set_option maxRecDepth 100000 in
theorem bureauref06_Of.calls (k : Nat) (a0 : ByteArray) (a1 : Int) (r : Int) (w : World) (h : bureauref06_Of.f k a0 a1 = some r) :
  Calls Tryz.prog 54 #[.string a0, .int .i64 a1] w fun e w' => e = .returned (.int .i64 r) ∧ Drawn0 w w' := by
 have H : (bureauref06_Of.l0 k a0 a1 0 0) = some r := h
 clear h
 have H' := aM H
 clear H
 go_enter Tryz.func54, Tryz.ntmps54
 go_wp2
 go_loopg [5, 6] k (fun kq v5 v6 w' => ∃ (x5_1 : Int) (x6_1 : Int), v5 = .int .i64 x5_1 ∧ v6 = .int .i64 x6_1 ∧ Aside0 (bureauref06_Of.l0 kq a0 a1 x5_1 x6_1 = some r) ∧ Aside0 (kq ≤ k) ∧ Drawn0 w w')
 case atStart => exact ⟨(0), (0), (by first | rfl | (simp; done) | (simp [*]; done)), (by first | rfl | (simp; done) | (simp [*]; done)), H', ⟨Nat.le_refl _⟩, by repeat (first | exact Drawn0.refl _ | apply Drawn0.step)⟩
 case round =>
  clear H'
  try clear p2
  obtain ⟨x5_1, x6_1, rfl, rfl, HA, HK1, ⟨m1, rfl⟩⟩ := hrel
  cases gk with
  | zero => exact absurd HA.out (by simp [bureauref06_Of.l0])
  | succ k1 =>
   have H := HA.out
   clear HA
   simp only [bureauref06_Of.l0] at H
   have HC3 := aM H
   clear H
   go_upto_region 3 with (fail)
   go_cut [15] (fun v15 wc => ∃ (kq : Nat) (x15_2 : Bool), v15 = .bool x15_2 ∧ Aside0 (bureauref06_Of.j1 kq a0 a1 x5_1 x6_1 x15_2 = some r) ∧ Aside0 (kq ≤ k1) ∧ Drawn0 w wc)
   case first =>
    have H := HC3.out
    clear HC3
    by_cases c4 : x6_1 < (a0.size : Int)
    ·rw [if_pos c4] at H
     have c4b0 : decide (x6_1 < (a0.size : Int)) = true := decide_eq_true c4
     clear c4
     (first | rw [c4b0] | (simp only [i64_w, i32_w]; rw [c4b0]) | skip)
     have H' := aM H
     clear H
     go_wp2
     go_meet
     case rel => exact ⟨_, (decide (x6_1 < a1)), (by first | rfl | (simp; done) | (simp [*]; done)), H', ⟨by have := HK1.out; first | omega | exact Nat.le_refl _⟩, by repeat (first | exact Drawn0.refl _ | apply Drawn0.step)⟩
    ·rw [if_neg c4] at H
     have c4b0 : decide (x6_1 < (a0.size : Int)) = false := decide_eq_false c4
     clear c4
     (first | rw [c4b0] | (simp only [i64_w, i32_w]; rw [c4b0]) | skip)
     have H' := aM H
     clear H
     go_wp2
     go_meet
     case rel => exact ⟨_, (false), (by first | rfl | (simp; done) | (simp [*]; done)), H', ⟨by have := HK1.out; first | omega | exact Nat.le_refl _⟩, by repeat (first | exact Drawn0.refl _ | apply Drawn0.step)⟩
   case rest =>
    clear HC3
    try clear p2
    try clear c4
    try clear c4b0
    try clear p2
    obtain ⟨kq, x15_2, rfl, HA, HJ2, ⟨mc2, rfl⟩⟩ := hcut
    cases kq with
    | zero => exact absurd HA.out (by simp [bureauref06_Of.j1])
    | succ kj2 =>
     have H := HA.out
     clear HA
     simp only [bureauref06_Of.j1] at H
     by_cases c5 : x15_2 = true
     ·subst c5
      rw [if_pos rfl] at H
      by_cases c6 : 0 ≤ x6_1
      ·rw [if_pos c6] at H
       have c6b0 : decide (0 ≤ x6_1) = true := decide_eq_true c6
       clear c6
       by_cases c7 : x6_1 < (a0.size : Int)
       ·rw [if_pos c7] at H
        have c7b0 : decide (x6_1 < (a0.size : Int)) = true := decide_eq_true c7
        clear c7
        by_cases c9 : (bt a0 x6_1) = 10
        ·rw [if_pos c9] at H
         have c9b0 : ((bt a0 x6_1) == 10) = true := beq_iff_eq.mpr c9
         have c9b1 : ((bt a0 x6_1) != 10) = false := bne_eq_false_iff_eq.mpr c9
         clear c9
         have H' := aM H
         clear H
         have p8 : 0 ≤ (x6_1 : Int) := of_decide_eq_true (by first | (with_reducible assumption) | assumption)
         have q8 : x6_1 < (a0.size : Int) := of_decide_eq_true (by first | (with_reducible assumption) | assumption)
         have hx8 := bt_at a0 x6_1
         replace p8 := eq_true p8
         replace q8 := eq_true q8
         go_wp2
         go_roundg kj2
         case measure => have := HK1.out; have := HJ2.out; omega
         case rel => exact ⟨(wrap64 (x5_1 + 1)), (wrap64 (x6_1 + 1)), (by first | rfl | (simp; done) | (simp [*]; done)), (by first | rfl | (simp; done) | (simp [*]; done)), H', ⟨by have := HK1.out; have := HJ2.out; omega⟩, by repeat (first | exact Drawn0.refl _ | apply Drawn0.step)⟩
        ·rw [if_neg c9] at H
         have c9b0 : ((bt a0 x6_1) == 10) = false := beq_eq_false_iff_ne.mpr c9
         have c9b1 : ((bt a0 x6_1) != 10) = true := bne_iff_ne.mpr c9
         have H' := aM H
         clear H
         have p8 : 0 ≤ (x6_1 : Int) := of_decide_eq_true (by first | (with_reducible assumption) | assumption)
         have q8 : x6_1 < (a0.size : Int) := of_decide_eq_true (by first | (with_reducible assumption) | assumption)
         have hx8 := bt_at a0 x6_1
         replace p8 := eq_true p8
         replace q8 := eq_true q8
         go_wp2
         go_roundg kj2
         case measure => have := HK1.out; have := HJ2.out; omega
         case rel => exact ⟨(x5_1), (wrap64 (x6_1 + 1)), (by first | rfl | (simp; done) | (simp [*]; done)), (by first | rfl | (simp; done) | (simp [*]; done)), H', ⟨by have := HK1.out; have := HJ2.out; omega⟩, by repeat (first | exact Drawn0.refl _ | apply Drawn0.step)⟩
       ·rw [if_neg c7] at H
        exact absurd H (by simp)
      ·rw [if_neg c6] at H
       exact absurd H (by simp)
     ·replace c5 := Bool.eq_false_iff.mpr c5
      subst c5
      rw [if_neg (show ¬ (false = true) by decide)] at H
      obtain rfl := Option.some.inj H
      go_wp2
      go_ret
      exact ⟨by first | rfl | (simp; done) | (simp [*]; done), by repeat (first | exact Drawn0.refl _ | apply Drawn0.step)⟩
end Go.Proofs.YtjkfkiebhgkolaaGreatDoor.PB
end

section
namespace Go.Proofs.YtjkfkiebhgkolaaGreatDoor.PB
open Go.RowKit Go.Proofs.YtjkfkiebhgkolaaGreatDoorW.PrintWords
set_option linter.unusedVariables false
set_option linter.unusedSimpArgs false
def boundsS (v : ByteArray) (n : Int) : Int × Int × Int := if 0 ≤ n ∧ n.toNat < (ends v).length then ((lineFrom v n.toNat : Int), (lineTo v n.toNat : Int), 0) else (0, 0, 2)
theorem ends_pos (v : ByteArray) : 1 ≤ (ends v).length := lineEnds_ne _ _
theorem bounds2_ev (v : ByteArray) (hv : v.size ≤ 100000) (n : Int) : Ev (fun k => line_Bounds.f k v n) (boundsS v n) := by
 by_cases h : 0 ≤ n ∧ n.toNat < (ends v).length
 ·rw [show boundsS v n = ((lineFrom v n.toNat : Int), (lineTo v n.toNat : Int), 0) from if_pos h]
  have := bounds_ev v hv n.toNat h.2
  rw [show ((n.toNat : Nat) : Int) = n by omega] at this
  exact this
 ·rw [show boundsS v n = (0, 0, 2) from if_neg h]
  unfold line_Bounds.f
  by_cases h0 : n < 0
  ·refine Ev.pos h0 (Ev.step (fun k => by simp only [line_Bounds.j0]; rfl) ?_)
   exact Ev.pos (by first | trivial | rfl) (Ev.now _)
  ·refine Ev.neg h0 ?_
   rw [count_ev v hv]
   exact Ev.bind (Ev.now _) (Ev.step (fun k => by simp only [line_Bounds.j0]; rfl) (Ev.pos (decide_eq_true (by omega)) (Ev.now _)))
def ofL (v : ByteArray) (a : Int) : Nat := cnt v.data.toList a.toNat
theorem ofL_lt (v : ByteArray) (a : Int) : ofL v a < (ends v).length := cnt_ends v _
theorem data_len (v : ByteArray) : v.data.toList.length = v.size := by rw [Array.length_toList]; rfl
theorem ofL_f (v : ByteArray) (a : Int) : line_Of.f v a = some (ofL v a : Int) := by
 have hm : mn (mx a 0) (v.size : Int) = ((min a.toNat v.size : Nat) : Int) := by
  unfold mn mx
  repeat' split
  all_goals omega
 unfold line_Of.f
 rw [hm, if_pos (by omega), if_pos (by omega), Int.toNat_natCast]
 unfold strings_Count.f
 rw [if_pos (by rfl)]
 show some ((Lib.countByte (v.extract 0 (min a.toNat v.size)).data.toList 10 : Nat) : Int) = _
 rw [ext_list, List.drop_zero]
 unfold ofL cnt
 congr 2
 by_cases h : a.toNat ≤ v.size
 ·rw [Nat.min_eq_left h]
  rfl
 ·rw [Nat.min_eq_right (by omega), List.take_of_length_le (by rw [data_len]; exact Nat.le_refl _), List.take_of_length_le (by rw [data_len]; omega)]
  rfl
theorem rofL_ev (v : ByteArray) (hv : v.size ≤ 100000) (a : Int) : Ev (fun k => bureauref06_Of.f k v a) (ofL v a : Int) := by
 unfold bureauref06_Of.f ofL
 have loop : ∀ (d i : Nat), i + d = v.size → i ≤ a.toNat → Ev (fun k => bureauref06_Of.l0 k v a (cnt v.data.toList i : Int) (i : Int)) (cnt v.data.toList a.toNat : Int) := by
  intro d
  induction d with
  | zero =>
   intro i hi ha
   refine Ev.step (fun k => by simp only [bureauref06_Of.l0]; rfl) (Ev.neg (by omega) ?_)
   refine Ev.step (fun k => by simp only [bureauref06_Of.j1]; rfl) (Ev.neg (by decide) (ev_val (Ev.now _) ?_))
   unfold cnt
   rw [List.take_of_length_le (by rw [data_len]; omega), List.take_of_length_le (by rw [data_len]; omega)]
  | succ d ih =>
   intro i hi ha
   refine Ev.step (fun k => by simp only [bureauref06_Of.l0]; rfl) (Ev.pos (by omega) ?_)
   refine Ev.step (fun k => by simp only [bureauref06_Of.j1]; rfl) ?_
   by_cases h : (i : Int) < a
   ·refine Ev.pos (decide_eq_true h) (Ev.pos (by omega) (Ev.pos (by omega) ?_))
    have e : wrap64 ((i : Int) + 1) = ((i + 1 : Nat) : Int) := wnat (by omega) (by omega)
    have hc : (v.data.toList.take i).count 10 ≤ v.size := by
     refine Nat.le_trans List.count_le_length ?_
     rw [List.length_take, data_len]
     omega
    have hg : v.data.toList[i]? = some (v.data.toList[i]'(by rw [data_len]; omega)) := List.getElem?_eq_getElem _
    have hb : bt v (i : Int) = ((v.data.toList[i]'(by rw [data_len]; omega)).toNat : Int) := by
     rw [bt_list v i (by omega), List.getD_eq_getElem?_getD, hg]
     rfl
    have hs : cnt v.data.toList (i + 1) = cnt v.data.toList i + (if (v.data.toList[i]'(by rw [data_len]; omega)) = 10 then 1 else 0) := by
     unfold cnt
     rw [List.take_add_one, hg, List.count_append]
     simp only [Option.toList_some, List.count_singleton, beq_iff_eq]
    by_cases h10 : bt v (i : Int) = 10
    ·refine Ev.pos h10 ?_
     have h11 : (v.data.toList[i]'(by rw [data_len]; omega)) = 10 := by
      rw [hb] at h10
      exact UInt8.toNat_inj.1 (by rw [show (10 : UInt8).toNat = 10 from rfl]; omega)
     rw [if_pos h11] at hs
     rw [e, wnat (x := (cnt v.data.toList i : Int) + 1) (n := cnt v.data.toList (i + 1)) (by omega) (by unfold cnt; omega)]
     exact ih (i + 1) (by omega) (by omega)
    ·refine Ev.neg h10 ?_
     have h11 : ¬ (v.data.toList[i]'(by rw [data_len]; omega)) = 10 := fun h => h10 (by rw [hb, h]; rfl)
     rw [if_neg h11] at hs
     rw [e, show (cnt v.data.toList i : Int) = (cnt v.data.toList (i + 1) : Int) by rw [hs, Nat.add_zero]]
     exact ih (i + 1) (by omega) (by omega)
   ·refine Ev.neg (by rw [decide_eq_false h]; decide) (ev_val (Ev.now _) ?_)
    rw [show a.toNat = i by omega]
 have := loop v.size 0 (by omega) (by omega)
 exact this
def clipN (v : ByteArray) (n : Int) : Nat := min n.toNat ((ends v).length - 1)
theorem clipN_lt (v : ByteArray) (n : Int) : clipN v n < (ends v).length := by have := ends_pos v; unfold clipN; omega
theorem clip_eq (v : ByteArray) (hv : v.size ≤ 100000) (n : Int) : mn (mx n 0) (wrap64 (((ends v).length : Int) - 1)) = (clipN v n : Int) := by
 have h1 := ends_pos v
 have h2 := ends_len_le v
 rw [wnat (n := (ends v).length - 1) (by omega) (by omega)]
 unfold mn mx clipN
 repeat' split
 all_goals omega
theorem into_ev (v : ByteArray) (hv : v.size ≤ 100000) (n : Int) : Ev (fun k => line_into.f k v n) ((lineFrom v (clipN v n) : Int), (lineTo v (clipN v n) : Int)) := by
 unfold line_into.f
 rw [count_ev v hv]
 refine Ev.bind (Ev.now _) ?_
 rw [clip_eq v hv n]
 exact Ev.bind (bounds_ev v hv _ (clipN_lt v n)) (Ev.now _)
def wholeS (v : ByteArray) (a b : Int) : Int × Int × Int :=
 if a < 0 ∨ b < a ∨ ((ends v).length : Int) ≤ b then (0, 0, 2)
 else if lineTo v b.toNat < v.size then ((lineFrom v a.toNat : Int), (lineTo v b.toNat : Int) + 1, 0)
 else if 0 < a then ((lineFrom v a.toNat : Int) - 1, (v.size : Int), 0) else (0, (v.size : Int), 0)
theorem line_end (v : ByteArray) (n : Nat) (h : n < (ends v).length) : (n + 1 < (ends v).length ↔ lineTo v n < v.size) ∧ (¬ n + 1 < (ends v).length → lineTo v n = v.size) := by
 rcases line_last v n h with ⟨_, h2, h3⟩ | ⟨o, _, h2, h3, h4, h5⟩ <;> omega
theorem whole_ev (v : ByteArray) (hv : v.size ≤ 100000) (a b : Int) : Ev (fun k => line_Whole.f k v a b) (wholeS v a b) := by
 unfold line_Whole.f wholeS
 have bad : Ev (fun k => line_Whole.j0 k v a b true) (0, 0, 2) := by
  refine Ev.step (fun k => by simp only [line_Whole.j0]; rfl) ?_
  exact Ev.pos (by first | trivial | rfl) (Ev.now _)
 by_cases h1 : a < 0
 ·rw [if_pos (.inl h1)]
  exact Ev.pos h1 bad
 refine Ev.neg h1 ?_
 by_cases h2 : b < a
 ·rw [if_pos (.inr (.inl h2))]
  exact Ev.pos h2 bad
 refine Ev.neg h2 ?_
 rw [count_ev v hv]
 refine Ev.bind (Ev.now _) ?_
 by_cases h3 : ((ends v).length : Int) ≤ b
 ·rw [if_pos (.inr (.inr h3)), decide_eq_true (show b ≥ ((ends v).length : Int) from h3)]
  exact bad
 rw [if_neg (by omega), decide_eq_false (by omega)]
 have ca : clipN v a = a.toNat := by unfold clipN; omega
 have cb : clipN v b = b.toNat := by unfold clipN; omega
 refine Ev.step (fun k => by simp only [line_Whole.j0]; rfl) (Ev.neg (by decide) (Ev.bind (into_ev v hv a) (Ev.bind (into_ev v hv b) ?_)))
 rw [ca, cb]
 have hr := line_range v b.toNat (by omega)
 have hra := line_range v a.toNat (by omega)
 by_cases h4 : lineTo v b.toNat < v.size
 ·rw [if_pos h4]
  refine Ev.pos (by show (lineTo v b.toNat : Int) < _; omega) (ev_val (Ev.now _) ?_)
  show ((lineFrom v a.toNat : Int), wrap64 ((lineTo v b.toNat : Int) + 1), (0 : Int)) = _
  rw [wnat (n := lineTo v b.toNat + 1) (by omega) (by omega)]
  rfl
 ·rw [if_neg h4]
  refine Ev.neg (by show ¬ (lineTo v b.toNat : Int) < _; omega) ?_
  by_cases h5 : 0 < a
  ·refine Ev.pos h5 (ev_val (Ev.now _) ?_)
   rw [if_pos h5]
   show (wrap64 ((lineFrom v a.toNat : Int) - 1), (lineTo v b.toNat : Int), (0 : Int)) = _
   have : 1 ≤ lineFrom v a.toNat := by unfold lineFrom; rw [if_neg (by omega)]; omega
   rw [wnat (n := lineFrom v a.toNat - 1) (by omega) (by omega)]
   congr 1
   ·omega
   ·congr 1
    omega
  ·refine Ev.neg (by omega) (ev_val (Ev.now _) ?_)
   rw [if_neg h5]
end Go.Proofs.YtjkfkiebhgkolaaGreatDoor.PB
end

section
namespace Go.Proofs.YtjkfkiebhgkolaaGreatDoor.PB
open Go.RowKit Go.Proofs.YtjkfkiebhgkolaaGreatDoorW.PrintWords Go.Proofs.YtjkfkiebhgkolaaGreatDoorW.PrintLast Go.Proofs.YtjkfkiebhgkolaaGreatDoorW.PrintMore
attribute [local go_sem] max2_int min2_int max_two min_two max_three min_three max_four min_four   
set_option linter.unusedVariables false
set_option linter.unusedSimpArgs false
mutual
def glyph_Class.j0 : Nat → Int → Bool → Option (Int)
 | 0, _, _ => none
 | k + 1, x0, x3 => if x3 = true then (some 0) else (if x0 = 10 then (some 3) else (if x0 ≥ 48 then (glyph_Class.j1 k x0 (decide (x0 ≤ 57))) else (glyph_Class.j1 k x0 false)))
def glyph_Class.j1 : Nat → Int → Bool → Option (Int)
 | 0, _, _ => none
 | k + 1, x0, x13 => if x13 = true then (glyph_Class.j3 k x0 x13) else (if x0 ≥ 97 then (glyph_Class.j2 k x0 (decide (x0 ≤ 122))) else (glyph_Class.j2 k x0 false))
def glyph_Class.j3 : Nat → Int → Bool → Option (Int)
 | 0, _, _ => none
 | k + 1, x0, x13 => if x13 = true then (some 1) else (if x0 ≥ 128 then (if x0 ≤ 1114111 then (if x0 = 65533 then (some 2) else (some 1)) else (some 2)) else (some 2))
def glyph_Class.j2 : Nat → Int → Bool → Option (Int)
 | 0, _, _ => none
 | k + 1, x0, x13 => if x13 = true then (glyph_Class.j3 k x0 x13) else (if x0 ≥ 65 then (if x0 ≤ 90 then (glyph_Class.j3 k x0 (decide (x0 ≤ 90))) else (glyph_Class.j3 k x0 (x0 == 95))) else (glyph_Class.j3 k x0 (x0 == 95)))
end
def glyph_Class.f (k : Nat) (a0 : Int) : Option (Int) := if a0 = 32 then (glyph_Class.j0 k a0 true) else (glyph_Class.j0 k a0 (a0 == 9))
set_option maxHeartbeats 8000000 in
set_option maxRecDepth 100000 in
theorem glyph_Class.calls (k : Nat) (a0 : Int) (r : Int) (w : World) (h : glyph_Class.f k a0 = some r) :
  Calls Tryz.prog 127 #[.int .i32 a0] w fun e w' => e = .returned (.int .i64 r) ∧ Drawn0 w w' := by
 have H : (if a0 = 32 then (glyph_Class.j0 k a0 true) else (glyph_Class.j0 k a0 (a0 == 9))) = some r := h
 clear h
 have HC2 := aM H
 clear H
 go_enter Tryz.func127, Tryz.ntmps127
 go_upto_region 1 with (fail)
 go_cut [3] (fun v3 wc => ∃ (kq : Nat) (x3_1 : Bool), v3 = .bool x3_1 ∧ Aside0 (glyph_Class.j0 kq a0 x3_1 = some r) ∧ Aside0 (kq ≤ k) ∧ Drawn0 w wc)
 case first =>
  have H := HC2.out
  clear HC2
  by_cases c3 : a0 = 32
  ·rw [if_pos c3] at H
   have c3b0 : (a0 == 32) = true := beq_iff_eq.mpr c3
   have c3b1 : (a0 != 32) = false := bne_eq_false_iff_eq.mpr c3
   clear c3
   (first | rw [c3b0] | (simp only [i64_w, i32_w]; rw [c3b0]) | skip)
   have H' := aM H
   clear H
   go_wp2
   go_meet
   case rel => exact ⟨_, (true), (by first | rfl | (simp; done) | (simp [*]; done)), H', ⟨by first | omega | exact Nat.le_refl _⟩, by repeat (first | exact Drawn0.refl _ | apply Drawn0.step)⟩
  ·rw [if_neg c3] at H
   have c3b0 : (a0 == 32) = false := beq_eq_false_iff_ne.mpr c3
   have c3b1 : (a0 != 32) = true := bne_iff_ne.mpr c3
   (first | rw [c3b0] | (simp only [i64_w, i32_w]; rw [c3b0]) | skip)
   have H' := aM H
   clear H
   go_wp2
   go_meet
   case rel => exact ⟨_, ((a0 == 9)), (by first | rfl | (simp; done) | (simp [*]; done)), H', ⟨by first | omega | exact Nat.le_refl _⟩, by repeat (first | exact Drawn0.refl _ | apply Drawn0.step)⟩
 case rest =>
  clear HC2
  try clear c1
  try clear p2
  try clear c3
  try clear c3b0
  try clear c3b1
  obtain ⟨kq, x3_1, rfl, HA, HJ1, ⟨mc1, rfl⟩⟩ := hcut
  cases kq with
  | zero => exact absurd HA.out (by simp [glyph_Class.j0])
  | succ kj1 =>
   have H := HA.out
   clear HA
   simp only [glyph_Class.j0] at H
   by_cases c4 : x3_1 = true
   ·subst c4
    rw [if_pos rfl] at H
    obtain rfl := Option.some.inj H
    go_wp2
    go_ret
    exact ⟨by first | rfl | (simp; done) | (simp [*]; done), by repeat (first | exact Drawn0.refl _ | apply Drawn0.step)⟩
   ·replace c4 := Bool.eq_false_iff.mpr c4
    subst c4
    rw [if_neg (show ¬ (false = true) by decide)] at H
    by_cases c5 : a0 = 10
    ·rw [if_pos c5] at H
     have c5b0 : (a0 == 10) = true := beq_iff_eq.mpr c5
     have c5b1 : (a0 != 10) = false := bne_eq_false_iff_eq.mpr c5
     clear c5
     obtain rfl := Option.some.inj H
     go_wp2
     go_ret
     exact ⟨by first | rfl | (simp; done) | (simp [*]; done), by repeat (first | exact Drawn0.refl _ | apply Drawn0.step)⟩
    ·rw [if_neg c5] at H
     have c5b0 : (a0 == 10) = false := beq_eq_false_iff_ne.mpr c5
     have c5b1 : (a0 != 10) = true := bne_iff_ne.mpr c5
     have HC6 := aM H
     clear H
     go_upto_region 5 with (fail)
     go_cut [13] (fun v13 wc => ∃ (kq : Nat) (x13_5 : Bool), v13 = .bool x13_5 ∧ Aside0 (glyph_Class.j1 kq a0 x13_5 = some r) ∧ Aside0 (kq ≤ kj1) ∧ Drawn0 w wc)
     case first =>
      have H := HC6.out
      clear HC6
      by_cases c7 : a0 ≥ 48
      ·rw [if_pos c7] at H
       have c7b0 : decide (48 ≤ a0) = true := decide_eq_true c7
       clear c7
       (first | rw [c7b0] | (simp only [i64_w, i32_w]; rw [c7b0]) | skip)
       have H' := aM H
       clear H
       go_wp2
       go_meet
       case rel => exact ⟨_, (decide (a0 ≤ 57)), (by first | rfl | (simp; done) | (simp [*]; done)), H', ⟨by have := HJ1.out; first | omega | exact Nat.le_refl _⟩, by repeat (first | exact Drawn0.refl _ | apply Drawn0.step)⟩
      ·rw [if_neg c7] at H
       have c7b0 : decide (48 ≤ a0) = false := decide_eq_false c7
       clear c7
       (first | rw [c7b0] | (simp only [i64_w, i32_w]; rw [c7b0]) | skip)
       have H' := aM H
       clear H
       go_wp2
       go_meet
       case rel => exact ⟨_, (false), (by first | rfl | (simp; done) | (simp [*]; done)), H', ⟨by have := HJ1.out; first | omega | exact Nat.le_refl _⟩, by repeat (first | exact Drawn0.refl _ | apply Drawn0.step)⟩
     case rest =>
      clear HC6
      try clear c1
      try clear p2
      try clear c3
      try clear c3b0
      try clear c3b1
      try clear c4
      try clear c5
      try clear c5b0
      try clear c5b1
      try clear c7
      try clear c7b0
      try clear p2
      obtain ⟨kq, x13_5, rfl, HA, HJ5, ⟨mc5, rfl⟩⟩ := hcut
      cases kq with
      | zero => exact absurd HA.out (by simp [glyph_Class.j1])
      | succ kj5 =>
       have H := HA.out
       clear HA
       simp only [glyph_Class.j1] at H
       have HC8 := aM H
       clear H
       go_upto_if 13 with (fail)
       go_cut [13] (fun v13 wc => ∃ (kq : Nat) (x13_7 : Bool), v13 = .bool x13_7 ∧ Aside0 (glyph_Class.j3 kq a0 x13_7 = some r) ∧ Aside0 (kq ≤ kj5) ∧ Drawn0 w wc)
       case first =>
        have H := HC8.out
        clear HC8
        by_cases c9 : x13_5 = true
        ·subst c9
         rw [if_pos rfl] at H
         have H' := aM H
         clear H
         go_wp2
         go_meet
         case rel => exact ⟨_, (true), (by first | rfl | (simp; done) | (simp [*]; done)), H', ⟨by have := HJ1.out; have := HJ5.out; first | omega | exact Nat.le_refl _⟩, by repeat (first | exact Drawn0.refl _ | apply Drawn0.step)⟩
        ·replace c9 := Bool.eq_false_iff.mpr c9
         subst c9
         rw [if_neg (show ¬ (false = true) by decide)] at H
         have HC10 := aM H
         clear H
         go_upto_region 6 with (fail)
         go_cut [13] (fun v13 wc => ∃ (kq : Nat) (x13_9 : Bool), v13 = .bool x13_9 ∧ Aside0 (glyph_Class.j2 kq a0 x13_9 = some r) ∧ Aside0 (kq ≤ kj5) ∧ Drawn0 w wc)
         case first =>
          have H := HC10.out
          clear HC10
          by_cases c11 : a0 ≥ 97
          ·rw [if_pos c11] at H
           have c11b0 : decide (97 ≤ a0) = true := decide_eq_true c11
           clear c11
           (first | rw [c11b0] | (simp only [i64_w, i32_w]; rw [c11b0]) | skip)
           have H' := aM H
           clear H
           go_wp2
           go_meet
           case rel => exact ⟨_, (decide (a0 ≤ 122)), (by first | rfl | (simp; done) | (simp [*]; done)), H', ⟨by have := HJ1.out; have := HJ5.out; first | omega | exact Nat.le_refl _⟩, by repeat (first | exact Drawn0.refl _ | apply Drawn0.step)⟩
          ·rw [if_neg c11] at H
           have c11b0 : decide (97 ≤ a0) = false := decide_eq_false c11
           clear c11
           (first | rw [c11b0] | (simp only [i64_w, i32_w]; rw [c11b0]) | skip)
           have H' := aM H
           clear H
           go_wp2
           go_meet
           case rel => exact ⟨_, (false), (by first | rfl | (simp; done) | (simp [*]; done)), H', ⟨by have := HJ1.out; have := HJ5.out; first | omega | exact Nat.le_refl _⟩, by repeat (first | exact Drawn0.refl _ | apply Drawn0.step)⟩
         case rest =>
          clear HC10
          try clear c1
          try clear p2
          try clear c3
          try clear c3b0
          try clear c3b1
          try clear c4
          try clear c5
          try clear c5b0
          try clear c5b1
          try clear c7
          try clear c7b0
          try clear c9
          try clear c11
          try clear c11b0
          try clear p2
          obtain ⟨kq, x13_9, rfl, HA, HJ9, ⟨mc9, rfl⟩⟩ := hcut
          cases kq with
          | zero => exact absurd HA.out (by simp [glyph_Class.j2])
          | succ kj9 =>
           have H := HA.out
           clear HA
           simp only [glyph_Class.j2] at H
           by_cases c12 : x13_9 = true
           ·subst c12
            rw [if_pos rfl] at H
            have H' := aM H
            clear H
            go_wp2
            go_meet
            case rel => exact ⟨_, (true), (by first | rfl | (simp; done) | (simp [*]; done)), H', ⟨by have := HJ1.out; have := HJ5.out; have := HJ9.out; first | omega | exact Nat.le_refl _⟩, by repeat (first | exact Drawn0.refl _ | apply Drawn0.step)⟩
           ·replace c12 := Bool.eq_false_iff.mpr c12
            subst c12
            rw [if_neg (show ¬ (false = true) by decide)] at H
            by_cases c13 : a0 ≥ 65
            ·rw [if_pos c13] at H
             have c13b0 : decide (65 ≤ a0) = true := decide_eq_true c13
             clear c13
             by_cases c14 : a0 ≤ 90
             ·rw [if_pos c14] at H
              have c14b0 : decide (a0 ≤ 90) = true := decide_eq_true c14
              clear c14
              have H' := aM H
              clear H
              go_wp2
              go_meet
              case rel => exact ⟨_, (decide (a0 ≤ 90)), (by first | rfl | (simp; done) | (simp [*]; done)), H', ⟨by have := HJ1.out; have := HJ5.out; have := HJ9.out; first | omega | exact Nat.le_refl _⟩, by repeat (first | exact Drawn0.refl _ | apply Drawn0.step)⟩
             ·rw [if_neg c14] at H
              have c14b0 : decide (a0 ≤ 90) = false := decide_eq_false c14
              clear c14
              have H' := aM H
              clear H
              go_wp2
              go_meet
              case rel => exact ⟨_, ((a0 == 95)), (by first | rfl | (simp; done) | (simp [*]; done)), H', ⟨by have := HJ1.out; have := HJ5.out; have := HJ9.out; first | omega | exact Nat.le_refl _⟩, by repeat (first | exact Drawn0.refl _ | apply Drawn0.step)⟩
            ·rw [if_neg c13] at H
             have c13b0 : decide (65 ≤ a0) = false := decide_eq_false c13
             clear c13
             have H' := aM H
             clear H
             go_wp2
             go_meet
             case rel => exact ⟨_, ((a0 == 95)), (by first | rfl | (simp; done) | (simp [*]; done)), H', ⟨by have := HJ1.out; have := HJ5.out; have := HJ9.out; first | omega | exact Nat.le_refl _⟩, by repeat (first | exact Drawn0.refl _ | apply Drawn0.step)⟩
       case rest =>
        clear HC8
        try clear c1
        try clear p2
        try clear c3
        try clear c3b0
        try clear c3b1
        try clear c4
        try clear c5
        try clear c5b0
        try clear c5b1
        try clear c7
        try clear c7b0
        try clear c9
        try clear c11
        try clear c11b0
        try clear c12
        try clear c13
        try clear c13b0
        try clear c14
        try clear c14b0
        try clear p2
        obtain ⟨kq, x13_7, rfl, HA, HJ7, ⟨mc7, rfl⟩⟩ := hcut
        cases kq with
        | zero => exact absurd HA.out (by simp [glyph_Class.j3])
        | succ kj7 =>
         have H := HA.out
         clear HA
         simp only [glyph_Class.j3] at H
         by_cases c15 : x13_7 = true
         ·subst c15
          rw [if_pos rfl] at H
          obtain rfl := Option.some.inj H
          go_wp2
          go_ret
          exact ⟨by first | rfl | (simp; done) | (simp [*]; done), by repeat (first | exact Drawn0.refl _ | apply Drawn0.step)⟩
         ·replace c15 := Bool.eq_false_iff.mpr c15
          subst c15
          rw [if_neg (show ¬ (false = true) by decide)] at H
          by_cases c16 : a0 ≥ 128
          ·rw [if_pos c16] at H
           have c16b0 : decide (128 ≤ a0) = true := decide_eq_true c16
           clear c16
           by_cases c17 : a0 ≤ 1114111
           ·rw [if_pos c17] at H
            have c17b0 : decide (a0 ≤ 1114111) = true := decide_eq_true c17
            clear c17
            by_cases c18 : a0 = 65533
            ·rw [if_pos c18] at H
             have c18b0 : (a0 == 65533) = true := beq_iff_eq.mpr c18
             have c18b1 : (a0 != 65533) = false := bne_eq_false_iff_eq.mpr c18
             clear c18
             obtain rfl := Option.some.inj H
             go_wp2
             go_ret
             exact ⟨by first | rfl | (simp; done) | (simp [*]; done), by repeat (first | exact Drawn0.refl _ | apply Drawn0.step)⟩
            ·rw [if_neg c18] at H
             have c18b0 : (a0 == 65533) = false := beq_eq_false_iff_ne.mpr c18
             have c18b1 : (a0 != 65533) = true := bne_iff_ne.mpr c18
             obtain rfl := Option.some.inj H
             go_wp2
             go_ret
             exact ⟨by first | rfl | (simp; done) | (simp [*]; done), by repeat (first | exact Drawn0.refl _ | apply Drawn0.step)⟩
           ·rw [if_neg c17] at H
            have c17b0 : decide (a0 ≤ 1114111) = false := decide_eq_false c17
            clear c17
            obtain rfl := Option.some.inj H
            go_wp2
            go_ret
            exact ⟨by first | rfl | (simp; done) | (simp [*]; done), by repeat (first | exact Drawn0.refl _ | apply Drawn0.step)⟩
          ·rw [if_neg c16] at H
           have c16b0 : decide (128 ≤ a0) = false := decide_eq_false c16
           clear c16
           obtain rfl := Option.some.inj H
           go_wp2
           go_ret
           exact ⟨by first | rfl | (simp; done) | (simp [*]; done), by repeat (first | exact Drawn0.refl _ | apply Drawn0.step)⟩
end Go.Proofs.YtjkfkiebhgkolaaGreatDoor.PB
end

section
namespace Go.Proofs.YtjkfkiebhgkolaaGreatDoor.PB
open Go.RowKit Go.Proofs.YtjkfkiebhgkolaaGreatDoorW.PrintWords
set_option linter.unusedVariables false
set_option linter.unusedSimpArgs false
def classS (r : Int) : Int :=
 if r = 32 ∨ r = 9 then 0 else if r = 10 then 3
 else if (48 ≤ r ∧ r ≤ 57) ∨ (97 ≤ r ∧ r ≤ 122) ∨ (65 ≤ r ∧ r ≤ 90) ∨ r = 95 then 1
 else if 128 ≤ r ∧ r ≤ 1114111 ∧ r ≠ 65533 then 1 else 2
def walkL (v : ByteArray) (te : Nat) : Nat → Nat → List Nat
 | 0, _ => []
 | f + 1, p => if p < te then p :: walkL v te f (p + sgW v p) else []
theorem byte_at (v : ByteArray) (i : Nat) (hi : i < v.size) : ∀ c : UInt8, v.data.toList[i]? = some c → bN v i = c.toNat := fun c hc => by
 have h := bt_list v i hi
 rw [bt_bN, List.getD_eq_getElem?_getD, hc] at h
 simp only [Option.getD_some] at h
 exact_mod_cast h
theorem end_byte (v : ByteArray) (n : Nat) (h : n < (ends v).length) (hl : lineTo v n < v.size) : bN v (lineTo v n) = 10 := by
 rcases line_last v n h with ⟨_, h2, h3⟩ | ⟨o, h1, h2, h3, h4, h5⟩
 ·omega
 ·rcases ib_cases (v.data.toList.drop (lineFrom v n)) with ⟨hi, _⟩ | ⟨o', hi, ho, ha, hb⟩
  ·rw [hi] at h1; omega
  ·have : o' = o := by rw [hi] at h1; omega
   subst this
   rw [List.getElem?_drop] at ha
   rw [h2]
   exact byte_at v _ (by omega) 10 ha
theorem reach_to (v : ByteArray) (n : Nat) (h : n < (ends v).length) (hl : lineTo v n < v.size) : Reach v (lineTo v n) := reach_lead hl (by rw [end_byte v n h hl]; decide)
theorem reach_from (v : ByteArray) (n : Nat) (h : n < (ends v).length) : Reach v (lineFrom v n) := by
 cases n with
 | zero => exact .zero
 | succ n =>
  have hl : lineTo v n < v.size := (line_end v n (by omega)).1.1 h
  rw [line_next v n h]
  have hr := reach_to v n (by omega) hl
  have hw : sgW v (lineTo v n) = 1 := by
   have hb := end_byte v n (by omega) hl
   unfold sgW
   rw [sg_at, hb]
   rfl
  have := hr.step hl
  rwa [hw] at this
def lineSg (v : ByteArray) (n : Nat) : List Nat := walkL v (lineTo v n) v.size (lineFrom v n)
theorem gclass_ev (r : Int) : Ev (fun k => glyph_Class.f k r) (classS r) := by
 unfold glyph_Class.f
 have j3t : Ev (fun k => glyph_Class.j3 k r true) 1 := by
  refine Ev.step (fun k => by simp only [glyph_Class.j3]; rfl) ?_
  exact Ev.pos (by first | trivial | rfl) (Ev.now _)
 have j3f : ∀ b : Bool, b = false → Ev (fun k => glyph_Class.j3 k r b) (if 128 ≤ r ∧ r ≤ 1114111 ∧ r ≠ 65533 then 1 else 2) := fun b hb => by
  subst hb
  refine Ev.step (fun k => by simp only [glyph_Class.j3]; rfl) (Ev.neg (by decide) ?_)
  by_cases h1 : r ≥ 128
  ·refine Ev.pos h1 ?_
   by_cases h2 : r ≤ 1114111
   ·refine Ev.pos h2 ?_
    by_cases h3 : r = 65533
    ·exact Ev.pos h3 (ev_val (Ev.now _) (if_neg (fun h => h.2.2 h3)).symm)
    ·exact Ev.neg h3 (ev_val (Ev.now _) (if_pos ⟨h1, h2, h3⟩).symm)
   ·exact Ev.neg h2 (ev_val (Ev.now _) (if_neg (fun h => h2 h.2.1)).symm)
  ·exact Ev.neg h1 (ev_val (Ev.now _) (if_neg (fun h => h1 h.1)).symm)
 have j3 : ∀ b : Bool, b = decide ((48 ≤ r ∧ r ≤ 57) ∨ (97 ≤ r ∧ r ≤ 122) ∨ (65 ≤ r ∧ r ≤ 90) ∨ r = 95) → ¬ (r = 32 ∨ r = 9) → r ≠ 10 → Ev (fun k => glyph_Class.j3 k r b) (classS r) := fun b hb h1 h2 => by
  unfold classS
  rw [if_neg h1, if_neg h2]
  by_cases h : (48 ≤ r ∧ r ≤ 57) ∨ (97 ≤ r ∧ r ≤ 122) ∨ (65 ≤ r ∧ r ≤ 90) ∨ r = 95
  ·rw [decide_eq_true h] at hb
   subst hb
   rw [if_pos h]
   exact j3t
  ·rw [decide_eq_false h] at hb
   rw [if_neg h]
   exact j3f b hb
 have j2 : ∀ b : Bool, b = decide ((48 ≤ r ∧ r ≤ 57) ∨ (97 ≤ r ∧ r ≤ 122)) → ¬ (r = 32 ∨ r = 9) → r ≠ 10 → Ev (fun k => glyph_Class.j2 k r b) (classS r) := fun b hb h1 h2 => by
  refine Ev.step (fun k => by simp only [glyph_Class.j2]; rfl) ?_
  by_cases h : (48 ≤ r ∧ r ≤ 57) ∨ (97 ≤ r ∧ r ≤ 122)
  ·rw [decide_eq_true h] at hb
   subst hb
   exact Ev.pos (by first | trivial | rfl) (j3 true (decide_eq_true (by omega)).symm h1 h2)
  ·rw [decide_eq_false h] at hb
   subst hb
   refine Ev.neg (by decide) ?_
   have l95 : ¬ (65 ≤ r ∧ r ≤ 90) → (r == 95) = decide ((48 ≤ r ∧ r ≤ 57) ∨ (97 ≤ r ∧ r ≤ 122) ∨ (65 ≤ r ∧ r ≤ 90) ∨ r = 95) := fun h3 => by
    rw [Bool.eq_iff_iff]
    simp only [beq_iff_eq, decide_eq_true_eq]
    omega
   by_cases c1 : r ≥ 65
   ·refine Ev.pos c1 ?_
    by_cases c2 : r ≤ 90
    ·refine Ev.pos c2 (j3 _ ?_ h1 h2)
     rw [decide_eq_true c2, decide_eq_true (by omega)]
    ·exact Ev.neg c2 (j3 _ (l95 (by omega)) h1 h2)
   ·exact Ev.neg c1 (j3 _ (l95 (by omega)) h1 h2)
 have j1 : ∀ b : Bool, b = decide (48 ≤ r ∧ r ≤ 57) → ¬ (r = 32 ∨ r = 9) → r ≠ 10 → Ev (fun k => glyph_Class.j1 k r b) (classS r) := fun b hb h1 h2 => by
  refine Ev.step (fun k => by simp only [glyph_Class.j1]; rfl) ?_
  by_cases h : 48 ≤ r ∧ r ≤ 57
  ·rw [decide_eq_true h] at hb
   subst hb
   exact Ev.pos (by first | trivial | rfl) (j3 true (decide_eq_true (by omega)).symm h1 h2)
  ·rw [decide_eq_false h] at hb
   subst hb
   refine Ev.neg (by decide) ?_
   by_cases c1 : r ≥ 97
   ·refine Ev.pos c1 (j2 _ ?_ h1 h2)
    rw [Bool.eq_iff_iff]
    simp only [decide_eq_true_eq]
    omega
   ·exact Ev.neg c1 (j2 false (decide_eq_false (by omega)).symm h1 h2)
 have j0 : ∀ b : Bool, b = decide (r = 32 ∨ r = 9) → Ev (fun k => glyph_Class.j0 k r b) (classS r) := fun b hb => by
  refine Ev.step (fun k => by simp only [glyph_Class.j0]; rfl) ?_
  by_cases h1 : r = 32 ∨ r = 9
  ·rw [decide_eq_true h1] at hb
   subst hb
   refine Ev.pos (by first | trivial | rfl) (ev_val (Ev.now _) ?_)
   unfold classS
   rw [if_pos h1]
  ·rw [decide_eq_false h1] at hb
   subst hb
   refine Ev.neg (by decide) ?_
   by_cases h2 : r = 10
   ·refine Ev.pos h2 (ev_val (Ev.now _) ?_)
    unfold classS
    rw [if_neg h1, if_pos h2]
   refine Ev.neg h2 ?_
   by_cases c1 : r ≥ 48
   ·refine Ev.pos c1 (j1 _ ?_ h1 h2)
    rw [Bool.eq_iff_iff]
    simp only [decide_eq_true_eq]
    omega
   ·exact Ev.neg c1 (j1 false (decide_eq_false (by omega)).symm h1 h2)
 by_cases h1 : r = 32
 ·exact Ev.pos h1 (j0 true (decide_eq_true (.inl h1)).symm)
 ·refine Ev.neg h1 (j0 _ ?_)
  rw [Bool.eq_iff_iff]
  simp only [beq_iff_eq, decide_eq_true_eq]
  omega
def lastIn (v : ByteArray) (n : Nat) : Nat := if lineFrom v n = lineTo v n then lineFrom v n else alignN v (lineTo v n - 1)
def nonBlank (v : ByteArray) (p : Nat) : Bool := decide (classS (sgR v p : Int) ≠ 0)
def firstIn (v : ByteArray) (n : Nat) : Nat := ((lineSg v n).find? (nonBlank v)).getD (lastIn v n)
def firstS (v : ByteArray) (n : Int) : Nat := firstIn v (clipN v n)
theorem sub_dec (v : ByteArray) (fr te q : Nat) (hte : te ≤ v.size) (hend : te = v.size ∨ bN v te = 10) (hq : fr + q < te) : Utf8.decode (v.extract fr te) q = Utf8.decode v (fr + q) := by
 have hsz : (v.extract fr te).size = te - fr := by rw [ByteArray.size_extract]; omega
 have hin : ∀ j, fr + j < te → bN (v.extract fr te) j = bN v (fr + j) := fun j hj => by
  have h3 := bt_ext v fr (te - fr) j (by omega) (by omega)
  rw [show fr + (te - fr) = te by omega, bt_bN] at h3
  exact_mod_cast h3
 rw [sg_at, sg_at, hsz, hin q hq]
 have h1 : 1 < te - fr - q → bN (v.extract fr te) (q + 1) = bN v (fr + q + 1) := fun h => by rw [hin (q + 1) (by omega)]; rfl
 have h2 : 2 < te - fr - q → bN (v.extract fr te) (q + 2) = bN v (fr + q + 2) := fun h => by rw [hin (q + 2) (by omega)]; rfl
 have h3 : 3 < te - fr - q → bN (v.extract fr te) (q + 3) = bN v (fr + q + 3) := fun h => by rw [hin (q + 3) (by omega)]; rfl
 have e1 : 1 < v.size - (fr + q) → ¬ 1 < te - fr - q → bN v (fr + q + 1) = 10 := fun h h' => by
  rcases hend with h0 | h0
  ·omega
  ·rw [show fr + q + 1 = te by omega]; exact h0
 have e2 : 2 < v.size - (fr + q) → 1 < te - fr - q → ¬ 2 < te - fr - q → bN v (fr + q + 2) = 10 := fun h h' h'' => by
  rcases hend with h0 | h0
  ·omega
  ·rw [show fr + q + 2 = te by omega]; exact h0
 have e3 : 3 < v.size - (fr + q) → 2 < te - fr - q → ¬ 3 < te - fr - q → bN v (fr + q + 3) = 10 := fun h h' h'' => by
  rcases hend with h0 | h0
  ·omega
  ·rw [show fr + q + 3 = te by omega]; exact h0
 have hn : te - fr - q ≤ v.size - (fr + q) := by omega
 generalize bN v (fr + q) = b0
 generalize bN (v.extract fr te) (q + 1) = c1 at *
 generalize bN (v.extract fr te) (q + 2) = c2 at *
 generalize bN (v.extract fr te) (q + 3) = c3 at *
 generalize bN v (fr + q + 1) = b1 at *
 generalize bN v (fr + q + 2) = b2 at *
 generalize bN v (fr + q + 3) = b3 at *
 generalize te - fr - q = m at *
 generalize v.size - (fr + q) = n at *
 clear hin hsz hend hq hte
 have k1 : (1 < m ∧ c1 / 64 = 2) ↔ (1 < n ∧ b1 / 64 = 2) := by
  by_cases h : 1 < m
  ·have := h1 h; subst this; constructor <;> rintro ⟨_, _⟩ <;> exact ⟨by omega, by assumption⟩
  ·constructor
   ·rintro ⟨_, _⟩; omega
   ·rintro ⟨h5, h6⟩; have := e1 h5 h; omega
 have k2 : (1 < m ∧ c1 / 64 = 2) → ((2 < m ∧ c2 / 64 = 2) ↔ (2 < n ∧ b2 / 64 = 2)) := fun hk => by
  by_cases h : 2 < m
  ·have := h2 h; subst this; constructor <;> rintro ⟨_, _⟩ <;> exact ⟨by omega, by assumption⟩
  ·constructor
   ·rintro ⟨_, _⟩; omega
   ·rintro ⟨h5, h6⟩; have := e2 h5 hk.1 h; omega
 have k3 : (2 < m ∧ c2 / 64 = 2) → ((3 < m ∧ c3 / 64 = 2) ↔ (3 < n ∧ b3 / 64 = 2)) := fun hk => by
  by_cases h : 3 < m
  ·have := h3 h; subst this; constructor <;> rintro ⟨_, _⟩ <;> exact ⟨by omega, by assumption⟩
  ·constructor
   ·rintro ⟨_, _⟩; omega
   ·rintro ⟨h5, h6⟩; have := e3 h5 hk.1 h; omega
 unfold Lib.decodeN
 by_cases q1 : 1 < m ∧ c1 / 64 = 2
 ·have r1 := k1.1 q1
  have ec1 : c1 = b1 := h1 q1.1
  subst ec1
  by_cases q2 : 2 < m ∧ c2 / 64 = 2
  ·have r2 := (k2 q1).1 q2
   have ec2 : c2 = b2 := h2 q2.1
   subst ec2
   by_cases q3 : 3 < m ∧ c3 / 64 = 2
   ·have r3 := (k3 q2).1 q3
    have ec3 : c3 = b3 := h3 q3.1
    subst ec3
    simp only [q1, r1, q2, r2, q3, r3, and_self, and_true]
   ·have r3 : ¬ (3 < n ∧ b3 / 64 = 2) := fun h => q3 ((k3 q2).2 h)
    simp only [q3, r3, and_false, if_false]
    simp only [q1, r1, q2, r2, and_self, and_true]
  ·have r2 : ¬ (2 < n ∧ b2 / 64 = 2) := fun h => q2 ((k2 q1).2 h)
   have q2' : ∀ P : Prop, ¬ ((2 < m ∧ c2 / 64 = 2) ∧ P) := fun P h => q2 h.1
   have r2' : ∀ P : Prop, ¬ ((2 < n ∧ b2 / 64 = 2) ∧ P) := fun P h => r2 h.1
   simp only [q2, r2, and_false, false_and, if_false]
   simp only [q1, r1, and_self, and_true, true_and, and_false, if_false]
 ·have r1 : ¬ (1 < n ∧ b1 / 64 = 2) := fun h => q1 (k1.2 h)
  have q1' : ∀ P : Prop, ¬ ((1 < m ∧ c1 / 64 = 2) ∧ P) := fun P h => q1 h.1
  have r1' : ∀ P : Prop, ¬ ((1 < n ∧ b1 / 64 = 2) ∧ P) := fun P h => r1 h.1
  simp only [q1, r1, and_false, false_and, if_false]
end Go.Proofs.YtjkfkiebhgkolaaGreatDoor.PB
end

section
namespace Go.Proofs.YtjkfkiebhgkolaaGreatDoor.PB
open Go.RowKit Go.Proofs.YtjkfkiebhgkolaaGreatDoorW.PrintWords
set_option linter.unusedVariables false
def fitE (o : ByteArray) (ol : List S68) (n : ByteArray) (nl : List S68) : Prop := (o.size ≤ 5000 ∧ ol.length ≤ 5000) ∧ (n.size ≤ 5000 ∧ nl.length ≤ 5000)
instance (o : ByteArray) (ol : List S68) (n : ByteArray) (nl : List S68) : Decidable (fitE o ol n nl) := inferInstanceAs (Decidable (_ ∧ _))
end Go.Proofs.YtjkfkiebhgkolaaGreatDoor.PB
end
