/- The row of a law out of its contract and its pure theorem. No condition. -/
import Derived.OpenShut
import Derived.ChangeArms
import Derived.Deep.Slices
import Derived.SizedLaws
import Derived.Test.YtcbiilbmldinhaaDoorRows
import Derived.Test.YtcbiilbmldinhaaDoorTie
import Derived.Test.YtcbiilbmldinhaaDoorCards
import Derived.LaidMore
import Derived.Stop.Joined
import Derived.SevenTiedAt
import Derived.ProofKit
import Derived.OpenShut
import Derived.ShutString
import Derived.ChangeOld
import Derived.SizedLaws
import Derived.Carry
import Derived.Test.YtcbiilbmldinhaaDoorQAuditActs2
section
namespace Go.Proofs.YtcbiilbmldinhaaDoor.PB
open Go.RowKit Go.Proofs.YtcbiilbmldinhaaDoorW.PrintWords Go.Proofs.YtcbiilbmldinhaaDoorW.PrintLast Go.Proofs.YtcbiilbmldinhaaDoorW.PrintMore
attribute [local go_sem] max2_int min2_int max_two min_two max_three min_three max_four min_four   
set_option linter.unusedVariables false
set_option linter.unusedSimpArgs false
def bureauref18_Seen.l0 : Nat → Int → List (S38) → Int → List (S38) → List Int → Int → Option ((List (S38)))
 | 0, _, _, _, _, _, _ => none
 | k + 1, x1, x5, x6, x187000, x187001, x187002 => if x6 < (x187000.length : Int) then (if 0 ≤ x6 then ((bureauref01_Below.f ((rd_T38 x187000 x6).f0) x1).bind fun t188 => (if t188 = true then (if x5.length < 3518437208883 then (bureauref18_Seen.l0 k x1 (x5 ++ [(⟨(rd_T38 x187000 x6).f0, (rd_T38 x187000 x6).f1, (rd_T38 x187000 x6).f2, (rd_T38 x187000 x6).f3, (rd_T38 x187000 x6).f4⟩ : S38)]) (wrap64 (x6 + 1)) x187000 x187001 x187002) else (none)) else (bureauref18_Seen.l0 k x1 x5 (wrap64 (x6 + 1)) x187000 x187001 x187002))) else (none)) else (some x5)
def bureauref18_Seen.f (k : Nat) (l0_0 : List (S38)) (l0_1 : List Int) (a0_2 : Int) (a1 : Int) : Option ((List (S38))) := bureauref18_Seen.l0 k a1 ([] : List (S38)) 0 l0_0 l0_1 a0_2
set_option maxHeartbeats 8000000 in
set_option maxRecDepth 100000 in
theorem bureauref18_Seen.calls (k : Nat) (A0_0 : Option Addr) (c0_0 : Nat) (l0_0 : List (S38)) (A0_1 : Option Addr) (c0_1 : Nat) (l0_1 : List Int) (a0_2 : Int) (a1 : Int) (r : List (S38)) (w : World) (hr0_0 : Kd.C k38 w A0_0 l0_0.length l0_0) (hc0_0 : l0_0.length ≤ c0_0) (hr0_1 : Kd.C (Kd.int .u64) w A0_1 l0_1.length l0_1) (hc0_1 : l0_1.length ≤ c0_1) (h : bureauref18_Seen.f k l0_0 l0_1 a0_2 a1 = some r) :
  Calls Tryd.prog 20 #[.agg #[.slice A0_0 l0_0.length c0_0, .slice A0_1 l0_1.length c0_1, .int .i64 a0_2], .int .u64 a1] w fun e w' => ∃ v0_ : Value, e = .returned (v0_) ∧ Kd.R k38 38 w' w.heap.size (fun _ => True) v0_ r ∧ Below w.heap.size w w' := by
 have hu29 := Tryd.underlying29
 have hu38 := Tryd.underlying38
 have HR0_0 := aM hr0_0
 have HC0_0 := aM hc0_0
 clear hr0_0 hc0_0
 have HR0_1 := aM hr0_1
 have HC0_1 := aM hc0_1
 clear hr0_1 hc0_1
 have HB := aM (Below.refl w.heap.size w)
 have H : (bureauref18_Seen.l0 k a1 ([] : List (S38)) 0 l0_0 l0_1 a0_2) = some r := h
 clear h
 have H' := aM H
 clear H
 go_enter Tryd.func20, Tryd.ntmps20
 go_wp2_with (first | ((with_reducible refine gate_dst (N := 2) rfl ?_); refine box_event ?hg (N := 2) ?hd (cs := #[.slice A0_0 l0_0.length c0_0, .slice A0_1 l0_1.length c0_1, .int .i64 a0_2]) (t := 29) ?hr ?_; (case hd | hg => rfl); (case hr => first | (go_simp; done) | (go_simp; rfl)); intro gb186 hg w3 hbox hb; have n0_ := aM (bP (ey HB.out) hb); have n1_ := aM (hbox); have n2_ := aM ((by rw [hg]; exact (bZ (ey HB.out)) : w.heap.size ≤ gb186)); have n3_ := n2_; clear HB; have HB := n0_; have BK186 := n1_; have GW186 := n2_; have GE186 := n3_; clear n0_ n1_ n2_ n3_; clear hb hbox hg))
 go_loopg [5, 6] k (fun kq v5 v6 w' => ∃ (x5_1 : List (S38)) (x6_1 : Int), v6 = .int .i64 x6_1 ∧ Aside0 (bureauref18_Seen.l0 kq a1 x5_1 x6_1 l0_0 l0_1 a0_2 = some r) ∧ Aside0 (kq ≤ k) ∧ Aside0 (Kd.R k38 38 w' w.heap.size (fun _ => True) v5 x5_1) ∧ Aside0 (w'.heap[gb186]? = some (.cells #[(.slice A0_0 l0_0.length c0_0), (.slice A0_1 l0_1.length c0_1), .int .i64 a0_2] 29 (0, 0))) ∧ Aside0 (Below w.heap.size w w'))
 case atStart => exact ⟨(([] : List (S38))), (0), (by first | rfl | (simp; done) | (simp [*]; done)), H', ⟨Nat.le_refl _⟩, ⟨by first | exact Kd.R_nil _ _ _ _ _ | exact Kd.N_nil _ _ _ _ _ | exact Kd.V_nil _ _ _ _ _ | exact Kd.Q_nil _ _ _ _ _ | exact Kd.S_nil _ _ _ _ _⟩, ⟨by exact qy BK186.out⟩, ⟨by repeat (first | (with_reducible first | exact HB.out | apply ea | apply en | apply ed | refine es ?_ GE186.out) | exact HB.out)⟩⟩
 case round =>
  clear H'
  try clear c2
  try clear p2
  obtain ⟨x5_1, x6_1, rfl, HA, HK1, HO_5, BK186, HB⟩ := hrel
  cases gk with
  | zero => exact absurd HA.out (by simp [bureauref18_Seen.l0])
  | succ k1 =>
   have H := HA.out
   clear HA
   simp only [bureauref18_Seen.l0] at H
   by_cases c4 : x6_1 < (l0_0.length : Int)
   ·rw [if_pos c4] at H
    have c4b0 : decide (x6_1 < (l0_0.length : Int)) = true := decide_eq_true c4
    clear c4
    by_cases c5 : 0 ≤ x6_1
    ·rw [if_pos c5] at H
     have c5b0 : decide (0 ≤ x6_1) = true := decide_eq_true c5
     clear c5
     replace H := Option.bind_eq_some_iff.mp H
     obtain ⟨t188, A60, H⟩ := H
     replace H : (if t188 = true then (if x5_1.length < 3518437208883 then (bureauref18_Seen.l0 k1 a1 (x5_1 ++ [(⟨(rd_T38 l0_0 x6_1).f0, (rd_T38 l0_0 x6_1).f1, (rd_T38 l0_0 x6_1).f2, (rd_T38 l0_0 x6_1).f3, (rd_T38 l0_0 x6_1).f4⟩ : S38)]) (wrap64 (x6_1 + 1)) l0_0 l0_1 a0_2) else (none)) else (bureauref18_Seen.l0 k1 a1 x5_1 (wrap64 (x6_1 + 1)) l0_0 l0_1 a0_2)) = some r := H
     have A6 := aM A60
     clear A60
     by_cases c7 : t188 = true
     ·subst c7
      have H1 : (if x5_1.length < 3518437208883 then (bureauref18_Seen.l0 k1 a1 (x5_1 ++ [(⟨(rd_T38 l0_0 x6_1).f0, (rd_T38 l0_0 x6_1).f1, (rd_T38 l0_0 x6_1).f2, (rd_T38 l0_0 x6_1).f3, (rd_T38 l0_0 x6_1).f4⟩ : S38)]) (wrap64 (x6_1 + 1)) l0_0 l0_1 a0_2) else (none)) = some r := by rw [if_pos rfl] at H; exact H
      clear H
      have H := H1
      clear H1
      by_cases c8 : x5_1.length < 3518437208883
      ·rw [if_pos c8] at H
       have LMc8 := aM c8
       clear c8
       obtain ⟨y190, hy190⟩ : ∃ y_ : List (S38), y_ = (x5_1 ++ [(⟨(rd_T38 l0_0 x6_1).f0, (rd_T38 l0_0 x6_1).f1, (rd_T38 l0_0 x6_1).f2, (rd_T38 l0_0 x6_1).f3, (rd_T38 l0_0 x6_1).f4⟩ : S38)]) := ⟨_, rfl⟩
       replace H : (bureauref18_Seen.l0 k1 a1 y190 (wrap64 (x6_1 + 1)) l0_0 l0_1 a0_2) = some r := by first | (rw [hy190]; with_reducible exact H) | (have H2_ := (Option.bind_some _ _).symm.trans H; rw [hy190]; with_reducible exact H2_) | (have H2_ := (Option.bind_some _ _).symm.trans H; with_reducible exact H2_) | with_reducible exact H | (rw [hy190]; exact H) | exact H
       have Ny190 := aM hy190
       clear hy190
       have H' := aM H
       clear H
       have hcz9_0 := zC BK186.out 0 (.slice A0_0 l0_0.length c0_0)
       have hcz9_1 := zC BK186.out 1 (.slice A0_1 l0_1.length c0_1)
       have hcz9_2 := zC BK186.out 2 (.int .i64 a0_2)
       have hfz9_0 := bF BK186.out 0
       have hfz9_1 := bF BK186.out 1
       have hfz9_2 := bF BK186.out 2
       have p187 : 0 ≤ (x6_1 : Int) := of_decide_eq_true (by first | (with_reducible assumption) | assumption)
       have q187 : x6_1 < (l0_0.length : Int) := of_decide_eq_true (by first | (with_reducible assumption) | assumption)
       obtain ⟨ad187, e187, hx187_0, hx187_1, hx187_2, hx187_3, hx187_4⟩ := at_T38 HR0_0.out x6_1 p187 q187
       cases e187
       replace hx187_0 := (HB.out.cell (World.block_lt_of_cell? w _ hx187_0)).trans hx187_0
       replace hx187_1 := (HB.out.cell (World.block_lt_of_cell? w _ hx187_1)).trans hx187_1
       replace hx187_2 := (HB.out.cell (World.block_lt_of_cell? w _ hx187_2)).trans hx187_2
       replace hx187_3 := (HB.out.cell (World.block_lt_of_cell? w _ hx187_3)).trans hx187_3
       replace hx187_4 := (HB.out.cell (World.block_lt_of_cell? w _ hx187_4)).trans hx187_4
       replace p187 := eq_true p187
       replace q187 := eq_true q187
       go_wp2_with (first | ((with_reducible refine gate_callee (f := 25) rfl ?_); refine goesL_ (some 21) rfl rfl Tryd.func25 (by kernel_rfl) rfl #[.int .u64 ((rd_T38 l0_0 x6_1).f0), .int .u64 a1] rfl (by (try simp only [mT, mC, mN]); first | done | rfl | (simp only [lD, lT]; rfl)) ?_; (with_reducible refine (bureauref01_Below.calls ((rd_T38 l0_0 x6_1).f0) a1 true _ A6.out).mono ?_); rintro e w10 ⟨rfl, hb⟩; refine ⟨_, rfl, ?_⟩; have n0_ := aM (Kd.R_below (ry HO_5.out) hb); have n1_ := aM (bB (g := gb186) (qy BK186.out) hb); have n2_ := aM (bP (by repeat (first | (with_reducible first | exact HB.out | apply ea | apply en | apply ed | refine es ?_ GE186.out) | exact HB.out)) hb); clear HO_5 BK186 HB; have HO_5 := n0_; have BK186 := n1_; have HB := n2_; clear n0_ n1_ n2_; (try clear hb); (try clear hb2); (try clear hk); (try clear hi); have hcz11_0 := zC BK186.out 0 (.slice (some ad187) l0_0.length c0_0); have hcz11_1 := zC BK186.out 1 (.slice A0_1 l0_1.length c0_1); have hcz11_2 := zC BK186.out 2 (.int .i64 a0_2); have hfz11_0 := bF BK186.out 0; have hfz11_1 := bF BK186.out 1; have hfz11_2 := bF BK186.out 2; have p189 : 0 ≤ (x6_1 : Int) := of_decide_eq_true (by first | (with_reducible assumption) | assumption); have q189 : x6_1 < (l0_0.length : Int) := of_decide_eq_true (by first | (with_reducible assumption) | assumption); obtain ⟨ad189, e189, hx189_0, hx189_1, hx189_2, hx189_3, hx189_4⟩ := at_T38 HR0_0.out x6_1 p189 q189; obtain rfl : ad187 = ad189 := (by injection e189); replace hx189_0 := (HB.out.cell (World.block_lt_of_cell? w _ hx189_0)).trans hx189_0; replace hx189_1 := (HB.out.cell (World.block_lt_of_cell? w _ hx189_1)).trans hx189_1; replace hx189_2 := (HB.out.cell (World.block_lt_of_cell? w _ hx189_2)).trans hx189_2; replace hx189_3 := (HB.out.cell (World.block_lt_of_cell? w _ hx189_3)).trans hx189_3; replace hx189_4 := (HB.out.cell (World.block_lt_of_cell? w _ hx189_4)).trans hx189_4; replace p189 := eq_true p189; replace q189 := eq_true q189) | ((with_reducible refine gate_builtin (b := .append) (xs := #[.tmp 22, .tmp 28]) rfl ?_); at_builtin; refine Kd.R_append k38 (w0 := w) w.heap.size rfl (.tmp 22) (.tmp 28) 23 38 (.agg #[(.int .u64 0), (.int .i64 0), (.int .i64 0), (.int .i64 0), (.int .i64 0)]) 40 rfl Tryd.underlying23 info38 rfl (by decide) (by omega) u5 x5_1 (⟨(rd_T38 l0_0 x6_1).f0, (rd_T38 l0_0 x6_1).f1, (rd_T38 l0_0 x6_1).f2, (rd_T38 l0_0 x6_1).f3, (rd_T38 l0_0 x6_1).f4⟩ : S38) [.int .u64 ((rd_T38 l0_0 x6_1).f0), .int .i64 ((rd_T38 l0_0 x6_1).f1), .int .i64 ((rd_T38 l0_0 x6_1).f2), .int .i64 ((rd_T38 l0_0 x6_1).f3), .int .i64 ((rd_T38 l0_0 x6_1).f4)] (fun _ => True) (fun _ => False) rfl rfl ?aP (fun _ hk => hk.elim) ?aF ?aO ?aB ?aS ?aL ?_; (case aP => exact k38_mkM _ _ _ (⟨(rd_T38 l0_0 x6_1).f0, (rd_T38 l0_0 x6_1).f1, (rd_T38 l0_0 x6_1).f2, (rd_T38 l0_0 x6_1).f3, (rd_T38 l0_0 x6_1).f4⟩ : S38)); (case aB => exact (by repeat (first | (with_reducible first | exact HB.out | apply ea | apply en | apply ed | refine es ?_ GE186.out) | exact HB.out))); (case aF => exact (fun _ _ => trivial)); (case aO => exact (ry HO_5.out)); (case aS => exact (bZ (by repeat (first | (with_reducible first | exact HB.out | apply ea | apply en | apply ed | refine es ?_ GE186.out) | exact HB.out)))); (case aL => have := LMc8.out; omega); intro v191 w12 ho hb hg hat; rw [← Ny190.out] at ho; have n0_ := aM (blk_grown (g := gb186) (qy BK186.out) hg (Kd.R_ne HO_5.out BK186.out (by decide))); have n1_ := aM (hb); have n2_ := aM (ho); clear BK186 HB HO_5; have BK186 := n0_; have HB := n1_; have HO192 := n2_; clear n0_ n1_ n2_; clear ho hb hg hat))
       go_roundg k1
       case measure => have := HK1.out; omega
       case rel => exact ⟨(y190), (wrap64 (x6_1 + 1)), (by first | rfl | (simp; done) | (simp [*]; done)), H', ⟨by have := HK1.out; omega⟩, ⟨by exact ry HO192.out⟩, ⟨by exact qy BK186.out⟩, ⟨by repeat (first | (with_reducible first | exact HB.out | apply ea | apply en | apply ed | refine es ?_ GE186.out) | exact HB.out)⟩⟩
      ·rw [if_neg c8] at H
       exact absurd H (by simp)
     ·replace c7 := Bool.eq_false_iff.mpr c7
      subst c7
      have H1 : (bureauref18_Seen.l0 k1 a1 x5_1 (wrap64 (x6_1 + 1)) l0_0 l0_1 a0_2) = some r := by rw [if_neg (show ¬ (false = true) by decide)] at H; exact H
      clear H
      have H := H1
      clear H1
      have H' := aM H
      clear H
      have hcz13_0 := zC BK186.out 0 (.slice A0_0 l0_0.length c0_0)
      have hcz13_1 := zC BK186.out 1 (.slice A0_1 l0_1.length c0_1)
      have hcz13_2 := zC BK186.out 2 (.int .i64 a0_2)
      have hfz13_0 := bF BK186.out 0
      have hfz13_1 := bF BK186.out 1
      have hfz13_2 := bF BK186.out 2
      have p187 : 0 ≤ (x6_1 : Int) := of_decide_eq_true (by first | (with_reducible assumption) | assumption)
      have q187 : x6_1 < (l0_0.length : Int) := of_decide_eq_true (by first | (with_reducible assumption) | assumption)
      obtain ⟨ad187, e187, hx187_0, hx187_1, hx187_2, hx187_3, hx187_4⟩ := at_T38 HR0_0.out x6_1 p187 q187
      cases e187
      replace hx187_0 := (HB.out.cell (World.block_lt_of_cell? w _ hx187_0)).trans hx187_0
      replace hx187_1 := (HB.out.cell (World.block_lt_of_cell? w _ hx187_1)).trans hx187_1
      replace hx187_2 := (HB.out.cell (World.block_lt_of_cell? w _ hx187_2)).trans hx187_2
      replace hx187_3 := (HB.out.cell (World.block_lt_of_cell? w _ hx187_3)).trans hx187_3
      replace hx187_4 := (HB.out.cell (World.block_lt_of_cell? w _ hx187_4)).trans hx187_4
      replace p187 := eq_true p187
      replace q187 := eq_true q187
      go_wp2_with (first | ((with_reducible refine gate_callee (f := 25) rfl ?_); refine goesL_ (some 21) rfl rfl Tryd.func25 (by kernel_rfl) rfl #[.int .u64 ((rd_T38 l0_0 x6_1).f0), .int .u64 a1] rfl (by (try simp only [mT, mC, mN]); first | done | rfl | (simp only [lD, lT]; rfl)) ?_; (with_reducible refine (bureauref01_Below.calls ((rd_T38 l0_0 x6_1).f0) a1 false _ A6.out).mono ?_); rintro e w14 ⟨rfl, hb⟩; refine ⟨_, rfl, ?_⟩; have n0_ := aM (Kd.R_below (ry HO_5.out) hb); have n1_ := aM (bB (g := gb186) (qy BK186.out) hb); have n2_ := aM (bP (by repeat (first | (with_reducible first | exact HB.out | apply ea | apply en | apply ed | refine es ?_ GE186.out) | exact HB.out)) hb); clear HO_5 BK186 HB; have HO_5 := n0_; have BK186 := n1_; have HB := n2_; clear n0_ n1_ n2_; (try clear hb); (try clear hb2); (try clear hk); (try clear hi)))
      go_roundg k1
      case measure => have := HK1.out; omega
      case rel => exact ⟨(x5_1), (wrap64 (x6_1 + 1)), (by first | rfl | (simp; done) | (simp [*]; done)), H', ⟨by have := HK1.out; omega⟩, ⟨by exact ry HO_5.out⟩, ⟨by exact qy BK186.out⟩, ⟨by repeat (first | (with_reducible first | exact HB.out | apply ea | apply en | apply ed | refine es ?_ GE186.out) | exact HB.out)⟩⟩
    ·rw [if_neg c5] at H
     exact absurd H (by simp)
   ·rw [if_neg c4] at H
    have c4b0 : decide (x6_1 < (l0_0.length : Int)) = false := decide_eq_false c4
    clear c4
    obtain rfl := Option.some.inj H
    have hcz15_0 := zC BK186.out 0 (.slice A0_0 l0_0.length c0_0)
    have hcz15_1 := zC BK186.out 1 (.slice A0_1 l0_1.length c0_1)
    have hcz15_2 := zC BK186.out 2 (.int .i64 a0_2)
    have hfz15_0 := bF BK186.out 0
    have hfz15_1 := bF BK186.out 1
    have hfz15_2 := bF BK186.out 2
    go_wp2
    go_ret
    exact ⟨_, by first | rfl | (simp [errW_none, errW_some] <;> rfl) | (simp [*, errW_none, errW_some] <;> rfl), by exact ry HO_5.out, by repeat (first | (with_reducible first | exact HB.out | apply ea | apply en | apply ed | refine es ?_ GE186.out) | exact HB.out)⟩
end Go.Proofs.YtcbiilbmldinhaaDoor.PB
end

section
namespace Go.Proofs.YtcbiilbmldinhaaDoor.PB
open Go.RowKit Go.Maps Go.Proofs.YtcbiilbmldinhaaDoorW.PrintWords
set_option maxRecDepth 100000
set_option linter.unusedVariables false
set_option linter.unusedSimpArgs false
theorem rmay_eq (a0 a1 a2 a3 a4 : Int) : bureauref18_May.f a0 a1 a2 a3 a4 = some (mayB a1 a2 a3 a4) := by
  have hw : ∀ n : Int, bureauref18_within.f n = some (withinB n) := by
    intro n
    unfold bureauref18_within.f withinB
    by_cases h : n ≥ 0
    · rw [if_pos h, decide_eq_true (show 0 ≤ n by omega), Bool.true_and]
    · rw [if_neg h, decide_eq_false (show ¬ 0 ≤ n by omega), Bool.false_and]
  unfold bureauref18_May.f mayB
  rw [hw, hw, hw]
  by_cases h1 : a1 ≥ 1
  · rw [if_pos h1, decide_eq_true (show 1 ≤ a1 by omega)]
    by_cases h2 : a1 ≤ 4
    · rw [if_pos h2, decide_eq_true h2]
      cases withinB a2 <;> cases withinB a3 <;> cases withinB a4 <;> rfl
    · rw [if_neg h2, decide_eq_false h2]; rfl
  · rw [if_neg h1, decide_eq_false (show ¬ 1 ≤ a1 by omega)]; rfl
def cntL (x : Int) (L : List S38) : Nat := L.countP (fun r => decide (r.f0 = x))
def rroomF (lv : List Int) (q : Int) (L : List S38) (x : Int) : Int := if indexI lv x 0 < 0 then 0 else q - (cntL x L : Int)
theorem rroom_ev (L : List S38) (lv : List Int) (q x : Int) (hL : L.length ≤ 100000) (hlv : lv.length ≤ 4096) (hq1 : 0 ≤ q) (hq2 : q ≤ 100000) : Ev (fun k => bureauref18_Room.f k L lv q x) (rroomF lv q L x) := by
  unfold bureauref18_Room.f rroomF
  refine Ev.bind (rplace_ev lv x hlv) ?_
  refine Ev.ite' (fun h => ev_val (Ev.now _) (by rw [if_pos h])) (fun h => ?_)
  rw [if_neg h]
  have loop : ∀ (d i : Nat) (n : Int), i + d = L.length → -100000 ≤ n - d → n ≤ 100000 → Ev (fun k => bureauref18_Room.l0 k x n (i : Int) L lv q) (n - (cntL x (L.drop i) : Int)) := by
    intro d
    induction d with
    | zero =>
      intro i n hi h1 h2
      refine Ev.step (fun k => by simp only [bureauref18_Room.l0]; rfl) ?_
      refine Ev.neg (by omega) (ev_val (Ev.now _) ?_)
      rw [List.drop_eq_nil_of_le (by omega)]
      simp [cntL]
    | succ d ih =>
      intro i n hi h1 h2
      have hlt : i < L.length := by omega
      refine Ev.step (fun k => by simp only [bureauref18_Room.l0]; rfl) ?_
      refine Ev.pos (by omega) (Ev.pos (by omega) ?_)
      rw [dropG (z := z38) hlt, rd38, w1n hlt (by omega)]
      by_cases he : (L.getD i z38).f0 = x
      · refine Ev.pos he ?_
        rw [show wrap64 (n - 1) = n - 1 by unfold wrap64; omega]
        refine ev_val (ih (i + 1) (n - 1) (by omega) (by omega) (by omega)) ?_
        unfold cntL
        rw [List.countP_cons_of_pos (by simpa using he)]
        omega
      · refine Ev.neg he (ev_val (ih (i + 1) n (by omega) (by omega) (by omega)) ?_)
        unfold cntL
        rw [List.countP_cons_of_neg (by simpa using he)]
  exact loop L.length 0 q (by omega) (by omega) (by omega)
theorem index_neg (lv : List Int) (x : Int) : indexI lv x 0 < 0 ↔ x ∉ lv := by
  constructor
  · intro h hm
    have := (index_ge x lv 0 hm).1
    omega
  · intro h
    have g : ∀ (l : List Int) (i : Nat), x ∉ l → indexI l x i = -1 := by
      intro l
      induction l with
      | nil => intro i _; rfl
      | cons y l ih =>
        intro i h
        simp only [List.mem_cons, not_or] at h
        simp only [indexI]
        rw [if_neg (fun e => h.1 e.symm)]
        exact ih _ h.2
    rw [g lv 0 h]; decide
def rseenF (L : List S38) (x : Int) : List S38 := L.filter (fun r => belowB r.f0 x)
theorem rseen_ev (L : List S38) (lv : List Int) (q x : Int) (hL : L.length ≤ 100000) (hx : (kL x).wf = true) (hw : ∀ r ∈ L, (kL r.f0).wf = true) : Ev (fun k => bureauref18_Seen.f k L lv q x) (rseenF L x) := by
  unfold bureauref18_Seen.f
  have hb : ∀ a : Int, (kL a).wf = true → bureauref01_Below.f a x = some (belowB a x) := by
    intro a ha
    unfold bureauref01_Below.f belowB
    have := wfu ha
    have := wfu hx
    rw [if_pos (by omega)]
  have loop : ∀ (d i : Nat), i + d = L.length → Ev (fun k => bureauref18_Seen.l0 k x (rseenF (L.take i) x) (i : Int) L lv q) (rseenF L x) := by
    intro d
    induction d with
    | zero =>
      intro i hi
      refine Ev.step (fun k => by simp only [bureauref18_Seen.l0]; rfl) ?_
      refine Ev.neg (by omega) (ev_val (Ev.now _) ?_)
      rw [List.take_of_length_le (by omega)]
    | succ d ih =>
      intro i hi
      have hlt : i < L.length := by omega
      have hlen : (rseenF (L.take i) x).length ≤ i := Nat.le_trans (List.length_filter_le _ _) (List.length_take_le _ _)
      refine Ev.step (fun k => by simp only [bureauref18_Seen.l0]; rfl) ?_
      refine Ev.pos (by omega) (Ev.pos (by omega) ?_)
      rw [rd38, w1n hlt (by omega), hb _ (hw _ (by rw [List.getD_eq_getElem?_getD, List.getElem?_eq_getElem hlt, Option.getD_some]; exact List.getElem_mem hlt))]
      refine Ev.bind (Ev.now _) ?_
      have := ih (i + 1) (by omega)
      rw [takeG (z := z38) hlt] at this
      unfold rseenF at this hlen ⊢
      rw [List.filter_append, List.filter_cons, List.filter_nil] at this
      by_cases h : belowB (L.getD i z38).f0 x = true
      · rw [if_pos h] at this
        exact Ev.pos h (Ev.pos (by omega) this)
      · rw [if_neg h, List.append_nil] at this
        exact Ev.neg h this
  exact ev_val (loop L.length 0 (by omega)) rfl
def raddF (lv : List Int) (q : Int) (L : List S38) (r : S38) : List S38 × Int × Int :=
  if mayB r.f1 r.f2 r.f3 r.f4 = false then (L, 0, 2) else if indexI lv r.f0 0 < 0 then (L, 0, 6) else if rroomF lv q L r.f0 < 1 then (L, 0, 4) else (L ++ [r], (L.length : Int), 0)
structure Tells (lv : List Int) (q : Int) (D : DataW Unit) (xs : List S36) : Prop where
  hmap : Maps.IsMap D
  hhas : ∀ x, Maps.has D (kL x) = decide (x ∈ lv)
  hroom : ∀ x, roomI D x = rroomF lv q (xs.map d38) x
theorem newD_room (q : Int) : ∀ (l : List Int) (x : Int), roomI (newD l q) x = if x ∈ l then q else 0 := by
  refine snoc_ind (fun x => rfl) (fun r y ih x => ?_)
  rw [newD_snoc, roomI_put (newD_tidy q r).1.isMap]
  by_cases h : x = y
  · rw [if_pos h, if_pos (by simp [h])]
  · rw [if_neg h, ih]
    simp [h]
theorem Tells.new (lv : List Int) (q : Int) : Tells lv q (newD lv q) [] := by
  refine ⟨(newD_tidy q lv).1.isMap, newD_has q lv, fun x => ?_⟩
  rw [newD_room]
  unfold rroomF cntL
  by_cases h : x ∈ lv
  · rw [if_pos h, if_neg (fun e => (index_neg lv x).1 e h)]; simp
  · rw [if_neg h, if_pos ((index_neg lv x).2 h)]
theorem cnt_snoc (x : Int) (L : List S38) (r : S38) : cntL x (L ++ [r]) = cntL x L + if r.f0 = x then 1 else 0 := by
  unfold cntL
  rw [List.countP_append, List.countP_cons, List.countP_nil]
  by_cases h : r.f0 = x
  · simp [h]
  · simp [h]
theorem Tells.add {lv : List Int} {q : Int} {D : DataW Unit} {xs : List S36} (h : Tells lv q D xs) (hq : q ≤ 1024) (r : S36) :
    Tells lv q (addF D xs r).1 (addF D xs r).2.1 ∧ raddF lv q (xs.map d38) (d38 r) = ((addF D xs r).2.1.map d38, (addF D xs r).2.2.1, (addF D xs r).2.2.2) := by
  have hr := h.hroom r.f0
  have hh := h.hhas r.f0
  unfold addF raddF
  by_cases h1 : mayB r.f1 r.f2 r.f3 r.f4 = false
  · rw [if_pos h1]
    exact ⟨h, by rw [if_pos (show mayB (d38 r).f1 (d38 r).f2 (d38 r).f3 (d38 r).f4 = false from h1)]⟩
  rw [if_neg h1]
  have h1' : ¬ mayB (d38 r).f1 (d38 r).f2 (d38 r).f3 (d38 r).f4 = false := h1
  by_cases h2 : Maps.has D (kL r.f0) = false
  · rw [if_pos h2]
    refine ⟨h, ?_⟩
    rw [if_neg h1', if_pos]
    rw [hh, decide_eq_false_iff_not] at h2
    exact (index_neg _ _).2 h2
  rw [if_neg h2]
  have hm : r.f0 ∈ lv := by simpa [hh] using h2
  have h2' : ¬ indexI lv (d38 r).f0 0 < 0 := fun e => (index_neg _ _).1 e hm
  have h2n : ¬ indexI lv r.f0 0 < 0 := h2'
  by_cases h3 : roomI D r.f0 < 1
  · rw [if_pos h3]
    refine ⟨h, ?_⟩
    rw [if_neg h1', if_neg h2', if_pos]
    rw [hr] at h3
    exact h3
  rw [if_neg h3]
  have hqr : roomI D r.f0 ≤ q := by
    rw [hr]; unfold rroomF; rw [if_neg h2n]; omega
  refine ⟨⟨h.hmap.put _ _, fun x => ?_, fun x => ?_⟩, ?_⟩
  · show Maps.has (D.put _ _) _ = _
    rw [has_put h.hmap, h.hhas]
    by_cases e : x = r.f0
    · rw [if_pos e, e, decide_eq_true hm]
    · rw [if_neg e]
  · show roomI (D.put _ _) _ = _
    rw [roomI_put h.hmap, List.map_append]
    by_cases e : x = r.f0
    · rw [if_pos e, e]
      have h5 : wrap64 (roomI D r.f0 - 1) = roomI D r.f0 - 1 := by unfold wrap64; omega
      rw [h5, hr]
      unfold rroomF
      rw [if_neg h2n, if_neg h2n]
      show _ = q - (cntL r.f0 (xs.map d38 ++ [d38 r]) : Int)
      rw [cnt_snoc, if_pos (show (d38 r).f0 = r.f0 from rfl)]
      omega
    · rw [if_neg e, h.hroom]
      unfold rroomF
      show _ = if indexI lv x 0 < 0 then 0 else q - (cntL x (xs.map d38 ++ [d38 r]) : Int)
      rw [cnt_snoc, if_neg (fun e' : (d38 r).f0 = x => e e'.symm)]
      rfl
  · rw [if_neg h1', if_neg h2', if_neg]
    · simp
    · rw [hr] at h3
      exact h3
theorem map_seen (xs : List S36) (x : Int) : (seenL xs x).map d38 = rseenF (xs.map d38) x := by
  unfold seenL rseenF
  rw [List.filter_map]
  rfl
end Go.Proofs.YtcbiilbmldinhaaDoor.PB
end

section
namespace Go.Proofs.YtcbiilbmldinhaaDoor.PB
open Go.RowKit Go.Maps Go.Proofs.YtcbiilbmldinhaaDoorW.PrintWords Go.Proofs.YtcbiilbmldinhaaDoorW.PrintLast Go.Proofs.YtcbiilbmldinhaaDoorW.PrintMore
set_option maxRecDepth 100000
set_option linter.unusedVariables false
set_option linter.unusedSimpArgs false
theorem put3 {w : World} {g : Nat} {t : TypeId} {a b c x y z : Value} (h : w.heap[g]? = some (.cells #[a, b, c] t (0, 0))) : (((w.setCell ⟨g, 0, none⟩ x).setCell ⟨g, 1, none⟩ y).setCell ⟨g, 2, none⟩ z).heap[g]? = some (.cells #[x, y, z] t (0, 0)) :=
  bU (cs := #[x, y, c]) (bU (cs := #[x, b, c]) (bU (cs := #[a, b, c]) h 0 _ rfl) 1 _ rfl) 2 _ rfl
set_option maxHeartbeats 8000000 in
theorem radd_step {A0 : Option Addr} {c0 : Nat} {xs : List S38} {A1 : Option Addr} {c1 : Nat} {lv : List Int} {q : Int} {w : World} (hr0 : Kd.C k38 w A0 xs.length xs) (hc0 : xs.length ≤ c0) (hr1 : Kd.C (Kd.int .u64) w A1 lv.length lv) (hc1 : lv.length ≤ c1) (r : S38) (hx : xs.length ≤ 100000) (hlv : lv.length ≤ 4096) (hq1 : 0 ≤ q) (hq2 : q ≤ 100000) :
    Calls Tryd.prog 15 #[.agg #[.slice A0 xs.length c0, .slice A1 lv.length c1, .int .i64 q], .agg #[.int .u64 r.f0, .int .i64 r.f1, .int .i64 r.f2, .int .i64 r.f3, .int .i64 r.f4]] w fun e w' => ∃ v0, e = .returned (.tuple #[.agg #[v0, .slice A1 lv.length c1, .int .i64 q], .int .i64 (raddF lv q xs r).2.1, .int .i64 (raddF lv q xs r).2.2]) ∧ ((v0 = .slice A0 xs.length c0 ∧ (raddF lv q xs r).1 = xs) ∨ Kd.R k38 38 w' w.heap.size (fun _ => True) v0 (raddF lv q xs r).1) ∧ Below w.heap.size w w' := by
  have hu29 := Tryd.underlying29
  have hu38 := Tryd.underlying38
  have HR0 := aM hr0
  have HC0 := aM hc0
  have HR1 := aM hr1
  have HC1 := aM hc1
  have HX := aM hx
  have HLV := aM hlv
  have HQ := aM (And.intro hq1 hq2)
  clear hr0 hc0 hr1 hc1 hx hlv hq1 hq2
  go_enter Tryd.func15, Tryd.ntmps15
  go_wp2_with (first
    | ((with_reducible refine gate_dst (N := 2) rfl ?_); (try (refine gate_guard (by rfl) ?_; dsimp only)); refine box_event ?hg (N := 2) ?hd (cs := #[.slice A0 xs.length c0, .slice A1 lv.length c1, .int .i64 q]) (t := 29) ?hr ?_; (case hd => rfl); (case hg => rfl); (case hr => first | (go_simp; done) | (go_simp; rfl)); intro g2 hg2 w2 hbox hb; have BK2 := aM hbox; have HB2 := aM hb; have HG2 := aM hg2; clear hb hbox hg2)
    | ((with_reducible refine gate_dst (N := 3) rfl ?_); (try (refine gate_guard (by rfl) ?_; dsimp only)); refine box_event ?hg (N := 3) ?hd (cs := #[.int .u64 r.f0, .int .i64 r.f1, .int .i64 r.f2, .int .i64 r.f3, .int .i64 r.f4]) (t := 38) ?hr ?_; (case hd => rfl); (case hg => rfl); (case hr => first | (go_simp; done) | (go_simp; rfl)); intro g3 hg3 w3 hbox hb; have BK3 := aM hbox; have HB3 := aM hb; have HG3 := aM hg3; clear hb hbox hg3)
    | ((with_reducible refine gate_dst (N := 4) rfl ?_); (try (refine gate_guard (by rfl) ?_; dsimp only)); refine box_event ?hg (N := 4) ?hd (cs := #[.slice none 0 0, .slice none 0 0, .int .i64 0]) (t := 29) ?hr ?_; (case hd => rfl); (case hg => rfl); (case hr => first | (go_simp; done) | (go_simp; rfl)); intro g4 hg4 w4 hbox hb; have BK4 := aM hbox; have HB4 := aM hb; have HG4 := aM hg4; have hy0 : w4.cell? ⟨g3, 0, none⟩ = some (.int .u64 r.f0) := (bC (bB BK3.out hb) 0).trans rfl; have hy1 : w4.cell? ⟨g3, 1, none⟩ = some (.int .i64 r.f1) := (bC (bB BK3.out hb) 1).trans rfl; have hy2 : w4.cell? ⟨g3, 2, none⟩ = some (.int .i64 r.f2) := (bC (bB BK3.out hb) 2).trans rfl; have hy3 : w4.cell? ⟨g3, 3, none⟩ = some (.int .i64 r.f3) := (bC (bB BK3.out hb) 3).trans rfl; have hy4 : w4.cell? ⟨g3, 4, none⟩ = some (.int .i64 r.f4) := (bC (bB BK3.out hb) 4).trans rfl; clear hb hbox hg4)
    )
  have hg2 := HG2.out
  have hg3 := HG3.out
  have hg4 := HG4.out
  clear HG2 HG3 HG4
  have hn32 : g3 ≠ g2 := fun e => by have := blk_lt BK2.out; omega
  have hn42 : g4 ≠ g2 := fun e => by have := blk_lt BK2.out; have := HB3.out.size; omega
  have hn43 : g4 ≠ g3 := fun e => by have := blk_lt BK3.out; omega
  have hn23 := hn32.symm
  have hn24 := hn42.symm
  have hn34 := hn43.symm
  have HG4 := aM (show w.heap.size ≤ g4 by have := HB2.out.size; have := HB3.out.size; omega)
  have HG2 := aM (show w.heap.size ≤ g2 by omega)
  have C2 := aM (bB (bB BK2.out HB3.out) HB4.out)
  have C3 := aM (bB BK3.out HB4.out)
  have HB := aM (bP (bP HB2.out HB3.out) HB4.out)
  clear BK2 BK3 HB2 HB3 HB4 hg2 hg3 hg4
  refine Calls.mono (bureauref18_May.calls r.f0 r.f1 r.f2 r.f3 r.f4 _ _ (rmay_eq _ _ _ _ _)) ?_
  rintro e w5 ⟨rfl, hb⟩
  have D2 := aM (bB C2.out hb)
  have D3 := aM (bB C3.out hb)
  have D4 := aM (bB BK4.out hb)
  have HB5 := aM (bP HB.out hb)
  clear hb C2 C3 BK4 HB hy0 hy1 hy2 hy3 hy4
  have hz0 := (bC D2.out 0).trans (rfl : _ = some (Value.slice A0 xs.length c0))
  have hz1 := (bC D2.out 1).trans (rfl : _ = some (Value.slice A1 lv.length c1))
  have hz2 := (bC D2.out 2).trans (rfl : _ = some (Value.int .i64 q))
  have hu0 := (bC D4.out 0).trans (rfl : _ = some (Value.slice none 0 0))
  have hu1 := (bC D4.out 1).trans (rfl : _ = some (Value.slice none 0 0))
  have hu2 := (bC D4.out 2).trans (rfl : _ = some (Value.int .i64 0))
  have hf0 := bF D4.out 0
  have hf1 := bF D4.out 1
  have hf2 := bF D4.out 2
  cases hm : mayB r.f1 r.f2 r.f3 r.f4
  · go_wp2_with (fail)
    refine bodyPost_ret (results_ctt rfl _ _ g4 29 #[.slice A0 xs.length c0, .slice A1 lv.length c1, .int .i64 q] (0, 0) _ rfl (put3 D4.out) Tryd.underlying29 rfl (by kernel_rfl)) rfl ?_
    have e : raddF lv q xs r = (xs, 0, 2) := by unfold raddF; rw [if_pos hm]
    rw [e]
    exact ⟨_, rfl, .inl ⟨rfl, rfl⟩, ((HB5.out.setCell HG4.out _).setCell HG4.out _).setCell HG4.out _⟩
  have hv0 := (bC D3.out 0).trans (rfl : _ = some (Value.int .u64 r.f0))
  obtain ⟨k1, hk1⟩ := Ev.rounds (rplace_ev lv r.f0 HLV.out)
  go_wp2_with (fail)
  refine Calls.mono (bureauref01_Place.calls k1 A1 c1 lv r.f0 _ _ (cB_ HR1.out HB5.out) HC1.out hk1) ?_
  rintro e w6 ⟨rfl, nd, rfl⟩
  have E2 := aM (blk_drewN D2.out nd)
  have E3 := aM (blk_drewN D3.out nd)
  have E4 := aM (blk_drewN D4.out nd)
  have HB6 := aM (pw_below_drewN HB5.out nd)
  generalize w5.drewN nd = w6 at *
  clear D2 D3 D4 HB5 hz0 hz1 hz2 hu0 hu1 hu2 hf0 hf1 hf2 hv0 hk1
  have hz0 := (bC E2.out 0).trans (rfl : _ = some (Value.slice A0 xs.length c0))
  have hz1 := (bC E2.out 1).trans (rfl : _ = some (Value.slice A1 lv.length c1))
  have hz2 := (bC E2.out 2).trans (rfl : _ = some (Value.int .i64 q))
  have hu0 := (bC E4.out 0).trans (rfl : _ = some (Value.slice none 0 0))
  have hu1 := (bC E4.out 1).trans (rfl : _ = some (Value.slice none 0 0))
  have hu2 := (bC E4.out 2).trans (rfl : _ = some (Value.int .i64 0))
  have hf0 := bF E4.out 0
  have hf1 := bF E4.out 1
  have hf2 := bF E4.out 2
  have HM := aM hm
  clear hm
  by_cases hp : indexI lv r.f0 0 < 0
  · have hpb : decide (indexI lv r.f0 0 < 0) = true := decide_eq_true hp
    have HP := aM hp
    clear hp
    go_wp2_with (fail)
    refine bodyPost_ret (results_ctt rfl _ _ g4 29 #[.slice A0 xs.length c0, .slice A1 lv.length c1, .int .i64 q] (0, 0) _ rfl (put3 E4.out) Tryd.underlying29 rfl (by kernel_rfl)) rfl ?_
    have e : raddF lv q xs r = (xs, 0, 6) := by unfold raddF; rw [if_neg (by rw [HM.out]; decide), if_pos HP.out]
    rw [e]
    exact ⟨_, rfl, .inl ⟨rfl, rfl⟩, ((HB6.out.setCell HG4.out _).setCell HG4.out _).setCell HG4.out _⟩
  have hpb : decide (indexI lv r.f0 0 < 0) = false := decide_eq_false hp
  have HP := aM hp
  clear hp
  have hv0 := (bC E3.out 0).trans (rfl : _ = some (Value.int .u64 r.f0))
  obtain ⟨k2, hk2⟩ := Ev.rounds (rroom_ev xs lv q r.f0 HX.out HLV.out HQ.out.1 HQ.out.2)
  go_wp2_with (fail)
  refine Calls.mono (bureauref18_Room.calls k2 A0 c0 xs A1 c1 lv q r.f0 _ _ (cB_ HR0.out HB6.out) HC0.out (cB_ HR1.out HB6.out) HC1.out hk2) ?_
  rintro e w7 ⟨rfl, hb⟩
  have F2 := aM (bB E2.out hb)
  have F3 := aM (bB E3.out hb)
  have F4 := aM (bB E4.out hb)
  have HB7 := aM (bP HB6.out hb)
  clear E2 E3 E4 HB6 hb hz0 hz1 hz2 hu0 hu1 hu2 hf0 hf1 hf2 hv0 hk2 hpb
  have hz0 := (bC F2.out 0).trans (rfl : _ = some (Value.slice A0 xs.length c0))
  have hz1 := (bC F2.out 1).trans (rfl : _ = some (Value.slice A1 lv.length c1))
  have hz2 := (bC F2.out 2).trans (rfl : _ = some (Value.int .i64 q))
  have hu0 := (bC F4.out 0).trans (rfl : _ = some (Value.slice none 0 0))
  have hu1 := (bC F4.out 1).trans (rfl : _ = some (Value.slice none 0 0))
  have hu2 := (bC F4.out 2).trans (rfl : _ = some (Value.int .i64 0))
  have hf0 := bF F4.out 0
  have hf1 := bF F4.out 1
  have hf2 := bF F4.out 2
  by_cases hp : rroomF lv q xs r.f0 < 1
  · have hpb : decide (rroomF lv q xs r.f0 < 1) = true := decide_eq_true hp
    have HP2 := aM hp
    clear hp
    go_wp2_with (fail)
    refine bodyPost_ret (results_ctt rfl _ _ g4 29 #[.slice A0 xs.length c0, .slice A1 lv.length c1, .int .i64 q] (0, 0) _ rfl (put3 F4.out) Tryd.underlying29 rfl (by kernel_rfl)) rfl ?_
    have e : raddF lv q xs r = (xs, 0, 4) := by unfold raddF; rw [if_neg (by rw [HM.out]; decide), if_neg (Int.not_lt.2 HP.out), if_pos HP2.out]
    rw [e]
    exact ⟨_, rfl, .inl ⟨rfl, rfl⟩, ((HB7.out.setCell HG4.out _).setCell HG4.out _).setCell HG4.out _⟩
  have hpb : decide (rroomF lv q xs r.f0 < 1) = false := decide_eq_false hp
  have HP2 := aM hp
  have HP_ := HP
  clear hp HP hu0 hu1 hu2 hf0 hf1 hf2 hz1 hz2
  go_wp2
  clear hz0
  go_loopg [8, 9] xs.length (fun kq v8 v9 w' => ∃ i : Nat, v9 = .int .i64 (i : Int) ∧ Aside0 (kq + i = xs.length) ∧ Aside0 (Kd.R k38 38 w' w.heap.size (fun k => w.heap.size ≤ k ∧ k ≠ g3) v8 (xs.take i)) ∧ Aside0 (w'.heap[g2]? = some (.cells #[.slice A0 xs.length c0, .slice A1 lv.length c1, .int .i64 q] 29 (0, 0))) ∧ Aside0 (w'.heap[g3]? = some (.cells #[.int .u64 r.f0, .int .i64 r.f1, .int .i64 r.f2, .int .i64 r.f3, .int .i64 r.f4] 38 (0, 0))) ∧ Aside0 (w'.heap[g4]? = some (.cells #[.slice none 0 0, .slice none 0 0, .int .i64 0] 29 (0, 0))) ∧ Aside0 (Below w.heap.size w w'))
  case atStart => exact ⟨0, rfl, ⟨by simp⟩, ⟨by simpa using Kd.R_nil _ _ _ _ _⟩, F2, F3, F4, HB7⟩
  case round =>
    clear F2 F3 F4 HB7
    obtain ⟨i, rfl, HI, HO, F2, F3, F4, HB⟩ := hrel
    have hi := HI.out
    by_cases ci : i < xs.length
    · cases gk with
      | zero => exact absurd hi (by omega)
      | succ k3 =>
        have c1b : decide ((i : Int) < (xs.length : Int)) = true := decide_eq_true (by omega)
        obtain ⟨ad, e1_, hx0, hx1, hx2, hx3, hx4⟩ := at_T38 (cB_ HR0.out HB.out) (i : Int) (by omega) (by omega)
        cases e1_
        have p1 : (0 ≤ (i : Int)) = True := eq_true (by omega)
        have q1 : ((i : Int) < (xs.length : Int)) = True := eq_true (by omega)
        have hrd := rd38 xs i
        generalize rd_T38 xs (i : Int) = x at hx0 hx1 hx2 hx3 hx4 hrd
        have HRD := aM hrd
        rw [Int.toNat_natCast] at hx0 hx1 hx2 hx3 hx4
        have HC1b := aM ci
        clear hrd hi ci
        have hz0 := (bC F2.out 0).trans (rfl : _ = some (Value.slice (some ad) xs.length c0))
        go_wp2_with (first
          | ((with_reducible refine gate_builtin (b := .append) (xs := #[.tmp 35, .tmp 41]) rfl ?_); at_builtin; refine Kd.R_append k38 (w0 := w) w.heap.size rfl (.tmp 35) (.tmp 41) 23 38 (.agg #[(.int .u64 0), (.int .i64 0), (.int .i64 0), (.int .i64 0), (.int .i64 0)]) 40 rfl Tryd.underlying23 info38 rfl (by decide) (by omega) u8 (xs.take i) x [.int .u64 x.f0, .int .i64 x.f1, .int .i64 x.f2, .int .i64 x.f3, .int .i64 x.f4] (fun k => w.heap.size ≤ k ∧ k ≠ g3) (fun _ => False) rfl (by first | (go_simp; done) | (go_simp; rfl)) (k38_mkM _ _ _ x) (fun _ hk => hk.elim) (fun k hk => ⟨Nat.le_trans HB.out.size hk, fun e => by have := blk_lt F3.out; omega⟩) HO.out HB.out HB.out.size (by have := HX.out; have := HC1b.out; rw [List.length_take]; omega) ?_; intro v1 w10 ho hb hg hat; have HP := aM (And.intro ho (And.intro hb hg)); clear ho hb hg hat)
          )
        obtain ⟨ho, hb, hg⟩ := HP.out
        have hc1 := HC1b.out
        go_roundg k3
        case measure => have := HI.out; omega
        case rel => exact ⟨i + 1, by rw [w1n hc1 (by have := HX.out; omega)], ⟨by have := HI.out; omega⟩, ⟨by rw [takeG (z := z38) hc1, ← HRD.out]; exact ho⟩, ⟨blk_grown F2.out hg (Kd.R_ne HO.out F2.out (by decide))⟩, ⟨blk_grown F3.out hg (Kd.R_away HO.out (fun _ hk => hk.2))⟩, ⟨blk_grown F4.out hg (Kd.R_ne HO.out F4.out (by decide))⟩, ⟨hb⟩⟩
    · obtain rfl : i = xs.length := by have := HI.out; omega
      have c1b : decide ((xs.length : Int) < (xs.length : Int)) = false := decide_eq_false (by omega)
      have hO := HO.out
      rw [List.take_length] at hO
      have HO2 := aM hO
      clear hO HO
      have hy0 := (bC F3.out 0).trans (rfl : _ = some (Value.int .u64 r.f0))
      have hy1 := (bC F3.out 1).trans (rfl : _ = some (Value.int .i64 r.f1))
      have hy2 := (bC F3.out 2).trans (rfl : _ = some (Value.int .i64 r.f2))
      have hy3 := (bC F3.out 3).trans (rfl : _ = some (Value.int .i64 r.f3))
      have hy4 := (bC F3.out 4).trans (rfl : _ = some (Value.int .i64 r.f4))
      go_wp2_with (first
          | ((with_reducible refine gate_builtin (b := .append) (xs := #[.tmp 43, .tmp 45]) rfl ?_); at_builtin; refine Kd.R_append k38 (w0 := w) w.heap.size rfl (.tmp 43) (.tmp 45) 23 38 (.agg #[(.int .u64 0), (.int .i64 0), (.int .i64 0), (.int .i64 0), (.int .i64 0)]) 40 rfl Tryd.underlying23 info38 rfl (by decide) (by omega) u8 xs r [.int .u64 r.f0, .int .i64 r.f1, .int .i64 r.f2, .int .i64 r.f3, .int .i64 r.f4] (fun k => w.heap.size ≤ k ∧ k ≠ g3) (fun _ => False) rfl (by first | (go_simp; done) | (go_simp; rfl)) (k38_mkM _ _ _ r) (fun _ hk => hk.elim) (fun k hk => ⟨Nat.le_trans HB.out.size hk, fun e => by have := blk_lt F3.out; omega⟩) HO2.out HB.out HB.out.size (by have := HX.out; omega) ?_; intro v1 w10 ho hb hg hat; obtain ⟨Ao, co, eo⟩ := Kd.R_slice ho; subst eo; have HP := aM (And.intro ho (And.intro hb hg)); have hz0 := (bC (blk_grown F2.out hg (Kd.R_ne HO2.out F2.out (by decide))) 0).trans (rfl : _ = some (Value.slice A0 xs.length c0)); have hz1 := (bC (blk_grown F2.out hg (Kd.R_ne HO2.out F2.out (by decide))) 1).trans (rfl : _ = some (Value.slice A1 lv.length c1)); have hz2 := (bC (blk_grown F2.out hg (Kd.R_ne HO2.out F2.out (by decide))) 2).trans (rfl : _ = some (Value.int .i64 q)); have hf0 := bF (blk_grown F2.out hg (Kd.R_ne HO2.out F2.out (by decide))) 0; have hu0 := (bC (blk_grown F4.out hg (Kd.R_ne HO2.out F4.out (by decide))) 0).trans (rfl : _ = some (Value.slice none 0 0)); have hu1 := (bC (blk_grown F4.out hg (Kd.R_ne HO2.out F4.out (by decide))) 1).trans (rfl : _ = some (Value.slice none 0 0)); have hu2 := (bC (blk_grown F4.out hg (Kd.R_ne HO2.out F4.out (by decide))) 2).trans (rfl : _ = some (Value.int .i64 0)); have hg0 := bF (blk_grown F4.out hg (Kd.R_ne HO2.out F4.out (by decide))) 0; have hg1 := bF (blk_grown F4.out hg (Kd.R_ne HO2.out F4.out (by decide))) 1; have hg2 := bF (blk_grown F4.out hg (Kd.R_ne HO2.out F4.out (by decide))) 2; clear ho hb hg hat)
          )
      obtain ⟨ho, hb, hg⟩ := HP.out
      rw [List.length_append, List.length_singleton] at ho
      have G4 := blk_grown F4.out hg (Kd.R_ne HO2.out F4.out (by decide))
      have G2 := blk_grown F2.out hg (Kd.R_ne HO2.out F2.out (by decide))
      refine bodyPost_ret (results_ctt rfl _ _ g4 29 #[.slice Ao (xs.length + 1) co, .slice A1 lv.length c1, .int .i64 q] (0, 0) _ rfl (put3 (bR G4 hn42 _)) Tryd.underlying29 rfl (by kernel_rfl)) rfl ?_
      have e : raddF lv q xs r = (xs ++ [r], (xs.length : Int), 0) := by unfold raddF; rw [if_neg (by rw [HM.out]; decide), if_neg (Int.not_lt.2 HP_.out), if_neg (Int.not_lt.2 HP2.out)]
      rw [e]
      refine ⟨_, rfl, .inr ?_, (((hb.setCell HG2.out _).setCell HG4.out _).setCell HG4.out _).setCell HG4.out _⟩
      exact rM (rF (p := ⟨g4, 2, none⟩) (rF (p := ⟨g4, 1, none⟩) (rF (p := ⟨g4, 0, none⟩) (rF (p := ⟨g2, 0, none⟩) (rT (rT ho G2 (by decide)) G4 (by decide)) (fun _ hk => hk.1.2) _) (fun _ hk => hk.2) _) (fun _ hk => hk.2) _) (fun _ hk => hk.2) _) (fun _ _ => trivial)
end Go.Proofs.YtcbiilbmldinhaaDoor.PB
end

section
namespace Go.Proofs.YtcbiilbmldinhaaDoor.PB
open Go.RowKit Go.Maps Go.Proofs.YtcbiilbmldinhaaDoorW.PrintWords Go.Proofs.YtcbiilbmldinhaaDoorW.PrintLast Go.Proofs.YtcbiilbmldinhaaDoorW.PrintMore
attribute [local go_sem] max2_int min2_int max_two min_two max_three min_three max_four min_four
set_option maxRecDepth 100000
set_option linter.unusedVariables false
set_option linter.unusedSimpArgs false
theorem box_log {B g bm : Nat} {v : Value} {w w' : World} {D : DataW Unit} {xs : List S36} (h : LogAt B g bm v w D xs) (hk : Kept w w' (fun k => k = g ∨ k = bm ∨ some k = v.ownBlock)) {i : Nat} {cs : Array Value} {t : TypeId} {fr : Nat × Nat} (hi : w.heap[i]? = some (.cells cs t fr)) (h1 : i ≠ g) (h2 : some i ≠ v.ownBlock) : w'.heap[i]? = some (.cells cs t fr) := by
  refine blk_kept hi hk ?_
  rintro (e | e | e)
  · exact h1 e
  · exact h.ne hi e
  · exact h2 e
theorem R_logG {α : Type} {d : Kd α} {e : Nat} (hE : d.E = []) {B g bm : Nat} {v : Value} {w w' : World} {D : DataW Unit} {xs : List S36} (h : LogAt B g bm v w D xs) (hk : Kept w w' (fun k => k = g ∨ k = bm ∨ some k = v.ownBlock))
    {B2 : Nat} {u : Value} {ys : List α} (hR : d.R e w B2 (fun _ => True) u ys) (h1 : e ≠ 55) (h2 : e ≠ 36) : d.R e w' B2 (fun _ => True) u ys := by
  refine rM (Kd.R_step (Kd.R_tight hE hR) (fun k ho hlt => hk.2 k hlt ?_)) (fun _ _ => trivial)
  obtain ⟨cells, hc⟩ := Kd.R_typed hR k ho.symm
  rintro (e | e | e)
  · subst e
    have := h.hg
    rw [hc] at this
    injection this with this
    injection this with _ this
    exact h1 this
  · exact h.ne hc e
  · obtain ⟨cells2, hc2⟩ := Kd.R_typed h.hR k e.symm
    rw [hc] at hc2
    injection hc2 with hc2
    injection hc2 with _ hc2
    exact h2 hc2
theorem room_E {B g bm : Nat} {v : Value} {w : World} {D : DataW Unit} {xs : List S36} (h : LogAt B g bm v w D xs) (L : Int) (hL : (kL L).wf = true) :
    Calls Tryd.prog 21 #[.pointer (some ⟨g, 0, none⟩), .int .u64 L] w fun e w' => e = .returned (.int .i64 (roomI D L)) ∧ w' = w :=
  (room_ok h L hL).mono fun e w' ⟨c, he, hc, hw⟩ => ⟨by rw [he, roomI_eq hc], hw⟩
theorem seen_len (xs : List S36) (L : Int) : (seenL xs L).length ≤ xs.length := List.length_filter_le _ _
end Go.Proofs.YtcbiilbmldinhaaDoor.PB
end

section
namespace Go.Proofs.YtcbiilbmldinhaaDoor.PB
open Go.RowKit Go.Maps Go.Proofs.YtcbiilbmldinhaaDoorW.PrintWords Go.Proofs.YtcbiilbmldinhaaDoorW.PrintLast Go.Proofs.YtcbiilbmldinhaaDoorW.PrintMore
set_option maxRecDepth 100000
set_option linter.unusedVariables false
set_option linter.unusedSimpArgs false
theorem set_grown (W : World) (b i : Nat) (v : Value) : W.grownBy (W.setCell ⟨b, i, none⟩ v) (some b) :=
  ⟨rfl, rfl, rfl, by simp [World.setCell], fun k _ hk => Below.heap_setCell _ _ _ k (fun e => hk (by rw [e]))⟩
theorem LogAt.set {B g bm : Nat} {v : Value} {w : World} {D : DataW Unit} {xs : List S36} (h : LogAt B g bm v w D xs) {b : Nat} {cs : Array Value} (hb : w.heap[b]? = some (.cells cs 29 (0, 0))) (i : Nat) (u : Value) : LogAt B g bm v (w.setCell ⟨b, i, none⟩ u) D xs := by
  refine h.grown (set_grown w b i u) (fun e => ?_) (fun e => ?_) (fun k hk e => ?_)
  · cases e
    have := h.hg
    rw [hb] at this
    injection this with this
    injection this with _ this
    exact absurd this (by decide)
  · cases e
    exact h.ne hb rfl
  · obtain rfl : k = b := Option.some.inj e
    obtain ⟨cells2, hc2⟩ := Kd.R_typed h.hR k hk
    rw [hb] at hc2
    injection hc2 with hc2
    injection hc2 with _ hc2
    exact absurd hc2 (by decide)
theorem R38_set {B : Nat} {v : Value} {w : World} {xs : List S38} (h : Kd.R k38 38 w B (fun _ => True) v xs) {b : Nat} {cs : Array Value} (hb : w.heap[b]? = some (.cells cs 29 (0, 0))) (i : Nat) (u : Value) : Kd.R k38 38 (w.setCell ⟨b, i, none⟩ u) B (fun _ => True) v xs := by
  refine rM (Kd.R_grown (Kd.R_tight rfl h) (set_grown w b i u) (fun k hk e => ?_)) (fun _ _ => trivial)
  obtain rfl : k = b := Option.some.inj e
  obtain ⟨cells2, hc2⟩ := Kd.R_typed h k hk.symm
  rw [hb] at hc2
  injection hc2 with hc2
  injection hc2 with _ hc2
  exact absurd hc2 (by decide)
theorem LogAt.set3 {B g bm : Nat} {v : Value} {w : World} {D : DataW Unit} {xs : List S36} (h : LogAt B g bm v w D xs) {b : Nat} {x0 x1 x2 : Value} (hb : w.heap[b]? = some (.cells #[x0, x1, x2] 29 (0, 0))) (x y z : Value) : LogAt B g bm v (((w.setCell ⟨b, 0, none⟩ x).setCell ⟨b, 1, none⟩ y).setCell ⟨b, 2, none⟩ z) D xs :=
  ((h.set hb 0 x).set (bU (cs' := #[x, x1, x2]) hb 0 _ rfl) 1 y).set (bU (cs' := #[x, y, x2]) (bU (cs' := #[x, x1, x2]) hb 0 _ rfl) 1 _ rfl) 2 z
theorem R38_set3 {B : Nat} {v : Value} {w : World} {xs : List S38} (h : Kd.R k38 38 w B (fun _ => True) v xs) {b : Nat} {x0 x1 x2 : Value} (hb : w.heap[b]? = some (.cells #[x0, x1, x2] 29 (0, 0))) (x y z : Value) : Kd.R k38 38 (((w.setCell ⟨b, 0, none⟩ x).setCell ⟨b, 1, none⟩ y).setCell ⟨b, 2, none⟩ z) B (fun _ => True) v xs :=
  R38_set (R38_set (R38_set h hb 0 x) (bU (cs' := #[x, x1, x2]) hb 0 _ rfl) 1 y) (bU (cs' := #[x, y, x2]) (bU (cs' := #[x, x1, x2]) hb 0 _ rfl) 1 _ rfl) 2 z
theorem far3 {w : World} {g b : Nat} {t : TypeId} {cs : Array Value} (h : w.heap[g]? = some (.cells cs t (0, 0))) (hne : g ≠ b) (x y z : Value) : (((w.setCell ⟨b, 0, none⟩ x).setCell ⟨b, 1, none⟩ y).setCell ⟨b, 2, none⟩ z).heap[g]? = some (.cells cs t (0, 0)) :=
  bR (bR (bR h (p := ⟨b, 0, none⟩) hne x) (p := ⟨b, 1, none⟩) hne y) (p := ⟨b, 2, none⟩) hne z
theorem box_logT {B g bm : Nat} {v : Value} {w w' : World} {D : DataW Unit} {xs : List S36} (h : LogAt B g bm v w D xs) (hk : Kept w w' (fun k => k = g ∨ k = bm ∨ some k = v.ownBlock)) {i : Nat} {cs : Array Value} (hi : w.heap[i]? = some (.cells cs 29 (0, 0))) : w'.heap[i]? = some (.cells cs 29 (0, 0)) := by
  refine box_log h hk hi (fun e => ?_) (fun e => ?_)
  · subst e
    have := h.hg
    rw [hi] at this
    injection this with this
    injection this with _ this
    exact absurd this (by decide)
  · obtain ⟨cells2, hc2⟩ := Kd.R_typed h.hR i e.symm
    rw [hi] at hc2
    injection hc2 with hc2
    injection hc2 with _ hc2
    exact absurd hc2 (by decide)
theorem radd_T {A0 : Option Addr} {n c0 B : Nat} {D : DataW Unit} {xs : List S36} {A1 : Option Addr} {c1 : Nat} {lv : List Int} {q : Int} {w : World} (hT : Tells lv q D xs) (hR : Kd.R k38 38 w B (fun _ => True) (.slice A0 n c0) (xs.map d38)) (hr1 : Kd.C (Kd.int .u64) w A1 lv.length lv) (hc1 : lv.length ≤ c1) (r : S36) (hx : xs.length ≤ 1000) (hlv : lv.length ≤ 4096) (hq1 : 1 ≤ q) (hq2 : q ≤ 1024) (hB : B ≤ w.heap.size) :
    Calls Tryd.prog 15 #[.agg #[.slice A0 n c0, .slice A1 lv.length c1, .int .i64 q], .agg #[.int .u64 r.f0, .int .i64 r.f1, .int .i64 r.f2, .int .i64 r.f3, .int .i64 r.f4]] w fun e w' => ∃ A' n' c', e = .returned (.tuple #[.agg #[.slice A' n' c', .slice A1 lv.length c1, .int .i64 q], .int .i64 (addF D xs r).2.2.1, .int .i64 (addF D xs r).2.2.2]) ∧ Kd.R k38 38 w' B (fun _ => True) (.slice A' n' c') ((addF D xs r).2.1.map d38) ∧ Below w.heap.size w w' := by
  obtain ⟨hn, hc, hC⟩ := rR hR
  subst hn
  have h2 := (hT.add hq2 r).2
  refine (radd_step hC hc hr1 hc1 (d38 r) (by rw [List.length_map]; omega) hlv (by omega) (by omega)).mono ?_
  rintro e w' ⟨v0, rfl, hcase, hb⟩
  rw [h2] at hcase ⊢
  rcases hcase with ⟨rfl, he⟩ | h
  · exact ⟨A0, _, c0, rfl, by rw [show (addF D xs r).2.1.map d38 = xs.map d38 from he]; exact Kd.R_below hR hb, hb⟩
  · obtain ⟨A', c', rfl⟩ := Kd.R_slice h
    exact ⟨A', _, c', rfl, rM (rL h hB) (fun _ _ => trivial), hb⟩
theorem addF_mem {D D' : DataW Unit} {xs xs' : List S36} {r : S36} {n code : Int} (e : addF D xs r = (D', xs', n, code)) : xs'.length ≤ xs.length + 1 ∧ ∀ y ∈ xs', y ∈ xs ∨ y = r := by
  rw [addF_eq] at e
  injection e with _ e
  injection e with e _
  subst e
  refine ⟨apd_len _ _ _, ?_⟩
  unfold apdF
  split
  · intro y hy
    simpa using hy
  · intro y hy
    exact .inl hy
theorem radd_E {A0 : Option Addr} {n c0 B : Nat} {D D' : DataW Unit} {xs xs' : List S36} {A1 : Option Addr} {c1 : Nat} {lv : List Int} {q m code : Int} {w : World} {r : S36} (e : addF D xs r = (D', xs', m, code)) (hT : Tells lv q D xs) (hR : Kd.R k38 38 w B (fun _ => True) (.slice A0 n c0) (xs.map d38)) (hr1 : Kd.C (Kd.int .u64) w A1 lv.length lv) (hc1 : lv.length ≤ c1) (hx : xs.length ≤ 1000) (hlv : lv.length ≤ 4096) (hq1 : 1 ≤ q) (hq2 : q ≤ 1024) (hB : B ≤ w.heap.size) :
    Calls Tryd.prog 15 #[.agg #[.slice A0 n c0, .slice A1 lv.length c1, .int .i64 q], .agg #[.int .u64 r.f0, .int .i64 r.f1, .int .i64 r.f2, .int .i64 r.f3, .int .i64 r.f4]] w fun e w' => ∃ A' n' c', e = .returned (.tuple #[.agg #[.slice A' n' c', .slice A1 lv.length c1, .int .i64 q], .int .i64 m, .int .i64 code]) ∧ Kd.R k38 38 w' B (fun _ => True) (.slice A' n' c') (xs'.map d38) ∧ Below w.heap.size w w' := by
  have := radd_T hT hR hr1 hc1 r hx hlv hq1 hq2 hB
  rw [e] at this
  exact this
theorem infoLbl : (Tryd.prog.info? 34).map (fun i => (i.zero, i.size, i.bytes)) = some (some (.int .u64 0), 1, 8) := by kernel_rfl
theorem rseen_n {A0 : Option Addr} {n c0 B : Nat} {ok : Nat → Prop} {L : List S38} {A1 : Option Addr} {c1 : Nat} {lv : List Int} {w : World} (hR : Kd.R k38 38 w B ok (.slice A0 n c0) L) (hr1 : Kd.C (Kd.int .u64) w A1 lv.length lv) (hc1 : lv.length ≤ c1) (q x : Int) (hL : L.length ≤ 100000) (hx : (kL x).wf = true) (hw : ∀ r ∈ L, (kL r.f0).wf = true) :
    Calls Tryd.prog 20 #[.agg #[.slice A0 n c0, .slice A1 lv.length c1, .int .i64 q], .int .u64 x] w fun e w' => ∃ v, e = .returned v ∧ Kd.R k38 38 w' w.heap.size (fun _ => True) v (rseenF L x) ∧ Below w.heap.size w w' := by
  obtain ⟨hn, hc, hC⟩ := rR hR
  subst hn
  obtain ⟨k, hk⟩ := Ev.rounds (rseen_ev L lv q x hL hx hw)
  exact bureauref18_Seen.calls k A0 c0 L A1 c1 lv q x _ w hC hc hr1 hc1 hk
theorem rroom_n {A0 : Option Addr} {n c0 B : Nat} {ok : Nat → Prop} {D : DataW Unit} {xs : List S36} {A1 : Option Addr} {c1 : Nat} {lv : List Int} {q : Int} {w : World} (hT : Tells lv q D xs) (hR : Kd.R k38 38 w B ok (.slice A0 n c0) (xs.map d38)) (hr1 : Kd.C (Kd.int .u64) w A1 lv.length lv) (hc1 : lv.length ≤ c1) (x : Int) (hL : xs.length ≤ 100000) (hlv : lv.length ≤ 4096) (hq1 : 1 ≤ q) (hq2 : q ≤ 1024) :
    Calls Tryd.prog 22 #[.agg #[.slice A0 n c0, .slice A1 lv.length c1, .int .i64 q], .int .u64 x] w fun e w' => e = .returned (.int .i64 (roomI D x)) ∧ Below w.heap.size w w' := by
  obtain ⟨hn, hc, hC⟩ := rR hR
  subst hn
  obtain ⟨k, hk⟩ := Ev.rounds (rroom_ev (xs.map d38) lv q x (by rw [List.length_map]; exact hL) hlv (by omega) (by omega))
  rw [← hT.hroom] at hk
  exact bureauref18_Room.calls k A0 c0 _ A1 c1 lv q x _ w hC hc hr1 hc1 hk
def bureaulaw18_AuditActs.f (k : Nat) (l0 : List Int) (a1 : Int) (l2 : List S38) : Option Bool := if labelsOk l0 l2 then some true else none
set_option maxHeartbeats 32000000 in
theorem bureaulaw18_AuditActs.calls (k : Nat) (A0 : Option Addr) (c0 : Nat) (l0 : List Int) (q : Int) (A2 : Option Addr) (c2 : Nat) (l2 : List S38) (r : Bool) (w : World) (hr0 : Kd.C (Kd.int .u64) w A0 l0.length l0) (hc0 : l0.length ≤ c0) (hr2 : Kd.C k38 w A2 l2.length l2) (hc2 : l2.length ≤ c2) (h : bureaulaw18_AuditActs.f k l0 q l2 = some r) :
    Calls Tryd.prog 3 #[.slice A0 l0.length c0, .int .i64 q, .slice A2 l2.length c2] w fun e w' => e = .returned (.bool r) ∧ Below w.heap.size w w' := by
  unfold bureaulaw18_AuditActs.f at h
  by_cases hok : labelsOk l0 l2
  case neg => rw [if_neg hok] at h; cases h
  rw [if_pos hok] at h
  obtain rfl : true = r := Option.some.inj h
  clear h
  have hu1 := Tryd.underlying38
  have hu2 := Tryd.underlying36
  have hu3 := Tryd.underlying29
  have HR0 := aM hr0
  have HC0 := aM hc0
  have HR2 := aM hr2
  have HC2 := aM hc2
  have HOK := aM hok
  clear hr0 hc0 hr2 hc2 hok
  by_cases hlen : l0.length > 1000
  · have d1 : decide ((l0.length : Int) > 1000) = true := decide_eq_true (by omega)
    go_enter Tryd.func3, Tryd.ntmps3
    go_wp2_with (first
    | ((with_reducible refine gate_callee (f := 10) rfl ?_); (try (refine gate_guard (by rfl) ?_; dsimp only)); refine goesL_ (some 17) rfl rfl Tryd.func10 (by kernel_rfl) rfl #[] rfl (by (try simp only [List.map_toArray, List.map_cons, List.map_nil]); first | done | rfl) ?_; (with_reducible refine Calls.mono (bureaulaw18_alive.calls true _ rfl) ?_); rintro e w3 ⟨rfl, hb⟩; refine ⟨_, rfl, ?_⟩; have HB := aM hb; clear hb)
      )
    go_ret
    exact ⟨rfl, HB.out⟩
  have d1 : decide ((l0.length : Int) > 1000) = false := decide_eq_false (by omega)
  have HLN := aM hlen
  clear hlen
  go_enter Tryd.func3, Tryd.ntmps3
  go_wp2_with (first
    | ((with_reducible refine gate_callee (f := 10) rfl ?_); (try (refine gate_guard (by rfl) ?_; dsimp only)); refine goesL_ (some 17) rfl rfl Tryd.func10 (by kernel_rfl) rfl #[] rfl (by (try simp only [List.map_toArray, List.map_cons, List.map_nil]); first | done | rfl) ?_; (with_reducible refine Calls.mono (bureaulaw18_alive.calls true _ rfl) ?_); rintro e w3 ⟨rfl, hb⟩; refine ⟨_, rfl, ?_⟩; have HB := aM hb; clear hb)
    )
  refine (new_step (cB_ HR0.out HB.out) HC0.out HOK.out.1).mono ?_
  rintro e w4 ⟨p, rfl, hcase, hb⟩
  have HB4 := aM (bP HB.out hb)
  have HW := aM (bZ HB.out)
  have HS4 := aM hb.size
  clear HB hb
  rcases hcase with ⟨hrt, g, bm, rfl, hl⟩ | ⟨hrt, rfl⟩
  rotate_left
  · obtain ⟨k1, hk1⟩ := Ev.rounds (right_ev l0 q)
    rw [hrt] at hk1
    clear hrt
    go_wp2_with (first
    | ((with_reducible refine gate_callee (f := 12) rfl ?_); (try (refine gate_guard (by rfl) ?_; dsimp only)); refine goesL_ (some 29) rfl rfl Tryd.func12 (by kernel_rfl) rfl #[.slice A0 l0.length c0, .int .i64 q] rfl (by (try simp only [List.map_toArray, List.map_cons, List.map_nil]); first | done | rfl) ?_; (with_reducible refine Calls.mono (bureauref18_Right.calls k1 A0 c0 l0 q false _ (cB_ HR0.out HB4.out) HC0.out hk1) ?_); rintro e w5 ⟨rfl, nd, rfl⟩; refine ⟨_, rfl, ?_⟩; have HB5 := aM (pw_below_drewN HB4.out nd))
    | ((with_reducible refine gate_dst (N := 8) rfl ?_); (try (refine gate_guard (by rfl) ?_; dsimp only)); refine box_event ?hg (N := 8) ?hd (cs := #[.slice none 0 0, .slice none 0 0, .int .i64 0]) (t := 29) ?hr ?_; (case hd => rfl); (case hg => rfl); (case hr => first | (go_simp; done) | (go_simp; rfl)); intro gm hgx w6 hbox hb; have BM := aM hbox; have HG8 := aM (show w.heap.size ≤ gm by rw [hgx]; exact bZ HB5.out); have hz0 := (bC hbox 0).trans (rfl : _ = some (Value.slice none 0 0)); have hf0 := bF hbox 0; have hz1 := (bC hbox 1).trans (rfl : _ = some (Value.slice none 0 0)); have hf1 := bF hbox 1; have hz2 := (bC hbox 2).trans (rfl : _ = some (Value.int .i64 0)); have hf2 := bF hbox 2; replace HB5 := aM (bP HB5.out hb); clear hb hbox hgx)
      )
    go_loopg [9] 1 (fun kq v9 w' => v9 = .int .i64 0 ∧ Aside0 (Below w.heap.size w w'))
    case atStart => exact ⟨rfl, ⟨((HB5.out.setCell HG8.out _).setCell HG8.out _).setCell HG8.out _⟩⟩
    case round =>
      obtain ⟨rfl, HB⟩ := hrel
      go_wp2
      go_ret
      exact ⟨rfl, HB.out⟩
  obtain ⟨k1, hk1⟩ := Ev.rounds (right_ev l0 q)
  rw [hrt] at hk1
  have HQ := aM (show l0.length ≤ 8 ∧ 1 ≤ q ∧ q ≤ 1024 by
    unfold rightB at hrt
    rw [Bool.and_eq_true, decide_eq_true_eq] at hrt
    omega)
  have HA4 := aM hl
  clear hl hrt
  go_wp2_with (first
    | ((with_reducible refine gate_callee (f := 12) rfl ?_); (try (refine gate_guard (by rfl) ?_; dsimp only)); refine goesL_ (some 29) rfl rfl Tryd.func12 (by kernel_rfl) rfl #[.slice A0 l0.length c0, .int .i64 q] rfl (by (try simp only [List.map_toArray, List.map_cons, List.map_nil]); first | done | rfl) ?_; (with_reducible refine Calls.mono (bureauref18_Right.calls k1 A0 c0 l0 q true _ (cB_ HR0.out HB4.out) HC0.out hk1) ?_); rintro e w5 ⟨rfl, nd, rfl⟩; refine ⟨_, rfl, ?_⟩; have HB5 := aM (pw_below_drewN HB4.out nd); have HA5 := aM (HA4.out.below (pw_below_drewN (Below.refl _ _) nd : Below w4.heap.size w4 (w4.drewN nd))))
    | ((with_reducible refine gate_dst (N := 8) rfl ?_); (try (refine gate_guard (by rfl) ?_; dsimp only)); refine box_event ?hg (N := 8) ?hd (cs := #[.slice none 0 0, .slice none 0 0, .int .i64 0]) (t := 29) ?hr ?_; (case hd => rfl); (case hg => rfl); (case hr => first | (go_simp; done) | (go_simp; rfl)); intro gm hgx w6 hbox hb; have BM := aM hbox; have HG8 := aM (show w.heap.size ≤ gm by rw [hgx]; exact bZ HB5.out); have hz0 := (bC hbox 0).trans (rfl : _ = some (Value.slice none 0 0)); have hf0 := bF hbox 0; have hz1 := (bC hbox 1).trans (rfl : _ = some (Value.slice none 0 0)); have hf1 := bF hbox 1; have hz2 := (bC hbox 2).trans (rfl : _ = some (Value.int .i64 0)); have hf2 := bF hbox 2; replace HB5 := aM (bP HB5.out hb); replace HA5 := aM (HA5.out.below hb); clear hb hbox hgx)
    )
  have HA6 := aM (HA5.out.set3 BM.out (.slice none 0 0) (.slice A0 l0.length c0) (.int .i64 q))
  have BM6 := aM (put3 (x := .slice none 0 0) (y := .slice A0 l0.length c0) (z := .int .i64 q) BM.out)
  have HB6 := aM (((HB5.out.setCell (p := ⟨gm, 0, none⟩) HG8.out (.slice none 0 0)).setCell (p := ⟨gm, 1, none⟩) HG8.out (.slice A0 l0.length c0)).setCell (p := ⟨gm, 2, none⟩) HG8.out (.int .i64 q))
  clear HA5 BM HB5 HA4 hz0 hz1 hz2 hf0 hf1 hf2 hk1 HB4
  generalize ((w6.setCell _ _).setCell _ _).setCell _ _ = W6 at *
  go_loopg [9] l2.length (fun kq v9 w' => ∃ (i : Nat) (D : DataW Unit) (xs : List S36) (v : Value) (A3 : Option Addr) (n3 c3 : Nat), v9 = .int .i64 (i : Int) ∧ Aside0 (i ≤ l2.length ∧ kq + i = l2.length) ∧ Aside0 (xs.length ≤ i ∧ i ≤ 60) ∧ Aside0 (LogAt w3.heap.size g bm v w' D xs) ∧ Aside0 (Tells l0 q D xs) ∧ Aside0 (∀ x ∈ xs, (kL x.f0).wf = true) ∧ Aside0 (w'.heap[gm]? = some (.cells #[.slice A3 n3 c3, .slice A0 l0.length c0, .int .i64 q] 29 (0, 0))) ∧ Aside0 (Kd.R k38 38 w' w.heap.size (fun _ => True) (.slice A3 n3 c3) (xs.map d38)) ∧ Aside0 (Below w.heap.size w w'))
  case atStart => exact ⟨0, _, [], _, none, 0, 0, rfl, ⟨Nat.zero_le _, rfl⟩, ⟨Nat.le_refl _, by decide⟩, HA6, ⟨Tells.new l0 q⟩, ⟨fun x hx => by cases hx⟩, BM6, ⟨Kd.R_nil _ _ _ _ _⟩, HB6⟩
  case round =>
    clear HA6 BM6 HB6
    obtain ⟨i, D, xs, v, A3, n3, c3, rfl, HI, HXL, HA, HT, HF, BM, HR, HB⟩ := hrel
    have hi := HI.out
    have hxl := HXL.out
    by_cases ci : i < l2.length
    · by_cases cj : i < 60
      · cases gk with
        | zero => exact absurd hi.2 (by omega)
        | succ k2 =>
          have c1b : decide ((i : Int) < (l2.length : Int)) = true := decide_eq_true (by omega)
          have c2b : decide ((i : Int) < 60) = true := decide_eq_true (by omega)
          obtain ⟨ad, e1, hx0, hx1, hx2, hx3, hx4⟩ := at_T38 HR2.out (i : Int) (by omega) (by omega)
          cases e1
          have hrd : rd_T38 l2 (i : Int) ∈ l2 := by
            rw [rd38, List.getD_eq_getElem?_getD, List.getElem?_eq_getElem ci, Option.getD_some]
            exact List.getElem_mem ci
          have HX := aM (show (kL (rd_T38 l2 (i : Int)).f0).wf = true from HOK.out.2 _ hrd)
          generalize rd_T38 l2 (i : Int) = x at hx0 hx1 hx2 hx3 hx4 HX
          rw [Int.toNat_natCast] at hx0 hx1 hx2 hx3 hx4
          have HKX := aM (And.intro hx0 (And.intro hx1 (And.intro hx2 (And.intro hx3 hx4))))
          replace hx0 := (HB.out.cell (World.block_lt_of_cell? w _ hx0)).trans hx0
          replace hx1 := (HB.out.cell (World.block_lt_of_cell? w _ hx1)).trans hx1
          replace hx2 := (HB.out.cell (World.block_lt_of_cell? w _ hx2)).trans hx2
          replace hx3 := (HB.out.cell (World.block_lt_of_cell? w _ hx3)).trans hx3
          replace hx4 := (HB.out.cell (World.block_lt_of_cell? w _ hx4)).trans hx4
          have p1 : (0 ≤ (i : Int)) = True := eq_true (by omega)
          have q1 : ((i : Int) < (l2.length : Int)) = True := eq_true (by omega)
          clear hi hxl ci cj
          obtain ⟨D', xs', m, code, he⟩ : ∃ D' xs' m code, addF D xs (⟨x.f0, x.f1, x.f2, x.f3, x.f4⟩ : S36) = (D', xs', m, code) := ⟨_, _, _, _, rfl⟩
          have HT2 : Aside0 (Tells l0 q D' xs') := ⟨by have := (HT.out.add HQ.out.2.2 (⟨x.f0, x.f1, x.f2, x.f3, x.f4⟩ : S36)).1; rw [he] at this; exact this⟩
          have HL2 : Aside0 (xs'.length ≤ i + 1) := ⟨by have := (addF_mem he).1; have := HXL.out; omega⟩
          have HF2 : Aside0 (∀ y ∈ xs', (kL y.f0).wf = true) := ⟨fun y hy => ((addF_mem he).2 y hy).elim (fun h => HF.out y h) (fun h => by rw [h]; exact HX.out)⟩
          have HE := aM he
          clear he HF
          go_wp2_with (first
            | ((with_reducible refine gate_callee (f := 14) rfl ?_); (try (refine gate_guard (by rfl) ?_; dsimp only)); refine goesL_ (some 54) rfl rfl Tryd.func14 (by kernel_rfl) rfl #[.agg #[.int .u64 x.f0, .int .i64 x.f1, .int .i64 x.f2, .int .i64 x.f3, .int .i64 x.f4]] rfl (by (try simp only [List.map_toArray, List.map_cons, List.map_nil]); first | done | rfl) ?_; (with_reducible refine Calls.mono (bureaulaw18_theirs.calls x.f0 x.f1 x.f2 x.f3 x.f4 x.f0 x.f1 x.f2 x.f3 x.f4 _ rfl) ?_); rintro e w5 ⟨rfl, hb⟩; refine ⟨_, rfl, ?_⟩; have HA5 := aM (HA.out.below hb); have HR5 := aM (Kd.R_below HR.out hb); have BM5 := aM (bB BM.out hb); have HB5 := aM (bP HB.out hb); clear hb)
            | ((with_reducible refine gate_callee (f := 13) rfl ?_); (try (refine gate_guard (by rfl) ?_; dsimp only)); refine goesL_ (some 55) rfl rfl Tryd.func13 (by kernel_rfl) rfl #[.pointer (some ⟨g, 0, none⟩), .agg #[.int .u64 x.f0, .int .i64 x.f1, .int .i64 x.f2, .int .i64 x.f3, .int .i64 x.f4]] rfl (by (try simp only [List.map_toArray, List.map_cons, List.map_nil]); first | done | rfl) ?_; (with_reducible refine Calls.mono (add_stepE HA5.out (Nat.le_of_lt (Nat.lt_of_le_of_lt HA5.out.hB (blk_lt HA5.out.hg))) (⟨x.f0, x.f1, x.f2, x.f3, x.f4⟩ : S36) HX.out (by have := HXL.out; omega) HE.out) ?_); rintro e w6 ⟨rfl, v6, hl, hb, hk, hq⟩; refine ⟨_, rfl, ?_⟩; obtain ⟨kx0, kx1, kx2, kx3, kx4⟩ := HKX.out; have hy0 := ((HB5.out.trans (hb.mono HW.out)).cell (World.block_lt_of_cell? w _ kx0)).trans kx0; have hy1 := ((HB5.out.trans (hb.mono HW.out)).cell (World.block_lt_of_cell? w _ kx1)).trans kx1; have hy2 := ((HB5.out.trans (hb.mono HW.out)).cell (World.block_lt_of_cell? w _ kx2)).trans kx2; have hy3 := ((HB5.out.trans (hb.mono HW.out)).cell (World.block_lt_of_cell? w _ kx3)).trans kx3; have hy4 := ((HB5.out.trans (hb.mono HW.out)).cell (World.block_lt_of_cell? w _ kx4)).trans kx4; clear kx0 kx1 kx2 kx3 kx4; have hm0 := (bC (box_logT HA5.out hk BM5.out) 0).trans (rfl : _ = some (Value.slice A3 n3 c3)); have hm1 := (bC (box_logT HA5.out hk BM5.out) 1).trans (rfl : _ = some (Value.slice A0 l0.length c0)); have hm2 := (bC (box_logT HA5.out hk BM5.out) 2).trans (rfl : _ = some (Value.int .i64 q)); have HP := aM (And.intro hl (And.intro hb (And.intro hk hq))); clear hl hb hk hq)
            )
          obtain ⟨hl, hb, hk, hq⟩ := HP.out
          have HB6 := aM (HB5.out.trans (hb.mono HW.out))
          have HR6 := aM (R_logG rfl HA5.out hk HR5.out (by decide) (by decide))
          have HBS := aM HB6.out.size
          have HA6 := aM hl
          have HM6 := aM (box_logT HA5.out hk BM5.out)
          have hS0 : (fun w' : World => w'.cell? ⟨gm, 0, none⟩ = some (.slice A3 n3 c3) ∧ w'.cell? ⟨gm, 1, none⟩ = some (.slice A0 l0.length c0) ∧ w'.cell? ⟨gm, 2, none⟩ = some (.int .i64 q) ∧ w'.cell? (ad.add (i * 5)) = some (.int .u64 x.f0) ∧ w'.cell? ⟨(ad.add (i * 5)).block, (ad.add (i * 5)).off + 1, none⟩ = some (.int .i64 x.f1) ∧ w'.cell? ⟨(ad.add (i * 5)).block, (ad.add (i * 5)).off + 2, none⟩ = some (.int .i64 x.f2) ∧ w'.cell? ⟨(ad.add (i * 5)).block, (ad.add (i * 5)).off + 3, none⟩ = some (.int .i64 x.f3) ∧ w'.cell? ⟨(ad.add (i * 5)).block, (ad.add (i * 5)).off + 4, none⟩ = some (.int .i64 x.f4)) w6 := ⟨hm0, hm1, hm2, hy0, hy1, hy2, hy3, hy4⟩
          have hSB : ∀ W, Below w6.heap.size w6 W → (fun w' : World => w'.cell? ⟨gm, 0, none⟩ = some (.slice A3 n3 c3) ∧ w'.cell? ⟨gm, 1, none⟩ = some (.slice A0 l0.length c0) ∧ w'.cell? ⟨gm, 2, none⟩ = some (.int .i64 q) ∧ w'.cell? (ad.add (i * 5)) = some (.int .u64 x.f0) ∧ w'.cell? ⟨(ad.add (i * 5)).block, (ad.add (i * 5)).off + 1, none⟩ = some (.int .i64 x.f1) ∧ w'.cell? ⟨(ad.add (i * 5)).block, (ad.add (i * 5)).off + 2, none⟩ = some (.int .i64 x.f2) ∧ w'.cell? ⟨(ad.add (i * 5)).block, (ad.add (i * 5)).off + 3, none⟩ = some (.int .i64 x.f3) ∧ w'.cell? ⟨(ad.add (i * 5)).block, (ad.add (i * 5)).off + 4, none⟩ = some (.int .i64 x.f4)) W := fun W hb => ⟨(hb.cell (World.block_lt_of_cell? w6 _ hm0)).trans hm0, (hb.cell (World.block_lt_of_cell? w6 _ hm1)).trans hm1, (hb.cell (World.block_lt_of_cell? w6 _ hm2)).trans hm2, (hb.cell (World.block_lt_of_cell? w6 _ hy0)).trans hy0, (hb.cell (World.block_lt_of_cell? w6 _ hy1)).trans hy1, (hb.cell (World.block_lt_of_cell? w6 _ hy2)).trans hy2, (hb.cell (World.block_lt_of_cell? w6 _ hy3)).trans hy3, (hb.cell (World.block_lt_of_cell? w6 _ hy4)).trans hy4⟩
          have HSB := aM hSB
          clear hSB hl hb hk hq HP HA5 HR5 HB5 BM5 hx0 hx1 hx2 hx3 hx4 hm0 hm1 hm2 hy0 hy1 hy2 hy3 hy4 HA HR BM HB
          refine start_ (n := 14) (S := (fun w' : World => w'.cell? ⟨gm, 0, none⟩ = some (.slice A3 n3 c3) ∧ w'.cell? ⟨gm, 1, none⟩ = some (.slice A0 l0.length c0) ∧ w'.cell? ⟨gm, 2, none⟩ = some (.int .i64 q) ∧ w'.cell? (ad.add (i * 5)) = some (.int .u64 x.f0) ∧ w'.cell? ⟨(ad.add (i * 5)).block, (ad.add (i * 5)).off + 1, none⟩ = some (.int .i64 x.f1) ∧ w'.cell? ⟨(ad.add (i * 5)).block, (ad.add (i * 5)).off + 2, none⟩ = some (.int .i64 x.f2) ∧ w'.cell? ⟨(ad.add (i * 5)).block, (ad.add (i * 5)).off + 3, none⟩ = some (.int .i64 x.f3) ∧ w'.cell? ⟨(ad.add (i * 5)).block, (ad.add (i * 5)).off + 4, none⟩ = some (.int .i64 x.f4))) (ds := [11]) #[tF,tF,tF,tF,tF,tF,tF,tF,tF,tF,tF,tF,tF,tF] (by kernel_rfl) rfl rfl (HSB.out _ ((Below.refl _ _).drew)) (fun hHeld => ?_)
          have HR6 := aM (Kd.R_drew HR6.out)
          have HA6 := aM (HA6.out.below ((Below.refl _ _).drew : Below w6.heap.size w6 w6.drew))
          have HM6 := aM (blk_drew HM6.out)
          have HB6 := aM HB6.out.drew
          have HBS : Aside0 (w.heap.size ≤ w6.drew.heap.size) := HBS
          have HSB := aM (fun W (hb : Below w6.drew.heap.size w6.drew W) => HSB.out W (((Below.refl _ _).drew : Below w6.heap.size w6 w6.drew).trans hb))
          generalize w6.drew = w6 at *
          refine st 0 59 #[tT,tF,tF,tF,tF,tF,tF,tF,tF,tF,tF,tF,tF,tF] hHeld ?_
          refine sv 1 60 #[tT,tT,tF,tF,tF,tF,tF,tF,tF,tF,tF,tF,tF,tF] ?_
          refine sv 2 61 #[tT,tT,tT,tF,tF,tF,tF,tF,tF,tF,tF,tF,tF,tF] ?_
          refine sv 3 62 #[tT,tT,tT,tT,tF,tF,tF,tF,tF,tF,tF,tF,tF,tF] ?_
          refine st 4 63 #[tT,tT,tT,tT,tT,tF,tF,tF,tF,tF,tF,tF,tF,tF] hHeld ?_
          refine join_ (σ := Option Addr × Nat × Nat × Nat) 3 #[tT,tT,tT,tT,tT,tT,tT,tT,tT,tT,tT,tF,tF,tF] (fun s => [(64, .tuple #[.agg #[.slice s.1 s.2.1 s.2.2.1, .slice A0 l0.length c0, .int .i64 q], .int .i64 m, .int .i64 code]), (58, .tuple #[.agg #[.slice s.1 s.2.1 s.2.2.1, .slice A0 l0.length c0, .int .i64 q], .int .i64 m, .int .i64 code]), (65, .agg #[.slice s.1 s.2.1 s.2.2.1, .slice A0 l0.length c0, .int .i64 q]), (66, .int .i64 m), (67, .int .i64 code), (12, .pointer (some ⟨s.2.2.2, 0, none⟩))]) (fun s w8 => LogAt w3.heap.size g bm v6 w8 D' xs' ∧ w8.heap[gm]? = some (.cells #[.slice A3 n3 c3, .slice A0 l0.length c0, .int .i64 q] 29 (0, 0)) ∧ Kd.R k38 38 w8 w.heap.size (fun _ => True) (.slice s.1 s.2.1 s.2.2.1) (xs'.map d38) ∧ w8.heap[s.2.2.2]? = some (.cells #[.slice none 0 0, .slice none 0 0, .int .i64 0] 29 (0, 0)) ∧ s.2.2.2 ≠ gm ∧ w.heap.size ≤ s.2.2.2 ∧ Below w.heap.size w w8) (fun s w8 hF => ?cont) (fun hcont => ?orders)
          case orders =>
            refine two_ (i := 5) (j := 10) (Ni := some 64) (Nj := some 12) #[tT,tT,tT,tT,tT,tT,tF,tF,tF,tF,tF,tF,tF,tF] #[tT,tT,tT,tT,tT,tF,tF,tF,tF,tF,tT,tF,tF,tF] rfl rfl rfl rfl (by kernel_rfl) (by decide) (by decide) (fun K hK => ?_) (fun K hK => ?_)
            · refine goes_ (f := 15) Tryd.func15 (by kernel_rfl) rfl #[.agg #[.slice A3 n3 c3, .slice A0 l0.length c0, .int .i64 q], .agg #[.int .u64 x.f0, .int .i64 x.f1, .int .i64 x.f2, .int .i64 x.f3, .int .i64 x.f4]] (by rfl) rfl rfl (by (try simp only [List.map_toArray, List.map_cons, List.map_nil]); first | done | rfl) ?_
              have hC := radd_E HE.out HT.out HR6.out (cB_ HR0.out HB6.out) HC0.out (by have := HXL.out; omega) (by have := HQ.out; omega) HQ.out.2.1 HQ.out.2.2 HBS.out
              with_reducible refine Calls.mono hC ?_
              rintro e w7 ⟨A4, n4, c4, rfl, hR, hb⟩
              refine ⟨_, rfl, hK.out _ _ (HSB.out _ hb) (fun _ => ?_)⟩
              refine norm_ (a' := ?_) ?_ ?_
              rotate_left
              · show Act.put _ (some 64) _ = _
                simp only [Act.put, List.setIfInBounds_toArray, List.set_cons_zero, List.set_cons_succ]
                rfl
              refine sv 6 58 #[tT,tT,tT,tT,tT,tT,tT,tF,tF,tF,tF,tF,tF,tF] ?_
              refine sv 7 65 #[tT,tT,tT,tT,tT,tT,tT,tT,tF,tF,tF,tF,tF,tF] ?_
              refine sv 8 66 #[tT,tT,tT,tT,tT,tT,tT,tT,tT,tF,tF,tF,tF,tF] ?_
              refine sv 9 67 #[tT,tT,tT,tT,tT,tT,tT,tT,tT,tT,tF,tF,tF,tF] ?_
              refine one_ (i := 10) (N := some 12) #[tT,tT,tT,tT,tT,tT,tT,tT,tT,tT,tT,tF,tF,tF] rfl rfl (by kernel_rfl) (by decide) (fun K2 hK2 => ?_)
              refine value_ (v := .pointer (some ⟨w7.heap.size, 0, none⟩)) (w1 := w7.alloc (.cells #[.slice none 0 0, .slice none 0 0, .int .i64 0] 29)) (by rfl) rfl ?_ ?_
              · go_simp
              have ha : Below w7.heap.size w7 (w7.alloc (.cells #[.slice none 0 0, .slice none 0 0, .int .i64 0] 29)) := (Below.refl _ _).alloc (Nat.le_refl _) _
              refine hK2.out _ _ (HSB.out _ (bP hb ha)) (fun _ => ?_)
              exact hcont (A4, n4, c4, w7.heap.size) _ ⟨(HA6.out.below hb).below ha, bB (bB HM6.out hb) ha, Kd.R_below hR ha, blk_new _ _, fun e => by have := blk_lt (bB HM6.out hb); have e : w7.heap.size = gm := e; omega, Nat.le_trans HBS.out hb.size, bP (bP HB6.out hb) ha⟩
            · refine value_ (v := .pointer (some ⟨w6.heap.size, 0, none⟩)) (w1 := w6.alloc (.cells #[.slice none 0 0, .slice none 0 0, .int .i64 0] 29)) (by rfl) rfl ?_ ?_
              · go_simp
              have ha : Below w6.heap.size w6 (w6.alloc (.cells #[.slice none 0 0, .slice none 0 0, .int .i64 0] 29)) := (Below.refl _ _).alloc (Nat.le_refl _) _
              refine hK.out _ _ (HSB.out _ ha) (fun _ => ?_)
              refine one_ (i := 5) (N := some 64) #[tT,tT,tT,tT,tT,tT,tF,tF,tF,tF,tT,tF,tF,tF] rfl rfl (by kernel_rfl) (by decide) (fun K2 hK2 => ?_)
              refine goes_ (f := 15) Tryd.func15 (by kernel_rfl) rfl #[.agg #[.slice A3 n3 c3, .slice A0 l0.length c0, .int .i64 q], .agg #[.int .u64 x.f0, .int .i64 x.f1, .int .i64 x.f2, .int .i64 x.f3, .int .i64 x.f4]] (by rfl) rfl rfl (by (try simp only [List.map_toArray, List.map_cons, List.map_nil]); first | done | rfl) ?_
              have hC := radd_E HE.out HT.out (Kd.R_below HR6.out ha) (cB_ HR0.out (bP HB6.out ha)) HC0.out (by have := HXL.out; omega) (by have := HQ.out; omega) HQ.out.2.1 HQ.out.2.2 (Nat.le_trans HBS.out ha.size)
              with_reducible refine Calls.mono hC ?_
              rintro e w7 ⟨A4, n4, c4, rfl, hR, hb⟩
              refine ⟨_, rfl, hK2.out _ _ (HSB.out _ (bP ha hb)) (fun _ => ?_)⟩
              refine norm_ (a' := ?_) ?_ ?_
              rotate_left
              · show Act.put _ (some 64) _ = _
                simp only [Act.put, List.setIfInBounds_toArray, List.set_cons_zero, List.set_cons_succ]
                rfl
              refine sv 6 58 #[tT,tT,tT,tT,tT,tT,tT,tF,tF,tF,tT,tF,tF,tF] ?_
              refine sv 7 65 #[tT,tT,tT,tT,tT,tT,tT,tT,tF,tF,tT,tF,tF,tF] ?_
              refine sv 8 66 #[tT,tT,tT,tT,tT,tT,tT,tT,tT,tF,tT,tF,tF,tF] ?_
              refine sv 9 67 #[tT,tT,tT,tT,tT,tT,tT,tT,tT,tT,tT,tF,tF,tF] ?_
              exact hcont (A4, n4, c4, w6.heap.size) _ ⟨(HA6.out.below ha).below hb, bB (bB HM6.out ha) hb, hR, bB (blk_new _ _) hb, fun e => by have := blk_lt HM6.out; have e : w6.heap.size = gm := e; omega, HBS.out, bP (bP HB6.out ha) hb⟩
          case cont =>
            obtain ⟨A4, n4, c4, gn⟩ := s
            obtain ⟨h1, h2, h3, h4, h5, h6, h7⟩ := hF
            have HA7 := aM h1
            have HM7 := aM h2
            have HR7 := aM h3
            have BN7 := aM h4
            have HNE := aM h5
            have HGN := aM h6
            have HB7 := aM h7
            clear h1 h2 h3 h4 h5 h6 h7 hHeld HR6 HA6 HM6 HB6 HBS HSB
            refine norm_ (a' := ?_) ?_ ?_
            rotate_left
            · show putAll _ _ = _
              simp only [putAll, Act.put, List.setIfInBounds_toArray, List.set_cons_zero, List.set_cons_succ]
              rfl
            refine last_ (i := 11) (N := none) #[tT,tT,tT,tT,tT,tT,tT,tT,tT,tT,tT,tT,tF,tF] rfl rfl (by kernel_rfl) (by decide) (fun K hK => ?_)
            have hz0 := (bC BN7.out 0).trans (rfl : _ = some (Value.slice none 0 0))
            have hz1 := (bC BN7.out 1).trans (rfl : _ = some (Value.slice none 0 0))
            have hz2 := (bC BN7.out 2).trans (rfl : _ = some (Value.int .i64 0))
            have hf0 := bF BN7.out 0
            have hf1 := bF BN7.out 1
            have hf2 := bF BN7.out 2
            refine skip_ (w1 := ((w8.setCell ⟨gn, 0, none⟩ (.slice A4 n4 c4)).setCell ⟨gn, 1, none⟩ (.slice A0 l0.length c0)).setCell ⟨gn, 2, none⟩ (.int .i64 q)) (by rfl) rfl ?_ ?_
            · go_simp
            refine hK.out _ _ ?_
            clear hK K
            refine sv 12 13 #[tT,tT,tT,tT,tT,tT,tT,tT,tT,tT,tT,tT,tT,tF] ?_
            refine sv 13 14 #[tT,tT,tT,tT,tT,tT,tT,tT,tT,tT,tT,tT,tT,tT] ?_
            refine done_ (by kernel_rfl) ?_
            have HA9 := aM (HA7.out.set3 BN7.out (.slice A4 n4 c4) (.slice A0 l0.length c0) (.int .i64 q))
            have HM9 := aM (far3 HM7.out HNE.out.symm (.slice A4 n4 c4) (.slice A0 l0.length c0) (.int .i64 q))
            have BN9 := aM (put3 (x := (.slice A4 n4 c4)) (y := (.slice A0 l0.length c0)) (z := (.int .i64 q)) BN7.out)
            have HR9 := aM (R38_set3 HR7.out BN7.out (.slice A4 n4 c4) (.slice A0 l0.length c0) (.int .i64 q))
            have HB9 := aM (((HB7.out.setCell (p := ⟨gn, 0, none⟩) HGN.out (.slice A4 n4 c4)).setCell (p := ⟨gn, 1, none⟩) HGN.out (.slice A0 l0.length c0)).setCell (p := ⟨gn, 2, none⟩) HGN.out (.int .i64 q))
            clear HA7 HM7 BN7 HR7 HB7 hz0 hz1 hz2 hf0 hf1 hf2
            generalize ((w8.setCell _ _).setCell _ _).setCell _ _ = w9 at *
            have hz0 := (bC BN9.out 0).trans (rfl : _ = some (Value.slice A4 n4 c4))
            have hz1 := (bC BN9.out 1).trans (rfl : _ = some (Value.slice A0 l0.length c0))
            have hz2 := (bC BN9.out 2).trans (rfl : _ = some (Value.int .i64 q))
            have hm0 := (bC HM9.out 0).trans (rfl : _ = some (Value.slice A3 n3 c3))
            have hm1 := (bC HM9.out 1).trans (rfl : _ = some (Value.slice A0 l0.length c0))
            have hm2 := (bC HM9.out 2).trans (rfl : _ = some (Value.int .i64 q))
            have hf0 := bF HM9.out 0
            have hf1 := bF HM9.out 1
            have hf2 := bF HM9.out 2
            go_wp2
            have HA10 := aM (HA9.out.set3 HM9.out (.slice A4 n4 c4) (.slice A0 l0.length c0) (.int .i64 q))
            have HM10 := aM (put3 (x := (.slice A4 n4 c4)) (y := (.slice A0 l0.length c0)) (z := (.int .i64 q)) HM9.out)
            have HR10 := aM (R38_set3 HR9.out HM9.out (.slice A4 n4 c4) (.slice A0 l0.length c0) (.int .i64 q))
            have HB10 := aM (((HB9.out.setCell (p := ⟨gm, 0, none⟩) HG8.out (.slice A4 n4 c4)).setCell (p := ⟨gm, 1, none⟩) HG8.out (.slice A0 l0.length c0)).setCell (p := ⟨gm, 2, none⟩) HG8.out (.int .i64 q))
            clear HA9 HM9 BN9 HR9 HB9 hz0 hz1 hz2 hf0 hf1 hf2 hm0 hm1 hm2
            generalize ((w9.setCell _ _).setCell _ _).setCell _ _ = w10 at *
            refine start_ (n := 17) (S := fun w' : World => w'.cell? ⟨gm, 0, none⟩ = some (.slice A4 n4 c4)) (ds := []) #[tF,tF,tF,tF,tF,tF,tF,tF,tF,tF,tF,tF,tF,tF,tF,tF,tF] (by kernel_rfl) rfl rfl ((bC (blk_drew HM10.out) 0).trans rfl) (fun hHeld => ?_)
            have HA11 := aM (HA10.out.below ((Below.refl _ _).drew : Below w10.heap.size w10 w10.drew))
            have HM11 := aM (blk_drew HM10.out)
            have HR11 := aM (Kd.R_drew HR10.out)
            have HB11 := aM HB10.out.drew
            clear HA10 HM10 HR10 HB10
            generalize w10.drew = w11 at *
            refine sv 0 69 #[tT,tF,tF,tF,tF,tF,tF,tF,tF,tF,tF,tF,tF,tF,tF,tF,tF] ?_
            refine sv 1 70 #[tT,tT,tF,tF,tF,tF,tF,tF,tF,tF,tF,tF,tF,tF,tF,tF,tF] ?_
            refine sv 2 71 #[tT,tT,tT,tF,tF,tF,tF,tF,tF,tF,tF,tF,tF,tF,tF,tF,tF] ?_
            refine sv 3 72 #[tT,tT,tT,tT,tF,tF,tF,tF,tF,tF,tF,tF,tF,tF,tF,tF,tF] ?_
            refine sv 4 73 #[tT,tT,tT,tT,tT,tF,tF,tF,tF,tF,tF,tF,tF,tF,tF,tF,tF] ?_
            refine sv 5 74 #[tT,tT,tT,tT,tT,tT,tF,tF,tF,tF,tF,tF,tF,tF,tF,tF,tF] ?_
            refine sv 6 75 #[tT,tT,tT,tT,tT,tT,tT,tF,tF,tF,tF,tF,tF,tF,tF,tF,tF] ?_
            refine sv 7 76 #[tT,tT,tT,tT,tT,tT,tT,tT,tF,tF,tF,tF,tF,tF,tF,tF,tF] ?_
            refine sv 8 77 #[tT,tT,tT,tT,tT,tT,tT,tT,tT,tF,tF,tF,tF,tF,tF,tF,tF] ?_
            refine sv 9 78 #[tT,tT,tT,tT,tT,tT,tT,tT,tT,tT,tF,tF,tF,tF,tF,tF,tF] ?_
            refine sv 12 81 #[tT,tT,tT,tT,tT,tT,tT,tT,tT,tT,tF,tF,tT,tF,tF,tF,tF] ?_
            refine st 13 82 #[tT,tT,tT,tT,tT,tT,tT,tT,tT,tT,tF,tF,tT,tT,tF,tF,tF] hHeld ?_
            refine one_ (i := 10) (N := some 79) #[tT,tT,tT,tT,tT,tT,tT,tT,tT,tT,tT,tF,tT,tT,tF,tF,tF] rfl rfl (by kernel_rfl) (by decide) (fun K hK => ?_)
            refine goes_ (f := 18) Tryd.func18 (by kernel_rfl) rfl #[.pointer (some ⟨g, 0, none⟩)] (by rfl) rfl rfl (by (try simp only [List.map_toArray, List.map_cons, List.map_nil]); first | done | rfl) ?_
            have hC := all_ok HA11.out (by have := HL2.out; have := HXL.out; omega)
            with_reducible refine Calls.mono hC ?_
            rintro e w12 ⟨v12, rfl, ho, hb⟩
            obtain ⟨A12, c12, e12⟩ := Kd.R_slice ho
            subst e12
            have HO12 := aM ho
            have HA12 := aM (HA11.out.below hb)
            have HM12 := aM (bB HM11.out hb)
            have HR12 := aM (Kd.R_below HR11.out hb)
            have HB12 := aM (bP HB11.out hb)
            clear ho hb HA11 HM11 HR11 HB11
            refine ⟨_, rfl, hK.out _ _ ((bC HM12.out 0).trans rfl) (fun hHeld => ?_)⟩
            clear hK K hC
            refine norm_ (a' := ?_) ?_ ?_
            rotate_left
            · show Act.put _ (some 79) _ = _
              simp only [Act.put, List.setIfInBounds_toArray, List.set_cons_zero, List.set_cons_succ]
              rfl
            refine one_ (i := 11) (N := some 80) #[tT,tT,tT,tT,tT,tT,tT,tT,tT,tT,tT,tT,tT,tT,tF,tF,tF] rfl rfl (by kernel_rfl) (by decide) (fun K hK => ?_)
            refine goes_ (f := 17) Tryd.func17 (by kernel_rfl) rfl #[.slice A12 xs'.length c12] (by rfl) rfl rfl (by (try simp only [List.map_toArray, List.map_cons, List.map_nil]); first | done | rfl) ?_
            have hC := ours_n HO12.out (by have := HL2.out; have := HXL.out; omega)
            with_reducible refine Calls.mono hC ?_
            rintro e w13 ⟨v13, rfl, ho, hb⟩
            obtain ⟨A13, c13, e13⟩ := Kd.R_slice ho
            rw [List.length_map] at e13
            subst e13
            have HO13 := aM ho
            have HA13 := aM (HA12.out.below hb)
            have HM13 := aM (bB HM12.out hb)
            have HR13 := aM (Kd.R_below HR12.out hb)
            have HB13 := aM (bP HB12.out hb)
            clear ho hb HA12 HM12 HR12 HB12 HO12
            refine ⟨_, rfl, hK.out _ _ ((bC HM13.out 0).trans rfl) (fun hHeld => ?_)⟩
            clear hK K hC
            refine norm_ (a' := ?_) ?_ ?_
            rotate_left
            · show Act.put _ (some 80) _ = _
              simp only [Act.put, List.setIfInBounds_toArray, List.set_cons_zero, List.set_cons_succ]
              rfl
            refine one_ (i := 14) (N := some 83) #[tT,tT,tT,tT,tT,tT,tT,tT,tT,tT,tT,tT,tT,tT,tT,tF,tF] rfl rfl (by kernel_rfl) (by decide) (fun K hK => ?_)
            refine goes_ (f := 16) Tryd.func16 (by kernel_rfl) rfl #[.slice A13 xs'.length c13, .slice A4 n4 c4] (by rfl) rfl rfl (by (try simp only [List.map_toArray, List.map_cons, List.map_nil]); first | done | rfl) ?_
            have hC := same_n HO13.out HR13.out (by rw [List.length_map]; have := HL2.out; have := HXL.out; omega) rfl
            with_reducible refine Calls.mono hC ?_
            rintro e w14 ⟨rfl, nd, rfl⟩
            have HA14 := aM (HA13.out.below (pw_below_drewN (Below.refl _ _) nd : Below w13.heap.size w13 (w13.drewN nd)))
            have HM14 := aM (blk_drewN HM13.out nd)
            have HR14 := aM (Kd.R_drewN HR13.out nd)
            have HB14 := aM (pw_below_drewN HB13.out nd)
            generalize w13.drewN nd = w14 at *
            clear HA13 HM13 HR13 HB13 HO13
            refine ⟨_, rfl, hK.out _ _ ((bC HM14.out 0).trans rfl) (fun hHeld => ?_)⟩
            clear hK K hC
            refine norm_ (a' := ?_) ?_ ?_
            rotate_left
            · show Act.put _ (some 83) _ = _
              simp only [Act.put, List.setIfInBounds_toArray, List.set_cons_zero, List.set_cons_succ]
              rfl
            refine sv 15 84 #[tT,tT,tT,tT,tT,tT,tT,tT,tT,tT,tT,tT,tT,tT,tT,tT,tF] ?_
            refine sv 16 85 #[tT,tT,tT,tT,tT,tT,tT,tT,tT,tT,tT,tT,tT,tT,tT,tT,tT] ?_
            refine done_ (by kernel_rfl) ?_
            clear hHeld
            obtain ⟨kx0, kx1, kx2, kx3, kx4⟩ := HKX.out
            have hx0 := (HB14.out.cell (World.block_lt_of_cell? w _ kx0)).trans kx0
            clear kx0 kx1 kx2 kx3 kx4
            go_wp2_with (first
              | ((with_reducible refine gate_dst (N := 91) rfl ?_); refine Kd.R_lit (Kd.int .u64) (w0 := w14) w14.heap.size 34 ?hg (N := 91) ?hd (xs := [x.f0, 18446744073709551615]) (inner := [.int .u64 x.f0, .int .u64 18446744073709551615]) (ok := fun _ => True) (okp := fun _ => True) ?hr ?hp (fun _ hk => hk) trivial (Below.refl _ _) (Nat.le_refl _) (by simp) ?_; (case hd => rfl); (case hg => rfl); (case hr => first | (go_simp; done) | (go_simp; rfl)); (case hp => exact (Reps.one (show Kd.M (Kd.int .u64) _ _ _ x.f0 [.int .u64 x.f0] from rfl) (Reps.one (show Kd.M (Kd.int .u64) _ _ _ 18446744073709551615 [.int .u64 18446744073709551615] from rfl) (Reps.none _ _)))); intro v15 w15 ho hb hg_ hnew_; clear hnew_ hg_; obtain ⟨A15, c15, e15⟩ := Kd.R_slice ho; rw [show ([x.f0, 18446744073709551615] : List Int).length = 2 from rfl] at e15; subst e15; have HO15 := aM ho; have HB15 := aM hb; clear ho hb)
              | ((with_reducible refine gate_builtin (b := .append) (xs := #[.tmp 91, .tmp 92]) rfl ?_); at_builtin; refine Kd.R_append_rows (Kd.int .u64) (w0 := w14) w14.heap.size rfl (.tmp 91) (.tmp 92) 22 34 (.int .u64 0) 8 rfl Tryd.underlying22 infoLbl rfl (by decide) (by omega) (.slice A15 2 c15) [x.f0, 18446744073709551615] l0 _ _ _ (fun _ => True) (fun _ => False) rfl rfl HO15.out (cB_ (cB_ HR0.out HB14.out) HB15.out) (fun _ _ h => h) (fun _ h => h.elim) (fun _ _ => trivial) HB15.out HB15.out.size (by have := HQ.out.1; simp; omega) ?_; intro v16 w16 ho hb hg_ hat_; clear hg_ hat_; obtain ⟨LS, hl1, hl2, ho⟩ : ∃ LS : List Int, LS.length ≤ 10 ∧ (∀ y ∈ LS, (kL y).wf = true) ∧ Kd.R (Kd.int .u64) 34 w16 w14.heap.size (fun _ => True) v16 LS := ⟨_, by have := HQ.out.1; simp; omega, (by intro y hy; simp only [List.cons_append, List.nil_append, List.mem_cons] at hy; rcases hy with rfl | rfl | hy; exact HX.out; decide; exact HOK.out.1 y hy), ho⟩; obtain ⟨A16, c16, e16⟩ := Kd.R_slice ho; subst e16; have HO16 := aM ho; have HB16 := aM hb; have HLS := aM (And.intro hl1 hl2); clear ho hb hl1 hl2 HO15 HB15)
              )
            clear hx0
            replace HA14 := aM (HA14.out.below HB16.out)
            replace HM14 := aM (bB HM14.out HB16.out)
            replace HR14 := aM (Kd.R_below HR14.out HB16.out)
            replace HB14 := aM (bP HB14.out HB16.out)
            clear HB16
            go_loopg [95] LS.length (fun kq v95 w' => ∃ j : Nat, v95 = .int .i64 (j : Int) ∧ Aside0 (j ≤ LS.length ∧ kq + j = LS.length) ∧ Aside0 (Below w16.heap.size w16 w'))
            case atStart => exact ⟨0, rfl, ⟨Nat.zero_le _, rfl⟩, ⟨Below.refl _ _⟩⟩
            case round =>
              obtain ⟨j, rfl, HJ, HH⟩ := hrel
              have HO := aM (Kd.R_below HO16.out HH.out)
              have hj := HJ.out
              by_cases cj : j < LS.length
              · cases gk with
                | zero => exact absurd hj.2 (by omega)
                | succ k3 =>
                  have cjb : decide ((j : Int) < (LS.length : Int)) = true := decide_eq_true (by omega)
                  obtain ⟨ad2, e2, hy0⟩ := Kd.at_int (rR HO.out).2.2 (j : Int) (by omega) (by omega)
                  cases e2
                  have hrd2 : rd LS (j : Int) ∈ LS := by
                    rw [rdN, List.getD_eq_getElem?_getD, List.getElem?_eq_getElem cj, Option.getD_some]
                    exact List.getElem_mem cj
                  have HY := aM (HLS.out.2 _ hrd2)
                  generalize rd LS (j : Int) = y at hy0 HY
                  rw [Int.toNat_natCast] at hy0
                  have pj : (0 ≤ (j : Int)) = True := eq_true (by omega)
                  have qj : ((j : Int) < (LS.length : Int)) = True := eq_true (by omega)
                  have HCJ := aM cj
                  clear hj cj hrd2
                  go_wp2
                  have HA15 := aM (HA14.out.below HH.out)
                  have HM15 := aM (bB HM14.out HH.out)
                  have HR15 := aM (Kd.R_below HR14.out HH.out)
                  have HB15 := aM (bP HB14.out HH.out)
                  clear hy0
                  refine start_ (n := 18) (S := fun w' : World => w'.cell? ⟨gm, 0, none⟩ = some (.slice A4 n4 c4) ∧ w'.cell? ⟨gm, 1, none⟩ = some (.slice A0 l0.length c0) ∧ w'.cell? ⟨gm, 2, none⟩ = some (.int .i64 q)) (ds := []) #[tF,tF,tF,tF,tF,tF,tF,tF,tF,tF,tF,tF,tF,tF,tF,tF,tF,tF] (by kernel_rfl) rfl rfl ⟨(bC (blk_drew HM15.out) 0).trans rfl, (bC (blk_drew HM15.out) 1).trans rfl, (bC (blk_drew HM15.out) 2).trans rfl⟩ (fun hHeld => ?_)
                  have HA16 := aM (HA15.out.below ((Below.refl _ _).drew : Below wr.heap.size wr wr.drew))
                  have HM16 := aM (blk_drew HM15.out)
                  have HR16 := aM (Kd.R_drew HR15.out)
                  have HB16 := aM HB15.out.drew
                  have HH16 := aM HH.out.drew
                  clear HA15 HM15 HR15 HB15
                  generalize wr.drew = w17 at HA16 HM16 HR16 HB16 HH16 hHeld ⊢
                  refine sv 0 99 #[tT,tF,tF,tF,tF,tF,tF,tF,tF,tF,tF,tF,tF,tF,tF,tF,tF,tF] ?_
                  refine sv 1 100 #[tT,tT,tF,tF,tF,tF,tF,tF,tF,tF,tF,tF,tF,tF,tF,tF,tF,tF] ?_
                  refine st 4 103 #[tT,tT,tF,tF,tT,tF,tF,tF,tF,tF,tF,tF,tF,tF,tF,tF,tF,tF] hHeld ?_
                  refine sv 5 104 #[tT,tT,tF,tF,tT,tT,tF,tF,tF,tF,tF,tF,tF,tF,tF,tF,tF,tF] ?_
                  refine one_ (i := 2) (N := some 101) #[tT,tT,tT,tF,tT,tT,tF,tF,tF,tF,tF,tF,tF,tF,tF,tF,tF,tF] rfl rfl (by kernel_rfl) (by decide) (fun K hK => ?_)
                  refine goes_ (f := 19) Tryd.func19 (by kernel_rfl) rfl #[.pointer (some ⟨g, 0, none⟩), .int .u64 y] (by rfl) rfl rfl (by (try simp only [List.map_toArray, List.map_cons, List.map_nil]); first | done | rfl) ?_
                  have hC := seen_ok HA16.out (by have := HL2.out; have := HXL.out; omega) y
                  with_reducible refine Calls.mono hC ?_
                  rintro e w18 ⟨v18, rfl, ho, hb⟩
                  obtain ⟨A18, c18, rfl⟩ := Kd.R_slice ho
                  have HO18 := aM ho
                  have HA18 := aM (HA16.out.below hb)
                  have HM18 := aM (bB HM16.out hb)
                  have HR18 := aM (Kd.R_below HR16.out hb)
                  have HB18 := aM (bP HB16.out hb)
                  have HH18 := aM (bP HH16.out hb)
                  clear ho hb
                  clear HA16 HM16 HR16 HB16 HH16
                  refine ⟨_, rfl, hK.out _ _ (⟨(bC HM18.out 0).trans rfl, (bC HM18.out 1).trans rfl, (bC HM18.out 2).trans rfl⟩) (fun hHeld => ?_)⟩
                  clear hK K hC
                  refine norm_ (a' := ?_) ?_ ?_
                  rotate_left
                  · show Act.put _ (some 101) _ = _
                    simp only [Act.put, List.setIfInBounds_toArray, List.set_cons_zero, List.set_cons_succ]
                    rfl
                  refine one_ (i := 3) (N := some 102) #[tT,tT,tT,tT,tT,tT,tF,tF,tF,tF,tF,tF,tF,tF,tF,tF,tF,tF] rfl rfl (by kernel_rfl) (by decide) (fun K hK => ?_)
                  refine goes_ (f := 17) Tryd.func17 (by kernel_rfl) rfl #[.slice A18 _ c18] (by rfl) rfl rfl (by (try simp only [List.map_toArray, List.map_cons, List.map_nil]); first | done | rfl) ?_
                  have hC := ours_n HO18.out (by have := seen_len xs' y; have := HL2.out; have := HXL.out; omega)
                  with_reducible refine Calls.mono hC ?_
                  rintro e w19 ⟨v19, rfl, ho, hb⟩
                  obtain ⟨A19, c19, e19⟩ := Kd.R_slice ho
                  rw [List.length_map] at e19
                  subst e19
                  have HO19 := aM ho
                  have HA19 := aM (HA18.out.below hb)
                  have HM19 := aM (bB HM18.out hb)
                  have HR19 := aM (Kd.R_below HR18.out hb)
                  have HB19 := aM (bP HB18.out hb)
                  have HH19 := aM (bP HH18.out hb)
                  clear ho hb HO18
                  clear HA18 HM18 HR18 HB18 HH18
                  refine ⟨_, rfl, hK.out _ _ (⟨(bC HM19.out 0).trans rfl, (bC HM19.out 1).trans rfl, (bC HM19.out 2).trans rfl⟩) (fun hHeld => ?_)⟩
                  clear hK K hC
                  refine norm_ (a' := ?_) ?_ ?_
                  rotate_left
                  · show Act.put _ (some 102) _ = _
                    simp only [Act.put, List.setIfInBounds_toArray, List.set_cons_zero, List.set_cons_succ]
                    rfl
                  refine one_ (i := 6) (N := some 105) #[tT,tT,tT,tT,tT,tT,tT,tF,tF,tF,tF,tF,tF,tF,tF,tF,tF,tF] rfl rfl (by kernel_rfl) (by decide) (fun K hK => ?_)
                  refine goes_ (f := 20) Tryd.func20 (by kernel_rfl) rfl #[.agg #[.slice A4 n4 c4, .slice A0 l0.length c0, .int .i64 q], .int .u64 y] (by rfl) rfl rfl (by (try simp only [List.map_toArray, List.map_cons, List.map_nil]); first | done | rfl) ?_
                  have hC := rseen_n HR19.out (cB_ HR0.out HB19.out) HC0.out q y (by rw [List.length_map]; have := HL2.out; have := HXL.out; omega) HY.out (fun r hr => by obtain ⟨z, hz, rfl⟩ := List.mem_map.1 hr; exact HF2.out z hz)
                  with_reducible refine Calls.mono hC ?_
                  rintro e w20 ⟨v20, rfl, ho, hb⟩
                  obtain ⟨A20, c20, rfl⟩ := Kd.R_slice ho
                  have HO20 := aM ho
                  have HP20 := aM (Kd.R_below HO19.out hb)
                  have HA20 := aM (HA19.out.below hb)
                  have HM20 := aM (bB HM19.out hb)
                  have HR20 := aM (Kd.R_below HR19.out hb)
                  have HB20 := aM (bP HB19.out hb)
                  have HH20 := aM (bP HH19.out hb)
                  clear ho hb HO19
                  clear HA19 HM19 HR19 HB19 HH19
                  refine ⟨_, rfl, hK.out _ _ (⟨(bC HM20.out 0).trans rfl, (bC HM20.out 1).trans rfl, (bC HM20.out 2).trans rfl⟩) (fun hHeld => ?_)⟩
                  clear hK K hC
                  refine norm_ (a' := ?_) ?_ ?_
                  rotate_left
                  · show Act.put _ (some 105) _ = _
                    simp only [Act.put, List.setIfInBounds_toArray, List.set_cons_zero, List.set_cons_succ]
                    rfl
                  refine one_ (i := 7) (N := some 106) #[tT,tT,tT,tT,tT,tT,tT,tT,tF,tF,tF,tF,tF,tF,tF,tF,tF,tF] rfl rfl (by kernel_rfl) (by decide) (fun K hK => ?_)
                  refine goes_ (f := 16) Tryd.func16 (by kernel_rfl) rfl #[.slice A19 _ c19, .slice A20 _ c20] (by rfl) rfl rfl (by (try simp only [List.map_toArray, List.map_cons, List.map_nil]); first | done | rfl) ?_
                  have hC := same_n HP20.out HO20.out (by rw [← map_seen, List.length_map]; have := seen_len xs' y; have := HL2.out; have := HXL.out; omega) (map_seen xs' y)
                  with_reducible refine Calls.mono hC ?_
                  rintro e w21 ⟨rfl, nd, rfl⟩
                  have hb : Below w20.heap.size w20 (w20.drewN nd) := pw_below_drewN (Below.refl _ _) nd
                  have HA21 := aM (HA20.out.below hb)
                  have HM21 := aM (bB HM20.out hb)
                  have HR21 := aM (Kd.R_below HR20.out hb)
                  have HB21 := aM (bP HB20.out hb)
                  have HH21 := aM (bP HH20.out hb)
                  clear hb
                  generalize w20.drewN nd = w21 at *
                  clear HO20 HP20
                  clear HA20 HM20 HR20 HB20 HH20
                  refine ⟨_, rfl, hK.out _ _ (⟨(bC HM21.out 0).trans rfl, (bC HM21.out 1).trans rfl, (bC HM21.out 2).trans rfl⟩) (fun hHeld => ?_)⟩
                  clear hK K hC
                  refine norm_ (a' := ?_) ?_ ?_
                  rotate_left
                  · show Act.put _ (some 106) _ = _
                    simp only [Act.put, List.setIfInBounds_toArray, List.set_cons_zero, List.set_cons_succ]
                    rfl
                  refine sv 8 107 #[tT,tT,tT,tT,tT,tT,tT,tT,tT,tF,tF,tF,tF,tF,tF,tF,tF,tF] ?_
                  refine sv 9 108 #[tT,tT,tT,tT,tT,tT,tT,tT,tT,tT,tF,tF,tF,tF,tF,tF,tF,tF] ?_
                  refine sv 10 109 #[tT,tT,tT,tT,tT,tT,tT,tT,tT,tT,tT,tF,tF,tF,tF,tF,tF,tF] ?_
                  refine sv 11 110 #[tT,tT,tT,tT,tT,tT,tT,tT,tT,tT,tT,tT,tF,tF,tF,tF,tF,tF] ?_
                  refine st 13 112 #[tT,tT,tT,tT,tT,tT,tT,tT,tT,tT,tT,tT,tF,tT,tF,tF,tF,tF] hHeld ?_
                  refine sv 14 113 #[tT,tT,tT,tT,tT,tT,tT,tT,tT,tT,tT,tT,tF,tT,tT,tF,tF,tF] ?_
                  refine one_ (i := 12) (N := some 111) #[tT,tT,tT,tT,tT,tT,tT,tT,tT,tT,tT,tT,tT,tT,tT,tF,tF,tF] rfl rfl (by kernel_rfl) (by decide) (fun K hK => ?_)
                  refine goes_ (f := 21) Tryd.func21 (by kernel_rfl) rfl #[.pointer (some ⟨g, 0, none⟩), .int .u64 y] (by rfl) rfl rfl (by (try simp only [List.map_toArray, List.map_cons, List.map_nil]); first | done | rfl) ?_
                  have hC := room_E HA21.out y HY.out
                  with_reducible refine Calls.mono hC ?_
                  rintro e w22 ⟨rfl, hw⟩
                  subst w22
                  refine ⟨_, rfl, hK.out _ _ (⟨(bC HM21.out 0).trans rfl, (bC HM21.out 1).trans rfl, (bC HM21.out 2).trans rfl⟩) (fun hHeld => ?_)⟩
                  clear hK K hC
                  refine norm_ (a' := ?_) ?_ ?_
                  rotate_left
                  · show Act.put _ (some 111) _ = _
                    simp only [Act.put, List.setIfInBounds_toArray, List.set_cons_zero, List.set_cons_succ]
                    rfl
                  refine one_ (i := 15) (N := some 114) #[tT,tT,tT,tT,tT,tT,tT,tT,tT,tT,tT,tT,tT,tT,tT,tT,tF,tF] rfl rfl (by kernel_rfl) (by decide) (fun K hK => ?_)
                  refine goes_ (f := 22) Tryd.func22 (by kernel_rfl) rfl #[.agg #[.slice A4 n4 c4, .slice A0 l0.length c0, .int .i64 q], .int .u64 y] (by rfl) rfl rfl (by (try simp only [List.map_toArray, List.map_cons, List.map_nil]); first | done | rfl) ?_
                  have hC := rroom_n HT2.out HR21.out (cB_ HR0.out HB21.out) HC0.out y (by have := HL2.out; have := HXL.out; omega) (by have := HQ.out; omega) HQ.out.2.1 HQ.out.2.2
                  with_reducible refine Calls.mono hC ?_
                  rintro e w23 ⟨rfl, hb⟩
                  have HA23 := aM (HA21.out.below hb)
                  have HM23 := aM (bB HM21.out hb)
                  have HR23 := aM (Kd.R_below HR21.out hb)
                  have HB23 := aM (bP HB21.out hb)
                  have HH23 := aM (bP HH21.out hb)
                  clear hb
                  clear HA21 HM21 HR21 HB21 HH21
                  refine ⟨_, rfl, hK.out _ _ (⟨(bC HM23.out 0).trans rfl, (bC HM23.out 1).trans rfl, (bC HM23.out 2).trans rfl⟩) (fun hHeld => ?_)⟩
                  clear hK K hC
                  refine norm_ (a' := ?_) ?_ ?_
                  rotate_left
                  · show Act.put _ (some 114) _ = _
                    simp only [Act.put, List.setIfInBounds_toArray, List.set_cons_zero, List.set_cons_succ]
                    rfl
                  refine sv 16 115 #[tT,tT,tT,tT,tT,tT,tT,tT,tT,tT,tT,tT,tT,tT,tT,tT,tT,tF] ?_
                  refine sv 17 116 #[tT,tT,tT,tT,tT,tT,tT,tT,tT,tT,tT,tT,tT,tT,tT,tT,tT,tT] ?_
                  refine done_ (by kernel_rfl) ?_
                  clear hHeld
                  go_wp2
                  go_roundg k3
                  case measure => have := HJ.out; omega
                  case rel => exact ⟨j + 1, by rw [w1n HCJ.out (by have := HLS.out.1; omega)], ⟨by have := HCJ.out; omega, by have := HJ.out; omega⟩, HH23⟩
              · obtain rfl : j = LS.length := by omega
                have cjb : decide ((LS.length : Int) < (LS.length : Int)) = false := decide_eq_false (by omega)
                go_wp2
                have c1d := of_decide_eq_true c1b
                have c2d := of_decide_eq_true c2b
                go_roundg k2
                case measure => omega
                case rel => exact ⟨i + 1, D', xs', v6, A4, n4, c4, by rw [w1n (n := 1000) (by omega) (by decide)], ⟨by omega, by have := HI.out; omega⟩, ⟨HL2.out, by omega⟩, ⟨HA14.out.below HH.out⟩, HT2, HF2, ⟨bB HM14.out HH.out⟩, ⟨Kd.R_below HR14.out HH.out⟩, ⟨bP HB14.out HH.out⟩⟩
      · have c1b : decide ((i : Int) < (l2.length : Int)) = true := decide_eq_true (by omega)
        have c2b : decide ((i : Int) < 60) = false := decide_eq_false (by omega)
        go_wp2
        go_ret
        exact ⟨rfl, HB.out⟩
    · have c1b : decide ((i : Int) < (l2.length : Int)) = false := decide_eq_false (by omega)
      go_wp2
      go_ret
      exact ⟨rfl, HB.out⟩
end Go.Proofs.YtcbiilbmldinhaaDoor.PB
end

section
namespace Go.Proofs.YtcbiilbmldinhaaDoor.Opn
open Go.ChangeShapes Go.WideShapes Go.Deep Go.Proofs.YtcbiilbmldinhaaDoorW.PrintWords
set_option linter.unusedVariables false
def Opn {α : Type} (P : Program) (w : World) (t : TypeId) (d : Kd α) (wf : α → Prop) : Prop :=
  ∀ (H : Type) (enc : TypeId × Value → H) (base : Nat) (spare : Nat → Bool) (held : Bool) (fuel : Nat) (cs : List Value) (x : DataW H × List MemPlace),
    DataW.trod enc P w base spare held fuel t cs = some x → (∀ n ∈ x.1.weights P t, n ≤ reachBytes) → ∃ a : α, d.K w a cs ∧ wf a
section
variable {P : Program} {w : World}
theorem int {t : TypeId} {k : IntKind} (hu : P.underlying t = some (.int k)) : Opn P w t (Kd.int k) (fun n => (Lit.int k n).wf = true) := by
  intro H enc base spare held fuel cs x h _
  obtain ⟨n, rfl, _, hw⟩ := DataW.trod_int hu h
  exact ⟨n, rfl, hw⟩
theorem bool {t : TypeId} (hu : P.underlying t = some .bool) : Opn P w t Kd.bool (fun _ => True) := by
  intro H enc base spare held fuel cs x h _
  obtain ⟨b, rfl, _⟩ := DataW.trod_bool hu h
  exact ⟨b, rfl, trivial⟩
theorem string {t : TypeId} (hu : P.underlying t = some .string) : Opn P w t Kd.string (fun s => s.size ≤ 140737488351232) := by
  intro H enc base spare held fuel cs x h hz
  obtain ⟨s, rfl, rfl, _⟩ := DataW.trod_string hu h
  refine ⟨s, rfl, ?_⟩
  have := hz s.data.toList.length (by simp [DataW.weights])
  rw [data_length] at this
  exact this
theorem weightsAll_mem {H : Type} {e : TypeId} : ∀ {ds : List (DataW H)} {d : DataW H}, d ∈ ds → ∀ n ∈ d.weights P e, n ∈ DataW.weightsAll P e ds
  | d0 :: ds, d, hd, n, hn => by
    simp only [DataW.weightsAll, List.mem_append]
    rcases List.mem_cons.1 hd with rfl | hd
    · exact .inl hn
    · exact .inr (weightsAll_mem hd n hn)
theorem slice {α : Type} {t e : TypeId} {d : Kd α} {wf : α → Prop} (hu : P.underlying t = some (.slice e)) (hc : P.cellsOf e = d.sz) {B : Nat} (hB : P.bytesOf e = B) (ho : Opn P w e d wf) :
    Opn P w t (Kd.slice e d) (fun xs => xs.length * B ≤ 140737488351232 ∧ ∀ x ∈ xs, wf x) := by
  intro H enc base spare held fuel cs x h hz
  rcases open_slice hu h with ⟨rfl, rfl⟩ | ⟨a, len, cap, m, n, D, Pl, rfl, hb, hl, hm, hmm, rfl, hel⟩
  · exact ⟨[], ⟨none, 0, rfl, Nat.le_refl _, Kd.C_nil _ _⟩, by simp, by intro x hx; cases hx⟩
  · simp only [DataW.weights, hu, List.mem_cons, List.mem_append] at hz
    have hlm : len ≤ m := by rw [hmm]; split <;> omega
    have hall : ∀ i, i < len → ∃ a' : α, (∃ cs', w.cells? base (a.add (i * P.cellsOf e)) (P.cellsOf e) = some cs' ∧ d.K w a' cs') ∧ wf a' := fun i hi => by
      obtain ⟨cs', h1, h2⟩ := hel i (by omega)
      obtain ⟨a', h3, h4⟩ := ho H enc base spare held n cs' _ h2 (fun q hq => hz q (.inr (.inl (weightsAll_mem (List.mem_map.2 ⟨i, List.mem_range.2 hi, rfl⟩) q hq))))
      exact ⟨a', ⟨cs', h1, h3⟩, h4⟩
    obtain ⟨xs, hxs, hx⟩ : ∃ xs : List α, xs.length = len ∧ ∀ i, ∀ h : i < xs.length, (∃ cs', w.cells? base (a.add (i * P.cellsOf e)) (P.cellsOf e) = some cs' ∧ d.K w xs[i] cs') ∧ wf xs[i] := by
      clear hz hel hlm hmm hm hl h
      induction len with
      | zero => exact ⟨[], rfl, fun i h => absurd h (by simp)⟩
      | succ q ih =>
        obtain ⟨xs, h1, h2⟩ := ih (fun i hi => hall i (by omega))
        obtain ⟨a', h3⟩ := hall q (by omega)
        refine ⟨xs ++ [a'], by simp [h1], fun i h => ?_⟩
        by_cases hi : i < xs.length
        · rw [List.getElem_append_left hi]; exact h2 i hi
        · have : i = q := by simp at h; omega
          subst this
          rw [List.getElem_append_right (by omega)]
          simpa using h3
    refine ⟨xs, ⟨some a, cap, by rw [hxs], by omega, rfl, by have : cap ≤ 9223372036854775807 := hm; omega, fun hp => ⟨a, rfl, fun i p hp => ?_⟩⟩, ?_, ?_⟩
    · have hi : i < xs.length := (List.getElem?_eq_some_iff.1 hp).1
      have hpe : p = xs[i] := by rw [List.getElem?_eq_getElem hi] at hp; exact (Option.some.inj hp).symm
      obtain ⟨⟨cs', h1, h2⟩, _⟩ := hx i hi
      rw [hc] at h1
      obtain ⟨_, hcl, hat⟩ := World.cells?_some h1
      refine ⟨cs', by rw [hcl], by rw [hpe]; exact h2, fun j u hu => ?_⟩
      have hj : j < d.sz := by have := (List.getElem?_eq_some_iff.1 hu).1; omega
      have := hat j hj
      rw [← Go.Deep.add_add, this, hu]
    · have := hz _ (.inl rfl)
      rw [hB] at this
      simp only [List.length_map, List.length_range] at this
      rw [hxs]
      exact Nat.le_trans (Nat.mul_le_mul_right _ (by omega)) this
    · intro x hxm
      obtain ⟨i, hi, rfl⟩ := List.mem_iff_getElem.1 hxm
      exact (hx i hi).2
end
end Go.Proofs.YtcbiilbmldinhaaDoor.Opn
end

section
namespace Go.Proofs.YtcbiilbmldinhaaDoor.PB
open Go.ChangeShapes Go.WideShapes Go.Proofs.YtcbiilbmldinhaaDoor Go.Proofs.YtcbiilbmldinhaaDoorW.PrintWords
set_option linter.unusedVariables false
def wf38 (x : S38) : Prop := ((Lit.int .u64 x.f0).wf = true) ∧ ((Lit.int .i64 x.f1).wf = true) ∧ ((Lit.int .i64 x.f2).wf = true) ∧ ((Lit.int .i64 x.f3).wf = true) ∧ ((Lit.int .i64 x.f4).wf = true)
theorem opn38 {w : World} : Opn.Opn Tryd.prog w 38 k38 wf38 := by
  intro H enc base spare held fuel cs x h hz
  obtain ⟨xs, n, _, rfl, hlen, hyl, hf⟩ := DataW.trod_struct Tryd.underlying38 h
  have hcl : cs.length = 5 := hlen.trans (by kernel_rfl)
  obtain ⟨y0, y1, y2, y3, y4, rfl⟩ : ∃ y0 y1 y2 y3 y4, xs = [y0, y1, y2, y3, y4] := by
    clear h hz hf hlen hcl; have hyl' : xs.length = 5 := hyl; clear hyl
    match xs, hyl' with | [y0, y1, y2, y3, y4], _ => exact ⟨y0, y1, y2, y3, y4, rfl⟩
  obtain ⟨c0, c1, c2, c3, c4, rfl⟩ : ∃ c0 c1 c2 c3 c4, cs = [c0, c1, c2, c3, c4] := by
    clear h hz hf hlen hyl
    match cs, hcl with | [c0, c1, c2, c3, c4], _ => exact ⟨c0, c1, c2, c3, c4, rfl⟩
  simp only [DataW.weights, Tryd.underlying38] at hz
  have h0 : DataW.trod enc Tryd.prog w base spare held n 34 [c0] = some y0 := by have z := hf 0 _ rfl; rwa [show Tryd.prog.cellsOf _ = 1 from by kernel_rfl] at z
  obtain ⟨a0, k0_, w0⟩ := (Opn.int Tryd.underlying34) H enc base spare held n _ _ h0 (fun q hq => hz q (by simp [DataW.weightsEach, hq]))
  have h1 : DataW.trod enc Tryd.prog w base spare held n 3 [c1] = some y1 := by have z := hf 1 _ rfl; rwa [show Tryd.prog.cellsOf _ = 1 from by kernel_rfl] at z
  obtain ⟨a1, k1_, w1⟩ := (Opn.int Tryd.underlying3) H enc base spare held n _ _ h1 (fun q hq => hz q (by simp [DataW.weightsEach, hq]))
  have h2 : DataW.trod enc Tryd.prog w base spare held n 3 [c2] = some y2 := by have z := hf 2 _ rfl; rwa [show Tryd.prog.cellsOf _ = 1 from by kernel_rfl] at z
  obtain ⟨a2, k2_, w2⟩ := (Opn.int Tryd.underlying3) H enc base spare held n _ _ h2 (fun q hq => hz q (by simp [DataW.weightsEach, hq]))
  have h3 : DataW.trod enc Tryd.prog w base spare held n 3 [c3] = some y3 := by have z := hf 3 _ rfl; rwa [show Tryd.prog.cellsOf _ = 1 from by kernel_rfl] at z
  obtain ⟨a3, k3_, w3⟩ := (Opn.int Tryd.underlying3) H enc base spare held n _ _ h3 (fun q hq => hz q (by simp [DataW.weightsEach, hq]))
  have h4 : DataW.trod enc Tryd.prog w base spare held n 3 [c4] = some y4 := by have z := hf 4 _ rfl; rwa [show Tryd.prog.cellsOf _ = 1 from by kernel_rfl] at z
  obtain ⟨a4, k4_, w4⟩ := (Opn.int Tryd.underlying3) H enc base spare held n _ _ h4 (fun q hq => hz q (by simp [DataW.weightsEach, hq]))
  exact ⟨⟨a0, a1, a2, a3, a4⟩, ⟨_, _, rfl, k0_, ⟨_, _, rfl, k1_, ⟨_, _, rfl, k2_, ⟨_, _, rfl, k3_, k4_⟩⟩⟩⟩, w0, w1, w2, w3, w4⟩
end Go.Proofs.YtcbiilbmldinhaaDoor.PB
end

section
namespace Go.Proofs.YtcbiilbmldinhaaDoor.PB
open Go.RowKit Go.Proofs.YtcbiilbmldinhaaDoorW.PrintWords
set_option linter.unusedVariables false
theorem AuditActs_pure (l0 : List Int) (a1 : Int) (l2 : List S38) (w0 : l0.length * 8 ≤ 140737488351232 ∧ ∀ x_ ∈ l0, (Lit.int .u64 x_).wf = true) (w1 : (Lit.int .i64 a1).wf = true) (w2 : l2.length * 40 ≤ 140737488351232 ∧ ∀ x_ ∈ l2, wf38 x_) : ∃ k, bureaulaw18_AuditActs.f k l0 a1 l2 = some true :=
  ⟨0, if_pos ⟨w0.2, fun x hx => (w2.2 x hx).1⟩⟩
end Go.Proofs.YtcbiilbmldinhaaDoor.PB
end

section
namespace Go.Proofs.YtcbiilbmldinhaaDoor.PB
open Go.ChangeShapes Go.WideShapes Go.ChangeAt Go.RowKit Go.Proofs.YtcbiilbmldinhaaDoorW.PrintWords
open Go.ChangeMaps (open_string shut_string)
set_option linter.unusedVariables false
namespace auditActs
open Go.Proofs.YtcbiilbmldinhaaDoor
theorem own : ownKnob Tryd.prog.godebug = none := by kernel_rfl
theorem laidOut : laidOutB Tryd.prog = true := by kernel_rfl
theorem door_met (os : Os) (args : Array Value) : laidMetH Tryd.prog Rows.auditActsRow.laid ((World.doorLaid Tryd.prog 400 os).forCall (fun _ _ => 0) ⟨#[], args, []⟩).memory :=
  laidMetH_of_parts3 (fuel := 8) (laidMet_of_run' 8 (by kernel_rfl) (by kernel_rfl)) (by kernel_rfl) (by kernel_rfl)
set_option maxRecDepth 100000 in
theorem lifted (os : Os) (started : os.Started) (H : Type) (enc : TypeId × Value → H) :
    ReturnsInHanded {} Tryd.checked os 3 .any (fun w args => (Rows.auditActsSpec.pre enc Tryd.prog Tryd.f3 [] false w args ∧ laidMetH Tryd.prog Rows.auditActsRow.laid w) ∧ sizedMet enc Tryd.prog Tryd.f3 (OpenSpec.ofChange Rows.auditActsSpec) false w args) (Rows.auditActsSpec.post enc Tryd.prog Tryd.f3 false true false false) := by
  refine returnsInHanded_of_change_and (C := Tryd.checked) (X := fun w _ => laidMetH Tryd.prog Rows.auditActsRow.laid w) (fun _ _ _ hh h => h.of_heap hh) own started (by kernel_rfl) Tryd.func3
    (ChangeSpec.witness_shaped (enc := enc) (C := Tryd.checked) (os := os) (X := fun w _ => laidMetH Tryd.prog Rows.auditActsRow.laid w) false (World.doorLaid Tryd.prog 400 os) #[.slice none 0 0, .int .i64 0, .slice none 0 0] 8 rfl (World.shaped_of_RefB (by kernel_rfl) (by kernel_rfl)) (by kernel_rfl) (by kernel_rfl) (by kernel_rfl) (door_met os _)) ?_
  intro W base args ds gs before hval0 hW hcnd hsz0 _ _
  have hsz : (DataW.weightsEach Tryd.prog (Tryd.f3.params.toList ++ Rows.auditActsSpec.plain.varTypes Tryd.prog) (ds ++ gs)).all (· ≤ reachBytes) = true := hsz0
  have hval : ∀ (j : Nat) t v, Tryd.f3.params[j]? = some t → args[j]? = some v → Value.okWide Tryd.prog W .any base t v := hval0
  have hW' := hW
  obtain ⟨p, q, hA0, hV, rfl, hfz, hnd⟩ := hW
  have hA : DataW.TrodAll enc Tryd.prog W 0 (fun _ => true) true Tryd.f3.params.toList args.toList ds p := hA0
  rw [Tryd.params3] at hA hval hsz
  obtain ⟨v0, vs0, d0, ds0, p0, q0, hargs, rfl, rfl, h0, r0⟩ := trodAll_cons hA
  obtain ⟨v1, vs1, d1, ds1, p1, q1, rfl, rfl, rfl, h1, r1⟩ := trodAll_cons r0
  obtain ⟨v2, vs2, d2, ds2, p2, q2, rfl, rfl, rfl, h2, r2⟩ := trodAll_cons r1
  obtain ⟨rfl, rfl, rfl⟩ := trodAll_nil r2
  obtain rfl : args = #[v0, v1, v2] := by cases args; simp_all
  obtain ⟨rfl, rfl⟩ := trodVars_none hV
  have hz0 : ∀ n ∈ d0.weights Tryd.prog 22, n ≤ reachBytes := fun n hn => by have z := List.all_eq_true.1 hsz n (DataW.weights_mem_each (j := 0) rfl rfl n hn); simpa using z
  have kk0 := h0
  have lt0 : ∀ x ∈ p0, x.block < W.heap.size := by obtain ⟨m, hm⟩ := kk0; exact DataW.trod_lt m _ _ _ hm
  obtain ⟨A0, len0, c0, rfl⟩ := okWide_slice Tryd.underlying22 (hval 0 22 v0 rfl rfl)
  obtain ⟨l0, A0', c0', hcs0, hc0, hr0, w0⟩ : ∃ (l : List Int) (A' : Option Addr) (c' : Nat), (Value.slice A0 len0 c0).cells.toList = [.slice A' l.length c'] ∧ l.length ≤ c' ∧ Kd.C (Kd.int .u64) W A' l.length l ∧ (l.length * 8 ≤ 140737488351232 ∧ ∀ x_ ∈ l, (Lit.int .u64 x_).wf = true) := by
    obtain ⟨fuel, hf⟩ := h0
    obtain ⟨l, ⟨A', c', h1, h2, h3⟩, h4⟩ := (Opn.slice Tryd.underlying22 (by kernel_rfl) (by kernel_rfl : Tryd.prog.bytesOf 34 = 8) (Opn.int Tryd.underlying34)) H enc _ _ _ fuel _ _ hf hz0
    exact ⟨l, A', c', h1, h2, h3, h4⟩
  simp only [Value.cells, List.cons.injEq, Value.slice.injEq, and_true] at hcs0
  obtain ⟨rfl, rfl, rfl⟩ := hcs0
  obtain ⟨a1, rfl, rfl, rfl, w1⟩ := open_int Tryd.underlying3 (hval 1 3 v1 rfl rfl) h1
  have hz2 : ∀ n ∈ d2.weights Tryd.prog 23, n ≤ reachBytes := fun n hn => by have z := List.all_eq_true.1 hsz n (DataW.weights_mem_each (j := 2) rfl rfl n hn); simpa using z
  have kk2 := h2
  have lt2 : ∀ x ∈ p2, x.block < W.heap.size := by obtain ⟨m, hm⟩ := kk2; exact DataW.trod_lt m _ _ _ hm
  obtain ⟨A2, len2, c2, rfl⟩ := okWide_slice Tryd.underlying23 (hval 2 23 v2 rfl rfl)
  obtain ⟨l2, A2', c2', hcs2, hc2, hr2, w2⟩ : ∃ (l : List S38) (A' : Option Addr) (c' : Nat), (Value.slice A2 len2 c2).cells.toList = [.slice A' l.length c'] ∧ l.length ≤ c' ∧ Kd.C k38 W A' l.length l ∧ (l.length * 40 ≤ 140737488351232 ∧ ∀ x_ ∈ l, wf38 x_) := by
    obtain ⟨fuel, hf⟩ := h2
    obtain ⟨l, ⟨A', c', h1, h2, h3⟩, h4⟩ := (Opn.slice Tryd.underlying23 (by kernel_rfl) (by kernel_rfl : Tryd.prog.bytesOf 38 = 40) opn38) H enc _ _ _ fuel _ _ hf hz2
    exact ⟨l, A', c', h1, h2, h3, h4⟩
  simp only [Value.cells, List.cons.injEq, Value.slice.injEq, and_true] at hcs2
  obtain ⟨rfl, rfl, rfl⟩ := hcs2
  clear hA0 hval0 hsz0 hsz
  obtain ⟨k, hk⟩ := AuditActs_pure l0 a1 l2 w0 w1 w2
  refine (bureaulaw18_AuditActs.calls k _ _ l0 a1 _ _ l2 true W hr0 hc0 hr2 hc2 hk).mono fun e W' ⟨he, bel⟩ => ?_
  subst he
  exact ⟨_, rfl, _, _, _, [], _, [], hW', trodAll_mk1 (shut_bool Tryd.underlying4 _), (trodAll_cons_mk (Below.trod laidOut (by kernel_rfl) (of_decide_eq_true (by kernel_rfl)) kk0 bel lt0) (trodAll_cons_mk (shut_int Tryd.underlying3 w1) (trodAll_cons_mk (Below.trod laidOut (by kernel_rfl) (of_decide_eq_true (by kernel_rfl)) kk2 bel lt2) trodAll_mk0))), rfl, bel.frame _, fun h => by cases h⟩
theorem over : Rows.auditActsRow.holds Tryd.pinned (OpenSpec.ofChange Rows.auditActsSpec) :=
  OpenClaim.holds_of_wide 3 Tryd.f3 rfl rfl rfl rfl rfl rfl rfl ⟨rfl, rfl, rfl, rfl, rfl⟩ rfl rfl rfl rfl rfl (by kernel_rfl) Tryd.func3 (by kernel_rfl)
    (of_decide_eq_true (by kernel_rfl)) (by unfold Func.isWrapper; first | (rw [if_pos (by decide +kernel)]; kernel_rfl) | (rw [if_neg (by decide +kernel)]; exact ⟨rfl, rfl⟩))
    (fun os started H enc _ => lifted os started H enc)
theorem proved : Rows.AuditActsSaid := over
end auditActs
end Go.Proofs.YtcbiilbmldinhaaDoor.PB
namespace Go.Proofs.YtcbiilbmldinhaaDoor
theorem auditActs_holds : Rows.AuditActsSaid := PB.auditActs.proved
theorem auditActs_card : Rows.AuditActsCardSaid :=
  Claim7.holds_tied_plain_at .later [] [.data, .data, .data] true (true, "8468b460f20b78c7c63af62b12d0e325294c5ee833165461167e575c1ad1b535") true
    auditActs_holds (fun _ h => by cases h) (by kernel_rfl) (fun _ h => by cases h) auditActs_row_tie rfl ⟨rfl, rfl⟩ (by kernel_rfl) rfl
    (fun f fn hf hfn => by
      obtain rfl : f = 3 := Option.some.inj ((show Tryd.prog.funcNamed Rows.auditActsRow.func = some 3 by kernel_rfl).symm.trans hf) |>.symm
      obtain rfl : fn = Tryd.f3 := (Option.some.inj (Tryd.func3.symm.trans hfn)).symm
      exact ⟨by kernel_rfl, fun j t ht => by
        rw [Tryd.params3] at ht
        have hm : t ∈ [22, 3, 23] := by simpa using Array.mem_of_getElem? ht
        have hall : ([22, 3, 23].all fun u => !Tryd.prog.wantsStandIn u) = true := by kernel_rfl
        exact (show Tryd.prog.wantsStandIn t = false by simpa using List.all_eq_true.1 hall t hm)⟩)
    (by kernel_rfl)
#print axioms auditActs_card
end Go.Proofs.YtcbiilbmldinhaaDoor
end
