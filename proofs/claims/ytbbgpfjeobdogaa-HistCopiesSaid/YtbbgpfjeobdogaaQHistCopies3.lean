/- What the row hangs on, part 3. -/
import Derived.Test.YtbbgpfjeobdogaaQHistCopies2
section
namespace Go.Proofs.Ytbbgpfjeobdogaa.PB
open Go.ChangeShapes Go.WideShapes Go.Proofs.Ytbbgpfjeobdogaa Go.Proofs.YtbbgpfjeobdogaaW.PrintWords
set_option linter.unusedVariables false
def wf71 (x : S71) : Prop := ((Lit.int .u64 x.f0).wf = true) ∧ ((Lit.int .i64 x.f1).wf = true)
theorem opn71 {w : World} : Opn.Opn Try.prog w 71 k71 wf71 := by
  intro H enc base spare held fuel cs x h hz
  obtain ⟨xs, n, _, rfl, hlen, hyl, hf⟩ := DataW.trod_struct Try.underlying71 h
  have hcl : cs.length = 2 := hlen.trans (by kernel_rfl)
  obtain ⟨y0, y1, rfl⟩ : ∃ y0 y1, xs = [y0, y1] := by
    clear h hz hf hlen hcl; have hyl' : xs.length = 2 := hyl; clear hyl
    match xs, hyl' with | [y0, y1], _ => exact ⟨y0, y1, rfl⟩
  obtain ⟨c0, c1, rfl⟩ : ∃ c0 c1, cs = [c0, c1] := by
    clear h hz hf hlen hyl
    match cs, hcl with | [c0, c1], _ => exact ⟨c0, c1, rfl⟩
  simp only [DataW.weights, Try.underlying71] at hz
  have h0 : DataW.trod enc Try.prog w base spare held n 69 [c0] = some y0 := by have z := hf 0 _ rfl; rwa [show Try.prog.cellsOf _ = 1 from by kernel_rfl] at z
  obtain ⟨a0, k0_, w0⟩ := (Opn.int Try.underlying69) H enc base spare held n _ _ h0 (fun q hq => hz q (by simp [DataW.weightsEach, hq]))
  have h1 : DataW.trod enc Try.prog w base spare held n 3 [c1] = some y1 := by have z := hf 1 _ rfl; rwa [show Try.prog.cellsOf _ = 1 from by kernel_rfl] at z
  obtain ⟨a1, k1_, w1⟩ := (Opn.int Try.underlying3) H enc base spare held n _ _ h1 (fun q hq => hz q (by simp [DataW.weightsEach, hq]))
  exact ⟨⟨a0, a1⟩, ⟨_, _, rfl, k0_, k1_⟩, w0, w1⟩
def wf32 (x : S32) : Prop := (x.f0.size ≤ 140737488351232) ∧ (x.f1.length * 16 ≤ 140737488351232 ∧ ∀ x_ ∈ x.f1, wf71 x_)
theorem opn32 {w : World} : Opn.Opn Try.prog w 32 k32 wf32 := by
  intro H enc base spare held fuel cs x h hz
  obtain ⟨xs, n, _, rfl, hlen, hyl, hf⟩ := DataW.trod_struct Try.underlying32 h
  have hcl : cs.length = 2 := hlen.trans (by kernel_rfl)
  obtain ⟨y0, y1, rfl⟩ : ∃ y0 y1, xs = [y0, y1] := by
    clear h hz hf hlen hcl; have hyl' : xs.length = 2 := hyl; clear hyl
    match xs, hyl' with | [y0, y1], _ => exact ⟨y0, y1, rfl⟩
  obtain ⟨c0, c1, rfl⟩ : ∃ c0 c1, cs = [c0, c1] := by
    clear h hz hf hlen hyl
    match cs, hcl with | [c0, c1], _ => exact ⟨c0, c1, rfl⟩
  simp only [DataW.weights, Try.underlying32] at hz
  have h0 : DataW.trod enc Try.prog w base spare held n 9 [c0] = some y0 := by have z := hf 0 _ rfl; rwa [show Try.prog.cellsOf _ = 1 from by kernel_rfl] at z
  obtain ⟨a0, k0_, w0⟩ := (Opn.string Try.underlying9) H enc base spare held n _ _ h0 (fun q hq => hz q (by simp [DataW.weightsEach, hq]))
  have h1 : DataW.trod enc Try.prog w base spare held n 30 [c1] = some y1 := by have z := hf 1 _ rfl; rwa [show Try.prog.cellsOf _ = 1 from by kernel_rfl] at z
  obtain ⟨a1, k1_, w1⟩ := (Opn.slice Try.underlying30 (by kernel_rfl) (by kernel_rfl : Try.prog.bytesOf 71 = 16) opn71) H enc base spare held n _ _ h1 (fun q hq => hz q (by simp [DataW.weightsEach, hq]))
  exact ⟨⟨a0, a1⟩, ⟨_, _, rfl, k0_, k1_⟩, w0, w1⟩
def wf34 (x : S34) : Prop := ((Lit.int .i64 x.f0).wf = true) ∧ (wf32 x.f1) ∧ (wf32 x.f2)
theorem opn34 {w : World} : Opn.Opn Try.prog w 34 k34 wf34 := by
  intro H enc base spare held fuel cs x h hz
  obtain ⟨xs, n, _, rfl, hlen, hyl, hf⟩ := DataW.trod_struct Try.underlying34 h
  have hcl : cs.length = 5 := hlen.trans (by kernel_rfl)
  obtain ⟨y0, y1, y2, rfl⟩ : ∃ y0 y1 y2, xs = [y0, y1, y2] := by
    clear h hz hf hlen hcl; have hyl' : xs.length = 3 := hyl; clear hyl
    match xs, hyl' with | [y0, y1, y2], _ => exact ⟨y0, y1, y2, rfl⟩
  obtain ⟨c0, c1, c2, c3, c4, rfl⟩ : ∃ c0 c1 c2 c3 c4, cs = [c0, c1, c2, c3, c4] := by
    clear h hz hf hlen hyl
    match cs, hcl with | [c0, c1, c2, c3, c4], _ => exact ⟨c0, c1, c2, c3, c4, rfl⟩
  simp only [DataW.weights, Try.underlying34] at hz
  have h0 : DataW.trod enc Try.prog w base spare held n 3 [c0] = some y0 := by have z := hf 0 _ rfl; rwa [show Try.prog.cellsOf _ = 1 from by kernel_rfl] at z
  obtain ⟨a0, k0_, w0⟩ := (Opn.int Try.underlying3) H enc base spare held n _ _ h0 (fun q hq => hz q (by simp [DataW.weightsEach, hq]))
  have h1 : DataW.trod enc Try.prog w base spare held n 32 [c1, c2] = some y1 := by have z := hf 1 _ rfl; rwa [show Try.prog.cellsOf _ = 2 from by kernel_rfl] at z
  obtain ⟨a1, k1_, w1⟩ := opn32 H enc base spare held n _ _ h1 (fun q hq => hz q (by simp [DataW.weightsEach, hq]))
  have h2 : DataW.trod enc Try.prog w base spare held n 32 [c3, c4] = some y2 := by have z := hf 2 _ rfl; rwa [show Try.prog.cellsOf _ = 2 from by kernel_rfl] at z
  obtain ⟨a2, k2_, w2⟩ := opn32 H enc base spare held n _ _ h2 (fun q hq => hz q (by simp [DataW.weightsEach, hq]))
  exact ⟨⟨a0, a1, a2⟩, ⟨_, _, rfl, k0_, ⟨_, _, rfl, k1_, k2_⟩⟩, w0, w1, w2⟩
def wf36 (x : S36) : Prop := ((Lit.int .u8 x.f0).wf = true) ∧ (wf34 x.f1) ∧ (True)
theorem opn36 {w : World} : Opn.Opn Try.prog w 36 k36 wf36 := by
  intro H enc base spare held fuel cs x h hz
  obtain ⟨xs, n, _, rfl, hlen, hyl, hf⟩ := DataW.trod_struct Try.underlying36 h
  have hcl : cs.length = 7 := hlen.trans (by kernel_rfl)
  obtain ⟨y0, y1, y2, rfl⟩ : ∃ y0 y1 y2, xs = [y0, y1, y2] := by
    clear h hz hf hlen hcl; have hyl' : xs.length = 3 := hyl; clear hyl
    match xs, hyl' with | [y0, y1, y2], _ => exact ⟨y0, y1, y2, rfl⟩
  obtain ⟨c0, c1, c2, c3, c4, c5, c6, rfl⟩ : ∃ c0 c1 c2 c3 c4 c5 c6, cs = [c0, c1, c2, c3, c4, c5, c6] := by
    clear h hz hf hlen hyl
    match cs, hcl with | [c0, c1, c2, c3, c4, c5, c6], _ => exact ⟨c0, c1, c2, c3, c4, c5, c6, rfl⟩
  simp only [DataW.weights, Try.underlying36] at hz
  have h0 : DataW.trod enc Try.prog w base spare held n 5 [c0] = some y0 := by have z := hf 0 _ rfl; rwa [show Try.prog.cellsOf _ = 1 from by kernel_rfl] at z
  obtain ⟨a0, k0_, w0⟩ := (Opn.int Try.underlying5) H enc base spare held n _ _ h0 (fun q hq => hz q (by simp [DataW.weightsEach, hq]))
  have h1 : DataW.trod enc Try.prog w base spare held n 34 [c1, c2, c3, c4, c5] = some y1 := by have z := hf 1 _ rfl; rwa [show Try.prog.cellsOf _ = 5 from by kernel_rfl] at z
  obtain ⟨a1, k1_, w1⟩ := opn34 H enc base spare held n _ _ h1 (fun q hq => hz q (by simp [DataW.weightsEach, hq]))
  have h2 : DataW.trod enc Try.prog w base spare held n 4 [c6] = some y2 := by have z := hf 2 _ rfl; rwa [show Try.prog.cellsOf _ = 1 from by kernel_rfl] at z
  obtain ⟨a2, k2_, w2⟩ := (Opn.bool Try.underlying4) H enc base spare held n _ _ h2 (fun q hq => hz q (by simp [DataW.weightsEach, hq]))
  exact ⟨⟨a0, a1, a2⟩, ⟨_, _, rfl, k0_, ⟨_, _, rfl, k1_, k2_⟩⟩, w0, w1, w2⟩
end Go.Proofs.Ytbbgpfjeobdogaa.PB
end

section
namespace Go.Proofs.Ytbbgpfjeobdogaa.PB
open Go.RowKit Go.Proofs.YtbbgpfjeobdogaaW.PrintWords
set_option linter.unusedVariables false
theorem capped_nil : capped 0 [] := fun r hr => by cases hr
theorem gather0 (a b : Nat) (l : List S71) (h0 : ∀ r ∈ l, 0 ≤ r.f1) (hl : (bytes l).length ≤ 500000) (ha : a ≤ 500000) (hb : b ≤ 500000) :
  someTo addRun (a : Int) (b : Int) l 0 [] = pack (((bytes l).take b).drop a) := by
 have := someTo_pack a b l 0 [] 0 h0 capped_nil (by omega) (by omega) (by omega) (by omega) (by omega)
 simpa [pack] using this
theorem good_nrm {l : List S71} (h : good l = true) : nrm l ∧ tot l ≤ 4096 := by
 unfold good at h
 simpa using h
theorem nrm_nonneg {l : List S71} (h : nrm l) : ∀ r ∈ l, 0 ≤ r.f1 := fun r hr => by have := nrm_pos h r hr; omega
theorem step1_len (acc : List S71) (x : Int) : (step1 acc x).length ≤ acc.length + 1 := by
 unfold step1
 split
 ·simp
 ·simp
theorem packTo_len (b : List Int) : ∀ acc : List S71, (packTo acc b).length ≤ acc.length + b.length := by
 induction b with
 | nil => intro acc; simp [packTo]
 | cons x b ih => intro acc; have h1 := ih (step1 acc x); have h2 := step1_len acc x; show (packTo (step1 acc x) b).length ≤ _; rw [List.length_cons]; omega
theorem pack_len (b : List Int) : (pack b).length ≤ b.length := by have := packTo_len b []; simpa [pack] using this
end Go.Proofs.Ytbbgpfjeobdogaa.PB
end

section
namespace Go.Proofs.Ytbbgpfjeobdogaa.PB
open Go.RowKit Go.Proofs.YtbbgpfjeobdogaaW.PrintWords
set_option linter.unusedVariables false
def withinB (l : List S71) (a b : Int) : Bool := good l && (decide (0 ≤ a) && (decide (a ≤ b) && decide (b ≤ tot l)))
theorem withinB_iff {l : List S71} {a b : Int} : withinB l a b = true ↔ good l = true ∧ 0 ≤ a ∧ a ≤ b ∧ b ≤ tot l := by simp [withinB]
theorem within_ev (l : List S71) (hl : l.length ≤ big) (a b : Int) : Ev (fun k => runs_within.f k l a b) (withinB l a b) := by
 unfold runs_within.f
 refine Ev.bind (good_ev l hl) ?_
 by_cases hg : good l = true
 ·refine Ev.pos hg ?_
  by_cases h0 : a ≥ 0
  ·refine Ev.pos h0 ?_
   by_cases h1 : a ≤ b
   ·refine Ev.pos h1 (Ev.bind (total_ev l hl) (ev_val (Ev.now _) ?_))
    simp [withinB, hg, h1, show 0 ≤ a from h0]
   ·exact Ev.neg h1 (ev_val (Ev.now _) (by simp [withinB, h1]))
  ·exact Ev.neg h0 (ev_val (Ev.now _) (by simp [withinB]; intro _ h; omega))
 ·exact Ev.neg hg (ev_val (Ev.now _) (by simp [withinB, hg]))
theorem within_facts {l : List S71} {a b : Int} (h : withinB l a b = true) : ∃ i j : Nat, a = i ∧ b = j ∧ i ≤ j ∧ j ≤ (bytes l).length ∧ (bytes l).length ≤ 4096 ∧ nrm l ∧ tot l = (bytes l).length := by
 obtain ⟨hg, h0, h1, h2⟩ := withinB_iff.1 h
 obtain ⟨hn, ht⟩ := good_nrm hg
 have hb := tot_bytes ht
 obtain ⟨i, rfl⟩ := Int.eq_ofNat_of_zero_le h0
 obtain ⟨j, rfl⟩ := Int.eq_ofNat_of_zero_le (show 0 ≤ b by omega)
 exact ⟨i, j, rfl, rfl, by omega, by omega, by omega, hn, hb⟩
def sliceS (l : List S71) (a b : Int) : List S71 × Int := if withinB l a b = true then (pack (((bytes l).take b.toNat).drop a.toNat), 0) else ([], 2)
theorem slice_ev (l : List S71) (hl : l.length ≤ big) (a b : Int) : Ev (fun k => runs_Slice.f k l a b) (sliceS l a b) := by
 unfold runs_Slice.f sliceS
 refine Ev.bind (within_ev l hl a b) ?_
 refine Ev.ite (fun hw => ?_) (fun _ => Ev.now _)
 obtain ⟨i, j, rfl, rfl, hij, hj, h4, hn, _⟩ := within_facts hw
 unfold big at hl
 refine Ev.pos (by omega) (ev_val (Ev.now _) ?_)
 rw [gather0 i j l (nrm_nonneg hn) (by omega) (by omega) (by omega)]
 rfl
theorem wf_i64 {n : Int} (h : (Lit.int .i64 n).wf = true) : -9223372036854775808 ≤ n ∧ n ≤ 9223372036854775807 := by
 have hmin : IntKind.i64.min = -9223372036854775808 := rfl
 have hmax : IntKind.i64.max = 9223372036854775807 := rfl
 simp only [Lit.wf, Bool.and_eq_true, decide_eq_true_eq, hmin, hmax] at h
 omega
def spliceS (l : List S71) (a b : Int) (m : List S71) : List S71 × Int :=
 if withinB l a b = true then (if good m = true then (if tot l - (b - a) + tot m > 4096 then ([], 3) else (pack ((bytes l).take a.toNat ++ bytes m ++ (bytes l).drop b.toNat), 0)) else ([], 2)) else ([], 2)
theorem good_facts {m : List S71} (h : good m = true) : nrm m ∧ (bytes m).length ≤ 4096 ∧ tot m = (bytes m).length := by
 obtain ⟨hn, ht⟩ := good_nrm h
 have hb := tot_bytes ht
 exact ⟨hn, by omega, hb⟩
theorem spliceRuns_pack (l m : List S71) (i j : Nat) (hi : i ≤ 4096) (hj : j ≤ 4096) (hl : (bytes l).length ≤ 4096) (hm : (bytes m).length ≤ 4096) (hn : nrm l) (hnm : nrm m) :
  spliceRuns l i j m = pack ((bytes l).take i ++ bytes m ++ (bytes l).drop j) := by
 unfold spliceRuns
 have e1 := someTo_pack 0 i l 0 [] 0 (nrm_nonneg hn) capped_nil (by omega) (by omega) (by omega) (by omega) (by omega)
 rw [show ((0 : Nat) : Int) = 0 from rfl, Nat.sub_zero, Nat.sub_zero, List.drop_zero] at e1
 rw [e1]
 have c1 := packTo_capped ((bytes l).take i) (capped_nil) (show (0 : Int) ≤ 0 by omega)
 have hlen1 : ((bytes l).take i).length ≤ 4096 := by rw [List.length_take]; omega
 have e2 := someTo_pack 0 4096 m 0 _ _ (nrm_nonneg hnm) c1 (by omega) (by omega) (by omega) (by omega) (by omega)
 rw [show ((0 : Nat) : Int) = 0 from rfl, show ((4096 : Nat) : Int) = 4096 from rfl, Nat.sub_zero, Nat.sub_zero, List.drop_zero, List.take_of_length_le hm] at e2
 rw [e2]
 have c2 := packTo_capped (bytes m) c1 (by omega)
 have e3 := someTo_pack j 4096 l 0 _ _ (nrm_nonneg hn) c2 (by omega) (by omega) (by omega) (by omega) (by omega)
 rw [show ((0 : Nat) : Int) = 0 from rfl, show ((4096 : Nat) : Int) = 4096 from rfl, Nat.sub_zero, Nat.sub_zero, List.take_of_length_le hl] at e3
 rw [e3]
 unfold pack
 rw [packTo_append, packTo_append]
theorem splice_ev (l : List S71) (hl : l.length ≤ big) (a b : Int) (m : List S71) (hm : m.length ≤ big) : Ev (fun k => runs_Splice.f k l a b m) (spliceS l a b m) := by
 unfold runs_Splice.f spliceS
 refine Ev.bind (within_ev l hl a b) ?_
 refine Ev.ite (fun hw => ?_) (fun _ => Ev.now _)
 refine Ev.bind (good_ev m hm) ?_
 refine Ev.ite (fun hg => ?_) (fun _ => Ev.now _)
 refine Ev.bind (total_ev l hl) (Ev.bind (total_ev m hm) ?_)
 obtain ⟨i, j, rfl, rfl, hij, hj, h4, hn, ht⟩ := within_facts hw
 obtain ⟨hnm, h4m, htm⟩ := good_facts hg
 rw [show wrap64 (wrap64 (tot l - wrap64 ((j : Int) - (i : Int))) + tot m) = tot l - ((j : Int) - (i : Int)) + tot m by unfold wrap64; omega]
 refine Ev.ite (fun _ => Ev.now _) (fun _ => ?_)
 unfold big at hl hm
 refine Ev.pos (by omega) (ev_val (Ev.now _) ?_)
 rw [spliceRuns_pack l m i j (by omega) (by omega) h4 h4m hn hnm]
 rfl
theorem good_pack {b : List Int} (h : b.length ≤ 4096) : good (pack b) = true ∧ tot (pack b) = b.length := by
 have hn := pack_nrm b
 have ht : tot (pack b) = b.length := by
  rw [tot_of_bytes (nrm_nonneg hn) (by rw [pack_bytes]; exact h), pack_bytes]
 exact ⟨by unfold good; rw [Bool.and_eq_true, decide_eq_true_iff, decide_eq_true_iff]; exact ⟨hn, by omega⟩, ht⟩
end Go.Proofs.Ytbbgpfjeobdogaa.PB
end

section
namespace Go.Proofs.Ytbbgpfjeobdogaa.PB
open Go.RowKit Go.Proofs.YtbbgpfjeobdogaaW.PrintWords Go.Proofs.YtbbgpfjeobdogaaW.PrintLast Go.Proofs.YtbbgpfjeobdogaaW.PrintMore
attribute [local go_sem] max2_int min2_int max_two min_two max_three min_three max_four min_four   
set_option linter.unusedVariables false
set_option linter.unusedSimpArgs false
attribute [local go_sem high] eqA71
def api_Run.l0 : Nat → List (S71) → List (S71) → Int → Int → Option (Bool)
 | 0, _, _, _, _ => none
 | k + 1, x0, x1, x12, x13 => if x13 < x12 then (if 0 ≤ x13 then (if x13 < (x0.length : Int) then (if x13 < (x1.length : Int) then (if (!(((rd_T71 x0 x13).f0) == ((rd_T71 x1 x13).f0)) || (!(((rd_T71 x0 x13).f1) == ((rd_T71 x1 x13).f1)))) = true then (some false) else (api_Run.l0 k x0 x1 x12 (wrap64 (x13 + 1)))) else (none)) else (none)) else (none)) else (some true)
def api_Run.f (k : Nat) (l0 : List (S71)) (l1 : List (S71)) : Option (Bool) := if (l0.length : Int) = (l1.length : Int) then (api_Run.l0 k l0 l1 (l0.length : Int) 0) else (some false)
set_option maxHeartbeats 8000000 in
set_option maxRecDepth 100000 in
theorem api_Run.calls (k : Nat) (A0 : Option Addr) (c0 : Nat) (l0 : List (S71)) (A1 : Option Addr) (c1 : Nat) (l1 : List (S71)) (r : Bool) (w : World) (hr0 : Kd.C k71 w A0 l0.length l0) (hc0 : l0.length ≤ c0) (hr1 : Kd.C k71 w A1 l1.length l1) (hc1 : l1.length ≤ c1) (h : api_Run.f k l0 l1 = some r) :
  Calls Try.prog 61 #[.slice A0 l0.length c0, .slice A1 l1.length c1] w fun e w' => e = .returned (.bool r) ∧ Drawn0 w w' := by
 have hu71 := Try.underlying71
 have HR0 := aM hr0
 have HC0 := aM hc0
 clear hr0 hc0
 have HR1 := aM hr1
 have HC1 := aM hc1
 clear hr1 hc1
 have H : (if (l0.length : Int) = (l1.length : Int) then (api_Run.l0 k l0 l1 (l0.length : Int) 0) else (some false)) = some r := h
 clear h
 by_cases c3 : (l0.length : Int) = (l1.length : Int)
 ·rw [if_pos c3] at H
  have c3b0 : ((l0.length : Int) == (l1.length : Int)) = true := beq_iff_eq.mpr c3
  have c3b1 : ((l0.length : Int) != (l1.length : Int)) = false := bne_eq_false_iff_eq.mpr c3
  have c3b2 : (l0.length == l1.length) = true := by first | simpa using c3 | (simp at c3 ⊢; omega)
  clear c3
  have H' := aM H
  clear H
  go_enter Try.func61, Try.ntmps61
  go_wp2
  repeat (go_quiet (fail); try go_wp2)
  go_loopg [13] k (fun kq v13 w' => ∃ (x13_1 : Int), v13 = .int .i64 x13_1 ∧ Aside0 (api_Run.l0 kq l0 l1 (l0.length : Int) x13_1 = some r) ∧ Aside0 (kq ≤ k) ∧ Drawn0 w w')
  case atStart => exact ⟨(0), (by first | rfl | (simp; done) | (simp [*]; done)), H', ⟨Nat.le_refl _⟩, by repeat (first | exact Drawn0.refl _ | apply Drawn0.step)⟩
  case round =>
   clear H'
   try clear c1
   try clear p2
   try clear c3
   try clear c3b0
   try clear c3b1
   try clear c3b2
   obtain ⟨x13_1, rfl, HA, HK1, ⟨m1, rfl⟩⟩ := hrel
   cases gk with
   | zero => exact absurd HA.out (by simp [api_Run.l0])
   | succ k1 =>
    have H := HA.out
    clear HA
    simp only [api_Run.l0] at H
    by_cases c4 : x13_1 < (l0.length : Int)
    ·rw [if_pos c4] at H
     have c4b0 : decide (x13_1 < (l0.length : Int)) = true := decide_eq_true c4
     clear c4
     by_cases c5 : 0 ≤ x13_1
     ·rw [if_pos c5] at H
      have c5b0 : decide (0 ≤ x13_1) = true := decide_eq_true c5
      clear c5
      by_cases c6 : x13_1 < (l0.length : Int)
      ·rw [if_pos c6] at H
       have c6b0 : decide (x13_1 < (l0.length : Int)) = true := decide_eq_true c6
       clear c6
       by_cases c7 : x13_1 < (l1.length : Int)
       ·rw [if_pos c7] at H
        have c7b0 : decide (x13_1 < (l1.length : Int)) = true := decide_eq_true c7
        clear c7
        by_cases c8 : (!(((rd_T71 l0 x13_1).f0) == ((rd_T71 l1 x13_1).f0)) || (!(((rd_T71 l0 x13_1).f1) == ((rd_T71 l1 x13_1).f1)))) = true
        ·rw [if_pos c8] at H
         have c8b0 : (!(((rd_T71 l0 x13_1).f0) == ((rd_T71 l1 x13_1).f0)) || (!(((rd_T71 l0 x13_1).f1) == ((rd_T71 l1 x13_1).f1)))) = true := c8
         clear c8
         obtain rfl := Option.some.inj H
         have p158 : 0 ≤ (x13_1 : Int) := of_decide_eq_true (by first | (with_reducible assumption) | assumption)
         have q158 : x13_1 < (l0.length : Int) := of_decide_eq_true (by first | (with_reducible assumption) | assumption)
         obtain ⟨ad158, e158, hx158_0, hx158_1⟩ := at_T71 HR0.out x13_1 p158 q158
         cases e158
         replace p158 := eq_true p158
         replace q158 := eq_true q158
         have p159 : 0 ≤ (x13_1 : Int) := of_decide_eq_true (by first | (with_reducible assumption) | assumption)
         have q159 : x13_1 < (l1.length : Int) := of_decide_eq_true (by first | (with_reducible assumption) | assumption)
         obtain ⟨ad159, e159, hx159_0, hx159_1⟩ := at_T71 HR1.out x13_1 p159 q159
         cases e159
         replace p159 := eq_true p159
         replace q159 := eq_true q159
         go_wp2
         repeat (go_quiet (fail); try go_wp2)
         go_ret
         exact ⟨by first | rfl | (simp; done) | (simp [*]; done), by repeat (first | exact Drawn0.refl _ | apply Drawn0.step)⟩
        ·rw [if_neg c8] at H
         have c8b0 : (!(((rd_T71 l0 x13_1).f0) == ((rd_T71 l1 x13_1).f0)) || (!(((rd_T71 l0 x13_1).f1) == ((rd_T71 l1 x13_1).f1)))) = false := by simpa using c8
         clear c8
         have H' := aM H
         clear H
         have p158 : 0 ≤ (x13_1 : Int) := of_decide_eq_true (by first | (with_reducible assumption) | assumption)
         have q158 : x13_1 < (l0.length : Int) := of_decide_eq_true (by first | (with_reducible assumption) | assumption)
         obtain ⟨ad158, e158, hx158_0, hx158_1⟩ := at_T71 HR0.out x13_1 p158 q158
         cases e158
         replace p158 := eq_true p158
         replace q158 := eq_true q158
         have p159 : 0 ≤ (x13_1 : Int) := of_decide_eq_true (by first | (with_reducible assumption) | assumption)
         have q159 : x13_1 < (l1.length : Int) := of_decide_eq_true (by first | (with_reducible assumption) | assumption)
         obtain ⟨ad159, e159, hx159_0, hx159_1⟩ := at_T71 HR1.out x13_1 p159 q159
         cases e159
         replace p159 := eq_true p159
         replace q159 := eq_true q159
         go_wp2
         repeat (go_quiet (fail); try go_wp2)
         go_roundg k1
         case measure => have := HK1.out; omega
         case rel => exact ⟨(wrap64 (x13_1 + 1)), (by first | rfl | (simp; done) | (simp [*]; done)), H', ⟨by have := HK1.out; omega⟩, by repeat (first | exact Drawn0.refl _ | apply Drawn0.step)⟩
       ·rw [if_neg c7] at H
        exact absurd H (by simp)
      ·rw [if_neg c6] at H
       exact absurd H (by simp)
     ·rw [if_neg c5] at H
      exact absurd H (by simp)
    ·rw [if_neg c4] at H
     have c4b0 : decide (x13_1 < (l0.length : Int)) = false := decide_eq_false c4
     clear c4
     obtain rfl := Option.some.inj H
     go_wp2
     repeat (go_quiet (fail); try go_wp2)
     go_ret
     exact ⟨by first | rfl | (simp; done) | (simp [*]; done), by repeat (first | exact Drawn0.refl _ | apply Drawn0.step)⟩
 ·rw [if_neg c3] at H
  have c3b0 : ((l0.length : Int) == (l1.length : Int)) = false := beq_eq_false_iff_ne.mpr c3
  have c3b1 : ((l0.length : Int) != (l1.length : Int)) = true := bne_iff_ne.mpr c3
  have c3b2 : (l0.length == l1.length) = false := by first | simpa using c3 | (simp at c3 ⊢; omega)
  obtain rfl := Option.some.inj H
  go_enter Try.func61, Try.ntmps61
  go_wp2
  repeat (go_quiet (fail); try go_wp2)
  go_ret
  exact ⟨by first | rfl | (simp; done) | (simp [*]; done), by repeat (first | exact Drawn0.refl _ | apply Drawn0.step)⟩
end Go.Proofs.Ytbbgpfjeobdogaa.PB
end

section
namespace Go.Proofs.Ytbbgpfjeobdogaa.PB
open Go.RowKit Go.Proofs.YtbbgpfjeobdogaaW.PrintWords Go.Proofs.YtbbgpfjeobdogaaW.PrintLast Go.Proofs.YtbbgpfjeobdogaaW.PrintMore
attribute [local go_sem] max2_int min2_int max_two min_two max_three min_three max_four min_four   
set_option linter.unusedVariables false
set_option linter.unusedSimpArgs false
def strip_Good.f (k : Nat) (a0_0 : ByteArray) (l0_1 : List (S71)) : Option (Bool) := (runs_Good.f k l0_1).bind fun t142 => (if t142 = true then ((runs_Total.f k l0_1).bind fun t143 => (some (t143 == (a0_0.size : Int)))) else (some false))
def strip_Good.T1 : Bool × List (List Nat × List Nat) := (true, [([], []), ([0], [0]), ([1], [1]), ([2, 2], [2]), ([3], [3]), ([4, 3], [3, 4]), ([5, 3, 3], [3, 5]), ([3], [3]), ([7, 3], [3, 7]), ([8, 3], [3, 8]), ([6, 9, 3], [3, 6, 9]), ([3, 10], [3, 10]), ([11, 6, 0, 1, 2, 3, 4, 5, 6, 7, 8, 9, 10, 11], [11])])
def strip_Good.B1 : List Nat := [0, 1, 3, 7, 15, 31, 63, 15, 143, 399, 1023, 2047, 4095]
theorem strip_Good.tab1 : rtab .any (opsOf Try.f58 1) = strip_Good.T1 := by kernel_rfl
theorem strip_Good.bits1 : waitsOk strip_Good.T1.2 strip_Good.B1 = true := by kernel_rfl
set_option maxHeartbeats 8000000 in
set_option maxRecDepth 100000 in
theorem strip_Good.calls (k : Nat) (a0_0 : ByteArray) (A0_1 : Option Addr) (c0_1 : Nat) (l0_1 : List (S71)) (r : Bool) (w : World) (hr0_1 : Kd.C k71 w A0_1 l0_1.length l0_1) (hc0_1 : l0_1.length ≤ c0_1) (h : strip_Good.f k a0_0 l0_1 = some r) :
  Calls Try.prog 58 #[.agg #[.string a0_0, .slice A0_1 l0_1.length c0_1]] w fun e w' => e = .returned (.bool r) ∧ Below w.heap.size w w' := by
 have hu32 := Try.underlying32
 have HR0_1 := aM hr0_1
 have HC0_1 := aM hc0_1
 clear hr0_1 hc0_1
 have HB := aM (Below.refl w.heap.size w)
 have H : ((runs_Good.f k l0_1).bind fun t142 => (if t142 = true then ((runs_Total.f k l0_1).bind fun t143 => (some (t143 == (a0_0.size : Int)))) else (some false))) = some r := h
 clear h
 replace H := Option.bind_eq_some_iff.mp H
 obtain ⟨t142, A20, H⟩ := H
 replace H : (if t142 = true then ((runs_Total.f k l0_1).bind fun t143 => (some (t143 == (a0_0.size : Int)))) else (some false)) = some r := H
 have A2 := aM A20
 clear A20
 by_cases c3 : t142 = true
 ·subst c3
  have H1 : ((runs_Total.f k l0_1).bind fun t143 => (some (t143 == (a0_0.size : Int)))) = some r := by rw [if_pos rfl] at H; exact H
  clear H
  have H := H1
  clear H1
  replace H := Option.bind_eq_some_iff.mp H
  obtain ⟨t143, A40, H⟩ := H
  replace H : (some (t143 == (a0_0.size : Int))) = some r := H
  have A4 := aM A40
  clear A40
  obtain rfl := Option.some.inj H
  go_enter Try.func58, Try.ntmps58
  try go_wp2_with (first | ((with_reducible refine gate_dst (N := 1) rfl ?_); (try (refine gate_guard (by rfl) ?_; dsimp only)); refine box_event ?hg (N := 1) ?hd (cs := #[.string a0_0, .slice A0_1 l0_1.length c0_1]) (t := 32) ?hr ?_; (case hd | hg => rfl); (case hr => first | (go_simp; done) | (go_simp; rfl)); intro gb141 hg w5 hbox hb; have n0_ := aM (bP (ey HB.out) hb); have n1_ := aM (hbox); have n2_ := aM ((by rw [hg]; exact (bZ (ey HB.out)) : w.heap.size ≤ gb141)); have n3_ := n2_; clear HB; have HB := n0_; have BK141 := n1_; have GW141 := n2_; have GE141 := n3_; clear n0_ n1_ n2_ n3_; clear hb hbox hg))
  have n0_ := aM (blk_drew BK141.out)
  have n1_ := aM (below_drew1 HB.out)
  clear BK141
  clear HB
  have BK141 := n0_
  have HB := n1_
  clear n0_ n1_
  refine start_ (n := 13) (S := fun w' => w'.cell? ⟨gb141, 0, none⟩ = some (.string a0_0) ∧ w'.cell? ⟨gb141, 1, none⟩ = some (.slice A0_1 l0_1.length c0_1)) (ds := []) b28_ (by kernel_rfl) rfl rfl ⟨(bC BK141.out 0).trans rfl, (bC BK141.out 1).trans rfl⟩ (fun hHeld => ?_); refine with_tabW strip_Good.tab1 strip_Good.bits1 (fun HT_ HW_ => ?_)
  generalize w5.drew = w6 at BK141 HB hHeld ⊢
  refine pure_ (i := 0) (N := some 3) (v := ?_) (a' := ?_) b29_ rfl rfl (any_of HT_.out (by kernel_rfl)) (fun _ _ _ h => h) (Or.inl ⟨by rfl, ?_⟩) ?_ ?_
  rotate_left
  ·intro w'
   go_simp
   with_reducible rfl
  rotate_left
  ·simp only [Act.put, sA, sZ, sS, i64_w, i32_w]
   rfl
  refine take_ (i := 1) (N := some 4) (v := ?_) (a' := ?_) b30_ rfl rfl (take_ofW HT_.out HW_.out (by kernel_rfl)) (fun _ _ _ h => h) (Or.inl ⟨by rfl, ?_⟩) hHeld ?_ ?_
  rotate_left
  ·rintro w' ⟨s0, s1⟩
   go_simp
   with_reducible rfl
  rotate_left
  ·simp only [Act.put, sA, sZ, sS, i64_w, i32_w]
   rfl
  refine one_ (i := 2) (N := some 5) b31_ rfl rfl (one_of HT_.out (by kernel_rfl)) (by decide) (fun K hK => ?_)
  refine goes_ Try.func74 (by kernel_rfl) rfl #[.slice A0_1 l0_1.length c0_1] (by rfl) rfl rfl (by (try simp only [mT, mC, mN]); first | done | rfl | (simp only [lD, lT]; rfl)) ?_
  with_reducible refine (runs_Good.calls k _ _ l0_1 true _ ?side1 ?side2 A2.out).mono ?_
  (case side1 => repeat (first | exact (cB_ HR0_1.out HB.out) | (with_reducible refine Kd.C_alloc ?_ _) | (with_reducible refine Kd.C_drewN ?_ _) | (with_reducible refine Kd.C_drew ?_)))
  (case side2 => exact HC0_1.out)
  rintro e w7 ⟨rfl, hb⟩
  refine ⟨_, rfl, ?_⟩
  have n0_ := aM (bB (g := gb141) (qy BK141.out) hb)
  have n1_ := aM (bP (by repeat (first | (with_reducible first | exact HB.out | apply ea | apply en | apply ed | refine es ?_ GE141.out) | exact HB.out)) hb)
  clear BK141
  clear HB
  have BK141 := n0_
  have HB := n1_
  clear n0_ n1_
  (try clear hb)
  (try clear hb2)
  (try clear hk)
  (try clear hi)
  refine hK.out _ _ ⟨(bC BK141.out 0).trans rfl, (bC BK141.out 1).trans rfl⟩ (fun hHeld => ?_)
  clear hK K
  refine norm_ (a' := ?_) ?_ ?_
  rotate_left
  ·show Act.put _ (some 5) _ = _
   simp only [Act.put, sA, sZ, sS, i64_w, i32_w]
   rfl
  refine pure_ (i := 3) (N := some 6) (v := ?_) (a' := ?_) b32_ rfl rfl (any_of HT_.out (by kernel_rfl)) (fun _ _ _ h => h) (Or.inl ⟨by rfl, ?_⟩) ?_ ?_
  rotate_left
  ·intro w'
   go_simp
   with_reducible rfl
  rotate_left
  ·simp only [Act.put, sA, sZ, sS, i64_w, i32_w]
   rfl
  refine pure_ (i := 4) (N := some 7) (v := ?_) (a' := ?_) b33_ rfl rfl (any_of HT_.out (by kernel_rfl)) (fun _ _ _ h => h) (Or.inl ⟨by rfl, ?_⟩) ?_ ?_
  rotate_left
  ·intro w'
   go_simp
   with_reducible rfl
  rotate_left
  ·simp only [Act.put, sA, sZ, sS, i64_w, i32_w]
   rfl
  refine pure_ (i := 7) (N := some 10) (v := ?_) (a' := ?_) b34_ rfl rfl (any_of HT_.out (by kernel_rfl)) (fun _ _ _ h => h) (Or.inl ⟨by rfl, ?_⟩) ?_ ?_
  rotate_left
  ·intro w'
   go_simp
   with_reducible rfl
  rotate_left
  ·simp only [Act.put, sA, sZ, sS, i64_w, i32_w]
   rfl
  refine take_ (i := 5) (N := some 8) (v := ?_) (a' := ?_) b35_ rfl rfl (take_ofW HT_.out HW_.out (by kernel_rfl)) (fun _ _ _ h => h) (Or.inl ⟨by rfl, ?_⟩) hHeld ?_ ?_
  rotate_left
  ·rintro w' ⟨s0, s1⟩
   go_simp
   with_reducible rfl
  rotate_left
  ·simp only [Act.put, sA, sZ, sS, i64_w, i32_w]
   rfl
  refine take_ (i := 8) (N := some 11) (v := ?_) (a' := ?_) b36_ rfl rfl (take_ofW HT_.out HW_.out (by kernel_rfl)) (fun _ _ _ h => h) (Or.inl ⟨by rfl, ?_⟩) hHeld ?_ ?_
  rotate_left
  ·rintro w' ⟨s0, s1⟩
   go_simp
   with_reducible rfl
  rotate_left
  ·simp only [Act.put, sA, sZ, sS, i64_w, i32_w]
   rfl
  refine pure_ (i := 9) (N := some 12) (v := ?_) (a' := ?_) b37_ rfl rfl (any_of HT_.out (by kernel_rfl)) (fun _ _ _ h => h) (Or.inl ⟨by rfl, ?_⟩) ?_ ?_
  rotate_left
  ·intro w'
   go_simp
   with_reducible rfl
  rotate_left
  ·simp only [Act.put, sA, sZ, sS, i64_w, i32_w]
   rfl
  refine one_ (i := 6) (N := some 9) b38_ rfl rfl (one_of HT_.out (by kernel_rfl)) (by decide) (fun K hK => ?_)
  refine goes_ Try.func75 (by kernel_rfl) rfl #[.slice A0_1 l0_1.length c0_1] (by rfl) rfl rfl (by (try simp only [mT, mC, mN]); first | done | rfl | (simp only [lD, lT]; rfl)) ?_
  with_reducible refine (runs_Total.calls k _ _ l0_1 t143 _ ?side1 ?side2 A4.out).mono ?_
  (case side1 => repeat (first | exact (cB_ HR0_1.out HB.out) | (with_reducible refine Kd.C_alloc ?_ _) | (with_reducible refine Kd.C_drewN ?_ _) | (with_reducible refine Kd.C_drew ?_)))
  (case side2 => exact HC0_1.out)
  rintro e w8 ⟨rfl, hb⟩
  refine ⟨_, rfl, ?_⟩
  have n0_ := aM (bB (g := gb141) (qy BK141.out) hb)
  have n1_ := aM (bP (by repeat (first | (with_reducible first | exact HB.out | apply ea | apply en | apply ed | refine es ?_ GE141.out) | exact HB.out)) hb)
  clear BK141
  clear HB
  have BK141 := n0_
  have HB := n1_
  clear n0_ n1_
  (try clear hb)
  (try clear hb2)
  (try clear hk)
  (try clear hi)
  refine hK.out _ _ ⟨(bC BK141.out 0).trans rfl, (bC BK141.out 1).trans rfl⟩ (fun hHeld => ?_)
  clear hK K
  refine norm_ (a' := ?_) ?_ ?_
  rotate_left
  ·show Act.put _ (some 9) _ = _
   simp only [Act.put, sA, sZ, sS, i64_w, i32_w]
   rfl
  refine pure_ (i := 10) (N := some 13) (v := ?_) (a' := ?_) b39_ rfl rfl (any_of HT_.out (by kernel_rfl)) (fun _ _ _ h => h) (Or.inl ⟨by rfl, ?_⟩) ?_ ?_
  rotate_left
  ·intro w'
   go_simp
   with_reducible rfl
  rotate_left
  ·simp only [Act.put, sA, sZ, sS, i64_w, i32_w]
   rfl
  refine pure_ (i := 11) (N := some 14) (v := ?_) (a' := ?_) b40_ rfl rfl (any_of HT_.out (by kernel_rfl)) (fun _ _ _ h => h) (Or.inl ⟨by rfl, ?_⟩) ?_ ?_
  rotate_left
  ·intro w'
   go_simp
   with_reducible rfl
  rotate_left
  ·simp only [Act.put, sA, sZ, sS, i64_w, i32_w]
   rfl
  refine pure_ (i := 12) (N := some 2) (v := ?_) (a' := ?_) b41_ rfl rfl (any_of HT_.out (by kernel_rfl)) (fun _ _ _ h => h) (Or.inl ⟨by rfl, ?_⟩) ?_ ?_
  rotate_left
  ·intro w'
   go_simp
   with_reducible rfl
  rotate_left
  ·simp only [Act.put, sA, sZ, sS, i64_w, i32_w]
   rfl
  refine done_ (done_of HT_.out (by kernel_rfl)) ?_
  try go_wp2
  go_ret
  exact ⟨by first | rfl | (simp [errW_none, errW_some] <;> rfl) | (simp [*, errW_none, errW_some] <;> rfl), by repeat (first | (with_reducible first | exact HB.out | apply ea | apply en | apply ed | refine es ?_ GE141.out) | exact HB.out)⟩
 ·replace c3 := Bool.eq_false_iff.mpr c3
  subst c3
  have H1 : (some false) = some r := by rw [if_neg (show ¬ (false = true) by decide)] at H; exact H
  clear H
  have H := H1
  clear H1
  obtain rfl := Option.some.inj H
  go_enter Try.func58, Try.ntmps58
  try go_wp2_with (first | ((with_reducible refine gate_dst (N := 1) rfl ?_); (try (refine gate_guard (by rfl) ?_; dsimp only)); refine box_event ?hg (N := 1) ?hd (cs := #[.string a0_0, .slice A0_1 l0_1.length c0_1]) (t := 32) ?hr ?_; (case hd | hg => rfl); (case hr => first | (go_simp; done) | (go_simp; rfl)); intro gb141 hg w9 hbox hb; have n0_ := aM (bP (ey HB.out) hb); have n1_ := aM (hbox); have n2_ := aM ((by rw [hg]; exact (bZ (ey HB.out)) : w.heap.size ≤ gb141)); have n3_ := n2_; clear HB; have HB := n0_; have BK141 := n1_; have GW141 := n2_; have GE141 := n3_; clear n0_ n1_ n2_ n3_; clear hb hbox hg))
  have n0_ := aM (blk_drew BK141.out)
  have n1_ := aM (below_drew1 HB.out)
  clear BK141
  clear HB
  have BK141 := n0_
  have HB := n1_
  clear n0_ n1_
  refine start_ (n := 13) (S := fun w' => w'.cell? ⟨gb141, 0, none⟩ = some (.string a0_0) ∧ w'.cell? ⟨gb141, 1, none⟩ = some (.slice A0_1 l0_1.length c0_1)) (ds := []) b28_ (by kernel_rfl) rfl rfl ⟨(bC BK141.out 0).trans rfl, (bC BK141.out 1).trans rfl⟩ (fun hHeld => ?_); refine with_tabW strip_Good.tab1 strip_Good.bits1 (fun HT_ HW_ => ?_)
  generalize w9.drew = w10 at BK141 HB hHeld ⊢
  refine pure_ (i := 0) (N := some 3) (v := ?_) (a' := ?_) b29_ rfl rfl (any_of HT_.out (by kernel_rfl)) (fun _ _ _ h => h) (Or.inl ⟨by rfl, ?_⟩) ?_ ?_
  rotate_left
  ·intro w'
   go_simp
   with_reducible rfl
  rotate_left
  ·simp only [Act.put, sA, sZ, sS, i64_w, i32_w]
   rfl
  refine take_ (i := 1) (N := some 4) (v := ?_) (a' := ?_) b30_ rfl rfl (take_ofW HT_.out HW_.out (by kernel_rfl)) (fun _ _ _ h => h) (Or.inl ⟨by rfl, ?_⟩) hHeld ?_ ?_
  rotate_left
  ·rintro w' ⟨s0, s1⟩
   go_simp
   with_reducible rfl
  rotate_left
  ·simp only [Act.put, sA, sZ, sS, i64_w, i32_w]
   rfl
  refine one_ (i := 2) (N := some 5) b31_ rfl rfl (one_of HT_.out (by kernel_rfl)) (by decide) (fun K hK => ?_)
  refine goes_ Try.func74 (by kernel_rfl) rfl #[.slice A0_1 l0_1.length c0_1] (by rfl) rfl rfl (by (try simp only [mT, mC, mN]); first | done | rfl | (simp only [lD, lT]; rfl)) ?_
  with_reducible refine (runs_Good.calls k _ _ l0_1 false _ ?side1 ?side2 A2.out).mono ?_
  (case side1 => repeat (first | exact (cB_ HR0_1.out HB.out) | (with_reducible refine Kd.C_alloc ?_ _) | (with_reducible refine Kd.C_drewN ?_ _) | (with_reducible refine Kd.C_drew ?_)))
  (case side2 => exact HC0_1.out)
  rintro e w11 ⟨rfl, hb⟩
  refine ⟨_, rfl, ?_⟩
  have n0_ := aM (bB (g := gb141) (qy BK141.out) hb)
  have n1_ := aM (bP (by repeat (first | (with_reducible first | exact HB.out | apply ea | apply en | apply ed | refine es ?_ GE141.out) | exact HB.out)) hb)
  clear BK141
  clear HB
  have BK141 := n0_
  have HB := n1_
  clear n0_ n1_
  (try clear hb)
  (try clear hb2)
  (try clear hk)
  (try clear hi)
  refine hK.out _ _ ⟨(bC BK141.out 0).trans rfl, (bC BK141.out 1).trans rfl⟩ (fun hHeld => ?_)
  clear hK K
  refine norm_ (a' := ?_) ?_ ?_
  rotate_left
  ·show Act.put _ (some 5) _ = _
   simp only [Act.put, sA, sZ, sS, i64_w, i32_w]
   rfl
  refine pure_ (i := 3) (N := some 6) (v := ?_) (a' := ?_) b32_ rfl rfl (any_of HT_.out (by kernel_rfl)) (fun _ _ _ h => h) (Or.inl ⟨by rfl, ?_⟩) ?_ ?_
  rotate_left
  ·intro w'
   go_simp
   with_reducible rfl
  rotate_left
  ·simp only [Act.put, sA, sZ, sS, i64_w, i32_w]
   rfl
  refine pure_ (i := 4) (N := some 7) (v := undef) (a' := ?_) b33_ rfl rfl (any_of HT_.out (by kernel_rfl)) (fun _ _ _ h => h) (Or.inr ⟨by rfl, rfl⟩) ?_ ?_
  rotate_left
  ·simp only [Act.put, sA, sZ, sS, i64_w, i32_w]
   rfl
  refine pure_ (i := 5) (N := some 8) (v := undef) (a' := ?_) b42_ rfl rfl (any_of HT_.out (by kernel_rfl)) (fun _ _ _ h => h) (Or.inr ⟨by rfl, rfl⟩) ?_ ?_
  rotate_left
  ·simp only [Act.put, sA, sZ, sS, i64_w, i32_w]
   rfl
  refine pure_ (i := 6) (N := some 9) (v := undef) (a' := ?_) b43_ rfl rfl (any_of HT_.out (by kernel_rfl)) (fun _ _ _ h => h) (Or.inr ⟨by rfl, rfl⟩) ?_ ?_
  rotate_left
  ·simp only [Act.put, sA, sZ, sS, i64_w, i32_w]
   rfl
  refine pure_ (i := 7) (N := some 10) (v := undef) (a' := ?_) b44_ rfl rfl (any_of HT_.out (by kernel_rfl)) (fun _ _ _ h => h) (Or.inr ⟨by rfl, rfl⟩) ?_ ?_
  rotate_left
  ·simp only [Act.put, sA, sZ, sS, i64_w, i32_w]
   rfl
  refine pure_ (i := 8) (N := some 11) (v := undef) (a' := ?_) b45_ rfl rfl (any_of HT_.out (by kernel_rfl)) (fun _ _ _ h => h) (Or.inr ⟨by rfl, rfl⟩) ?_ ?_
  rotate_left
  ·simp only [Act.put, sA, sZ, sS, i64_w, i32_w]
   rfl
  refine pure_ (i := 9) (N := some 12) (v := undef) (a' := ?_) b38_ rfl rfl (any_of HT_.out (by kernel_rfl)) (fun _ _ _ h => h) (Or.inr ⟨by rfl, rfl⟩) ?_ ?_
  rotate_left
  ·simp only [Act.put, sA, sZ, sS, i64_w, i32_w]
   rfl
  refine pure_ (i := 10) (N := some 13) (v := undef) (a' := ?_) b39_ rfl rfl (any_of HT_.out (by kernel_rfl)) (fun _ _ _ h => h) (Or.inr ⟨by rfl, rfl⟩) ?_ ?_
  rotate_left
  ·simp only [Act.put, sA, sZ, sS, i64_w, i32_w]
   rfl
  refine pure_ (i := 11) (N := some 14) (v := ?_) (a' := ?_) b40_ rfl rfl (any_of HT_.out (by kernel_rfl)) (fun _ _ _ h => h) (Or.inl ⟨by rfl, ?_⟩) ?_ ?_
  rotate_left
  ·intro w'
   go_simp
   with_reducible rfl
  rotate_left
  ·simp only [Act.put, sA, sZ, sS, i64_w, i32_w]
   rfl
  refine pure_ (i := 12) (N := some 2) (v := ?_) (a' := ?_) b41_ rfl rfl (any_of HT_.out (by kernel_rfl)) (fun _ _ _ h => h) (Or.inl ⟨by rfl, ?_⟩) ?_ ?_
  rotate_left
  ·intro w'
   go_simp
   with_reducible rfl
  rotate_left
  ·simp only [Act.put, sA, sZ, sS, i64_w, i32_w]
   rfl
  refine done_ (done_of HT_.out (by kernel_rfl)) ?_
  try go_wp2
  go_ret
  exact ⟨by first | rfl | (simp [errW_none, errW_some] <;> rfl) | (simp [*, errW_none, errW_some] <;> rfl), by repeat (first | (with_reducible first | exact HB.out | apply ea | apply en | apply ed | refine es ?_ GE141.out) | exact HB.out)⟩
end Go.Proofs.Ytbbgpfjeobdogaa.PB
end

section
namespace Go.Proofs.Ytbbgpfjeobdogaa.PB
open Go.RowKit Go.Proofs.YtbbgpfjeobdogaaW.PrintWords Go.Proofs.YtbbgpfjeobdogaaW.PrintLast Go.Proofs.YtbbgpfjeobdogaaW.PrintMore
attribute [local go_sem] max2_int min2_int max_two min_two max_three min_three max_four min_four   
set_option linter.unusedVariables false
set_option linter.unusedSimpArgs false
def strip_Same.f (k : Nat) (a0_0 : ByteArray) (l0_1 : List (S71)) (a1_0 : ByteArray) (l1_1 : List (S71)) : Option (Bool) := if a0_0.toList = a1_0.toList then ((api_Run.f k l0_1 l1_1).bind fun t162 => (some t162)) else (some false)
set_option maxHeartbeats 8000000 in
set_option maxRecDepth 100000 in
theorem strip_Same.calls (k : Nat) (a0_0 : ByteArray) (A0_1 : Option Addr) (c0_1 : Nat) (l0_1 : List (S71)) (a1_0 : ByteArray) (A1_1 : Option Addr) (c1_1 : Nat) (l1_1 : List (S71)) (r : Bool) (w : World) (hr0_1 : Kd.C k71 w A0_1 l0_1.length l0_1) (hc0_1 : l0_1.length ≤ c0_1) (hr1_1 : Kd.C k71 w A1_1 l1_1.length l1_1) (hc1_1 : l1_1.length ≤ c1_1) (h : strip_Same.f k a0_0 l0_1 a1_0 l1_1 = some r) :
  Calls Try.prog 50 #[.agg #[.string a0_0, .slice A0_1 l0_1.length c0_1], .agg #[.string a1_0, .slice A1_1 l1_1.length c1_1]] w fun e w' => e = .returned (.bool r) ∧ Below w.heap.size w w' := by
 have hu32 := Try.underlying32
 have HR0_1 := aM hr0_1
 have HC0_1 := aM hc0_1
 clear hr0_1 hc0_1
 have HR1_1 := aM hr1_1
 have HC1_1 := aM hc1_1
 clear hr1_1 hc1_1
 have HB := aM (Below.refl w.heap.size w)
 have H : (if a0_0.toList = a1_0.toList then ((api_Run.f k l0_1 l1_1).bind fun t162 => (some t162)) else (some false)) = some r := h
 clear h
 by_cases c3 : a0_0.toList = a1_0.toList
 ·rw [if_pos c3] at H
  have c3b0 : (a0_0.toList == a1_0.toList) = true := beq_iff_eq.mpr c3
  have c3b1 : (a0_0.toList != a1_0.toList) = false := bne_eq_false_iff_eq.mpr c3
  clear c3
  replace H := Option.bind_eq_some_iff.mp H
  obtain ⟨t162, A40, H⟩ := H
  replace H : (some t162) = some r := H
  have A4 := aM A40
  clear A40
  obtain rfl := Option.some.inj H
  go_enter Try.func50, Try.ntmps50
  go_wp2_with (first | ((with_reducible refine gate_dst (N := 2) rfl ?_); refine box_event ?hg (N := 2) ?hd (cs := #[.string a0_0, .slice A0_1 l0_1.length c0_1]) (t := 32) ?hr ?_; (case hd | hg => rfl); (case hr => first | (go_simp; done) | (go_simp; rfl)); intro gb160 hg w5 hbox hb; have n0_ := aM (bP (ey HB.out) hb); have n1_ := aM (hbox); have n2_ := aM ((by rw [hg]; exact (bZ (ey HB.out)) : w.heap.size ≤ gb160)); have n3_ := n2_; clear HB; have HB := n0_; have BK160 := n1_; have GW160 := n2_; have GE160 := n3_; clear n0_ n1_ n2_ n3_; clear hb hbox hg) | ((with_reducible refine gate_dst (N := 3) rfl ?_); refine box_event ?hg (N := 3) ?hd (cs := #[.string a1_0, .slice A1_1 l1_1.length c1_1]) (t := 32) ?hr ?_; (case hd | hg => rfl); (case hr => first | (go_simp; done) | (go_simp; rfl)); intro gb161 hg w6 hbox hb; have n0_ := aM (bB (g := gb160) (qy BK160.out) hb); have n1_ := aM (bP (by repeat (first | (with_reducible first | exact HB.out | apply ea | apply en | apply ed | refine es ?_ GE160.out) | exact HB.out)) hb); have n2_ := aM (hbox); have n3_ := aM ((by rw [hg]; exact (bZ (by repeat (first | (with_reducible first | exact HB.out | apply ea | apply en | apply ed | refine es ?_ GE160.out) | exact HB.out))) : w.heap.size ≤ gb161)); have n4_ := n3_; have n5_ := aM ((by rw [hg]; exact Nat.ne_of_lt (blk_lt (g := gb160) (qy BK160.out)) : gb160 ≠ gb161)); have n6_ := aM ((by rw [hg]; exact Nat.ne_of_gt (blk_lt (g := gb160) (qy BK160.out)) : gb161 ≠ gb160)); clear BK160 HB; have BK160 := n0_; have HB := n1_; have BK161 := n2_; have GW161 := n3_; have GE161 := n4_; have NB160_161 := n5_; have NB161_160 := n6_; clear n0_ n1_ n2_ n3_ n4_ n5_ n6_; clear hb hbox hg; have hnb7 := NB160_161.out; have hnc7 := NB161_160.out; have hcz8_0 := zC BK160.out 0 (.string a0_0); have hcz8_1 := zC BK160.out 1 (.slice A0_1 l0_1.length c0_1); have hfz8_0 := bF BK160.out 0; have hfz8_1 := bF BK160.out 1; have hcz9_0 := zC BK161.out 0 (.string a1_0); have hcz9_1 := zC BK161.out 1 (.slice A1_1 l1_1.length c1_1); have hfz9_0 := bF BK161.out 0; have hfz9_1 := bF BK161.out 1) | (go_at_call 61; (with_reducible refine (api_Run.calls k _ _ l0_1 _ _ l1_1 t162 _ ?side1 ?side2 ?side3 ?side4 A4.out).mono ?_); (case side1 => repeat (first | exact (cB_ HR0_1.out HB.out) | (with_reducible refine Kd.C_alloc ?_ _) | (with_reducible refine Kd.C_drewN ?_ _) | (with_reducible refine Kd.C_drew ?_))); (case side2 => exact HC0_1.out); (case side3 => repeat (first | exact (cB_ HR1_1.out HB.out) | (with_reducible refine Kd.C_alloc ?_ _) | (with_reducible refine Kd.C_drewN ?_ _) | (with_reducible refine Kd.C_drew ?_))); (case side4 => exact HC1_1.out); rintro e w' ⟨rfl, ⟨nd, rfl⟩⟩))
  go_ret
  exact ⟨by first | rfl | (simp [errW_none, errW_some] <;> rfl) | (simp [*, errW_none, errW_some] <;> rfl), by repeat (first | (with_reducible first | exact HB.out | apply ea | apply en | apply ed | refine es ?_ GE160.out | refine es ?_ GE161.out) | exact HB.out)⟩
 ·rw [if_neg c3] at H
  have c3b0 : (a0_0.toList == a1_0.toList) = false := beq_eq_false_iff_ne.mpr c3
  have c3b1 : (a0_0.toList != a1_0.toList) = true := bne_iff_ne.mpr c3
  obtain rfl := Option.some.inj H
  go_enter Try.func50, Try.ntmps50
  go_wp2_with (first | ((with_reducible refine gate_dst (N := 2) rfl ?_); refine box_event ?hg (N := 2) ?hd (cs := #[.string a0_0, .slice A0_1 l0_1.length c0_1]) (t := 32) ?hr ?_; (case hd | hg => rfl); (case hr => first | (go_simp; done) | (go_simp; rfl)); intro gb160 hg w10 hbox hb; have n0_ := aM (bP (ey HB.out) hb); have n1_ := aM (hbox); have n2_ := aM ((by rw [hg]; exact (bZ (ey HB.out)) : w.heap.size ≤ gb160)); have n3_ := n2_; clear HB; have HB := n0_; have BK160 := n1_; have GW160 := n2_; have GE160 := n3_; clear n0_ n1_ n2_ n3_; clear hb hbox hg) | ((with_reducible refine gate_dst (N := 3) rfl ?_); refine box_event ?hg (N := 3) ?hd (cs := #[.string a1_0, .slice A1_1 l1_1.length c1_1]) (t := 32) ?hr ?_; (case hd | hg => rfl); (case hr => first | (go_simp; done) | (go_simp; rfl)); intro gb161 hg w11 hbox hb; have n0_ := aM (bB (g := gb160) (qy BK160.out) hb); have n1_ := aM (bP (by repeat (first | (with_reducible first | exact HB.out | apply ea | apply en | apply ed | refine es ?_ GE160.out) | exact HB.out)) hb); have n2_ := aM (hbox); have n3_ := aM ((by rw [hg]; exact (bZ (by repeat (first | (with_reducible first | exact HB.out | apply ea | apply en | apply ed | refine es ?_ GE160.out) | exact HB.out))) : w.heap.size ≤ gb161)); have n4_ := n3_; have n5_ := aM ((by rw [hg]; exact Nat.ne_of_lt (blk_lt (g := gb160) (qy BK160.out)) : gb160 ≠ gb161)); have n6_ := aM ((by rw [hg]; exact Nat.ne_of_gt (blk_lt (g := gb160) (qy BK160.out)) : gb161 ≠ gb160)); clear BK160 HB; have BK160 := n0_; have HB := n1_; have BK161 := n2_; have GW161 := n3_; have GE161 := n4_; have NB160_161 := n5_; have NB161_160 := n6_; clear n0_ n1_ n2_ n3_ n4_ n5_ n6_; clear hb hbox hg; have hnb12 := NB160_161.out; have hnc12 := NB161_160.out; have hcz13_0 := zC BK160.out 0 (.string a0_0); have hcz13_1 := zC BK160.out 1 (.slice A0_1 l0_1.length c0_1); have hfz13_0 := bF BK160.out 0; have hfz13_1 := bF BK160.out 1; have hcz14_0 := zC BK161.out 0 (.string a1_0); have hcz14_1 := zC BK161.out 1 (.slice A1_1 l1_1.length c1_1); have hfz14_0 := bF BK161.out 0; have hfz14_1 := bF BK161.out 1))
  go_ret
  exact ⟨by first | rfl | (simp [errW_none, errW_some] <;> rfl) | (simp [*, errW_none, errW_some] <;> rfl), by repeat (first | (with_reducible first | exact HB.out | apply ea | apply en | apply ed | refine es ?_ GE160.out | refine es ?_ GE161.out) | exact HB.out)⟩
end Go.Proofs.Ytbbgpfjeobdogaa.PB
end

section
namespace Go.Proofs.Ytbbgpfjeobdogaa.PB
open Go.RowKit Go.Proofs.YtbbgpfjeobdogaaW.PrintWords Go.Proofs.YtbbgpfjeobdogaaW.PrintLast Go.Proofs.YtbbgpfjeobdogaaW.PrintMore
attribute [local go_sem] max2_int min2_int max_two min_two max_three min_three max_four min_four   
set_option linter.unusedVariables false
set_option linter.unusedSimpArgs false
def strip_within.f (k : Nat) (a0_0 : ByteArray) (l0_1 : List (S71)) (a1 : Int) (a2 : Int) : Option (Bool) := (strip_Good.f k a0_0 l0_1).bind fun t148 => (if t148 = true then (if a1 ≥ 0 then (if a1 ≤ a2 then (some (decide (a2 ≤ (a0_0.size : Int)))) else (some false)) else (some false)) else (some false))
set_option maxHeartbeats 8000000 in
set_option maxRecDepth 100000 in
theorem strip_within.calls (k : Nat) (a0_0 : ByteArray) (A0_1 : Option Addr) (c0_1 : Nat) (l0_1 : List (S71)) (a1 : Int) (a2 : Int) (r : Bool) (w : World) (hr0_1 : Kd.C k71 w A0_1 l0_1.length l0_1) (hc0_1 : l0_1.length ≤ c0_1) (h : strip_within.f k a0_0 l0_1 a1 a2 = some r) :
  Calls Try.prog 59 #[.agg #[.string a0_0, .slice A0_1 l0_1.length c0_1], .int .i64 a1, .int .i64 a2] w fun e w' => e = .returned (.bool r) ∧ Below w.heap.size w w' := by
 have hu32 := Try.underlying32
 have HR0_1 := aM hr0_1
 have HC0_1 := aM hc0_1
 clear hr0_1 hc0_1
 have HB := aM (Below.refl w.heap.size w)
 have H : ((strip_Good.f k a0_0 l0_1).bind fun t148 => (if t148 = true then (if a1 ≥ 0 then (if a1 ≤ a2 then (some (decide (a2 ≤ (a0_0.size : Int)))) else (some false)) else (some false)) else (some false))) = some r := h
 clear h
 replace H := Option.bind_eq_some_iff.mp H
 obtain ⟨t148, A40, H⟩ := H
 replace H : (if t148 = true then (if a1 ≥ 0 then (if a1 ≤ a2 then (some (decide (a2 ≤ (a0_0.size : Int)))) else (some false)) else (some false)) else (some false)) = some r := H
 have A4 := aM A40
 clear A40
 by_cases c5 : t148 = true
 ·subst c5
  have H1 : (if a1 ≥ 0 then (if a1 ≤ a2 then (some (decide (a2 ≤ (a0_0.size : Int)))) else (some false)) else (some false)) = some r := by rw [if_pos rfl] at H; exact H
  clear H
  have H := H1
  clear H1
  by_cases c6 : a1 ≥ 0
  ·rw [if_pos c6] at H
   have c6b0 : decide (0 ≤ a1) = true := decide_eq_true c6
   clear c6
   by_cases c7 : a1 ≤ a2
   ·rw [if_pos c7] at H
    have c7b0 : decide (a1 ≤ a2) = true := decide_eq_true c7
    clear c7
    obtain rfl := Option.some.inj H
    go_enter Try.func59, Try.ntmps59
    go_wp2_with (first | ((with_reducible refine gate_dst (N := 3) rfl ?_); (try (refine gate_guard (by rfl) ?_; dsimp only)); refine box_event ?hg (N := 3) ?hd (cs := #[.string a0_0, .slice A0_1 l0_1.length c0_1]) (t := 32) ?hr ?_; (case hd | hg => rfl); (case hr => first | (go_simp; done) | (go_simp; rfl)); intro gb147 hg w8 hbox hb; have n0_ := aM (bP (ey HB.out) hb); have n1_ := aM (hbox); have n2_ := aM ((by rw [hg]; exact (bZ (ey HB.out)) : w.heap.size ≤ gb147)); have n3_ := n2_; clear HB; have HB := n0_; have BK147 := n1_; have GW147 := n2_; have GE147 := n3_; clear n0_ n1_ n2_ n3_; clear hb hbox hg; have hcz9_0 := zC BK147.out 0 (.string a0_0); have hcz9_1 := zC BK147.out 1 (.slice A0_1 l0_1.length c0_1); have hfz9_0 := bF BK147.out 0; have hfz9_1 := bF BK147.out 1) | ((with_reducible refine gate_callee (f := 58) rfl ?_); refine goesL_ (some 8) rfl rfl Try.func58 (by kernel_rfl) rfl #[.agg #[.string a0_0, .slice A0_1 l0_1.length c0_1]] rfl (by (try simp only [mT, mC, mN]); first | done | rfl | (simp only [lD, lT]; rfl)) ?_; (with_reducible refine (strip_Good.calls k a0_0 _ _ l0_1 true _ ?side1 ?side2 A4.out).mono ?_); (case side1 => repeat (first | exact (cB_ HR0_1.out HB.out) | (with_reducible refine Kd.C_alloc ?_ _) | (with_reducible refine Kd.C_drewN ?_ _) | (with_reducible refine Kd.C_drew ?_))); (case side2 => exact HC0_1.out); rintro e w10 ⟨rfl, hb⟩; refine ⟨_, rfl, ?_⟩; have n0_ := aM (bB (g := gb147) (qy BK147.out) hb); have n1_ := aM (bP (by repeat (first | (with_reducible first | exact HB.out | apply ea | apply en | apply ed | refine es ?_ GE147.out) | exact HB.out)) hb); clear BK147 HB; have BK147 := n0_; have HB := n1_; clear n0_ n1_; (try clear hb); (try clear hb2); (try clear hk); (try clear hi); have hcz11_0 := zC BK147.out 0 (.string a0_0); have hcz11_1 := zC BK147.out 1 (.slice A0_1 l0_1.length c0_1); have hfz11_0 := bF BK147.out 0; have hfz11_1 := bF BK147.out 1))
    go_ret
    exact ⟨by first | rfl | (simp [errW_none, errW_some] <;> rfl) | (simp [*, errW_none, errW_some] <;> rfl), by repeat (first | (with_reducible first | exact HB.out | apply ea | apply en | apply ed | refine es ?_ GE147.out) | exact HB.out)⟩
   ·rw [if_neg c7] at H
    have c7b0 : decide (a1 ≤ a2) = false := decide_eq_false c7
    clear c7
    obtain rfl := Option.some.inj H
    go_enter Try.func59, Try.ntmps59
    go_wp2_with (first | ((with_reducible refine gate_dst (N := 3) rfl ?_); (try (refine gate_guard (by rfl) ?_; dsimp only)); refine box_event ?hg (N := 3) ?hd (cs := #[.string a0_0, .slice A0_1 l0_1.length c0_1]) (t := 32) ?hr ?_; (case hd | hg => rfl); (case hr => first | (go_simp; done) | (go_simp; rfl)); intro gb147 hg w12 hbox hb; have n0_ := aM (bP (ey HB.out) hb); have n1_ := aM (hbox); have n2_ := aM ((by rw [hg]; exact (bZ (ey HB.out)) : w.heap.size ≤ gb147)); have n3_ := n2_; clear HB; have HB := n0_; have BK147 := n1_; have GW147 := n2_; have GE147 := n3_; clear n0_ n1_ n2_ n3_; clear hb hbox hg; have hcz13_0 := zC BK147.out 0 (.string a0_0); have hcz13_1 := zC BK147.out 1 (.slice A0_1 l0_1.length c0_1); have hfz13_0 := bF BK147.out 0; have hfz13_1 := bF BK147.out 1) | ((with_reducible refine gate_callee (f := 58) rfl ?_); refine goesL_ (some 8) rfl rfl Try.func58 (by kernel_rfl) rfl #[.agg #[.string a0_0, .slice A0_1 l0_1.length c0_1]] rfl (by (try simp only [mT, mC, mN]); first | done | rfl | (simp only [lD, lT]; rfl)) ?_; (with_reducible refine (strip_Good.calls k a0_0 _ _ l0_1 true _ ?side1 ?side2 A4.out).mono ?_); (case side1 => repeat (first | exact (cB_ HR0_1.out HB.out) | (with_reducible refine Kd.C_alloc ?_ _) | (with_reducible refine Kd.C_drewN ?_ _) | (with_reducible refine Kd.C_drew ?_))); (case side2 => exact HC0_1.out); rintro e w14 ⟨rfl, hb⟩; refine ⟨_, rfl, ?_⟩; have n0_ := aM (bB (g := gb147) (qy BK147.out) hb); have n1_ := aM (bP (by repeat (first | (with_reducible first | exact HB.out | apply ea | apply en | apply ed | refine es ?_ GE147.out) | exact HB.out)) hb); clear BK147 HB; have BK147 := n0_; have HB := n1_; clear n0_ n1_; (try clear hb); (try clear hb2); (try clear hk); (try clear hi)))
    go_ret
    exact ⟨by first | rfl | (simp [errW_none, errW_some] <;> rfl) | (simp [*, errW_none, errW_some] <;> rfl), by repeat (first | (with_reducible first | exact HB.out | apply ea | apply en | apply ed | refine es ?_ GE147.out) | exact HB.out)⟩
  ·rw [if_neg c6] at H
   have c6b0 : decide (0 ≤ a1) = false := decide_eq_false c6
   clear c6
   obtain rfl := Option.some.inj H
   go_enter Try.func59, Try.ntmps59
   go_wp2_with (first | ((with_reducible refine gate_dst (N := 3) rfl ?_); (try (refine gate_guard (by rfl) ?_; dsimp only)); refine box_event ?hg (N := 3) ?hd (cs := #[.string a0_0, .slice A0_1 l0_1.length c0_1]) (t := 32) ?hr ?_; (case hd | hg => rfl); (case hr => first | (go_simp; done) | (go_simp; rfl)); intro gb147 hg w15 hbox hb; have n0_ := aM (bP (ey HB.out) hb); have n1_ := aM (hbox); have n2_ := aM ((by rw [hg]; exact (bZ (ey HB.out)) : w.heap.size ≤ gb147)); have n3_ := n2_; clear HB; have HB := n0_; have BK147 := n1_; have GW147 := n2_; have GE147 := n3_; clear n0_ n1_ n2_ n3_; clear hb hbox hg; have hcz16_0 := zC BK147.out 0 (.string a0_0); have hcz16_1 := zC BK147.out 1 (.slice A0_1 l0_1.length c0_1); have hfz16_0 := bF BK147.out 0; have hfz16_1 := bF BK147.out 1) | ((with_reducible refine gate_callee (f := 58) rfl ?_); refine goesL_ (some 8) rfl rfl Try.func58 (by kernel_rfl) rfl #[.agg #[.string a0_0, .slice A0_1 l0_1.length c0_1]] rfl (by (try simp only [mT, mC, mN]); first | done | rfl | (simp only [lD, lT]; rfl)) ?_; (with_reducible refine (strip_Good.calls k a0_0 _ _ l0_1 true _ ?side1 ?side2 A4.out).mono ?_); (case side1 => repeat (first | exact (cB_ HR0_1.out HB.out) | (with_reducible refine Kd.C_alloc ?_ _) | (with_reducible refine Kd.C_drewN ?_ _) | (with_reducible refine Kd.C_drew ?_))); (case side2 => exact HC0_1.out); rintro e w17 ⟨rfl, hb⟩; refine ⟨_, rfl, ?_⟩; have n0_ := aM (bB (g := gb147) (qy BK147.out) hb); have n1_ := aM (bP (by repeat (first | (with_reducible first | exact HB.out | apply ea | apply en | apply ed | refine es ?_ GE147.out) | exact HB.out)) hb); clear BK147 HB; have BK147 := n0_; have HB := n1_; clear n0_ n1_; (try clear hb); (try clear hb2); (try clear hk); (try clear hi)))
   go_ret
   exact ⟨by first | rfl | (simp [errW_none, errW_some] <;> rfl) | (simp [*, errW_none, errW_some] <;> rfl), by repeat (first | (with_reducible first | exact HB.out | apply ea | apply en | apply ed | refine es ?_ GE147.out) | exact HB.out)⟩
 ·replace c5 := Bool.eq_false_iff.mpr c5
  subst c5
  have H1 : (some false) = some r := by rw [if_neg (show ¬ (false = true) by decide)] at H; exact H
  clear H
  have H := H1
  clear H1
  obtain rfl := Option.some.inj H
  go_enter Try.func59, Try.ntmps59
  go_wp2_with (first | ((with_reducible refine gate_dst (N := 3) rfl ?_); (try (refine gate_guard (by rfl) ?_; dsimp only)); refine box_event ?hg (N := 3) ?hd (cs := #[.string a0_0, .slice A0_1 l0_1.length c0_1]) (t := 32) ?hr ?_; (case hd | hg => rfl); (case hr => first | (go_simp; done) | (go_simp; rfl)); intro gb147 hg w18 hbox hb; have n0_ := aM (bP (ey HB.out) hb); have n1_ := aM (hbox); have n2_ := aM ((by rw [hg]; exact (bZ (ey HB.out)) : w.heap.size ≤ gb147)); have n3_ := n2_; clear HB; have HB := n0_; have BK147 := n1_; have GW147 := n2_; have GE147 := n3_; clear n0_ n1_ n2_ n3_; clear hb hbox hg; have hcz19_0 := zC BK147.out 0 (.string a0_0); have hcz19_1 := zC BK147.out 1 (.slice A0_1 l0_1.length c0_1); have hfz19_0 := bF BK147.out 0; have hfz19_1 := bF BK147.out 1) | ((with_reducible refine gate_callee (f := 58) rfl ?_); refine goesL_ (some 8) rfl rfl Try.func58 (by kernel_rfl) rfl #[.agg #[.string a0_0, .slice A0_1 l0_1.length c0_1]] rfl (by (try simp only [mT, mC, mN]); first | done | rfl | (simp only [lD, lT]; rfl)) ?_; (with_reducible refine (strip_Good.calls k a0_0 _ _ l0_1 false _ ?side1 ?side2 A4.out).mono ?_); (case side1 => repeat (first | exact (cB_ HR0_1.out HB.out) | (with_reducible refine Kd.C_alloc ?_ _) | (with_reducible refine Kd.C_drewN ?_ _) | (with_reducible refine Kd.C_drew ?_))); (case side2 => exact HC0_1.out); rintro e w20 ⟨rfl, hb⟩; refine ⟨_, rfl, ?_⟩; have n0_ := aM (bB (g := gb147) (qy BK147.out) hb); have n1_ := aM (bP (by repeat (first | (with_reducible first | exact HB.out | apply ea | apply en | apply ed | refine es ?_ GE147.out) | exact HB.out)) hb); clear BK147 HB; have BK147 := n0_; have HB := n1_; clear n0_ n1_; (try clear hb); (try clear hb2); (try clear hk); (try clear hi)))
  go_ret
  exact ⟨by first | rfl | (simp [errW_none, errW_some] <;> rfl) | (simp [*, errW_none, errW_some] <;> rfl), by repeat (first | (with_reducible first | exact HB.out | apply ea | apply en | apply ed | refine es ?_ GE147.out) | exact HB.out)⟩
end Go.Proofs.Ytbbgpfjeobdogaa.PB
end

section
namespace Go.Proofs.Ytbbgpfjeobdogaa.PB
open Go.RowKit Go.Proofs.YtbbgpfjeobdogaaW.PrintWords Go.Proofs.YtbbgpfjeobdogaaW.PrintLast Go.Proofs.YtbbgpfjeobdogaaW.PrintMore
attribute [local go_sem] max2_int min2_int max_two min_two max_three min_three max_four min_four   
set_option linter.unusedVariables false
set_option linter.unusedSimpArgs false
def strip_Splice.j0 : Nat → Int → Int → Bool → ByteArray → List (S71) → ByteArray → List (S71) → Option (ByteArray × (List (S71)) × Int)
 | 0, _, _, _, _, _, _, _ => none
 | k + 1, x1, x2, x21, x164000, x164001, x165000, x165001 => if x21 = true then (some ((⟨#[]⟩ : ByteArray), ([] : List (S71)), 2)) else ((runs_Splice.f k x164001 x1 x2 x165001).bind fun bt168 => (if bt168.2 = 0 then (if 0 ≤ x1 then (if x1 ≤ (x164000.size : Int) then (if (x164000.extract 0 (x1 : Int).toNat).size + x165000.size ≤ 9223372036854775807 then (if 0 ≤ x2 then (if x2 ≤ (x164000.size : Int) then (if ((x164000.extract 0 (x1 : Int).toNat) ++ x165000).size + (x164000.extract (x2 : Int).toNat x164000.size).size ≤ 9223372036854775807 then (some (((x164000.extract 0 (x1 : Int).toNat) ++ x165000) ++ (x164000.extract (x2 : Int).toNat x164000.size), bt168.1, 0)) else (none)) else (none)) else (none)) else (none)) else (none)) else (none)) else (some ((⟨#[]⟩ : ByteArray), ([] : List (S71)), bt168.2))))
def strip_Splice.f (k : Nat) (a0_0 : ByteArray) (l0_1 : List (S71)) (a1 : Int) (a2 : Int) (a3_0 : ByteArray) (l3_1 : List (S71)) : Option (ByteArray × (List (S71)) × Int) := (strip_within.f k a0_0 l0_1 a1 a2).bind fun t166 => (if t166 = true then ((strip_Good.f k a3_0 l3_1).bind fun t167 => (strip_Splice.j0 k a1 a2 (!t167) a0_0 l0_1 a3_0 l3_1)) else (strip_Splice.j0 k a1 a2 true a0_0 l0_1 a3_0 l3_1))
def strip_Splice.T6 : Bool × List (List Nat × List Nat) := (true, [([], []), ([0], [0]), ([], []), ([1, 2], [1, 2]), ([], []), ([4], [4]), ([3, 5], [3, 5]), ([], []), ([7], [7]), ([], []), ([8, 9], [8, 9]), ([6, 10], [6, 10]), ([], []), ([11, 12], [11, 12]), ([13, 0, 1, 2, 3, 4, 5, 6, 7, 8, 9, 10, 11, 12, 13], [13]), ([14, 0, 1, 2, 3, 4, 5, 6, 7, 8, 9, 10, 11, 12, 13, 14], [])])
def strip_Splice.B6 : List Nat := [0, 1, 0, 7, 0, 16, 63, 0, 128, 0, 896, 2047, 0, 8191, 16383, 32767]
theorem strip_Splice.tab6 : rtab .any (opsOf Try.f51 6) = strip_Splice.T6 := by kernel_rfl
theorem strip_Splice.bits6 : waitsOk strip_Splice.T6.2 strip_Splice.B6 = true := by kernel_rfl
set_option maxHeartbeats 8000000 in
set_option maxRecDepth 100000 in
theorem strip_Splice.calls (k : Nat) (a0_0 : ByteArray) (A0_1 : Option Addr) (c0_1 : Nat) (l0_1 : List (S71)) (a1 : Int) (a2 : Int) (a3_0 : ByteArray) (A3_1 : Option Addr) (c3_1 : Nat) (l3_1 : List (S71)) (r1 : ByteArray) (r2 : List (S71)) (r3 : Int) (w : World) (hr0_1 : Kd.C k71 w A0_1 l0_1.length l0_1) (hc0_1 : l0_1.length ≤ c0_1) (hr3_1 : Kd.C k71 w A3_1 l3_1.length l3_1) (hc3_1 : l3_1.length ≤ c3_1) (h : strip_Splice.f k a0_0 l0_1 a1 a2 a3_0 l3_1 = some (r1, r2, r3)) :
  Calls Try.prog 51 #[.agg #[.string a0_0, .slice A0_1 l0_1.length c0_1], .int .i64 a1, .int .i64 a2, .agg #[.string a3_0, .slice A3_1 l3_1.length c3_1]] w fun e w' => ∃ v1_ : Value, e = .returned (.tuple #[.agg #[.string r1, v1_], .int .i64 r3]) ∧ Kd.R k71 71 w' w.heap.size (fun _ => True) v1_ r2 ∧ Below w.heap.size w w' := by
 have hu32 := Try.underlying32
 have HR0_1 := aM hr0_1
 have HC0_1 := aM hc0_1
 clear hr0_1 hc0_1
 have HR3_1 := aM hr3_1
 have HC3_1 := aM hc3_1
 clear hr3_1 hc3_1
 have HB := aM (Below.refl w.heap.size w)
 have H : ((strip_within.f k a0_0 l0_1 a1 a2).bind fun t166 => (if t166 = true then ((strip_Good.f k a3_0 l3_1).bind fun t167 => (strip_Splice.j0 k a1 a2 (!t167) a0_0 l0_1 a3_0 l3_1)) else (strip_Splice.j0 k a1 a2 true a0_0 l0_1 a3_0 l3_1))) = some (r1, r2, r3) := h
 clear h
 have HC5 := aM H
 clear H
 go_enter Try.func51, Try.ntmps51
 go_upto_region 1 with (first | ((with_reducible refine gate_dst (N := 4) rfl ?_); refine box_event ?hg (N := 4) ?hd (cs := #[.string a0_0, .slice A0_1 l0_1.length c0_1]) (t := 32) ?hr ?_; (case hd | hg => rfl); (case hr => first | (go_simp; done) | (go_simp; rfl)); intro gb163 hg w6 hbox hb; have n0_ := aM (bP (ey HB.out) hb); have n1_ := aM (hbox); have n2_ := aM ((by rw [hg]; exact (bZ (ey HB.out)) : w.heap.size ≤ gb163)); have n3_ := n2_; clear HB; have HB := n0_; have BK163 := n1_; have GW163 := n2_; have GE163 := n3_; clear n0_ n1_ n2_ n3_; clear hb hbox hg) | ((with_reducible refine gate_dst (N := 7) rfl ?_); refine box_event ?hg (N := 7) ?hd (cs := #[.string a3_0, .slice A3_1 l3_1.length c3_1]) (t := 32) ?hr ?_; (case hd | hg => rfl); (case hr => first | (go_simp; done) | (go_simp; rfl)); intro gb164 hg w7 hbox hb; have n0_ := aM (bB (g := gb163) (qy BK163.out) hb); have n1_ := aM (bP (by repeat (first | (with_reducible first | exact HB.out | apply ea | apply en | apply ed | refine es ?_ GE163.out) | exact HB.out)) hb); have n2_ := aM (hbox); have n3_ := aM ((by rw [hg]; exact (bZ (by repeat (first | (with_reducible first | exact HB.out | apply ea | apply en | apply ed | refine es ?_ GE163.out) | exact HB.out))) : w.heap.size ≤ gb164)); have n4_ := n3_; have n5_ := aM ((by rw [hg]; exact Nat.ne_of_lt (blk_lt (g := gb163) (qy BK163.out)) : gb163 ≠ gb164)); have n6_ := aM ((by rw [hg]; exact Nat.ne_of_gt (blk_lt (g := gb163) (qy BK163.out)) : gb164 ≠ gb163)); clear BK163 HB; have BK163 := n0_; have HB := n1_; have BK164 := n2_; have GW164 := n3_; have GE164 := n4_; have NB163_164 := n5_; have NB164_163 := n6_; clear n0_ n1_ n2_ n3_ n4_ n5_ n6_; clear hb hbox hg) | ((with_reducible refine gate_dst (N := 8) rfl ?_); refine box_event ?hg (N := 8) ?hd (cs := #[.string (⟨#[]⟩ : ByteArray), .slice none 0 0]) (t := 32) ?hr ?_; (case hd | hg => rfl); (case hr => first | (go_simp; done) | (go_simp; rfl)); intro gb165 hg w8 hbox hb; have n0_ := aM (bB (g := gb163) (qy BK163.out) hb); have n1_ := aM (bB (g := gb164) (qy BK164.out) hb); have n2_ := aM (bP (by repeat (first | (with_reducible first | exact HB.out | apply ea | apply en | apply ed | refine es ?_ GE163.out | refine es ?_ GE164.out) | exact HB.out)) hb); have n3_ := aM (hbox); have n4_ := aM ((by rw [hg]; exact (bZ (by repeat (first | (with_reducible first | exact HB.out | apply ea | apply en | apply ed | refine es ?_ GE163.out | refine es ?_ GE164.out) | exact HB.out))) : w.heap.size ≤ gb165)); have n5_ := n4_; have n6_ := aM ((by rw [hg]; exact Nat.ne_of_lt (blk_lt (g := gb163) (qy BK163.out)) : gb163 ≠ gb165)); have n7_ := aM ((by rw [hg]; exact Nat.ne_of_gt (blk_lt (g := gb163) (qy BK163.out)) : gb165 ≠ gb163)); have n8_ := aM ((by rw [hg]; exact Nat.ne_of_lt (blk_lt (g := gb164) (qy BK164.out)) : gb164 ≠ gb165)); have n9_ := aM ((by rw [hg]; exact Nat.ne_of_gt (blk_lt (g := gb164) (qy BK164.out)) : gb165 ≠ gb164)); clear BK163 BK164 HB; have BK163 := n0_; have BK164 := n1_; have HB := n2_; have BK165 := n3_; have GW165 := n4_; have GE165 := n5_; have NB163_165 := n6_; have NB165_163 := n7_; have NB164_165 := n8_; have NB165_164 := n9_; clear n0_ n1_ n2_ n3_ n4_ n5_ n6_ n7_ n8_ n9_; clear hb hbox hg))
 (try simp only [Act.put, sA, sZ, sS])
 go_cut [21] (fun v21 wc => ∃ (kq : Nat) (x21_4 : Bool), v21 = .bool x21_4 ∧ Aside0 (strip_Splice.j0 kq a1 a2 x21_4 a0_0 l0_1 a3_0 l3_1 = some (r1, r2, r3)) ∧ Aside0 (kq ≤ k) ∧ Aside0 (wc.heap[gb163]? = some (.cells #[.string a0_0, (.slice A0_1 l0_1.length c0_1)] 32 (0, 0))) ∧ Aside0 (wc.heap[gb164]? = some (.cells #[.string a3_0, (.slice A3_1 l3_1.length c3_1)] 32 (0, 0))) ∧ Aside0 (wc.heap[gb165]? = some (.cells #[.string (⟨#[]⟩ : ByteArray), (.slice none 0 0)] 32 (0, 0))) ∧ Aside0 (Below w.heap.size w wc))
 case first =>
  have H := HC5.out
  clear HC5
  replace H := Option.bind_eq_some_iff.mp H
  obtain ⟨t166, A90, H⟩ := H
  replace H : (if t166 = true then ((strip_Good.f k a3_0 l3_1).bind fun t167 => (strip_Splice.j0 k a1 a2 (!t167) a0_0 l0_1 a3_0 l3_1)) else (strip_Splice.j0 k a1 a2 true a0_0 l0_1 a3_0 l3_1)) = some (r1, r2, r3) := H
  have A9 := aM A90
  clear A90
  by_cases c10 : t166 = true
  ·subst c10
   have H1 : ((strip_Good.f k a3_0 l3_1).bind fun t167 => (strip_Splice.j0 k a1 a2 (!t167) a0_0 l0_1 a3_0 l3_1)) = some (r1, r2, r3) := by rw [if_pos rfl] at H; exact H
   clear H
   have H := H1
   clear H1
   replace H := Option.bind_eq_some_iff.mp H
   obtain ⟨t167, A110, H⟩ := H
   replace H : (strip_Splice.j0 k a1 a2 (!t167) a0_0 l0_1 a3_0 l3_1) = some (r1, r2, r3) := H
   have A11 := aM A110
   clear A110
   have H' := aM H
   clear H
   have hnb12 := NB163_164.out
   have hnc12 := NB164_163.out
   have hnb13 := NB163_165.out
   have hnc13 := NB165_163.out
   have hcz14_0 := zC BK163.out 0 (.string a0_0)
   have hcz14_1 := zC BK163.out 1 (.slice A0_1 l0_1.length c0_1)
   have hfz14_0 := bF BK163.out 0
   have hfz14_1 := bF BK163.out 1
   go_wp2_with (first | ((with_reducible refine gate_callee (f := 59) rfl ?_); refine goesL_ (some 15) rfl rfl Try.func59 (by kernel_rfl) rfl #[.agg #[.string a0_0, .slice A0_1 l0_1.length c0_1], .int .i64 a1, .int .i64 a2] rfl (by (try simp only [mT, mC, mN]); first | done | rfl | (simp only [lD, lT]; rfl)) ?_; (with_reducible refine (strip_within.calls k a0_0 _ _ l0_1 a1 a2 true _ ?side1 ?side2 A9.out).mono ?_); (case side1 => repeat (first | exact (cB_ HR0_1.out HB.out) | (with_reducible refine Kd.C_alloc ?_ _) | (with_reducible refine Kd.C_drewN ?_ _) | (with_reducible refine Kd.C_drew ?_))); (case side2 => exact HC0_1.out); rintro e w15 ⟨rfl, hb⟩; refine ⟨_, rfl, ?_⟩; have n0_ := aM (bB (g := gb163) (qy BK163.out) hb); have n1_ := aM (bB (g := gb164) (qy BK164.out) hb); have n2_ := aM (bB (g := gb165) (qy BK165.out) hb); have n3_ := aM (bP (by repeat (first | (with_reducible first | exact HB.out | apply ea | apply en | apply ed | refine es ?_ GE163.out | refine es ?_ GE164.out | refine es ?_ GE165.out) | exact HB.out)) hb); clear BK163 BK164 BK165 HB; have BK163 := n0_; have BK164 := n1_; have BK165 := n2_; have HB := n3_; clear n0_ n1_ n2_ n3_; (try clear hb); (try clear hb2); (try clear hk); (try clear hi); have hnb16 := NB164_165.out; have hnc16 := NB165_164.out; have hcz17_0 := zC BK164.out 0 (.string a3_0); have hcz17_1 := zC BK164.out 1 (.slice A3_1 l3_1.length c3_1); have hfz17_0 := bF BK164.out 0; have hfz17_1 := bF BK164.out 1) | (go_at_call 58; (with_reducible refine (strip_Good.calls k a3_0 _ _ l3_1 t167 _ ?side1 ?side2 A11.out).mono ?_); (case side1 => repeat (first | exact (cB_ HR3_1.out HB.out) | (with_reducible refine Kd.C_alloc ?_ _) | (with_reducible refine Kd.C_drewN ?_ _) | (with_reducible refine Kd.C_drew ?_))); (case side2 => exact HC3_1.out); rintro e w18 ⟨rfl, hb⟩; have n0_ := aM (bB (g := gb163) (qy BK163.out) hb); have n1_ := aM (bB (g := gb164) (qy BK164.out) hb); have n2_ := aM (bB (g := gb165) (qy BK165.out) hb); have n3_ := aM (bP (by repeat (first | (with_reducible first | exact HB.out | apply ea | apply en | apply ed | refine es ?_ GE163.out | refine es ?_ GE164.out | refine es ?_ GE165.out) | exact HB.out)) hb); clear BK163 BK164 BK165 HB; have BK163 := n0_; have BK164 := n1_; have BK165 := n2_; have HB := n3_; clear n0_ n1_ n2_ n3_; (try clear hb); (try clear hb2); (try clear hk); (try clear hi)))
   go_meet
   case rel => exact ⟨_, (!t167), (by first | rfl | (simp; done) | (simp [*]; done)), H', ⟨by first | omega | exact Nat.le_refl _⟩, ⟨by exact qy BK163.out⟩, ⟨by exact qy BK164.out⟩, ⟨by exact qy BK165.out⟩, ⟨by repeat (first | (with_reducible first | exact HB.out | apply ea | apply en | apply ed | refine es ?_ GE163.out | refine es ?_ GE164.out | refine es ?_ GE165.out) | exact HB.out)⟩⟩
  ·replace c10 := Bool.eq_false_iff.mpr c10
   subst c10
   have H1 : (strip_Splice.j0 k a1 a2 true a0_0 l0_1 a3_0 l3_1) = some (r1, r2, r3) := by rw [if_neg (show ¬ (false = true) by decide)] at H; exact H
   clear H
   have H := H1
   clear H1
   have H' := aM H
   clear H
   have hnb19 := NB163_164.out
   have hnc19 := NB164_163.out
   have hnb20 := NB163_165.out
   have hnc20 := NB165_163.out
   have hcz21_0 := zC BK163.out 0 (.string a0_0)
   have hcz21_1 := zC BK163.out 1 (.slice A0_1 l0_1.length c0_1)
   have hfz21_0 := bF BK163.out 0
   have hfz21_1 := bF BK163.out 1
   go_wp2_with (first | ((with_reducible refine gate_callee (f := 59) rfl ?_); refine goesL_ (some 15) rfl rfl Try.func59 (by kernel_rfl) rfl #[.agg #[.string a0_0, .slice A0_1 l0_1.length c0_1], .int .i64 a1, .int .i64 a2] rfl (by (try simp only [mT, mC, mN]); first | done | rfl | (simp only [lD, lT]; rfl)) ?_; (with_reducible refine (strip_within.calls k a0_0 _ _ l0_1 a1 a2 false _ ?side1 ?side2 A9.out).mono ?_); (case side1 => repeat (first | exact (cB_ HR0_1.out HB.out) | (with_reducible refine Kd.C_alloc ?_ _) | (with_reducible refine Kd.C_drewN ?_ _) | (with_reducible refine Kd.C_drew ?_))); (case side2 => exact HC0_1.out); rintro e w22 ⟨rfl, hb⟩; refine ⟨_, rfl, ?_⟩; have n0_ := aM (bB (g := gb163) (qy BK163.out) hb); have n1_ := aM (bB (g := gb164) (qy BK164.out) hb); have n2_ := aM (bB (g := gb165) (qy BK165.out) hb); have n3_ := aM (bP (by repeat (first | (with_reducible first | exact HB.out | apply ea | apply en | apply ed | refine es ?_ GE163.out | refine es ?_ GE164.out | refine es ?_ GE165.out) | exact HB.out)) hb); clear BK163 BK164 BK165 HB; have BK163 := n0_; have BK164 := n1_; have BK165 := n2_; have HB := n3_; clear n0_ n1_ n2_ n3_; (try clear hb); (try clear hb2); (try clear hk); (try clear hi)))
   go_meet
   case rel => exact ⟨_, (true), (by first | rfl | (simp; done) | (simp [*]; done)), H', ⟨by first | omega | exact Nat.le_refl _⟩, ⟨by exact qy BK163.out⟩, ⟨by exact qy BK164.out⟩, ⟨by exact qy BK165.out⟩, ⟨by repeat (first | (with_reducible first | exact HB.out | apply ea | apply en | apply ed | refine es ?_ GE163.out | refine es ?_ GE164.out | refine es ?_ GE165.out) | exact HB.out)⟩⟩
 case rest =>
  clear HC5
  try clear c1
  try clear c2
  try clear p2
  try clear c3
  try clear c5
  try clear c10
  try clear c12
  try clear c13
  try clear c16
  try clear c19
  try clear c20
  try clear hcz14_0
  try clear hcz14_1
  try clear hcz17_0
  try clear hcz17_1
  try clear hcz21_0
  try clear hcz21_1
  try clear hfz14_0
  try clear hfz14_1
  try clear hfz17_0
  try clear hfz17_1
  try clear hfz21_0
  try clear hfz21_1
  obtain ⟨kq, x21_4, rfl, HA, HJ4, BK163, BK164, BK165, HB⟩ := hcut
  cases kq with
  | zero => exact absurd HA.out (by simp [strip_Splice.j0])
  | succ kj4 =>
   have H := HA.out
   clear HA
   simp only [strip_Splice.j0] at H
   by_cases c23 : x21_4 = true
   ·subst c23
    have H1 : (some ((⟨#[]⟩ : ByteArray), ([] : List (S71)), 2)) = some (r1, r2, r3) := by rw [if_pos rfl] at H; exact H
    clear H
    have H := H1
    clear H1
    simp only [Option.some.injEq, Prod.mk.injEq] at H
    obtain ⟨rfl, rfl, rfl⟩ := H
    have hnb24 := NB165_163.out
    have hnc24 := NB163_165.out
    have hnb25 := NB165_164.out
    have hnc25 := NB164_165.out
    have hcz26_0 := zC BK165.out 0 (.string (⟨#[]⟩ : ByteArray))
    have hcz26_1 := zC BK165.out 1 (.slice none 0 0)
    have hfz26_0 := bF BK165.out 0
    have hfz26_1 := bF BK165.out 1
    go_wp2
    refine bodyPost_ret (results_ct rfl _ _ gb165 32 #[.string (⟨#[]⟩ : ByteArray), .slice none 0 0] (0, 0) _ rfl (by (with_reducible repeat (first | apply qn | apply qd | apply qa)); refine bU (cs := #[.string (⟨#[]⟩ : ByteArray), .slice none 0 0]) ?_ 1 _ rfl; (with_reducible repeat (first | apply qn | apply qd | apply qa)); refine bU (cs := #[.string (⟨#[]⟩ : ByteArray), .slice none 0 0]) ?_ 0 _ rfl; exact qy BK165.out) Try.underlying32 rfl (by kernel_rfl)) rfl ?_
    exact ⟨_, by first | rfl | (simp [errW_none, errW_some] <;> rfl) | (simp [*, errW_none, errW_some] <;> rfl), by first | exact Kd.R_nil _ _ _ _ _ | exact Kd.N_nil _ _ _ _ _ | exact Kd.V_nil _ _ _ _ _ | exact Kd.Q_nil _ _ _ _ _ | exact Kd.S_nil _ _ _ _ _, by repeat (first | (with_reducible first | exact HB.out | apply ea | apply en | apply ed | refine es ?_ GE163.out | refine es ?_ GE164.out | refine es ?_ GE165.out) | exact HB.out)⟩
   ·replace c23 := Bool.eq_false_iff.mpr c23
    subst c23
    have H1 : ((runs_Splice.f kj4 l0_1 a1 a2 l3_1).bind fun bt168 => (if bt168.2 = 0 then (if 0 ≤ a1 then (if a1 ≤ (a0_0.size : Int) then (if (a0_0.extract 0 (a1 : Int).toNat).size + a3_0.size ≤ 9223372036854775807 then (if 0 ≤ a2 then (if a2 ≤ (a0_0.size : Int) then (if ((a0_0.extract 0 (a1 : Int).toNat) ++ a3_0).size + (a0_0.extract (a2 : Int).toNat a0_0.size).size ≤ 9223372036854775807 then (some (((a0_0.extract 0 (a1 : Int).toNat) ++ a3_0) ++ (a0_0.extract (a2 : Int).toNat a0_0.size), bt168.1, 0)) else (none)) else (none)) else (none)) else (none)) else (none)) else (none)) else (some ((⟨#[]⟩ : ByteArray), ([] : List (S71)), bt168.2)))) = some (r1, r2, r3) := by rw [if_neg (show ¬ (false = true) by decide)] at H; exact H
    clear H
    have H := H1
    clear H1
    replace H := Option.bind_eq_some_iff.mp H
    obtain ⟨⟨t168, t169⟩, A270, H⟩ := H
    replace H : (if t169 = 0 then (if 0 ≤ a1 then (if a1 ≤ (a0_0.size : Int) then (if (a0_0.extract 0 (a1 : Int).toNat).size + a3_0.size ≤ 9223372036854775807 then (if 0 ≤ a2 then (if a2 ≤ (a0_0.size : Int) then (if ((a0_0.extract 0 (a1 : Int).toNat) ++ a3_0).size + (a0_0.extract (a2 : Int).toNat a0_0.size).size ≤ 9223372036854775807 then (some (((a0_0.extract 0 (a1 : Int).toNat) ++ a3_0) ++ (a0_0.extract (a2 : Int).toNat a0_0.size), t168, 0)) else (none)) else (none)) else (none)) else (none)) else (none)) else (none)) else (some ((⟨#[]⟩ : ByteArray), ([] : List (S71)), t169))) = some (r1, r2, r3) := H
    have A27 := aM A270
    clear A270
    by_cases c28 : t169 = 0
    ·rw [if_pos c28] at H
     have c28b0 : (t169 == 0) = true := beq_iff_eq.mpr c28
     have c28b1 : (t169 != 0) = false := bne_eq_false_iff_eq.mpr c28
     clear c28
     by_cases c29 : 0 ≤ a1
     ·rw [if_pos c29] at H
      have c29b0 := eq_true c29
      have c29b1 : decide (0 ≤ a1) = true := decide_eq_true c29
      clear c29
      by_cases c30 : a1 ≤ (a0_0.size : Int)
      ·rw [if_pos c30] at H
       have c30b0 := eq_true c30
       have c30b1 : decide (a1 ≤ (a0_0.size : Int)) = true := decide_eq_true c30
       clear c30
       by_cases c31 : (a0_0.extract 0 (a1 : Int).toNat).size + a3_0.size ≤ 9223372036854775807
       ·rw [if_pos c31] at H
        have c31b0 := eq_true c31
        have c31b1 : decide ((a0_0.extract 0 (a1 : Int).toNat).size + a3_0.size ≤ 9223372036854775807) = true := decide_eq_true c31
        try have c31b2 : (9223372036854775807 < (a0_0.extract 0 (a1 : Int).toNat).size + a3_0.size) = False := eq_false (Nat.not_lt.2 c31)
        try (have c31e_ := Nat.not_lt.2 c31; simp only [ByteArray.size_append] at c31e_; have c31f_ := eq_false c31e_; clear c31e_)
        try (have c31c_ := c31; simp [go_sem, c29b0, c30b0] at c31c_; have c31d_ := eq_false (Nat.not_lt.2 c31c_); clear c31c_)
        by_cases c32 : 0 ≤ a2
        ·rw [if_pos c32] at H
         have c32b0 := eq_true c32
         have c32b1 : decide (0 ≤ a2) = true := decide_eq_true c32
         clear c32
         by_cases c33 : a2 ≤ (a0_0.size : Int)
         ·rw [if_pos c33] at H
          have c33b0 := eq_true c33
          have c33b1 : decide (a2 ≤ (a0_0.size : Int)) = true := decide_eq_true c33
          clear c33
          by_cases c34 : ((a0_0.extract 0 (a1 : Int).toNat) ++ a3_0).size + (a0_0.extract (a2 : Int).toNat a0_0.size).size ≤ 9223372036854775807
          ·rw [if_pos c34] at H
           have c34b0 := eq_true c34
           have c34b1 : decide (((a0_0.extract 0 (a1 : Int).toNat) ++ a3_0).size + (a0_0.extract (a2 : Int).toNat a0_0.size).size ≤ 9223372036854775807) = true := decide_eq_true c34
           try have c34b2 : (9223372036854775807 < ((a0_0.extract 0 (a1 : Int).toNat) ++ a3_0).size + (a0_0.extract (a2 : Int).toNat a0_0.size).size) = False := eq_false (Nat.not_lt.2 c34)
           try (have c34e_ := Nat.not_lt.2 c34; simp only [ByteArray.size_append] at c34e_; have c34f_ := eq_false c34e_; clear c34e_)
           try (have c34c_ := c34; simp [go_sem, c29b0, c30b0, c31b0, c32b0, c33b0] at c34c_; have c34d_ := eq_false (Nat.not_lt.2 c34c_); clear c34c_)
           simp only [Option.some.injEq, Prod.mk.injEq] at H
           obtain ⟨rfl, rfl, rfl⟩ := H
           have hnb35 := NB163_164.out
           have hnc35 := NB164_163.out
           have hnb36 := NB163_165.out
           have hnc36 := NB165_163.out
           have hcz37_0 := zC BK163.out 0 (.string a0_0)
           have hcz37_1 := zC BK163.out 1 (.slice A0_1 l0_1.length c0_1)
           have hfz37_0 := bF BK163.out 0
           have hfz37_1 := bF BK163.out 1
           have hnb38 := NB164_165.out
           have hnc38 := NB165_164.out
           have hcz39_0 := zC BK164.out 0 (.string a3_0)
           have hcz39_1 := zC BK164.out 1 (.slice A3_1 l3_1.length c3_1)
           have hfz39_0 := bF BK164.out 0
           have hfz39_1 := bF BK164.out 1
           try go_wp2_with (first | ((with_reducible refine gate_callee (f := 62) rfl ?_); refine goesL_ (some 30) rfl rfl Try.func62 (by kernel_rfl) rfl #[.slice A0_1 l0_1.length c0_1, .int .i64 a1, .int .i64 a2, .slice A3_1 l3_1.length c3_1] rfl (by (try simp only [mT, mC, mN]); first | done | rfl | (simp only [lD, lT]; rfl)) ?_; (with_reducible refine (runs_Splice.calls kj4 _ _ l0_1 a1 a2 _ _ l3_1 t168 t169 _ ?side1 ?side2 ?side3 ?side4 A27.out).mono ?_); (case side1 => repeat (first | exact (cB_ HR0_1.out HB.out) | (with_reducible refine Kd.C_alloc ?_ _) | (with_reducible refine Kd.C_drewN ?_ _) | (with_reducible refine Kd.C_drew ?_))); (case side2 => exact HC0_1.out); (case side3 => repeat (first | exact (cB_ HR3_1.out HB.out) | (with_reducible refine Kd.C_alloc ?_ _) | (with_reducible refine Kd.C_drewN ?_ _) | (with_reducible refine Kd.C_drew ?_))); (case side4 => exact HC3_1.out); rintro e w40 ⟨v170, rfl, ho0, hb⟩; refine ⟨_, rfl, ?_⟩; have n0_ := aM (rL ho0 (bZ (by repeat (first | (with_reducible first | exact HB.out | apply ea | apply en | apply ed | refine es ?_ GE163.out | refine es ?_ GE164.out | refine es ?_ GE165.out) | exact HB.out)))); have n1_ := aM (bB (g := gb163) (qy BK163.out) hb); have n2_ := aM (bB (g := gb164) (qy BK164.out) hb); have n3_ := aM (bB (g := gb165) (qy BK165.out) hb); have n4_ := aM (bP (by repeat (first | (with_reducible first | exact HB.out | apply ea | apply en | apply ed | refine es ?_ GE163.out | refine es ?_ GE164.out | refine es ?_ GE165.out) | exact HB.out)) hb); clear BK163 BK164 BK165 HB; have HO171 := n0_; have BK163 := n1_; have BK164 := n2_; have BK165 := n3_; have HB := n4_; clear n0_ n1_ n2_ n3_ n4_; (try clear hb); (try clear hb2); (try clear hk); (try clear hi); (try clear ho0)))
           have n0_ := aM (Kd.R_drew HO171.out)
           have n1_ := aM (blk_drew BK163.out)
           have n2_ := aM (blk_drew BK164.out)
           have n3_ := aM (blk_drew BK165.out)
           have n4_ := aM (below_drew1 HB.out)
           clear HO171
           clear BK163
           clear BK164
           clear BK165
           clear HB
           have HO171 := n0_
           have BK163 := n1_
           have BK164 := n2_
           have BK165 := n3_
           have HB := n4_
           clear n0_ n1_ n2_ n3_ n4_
           obtain ⟨Ao42, co42, eo42⟩ := Kd.R_slice HO171.out
           (first | subst eo42 | (injection eo42 with f1_ f2_ f3_; have f4_ := f1_.symm; have f5_ := f3_.symm; clear f1_ f2_ f3_; subst f4_; subst f5_))
           refine start_ (n := 16) (S := fun w' => w'.cell? ⟨gb163, 0, none⟩ = some (.string a0_0) ∧ w'.cell? ⟨gb163, 1, none⟩ = some (.slice A0_1 l0_1.length c0_1) ∧ w'.cell? ⟨gb164, 0, none⟩ = some (.string a3_0) ∧ w'.cell? ⟨gb164, 1, none⟩ = some (.slice A3_1 l3_1.length c3_1)) (ds := []) b0_ (by kernel_rfl) rfl rfl ⟨(bC BK163.out 0).trans rfl, (bC BK163.out 1).trans rfl, (bC BK164.out 0).trans rfl, (bC BK164.out 1).trans rfl⟩ (fun hHeld => ?_); refine with_tabW strip_Splice.tab6 strip_Splice.bits6 (fun HT_ HW_ => ?_)
           generalize w40.drew = w41 at HO171 BK163 BK164 BK165 HB hHeld ⊢
           refine pure_ (i := 0) (N := some 37) (v := ?_) (a' := ?_) b1_ rfl rfl (any_of HT_.out (by kernel_rfl)) (fun _ _ _ h => h) (Or.inl ⟨by rfl, ?_⟩) ?_ ?_
           rotate_left
           ·intro w'
            go_simp
            with_reducible rfl
           rotate_left
           ·simp only [Act.put, sA, sZ, sS, i64_w, i32_w]
            rfl
           refine pure_ (i := 2) (N := some 39) (v := ?_) (a' := ?_) b46_ rfl rfl (any_of HT_.out (by kernel_rfl)) (fun _ _ _ h => h) (Or.inl ⟨by rfl, ?_⟩) ?_ ?_
           rotate_left
           ·intro w'
            go_simp
            with_reducible rfl
           rotate_left
           ·simp only [Act.put, sA, sZ, sS, i64_w, i32_w]
            rfl
           refine pure_ (i := 4) (N := some 41) (v := ?_) (a' := ?_) b47_ rfl rfl (any_of HT_.out (by kernel_rfl)) (fun _ _ _ h => h) (Or.inl ⟨by rfl, ?_⟩) ?_ ?_
           rotate_left
           ·intro w'
            go_simp
            with_reducible rfl
           rotate_left
           ·simp only [Act.put, sA, sZ, sS, i64_w, i32_w]
            rfl
           refine pure_ (i := 7) (N := some 44) (v := ?_) (a' := ?_) b48_ rfl rfl (any_of HT_.out (by kernel_rfl)) (fun _ _ _ h => h) (Or.inl ⟨by rfl, ?_⟩) ?_ ?_
           rotate_left
           ·intro w'
            go_simp
            with_reducible rfl
           rotate_left
           ·simp only [Act.put, sA, sZ, sS, i64_w, i32_w]
            rfl
           refine pure_ (i := 9) (N := some 46) (v := ?_) (a' := ?_) b49_ rfl rfl (any_of HT_.out (by kernel_rfl)) (fun _ _ _ h => h) (Or.inl ⟨by rfl, ?_⟩) ?_ ?_
           rotate_left
           ·intro w'
            go_simp
            with_reducible rfl
           rotate_left
           ·simp only [Act.put, sA, sZ, sS, i64_w, i32_w]
            rfl
           refine pure_ (i := 12) (N := some 49) (v := ?_) (a' := ?_) b50_ rfl rfl (any_of HT_.out (by kernel_rfl)) (fun _ _ _ h => h) (Or.inl ⟨by rfl, ?_⟩) ?_ ?_
           rotate_left
           ·intro w'
            go_simp
            with_reducible rfl
           rotate_left
           ·simp only [Act.put, sA, sZ, sS, i64_w, i32_w]
            rfl
           refine take_ (i := 1) (N := some 38) (v := ?_) (a' := ?_) b51_ rfl rfl (take_ofW HT_.out HW_.out (by kernel_rfl)) (fun _ _ _ h => h) (Or.inl ⟨by rfl, ?_⟩) hHeld ?_ ?_
           rotate_left
           ·rintro w' ⟨s0, s1, s2, s3⟩
            go_simp
            with_reducible rfl
           rotate_left
           ·simp only [Act.put, sA, sZ, sS, i64_w, i32_w]
            rfl
           refine pure_ (i := 3) (N := some 40) (v := ?_) (a' := ?_) b52_ rfl rfl (any_of HT_.out (by kernel_rfl)) (fun _ _ _ h => h) (Or.inl ⟨by rfl, ?_⟩) ?_ ?_
           rotate_left
           ·intro w'
            go_simp
            with_reducible rfl
           rotate_left
           ·simp only [Act.put, sA, sZ, sS, i64_w, i32_w]
            rfl
           refine take_ (i := 5) (N := some 42) (v := ?_) (a' := ?_) b53_ rfl rfl (take_ofW HT_.out HW_.out (by kernel_rfl)) (fun _ _ _ h => h) (Or.inl ⟨by rfl, ?_⟩) hHeld ?_ ?_
           rotate_left
           ·rintro w' ⟨s0, s1, s2, s3⟩
            go_simp
            with_reducible rfl
           rotate_left
           ·simp only [Act.put, sA, sZ, sS, i64_w, i32_w]
            rfl
           refine pure_ (i := 6) (N := some 43) (v := ?_) (a' := ?_) b54_ rfl rfl (any_of HT_.out (by kernel_rfl)) (fun _ _ _ h => h) (Or.inl ⟨by rfl, ?_⟩) ?_ ?_
           rotate_left
           ·intro w'
            go_simp
            with_reducible rfl
           rotate_left
           ·simp only [Act.put, sA, sZ, sS, i64_w, i32_w]
            rfl
           refine take_ (i := 8) (N := some 45) (v := ?_) (a' := ?_) b55_ rfl rfl (take_ofW HT_.out HW_.out (by kernel_rfl)) (fun _ _ _ h => h) (Or.inl ⟨by rfl, ?_⟩) hHeld ?_ ?_
           rotate_left
           ·rintro w' ⟨s0, s1, s2, s3⟩
            go_simp
            with_reducible rfl
           rotate_left
           ·simp only [Act.put, sA, sZ, sS, i64_w, i32_w]
            rfl
           refine pure_ (i := 10) (N := some 47) (v := ?_) (a' := ?_) b56_ rfl rfl (any_of HT_.out (by kernel_rfl)) (fun _ _ _ h => h) (Or.inl ⟨by rfl, ?_⟩) ?_ ?_
           rotate_left
           ·intro w'
            go_simp
            with_reducible rfl
           rotate_left
           ·simp only [Act.put, sA, sZ, sS, i64_w, i32_w]
            rfl
           refine pure_ (i := 11) (N := some 48) (v := ?_) (a' := ?_) b13_ rfl rfl (any_of HT_.out (by kernel_rfl)) (fun _ _ _ h => h) (Or.inl ⟨by rfl, ?_⟩) ?_ ?_
           rotate_left
           ·intro w'
            go_simp
            with_reducible rfl
           rotate_left
           ·simp only [Act.put, sA, sZ, sS, i64_w, i32_w]
            rfl
           refine pure_ (i := 13) (N := some 50) (v := ?_) (a' := ?_) b14_ rfl rfl (any_of HT_.out (by kernel_rfl)) (fun _ _ _ h => h) (Or.inl ⟨by rfl, ?_⟩) ?_ ?_
           rotate_left
           ·intro w'
            go_simp
            with_reducible rfl
           rotate_left
           ·simp only [Act.put, sA, sZ, sS, i64_w, i32_w]
            rfl
           refine one_ (i := 14) (N := none) b15_ rfl rfl (one_of HT_.out (by kernel_rfl)) (by decide) (fun K hK => ?_)
           have hs43 : w41.cell? ⟨gb165, 0, none⟩ = some (.string (⟨#[]⟩ : ByteArray)) := (bC BK165.out 0).trans rfl
           have hfs43 := bF BK165.out 0
           have hns43_0 := NB163_165.out
           have hns43_1 := NB164_165.out
           have hms43_0 := NB165_163.out
           have hms43_1 := NB165_164.out
           have hs44 : w41.cell? ⟨gb165, 1, none⟩ = some (.slice none 0 0) := (bC BK165.out 1).trans rfl
           have hfs44 := bF BK165.out 1
           have hns44_0 := NB163_165.out
           have hns44_1 := NB164_165.out
           have hms44_0 := NB165_163.out
           have hms44_1 := NB165_164.out
           refine skip_ (w1 := ?_) (by rfl) rfl ?_ ?_
           rotate_left
           ·go_simp
            rfl
           refine hK.out _ _ ⟨((cell_far (p := ⟨gb165, _, none⟩) NB163_165.out _).trans (((cell_far (p := ⟨gb165, _, none⟩) NB163_165.out _).trans (hHeld.1)))), ((cell_far (p := ⟨gb165, _, none⟩) NB163_165.out _).trans (((cell_far (p := ⟨gb165, _, none⟩) NB163_165.out _).trans (hHeld.2.1)))), ((cell_far (p := ⟨gb165, _, none⟩) NB164_165.out _).trans (((cell_far (p := ⟨gb165, _, none⟩) NB164_165.out _).trans (hHeld.2.2.1)))), ((cell_far (p := ⟨gb165, _, none⟩) NB164_165.out _).trans (((cell_far (p := ⟨gb165, _, none⟩) NB164_165.out _).trans (hHeld.2.2.2))))⟩ (fun hHeld => ?_)
           clear hK K
           refine pure_ (i := 15) (N := some 9) (v := ?_) (a' := ?_) b16_ rfl rfl (any_of HT_.out (by kernel_rfl)) (fun _ _ _ h => h) (Or.inl ⟨by rfl, ?_⟩) ?_ ?_
           rotate_left
           ·intro w'
            go_simp
            with_reducible rfl
           rotate_left
           ·simp only [Act.put, sA, sZ, sS, i64_w, i32_w]
            rfl
           refine done_ (done_of HT_.out (by kernel_rfl)) ?_
           try go_wp2
           refine bodyPost_ret (results_ct rfl _ _ gb165 32 #[.string (((a0_0.extract 0 (a1 : Int).toNat) ++ a3_0) ++ (a0_0.extract (a2 : Int).toNat a0_0.size)), .slice Ao42 t168.length co42] (0, 0) _ rfl (by (with_reducible repeat (first | apply qn | apply qd | apply qa)); refine bU (cs := #[.string (((a0_0.extract 0 (a1 : Int).toNat) ++ a3_0) ++ (a0_0.extract (a2 : Int).toNat a0_0.size)), .slice none 0 0]) ?_ 1 _ rfl; (with_reducible repeat (first | apply qn | apply qd | apply qa)); refine bU (cs := #[.string (⟨#[]⟩ : ByteArray), .slice none 0 0]) ?_ 0 _ rfl; exact qy BK165.out) Try.underlying32 rfl (by kernel_rfl)) rfl ?_
           exact ⟨_, by first | rfl | (simp [errW_none, errW_some] <;> rfl) | (simp [*, errW_none, errW_some] <;> rfl), by (with_reducible repeat (first | apply ra | apply rn | apply rd_)); exact rM (rF (p := ⟨gb165, 1, none⟩) (rF (p := ⟨gb165, 0, none⟩) (rT HO171.out BK165.out (by decide)) (fun _ hk => hk.2) (.string (((a0_0.extract 0 (a1 : Int).toNat) ++ a3_0) ++ (a0_0.extract (a2 : Int).toNat a0_0.size)))) (fun _ hk => hk.2) (.slice Ao42 t168.length co42)) (fun _ hk => trivial), by repeat (first | (with_reducible first | exact HB.out | apply ea | apply en | apply ed | refine es ?_ GE163.out | refine es ?_ GE164.out | refine es ?_ GE165.out) | exact HB.out)⟩
          ·rw [if_neg c34] at H
           exact absurd H (by simp)
         ·rw [if_neg c33] at H
          exact absurd H (by simp)
        ·rw [if_neg c32] at H
         exact absurd H (by simp)
       ·rw [if_neg c31] at H
        exact absurd H (by simp)
      ·rw [if_neg c30] at H
       exact absurd H (by simp)
     ·rw [if_neg c29] at H
      exact absurd H (by simp)
    ·rw [if_neg c28] at H
     have c28b0 : (t169 == 0) = false := beq_eq_false_iff_ne.mpr c28
     have c28b1 : (t169 != 0) = true := bne_iff_ne.mpr c28
     simp only [Option.some.injEq, Prod.mk.injEq] at H
     obtain ⟨rfl, rfl, rfl⟩ := H
     have hnb45 := NB163_164.out
     have hnc45 := NB164_163.out
     have hnb46 := NB163_165.out
     have hnc46 := NB165_163.out
     have hcz47_0 := zC BK163.out 0 (.string a0_0)
     have hcz47_1 := zC BK163.out 1 (.slice A0_1 l0_1.length c0_1)
     have hfz47_0 := bF BK163.out 0
     have hfz47_1 := bF BK163.out 1
     have hnb48 := NB164_165.out
     have hnc48 := NB165_164.out
     have hcz49_0 := zC BK164.out 0 (.string a3_0)
     have hcz49_1 := zC BK164.out 1 (.slice A3_1 l3_1.length c3_1)
     have hfz49_0 := bF BK164.out 0
     have hfz49_1 := bF BK164.out 1
     go_wp2_with (first | ((with_reducible refine gate_callee (f := 62) rfl ?_); refine goesL_ (some 30) rfl rfl Try.func62 (by kernel_rfl) rfl #[.slice A0_1 l0_1.length c0_1, .int .i64 a1, .int .i64 a2, .slice A3_1 l3_1.length c3_1] rfl (by (try simp only [mT, mC, mN]); first | done | rfl | (simp only [lD, lT]; rfl)) ?_; (with_reducible refine (runs_Splice.calls kj4 _ _ l0_1 a1 a2 _ _ l3_1 t168 t169 _ ?side1 ?side2 ?side3 ?side4 A27.out).mono ?_); (case side1 => repeat (first | exact (cB_ HR0_1.out HB.out) | (with_reducible refine Kd.C_alloc ?_ _) | (with_reducible refine Kd.C_drewN ?_ _) | (with_reducible refine Kd.C_drew ?_))); (case side2 => exact HC0_1.out); (case side3 => repeat (first | exact (cB_ HR3_1.out HB.out) | (with_reducible refine Kd.C_alloc ?_ _) | (with_reducible refine Kd.C_drewN ?_ _) | (with_reducible refine Kd.C_drew ?_))); (case side4 => exact HC3_1.out); rintro e w50 ⟨v170, rfl, ho0, hb⟩; refine ⟨_, rfl, ?_⟩; have n0_ := aM (rL ho0 (bZ (by repeat (first | (with_reducible first | exact HB.out | apply ea | apply en | apply ed | refine es ?_ GE163.out | refine es ?_ GE164.out | refine es ?_ GE165.out) | exact HB.out)))); have n1_ := aM (bB (g := gb163) (qy BK163.out) hb); have n2_ := aM (bB (g := gb164) (qy BK164.out) hb); have n3_ := aM (bB (g := gb165) (qy BK165.out) hb); have n4_ := aM (bP (by repeat (first | (with_reducible first | exact HB.out | apply ea | apply en | apply ed | refine es ?_ GE163.out | refine es ?_ GE164.out | refine es ?_ GE165.out) | exact HB.out)) hb); clear BK163 BK164 BK165 HB; have HO171 := n0_; have BK163 := n1_; have BK164 := n2_; have BK165 := n3_; have HB := n4_; clear n0_ n1_ n2_ n3_ n4_; (try clear hb); (try clear hb2); (try clear hk); (try clear hi); (try clear ho0); have hcz51_0 := zC BK165.out 0 (.string (⟨#[]⟩ : ByteArray)); have hcz51_1 := zC BK165.out 1 (.slice none 0 0); have hfz51_0 := bF BK165.out 0; have hfz51_1 := bF BK165.out 1))
     refine bodyPost_ret (results_ct rfl _ _ gb165 32 #[.string (⟨#[]⟩ : ByteArray), .slice none 0 0] (0, 0) _ rfl (by (with_reducible repeat (first | apply qn | apply qd | apply qa)); refine bU (cs := #[.string (⟨#[]⟩ : ByteArray), .slice none 0 0]) ?_ 1 _ rfl; (with_reducible repeat (first | apply qn | apply qd | apply qa)); refine bU (cs := #[.string (⟨#[]⟩ : ByteArray), .slice none 0 0]) ?_ 0 _ rfl; exact qy BK165.out) Try.underlying32 rfl (by kernel_rfl)) rfl ?_
     exact ⟨_, by first | rfl | (simp [errW_none, errW_some] <;> rfl) | (simp [*, errW_none, errW_some] <;> rfl), by first | exact Kd.R_nil _ _ _ _ _ | exact Kd.N_nil _ _ _ _ _ | exact Kd.V_nil _ _ _ _ _ | exact Kd.Q_nil _ _ _ _ _ | exact Kd.S_nil _ _ _ _ _, by repeat (first | (with_reducible first | exact HB.out | apply ea | apply en | apply ed | refine es ?_ GE163.out | refine es ?_ GE164.out | refine es ?_ GE165.out) | exact HB.out)⟩
end Go.Proofs.Ytbbgpfjeobdogaa.PB
end

section
namespace Go.Proofs.Ytbbgpfjeobdogaa.PB
open Go.RowKit Go.Proofs.YtbbgpfjeobdogaaW.PrintWords Go.Proofs.YtbbgpfjeobdogaaW.PrintLast Go.Proofs.YtbbgpfjeobdogaaW.PrintMore
attribute [local go_sem] max2_int min2_int max_two min_two max_three min_three max_four min_four   
set_option linter.unusedVariables false
set_option linter.unusedSimpArgs false
def strip_Cut.f (k : Nat) (a0_0 : ByteArray) (l0_1 : List (S71)) (a1 : Int) (a2 : Int) : Option (ByteArray × (List (S71)) × Int) := (strip_within.f k a0_0 l0_1 a1 a2).bind fun t153 => (if t153 = true then ((runs_Slice.f k l0_1 a1 a2).bind fun bt154 => (if 0 ≤ a1 then (if a1 ≤ a2 then (if a2 ≤ (a0_0.size : Int) then (some (a0_0.extract (a1 : Int).toNat (a2 : Int).toNat, bt154.1, bt154.2)) else (none)) else (none)) else (none))) else (some ((⟨#[]⟩ : ByteArray), ([] : List (S71)), 2)))
set_option maxHeartbeats 8000000 in
set_option maxRecDepth 100000 in
theorem strip_Cut.calls (k : Nat) (a0_0 : ByteArray) (A0_1 : Option Addr) (c0_1 : Nat) (l0_1 : List (S71)) (a1 : Int) (a2 : Int) (r1 : ByteArray) (r2 : List (S71)) (r3 : Int) (w : World) (hr0_1 : Kd.C k71 w A0_1 l0_1.length l0_1) (hc0_1 : l0_1.length ≤ c0_1) (h : strip_Cut.f k a0_0 l0_1 a1 a2 = some (r1, r2, r3)) :
  Calls Try.prog 49 #[.agg #[.string a0_0, .slice A0_1 l0_1.length c0_1], .int .i64 a1, .int .i64 a2] w fun e w' => ∃ v1_ : Value, e = .returned (.tuple #[.agg #[.string r1, v1_], .int .i64 r3]) ∧ Kd.R k71 71 w' w.heap.size (fun _ => True) v1_ r2 ∧ Below w.heap.size w w' := by
 have hu32 := Try.underlying32
 have HR0_1 := aM hr0_1
 have HC0_1 := aM hc0_1
 clear hr0_1 hc0_1
 have HB := aM (Below.refl w.heap.size w)
 have H : ((strip_within.f k a0_0 l0_1 a1 a2).bind fun t153 => (if t153 = true then ((runs_Slice.f k l0_1 a1 a2).bind fun bt154 => (if 0 ≤ a1 then (if a1 ≤ a2 then (if a2 ≤ (a0_0.size : Int) then (some (a0_0.extract (a1 : Int).toNat (a2 : Int).toNat, bt154.1, bt154.2)) else (none)) else (none)) else (none))) else (some ((⟨#[]⟩ : ByteArray), ([] : List (S71)), 2)))) = some (r1, r2, r3) := h
 clear h
 replace H := Option.bind_eq_some_iff.mp H
 obtain ⟨t153, A40, H⟩ := H
 replace H : (if t153 = true then ((runs_Slice.f k l0_1 a1 a2).bind fun bt154 => (if 0 ≤ a1 then (if a1 ≤ a2 then (if a2 ≤ (a0_0.size : Int) then (some (a0_0.extract (a1 : Int).toNat (a2 : Int).toNat, bt154.1, bt154.2)) else (none)) else (none)) else (none))) else (some ((⟨#[]⟩ : ByteArray), ([] : List (S71)), 2))) = some (r1, r2, r3) := H
 have A4 := aM A40
 clear A40
 by_cases c5 : t153 = true
 ·subst c5
  have H1 : ((runs_Slice.f k l0_1 a1 a2).bind fun bt154 => (if 0 ≤ a1 then (if a1 ≤ a2 then (if a2 ≤ (a0_0.size : Int) then (some (a0_0.extract (a1 : Int).toNat (a2 : Int).toNat, bt154.1, bt154.2)) else (none)) else (none)) else (none))) = some (r1, r2, r3) := by rw [if_pos rfl] at H; exact H
  clear H
  have H := H1
  clear H1
  replace H := Option.bind_eq_some_iff.mp H
  obtain ⟨⟨t154, t155⟩, A60, H⟩ := H
  replace H : (if 0 ≤ a1 then (if a1 ≤ a2 then (if a2 ≤ (a0_0.size : Int) then (some (a0_0.extract (a1 : Int).toNat (a2 : Int).toNat, t154, t155)) else (none)) else (none)) else (none)) = some (r1, r2, r3) := H
  have A6 := aM A60
  clear A60
  by_cases c7 : 0 ≤ a1
  ·rw [if_pos c7] at H
   have c7b0 := eq_true c7
   have c7b1 : decide (0 ≤ a1) = true := decide_eq_true c7
   clear c7
   by_cases c8 : a1 ≤ a2
   ·rw [if_pos c8] at H
    have c8b0 := eq_true c8
    have c8b1 : decide (a1 ≤ a2) = true := decide_eq_true c8
    clear c8
    by_cases c9 : a2 ≤ (a0_0.size : Int)
    ·rw [if_pos c9] at H
     have c9b0 := eq_true c9
     have c9b1 : decide (a2 ≤ (a0_0.size : Int)) = true := decide_eq_true c9
     clear c9
     simp only [Option.some.injEq, Prod.mk.injEq] at H
     obtain ⟨rfl, rfl, rfl⟩ := H
     go_enter Try.func49, Try.ntmps49
     go_wp2_with (first | ((with_reducible refine gate_dst (N := 3) rfl ?_); refine box_event ?hg (N := 3) ?hd (cs := #[.string a0_0, .slice A0_1 l0_1.length c0_1]) (t := 32) ?hr ?_; (case hd | hg => rfl); (case hr => first | (go_simp; done) | (go_simp; rfl)); intro gb151 hg w10 hbox hb; have n0_ := aM (bP (ey HB.out) hb); have n1_ := aM (hbox); have n2_ := aM ((by rw [hg]; exact (bZ (ey HB.out)) : w.heap.size ≤ gb151)); have n3_ := n2_; clear HB; have HB := n0_; have BK151 := n1_; have GW151 := n2_; have GE151 := n3_; clear n0_ n1_ n2_ n3_; clear hb hbox hg) | ((with_reducible refine gate_dst (N := 6) rfl ?_); refine box_event ?hg (N := 6) ?hd (cs := #[.string (⟨#[]⟩ : ByteArray), .slice none 0 0]) (t := 32) ?hr ?_; (case hd | hg => rfl); (case hr => first | (go_simp; done) | (go_simp; rfl)); intro gb152 hg w11 hbox hb; have n0_ := aM (bB (g := gb151) (qy BK151.out) hb); have n1_ := aM (bP (by repeat (first | (with_reducible first | exact HB.out | apply ea | apply en | apply ed | refine es ?_ GE151.out) | exact HB.out)) hb); have n2_ := aM (hbox); have n3_ := aM ((by rw [hg]; exact (bZ (by repeat (first | (with_reducible first | exact HB.out | apply ea | apply en | apply ed | refine es ?_ GE151.out) | exact HB.out))) : w.heap.size ≤ gb152)); have n4_ := n3_; have n5_ := aM ((by rw [hg]; exact Nat.ne_of_lt (blk_lt (g := gb151) (qy BK151.out)) : gb151 ≠ gb152)); have n6_ := aM ((by rw [hg]; exact Nat.ne_of_gt (blk_lt (g := gb151) (qy BK151.out)) : gb152 ≠ gb151)); clear BK151 HB; have BK151 := n0_; have HB := n1_; have BK152 := n2_; have GW152 := n3_; have GE152 := n4_; have NB151_152 := n5_; have NB152_151 := n6_; clear n0_ n1_ n2_ n3_ n4_ n5_ n6_; clear hb hbox hg; have hnb12 := NB151_152.out; have hnc12 := NB152_151.out; have hcz13_0 := zC BK151.out 0 (.string a0_0); have hcz13_1 := zC BK151.out 1 (.slice A0_1 l0_1.length c0_1); have hfz13_0 := bF BK151.out 0; have hfz13_1 := bF BK151.out 1) | ((with_reducible refine gate_callee (f := 59) rfl ?_); refine goesL_ (some 13) rfl rfl Try.func59 (by kernel_rfl) rfl #[.agg #[.string a0_0, .slice A0_1 l0_1.length c0_1], .int .i64 a1, .int .i64 a2] rfl (by (try simp only [mT, mC, mN]); first | done | rfl | (simp only [lD, lT]; rfl)) ?_; (with_reducible refine (strip_within.calls k a0_0 _ _ l0_1 a1 a2 true _ ?side1 ?side2 A4.out).mono ?_); (case side1 => repeat (first | exact (cB_ HR0_1.out HB.out) | (with_reducible refine Kd.C_alloc ?_ _) | (with_reducible refine Kd.C_drewN ?_ _) | (with_reducible refine Kd.C_drew ?_))); (case side2 => exact HC0_1.out); rintro e w14 ⟨rfl, hb⟩; refine ⟨_, rfl, ?_⟩; have n0_ := aM (bB (g := gb151) (qy BK151.out) hb); have n1_ := aM (bB (g := gb152) (qy BK152.out) hb); have n2_ := aM (bP (by repeat (first | (with_reducible first | exact HB.out | apply ea | apply en | apply ed | refine es ?_ GE151.out | refine es ?_ GE152.out) | exact HB.out)) hb); clear BK151 BK152 HB; have BK151 := n0_; have BK152 := n1_; have HB := n2_; clear n0_ n1_ n2_; (try clear hb); (try clear hb2); (try clear hk); (try clear hi); have hcz15_0 := zC BK151.out 0 (.string a0_0); have hcz15_1 := zC BK151.out 1 (.slice A0_1 l0_1.length c0_1); have hfz15_0 := bF BK151.out 0; have hfz15_1 := bF BK151.out 1) | ((with_reducible refine gate_callee (f := 60) rfl ?_); refine goesL_ (some 21) rfl rfl Try.func60 (by kernel_rfl) rfl #[.slice A0_1 l0_1.length c0_1, .int .i64 a1, .int .i64 a2] rfl (by (try simp only [mT, mC, mN]); first | done | rfl | (simp only [lD, lT]; rfl)) ?_; (with_reducible refine (runs_Slice.calls k _ _ l0_1 a1 a2 t154 t155 _ ?side1 ?side2 A6.out).mono ?_); (case side1 => repeat (first | exact (cB_ HR0_1.out HB.out) | (with_reducible refine Kd.C_alloc ?_ _) | (with_reducible refine Kd.C_drewN ?_ _) | (with_reducible refine Kd.C_drew ?_))); (case side2 => exact HC0_1.out); rintro e w16 ⟨v156, rfl, ho0, hb⟩; refine ⟨_, rfl, ?_⟩; have n0_ := aM (rL ho0 (bZ (by repeat (first | (with_reducible first | exact HB.out | apply ea | apply en | apply ed | refine es ?_ GE151.out | refine es ?_ GE152.out) | exact HB.out)))); have n1_ := aM (bB (g := gb151) (qy BK151.out) hb); have n2_ := aM (bB (g := gb152) (qy BK152.out) hb); have n3_ := aM (bP (by repeat (first | (with_reducible first | exact HB.out | apply ea | apply en | apply ed | refine es ?_ GE151.out | refine es ?_ GE152.out) | exact HB.out)) hb); clear BK151 BK152 HB; have HO157 := n0_; have BK151 := n1_; have BK152 := n2_; have HB := n3_; clear n0_ n1_ n2_ n3_; (try clear hb); (try clear hb2); (try clear hk); (try clear hi); (try clear ho0); have hcz17_0 := zC BK151.out 0 (.string a0_0); have hcz17_1 := zC BK151.out 1 (.slice A0_1 l0_1.length c0_1); have hfz17_0 := bF BK151.out 0; have hfz17_1 := bF BK151.out 1; obtain ⟨Ao18, co18, eo18⟩ := Kd.R_slice HO157.out; subst eo18; have hcz19_0 := zC BK152.out 0 (.string (⟨#[]⟩ : ByteArray)); have hcz19_1 := zC BK152.out 1 (.slice none 0 0); have hfz19_0 := bF BK152.out 0; have hfz19_1 := bF BK152.out 1))
     refine bodyPost_ret (results_ct rfl _ _ gb152 32 #[.string (a0_0.extract (a1 : Int).toNat (a2 : Int).toNat), .slice Ao18 t154.length co18] (0, 0) _ rfl (by (with_reducible repeat (first | apply qn | apply qd | apply qa)); refine bU (cs := #[.string (a0_0.extract (a1 : Int).toNat (a2 : Int).toNat), .slice none 0 0]) ?_ 1 _ rfl; (with_reducible repeat (first | apply qn | apply qd | apply qa)); refine bU (cs := #[.string (⟨#[]⟩ : ByteArray), .slice none 0 0]) ?_ 0 _ rfl; exact qy BK152.out) Try.underlying32 rfl (by kernel_rfl)) rfl ?_
     exact ⟨_, by first | rfl | (simp [errW_none, errW_some] <;> rfl) | (simp [*, errW_none, errW_some] <;> rfl), by (with_reducible repeat (first | apply ra | apply rn | apply rd_)); exact rM (rF (p := ⟨gb152, 1, none⟩) (rF (p := ⟨gb152, 0, none⟩) (rT HO157.out BK152.out (by decide)) (fun _ hk => hk.2) (.string (a0_0.extract (a1 : Int).toNat (a2 : Int).toNat))) (fun _ hk => hk.2) (.slice Ao18 t154.length co18)) (fun _ hk => trivial), by repeat (first | (with_reducible first | exact HB.out | apply ea | apply en | apply ed | refine es ?_ GE151.out | refine es ?_ GE152.out) | exact HB.out)⟩
    ·rw [if_neg c9] at H
     exact absurd H (by simp)
   ·rw [if_neg c8] at H
    exact absurd H (by simp)
  ·rw [if_neg c7] at H
   exact absurd H (by simp)
 ·replace c5 := Bool.eq_false_iff.mpr c5
  subst c5
  have H1 : (some ((⟨#[]⟩ : ByteArray), ([] : List (S71)), 2)) = some (r1, r2, r3) := by rw [if_neg (show ¬ (false = true) by decide)] at H; exact H
  clear H
  have H := H1
  clear H1
  simp only [Option.some.injEq, Prod.mk.injEq] at H
  obtain ⟨rfl, rfl, rfl⟩ := H
  go_enter Try.func49, Try.ntmps49
  go_wp2_with (first | ((with_reducible refine gate_dst (N := 3) rfl ?_); refine box_event ?hg (N := 3) ?hd (cs := #[.string a0_0, .slice A0_1 l0_1.length c0_1]) (t := 32) ?hr ?_; (case hd | hg => rfl); (case hr => first | (go_simp; done) | (go_simp; rfl)); intro gb151 hg w20 hbox hb; have n0_ := aM (bP (ey HB.out) hb); have n1_ := aM (hbox); have n2_ := aM ((by rw [hg]; exact (bZ (ey HB.out)) : w.heap.size ≤ gb151)); have n3_ := n2_; clear HB; have HB := n0_; have BK151 := n1_; have GW151 := n2_; have GE151 := n3_; clear n0_ n1_ n2_ n3_; clear hb hbox hg) | ((with_reducible refine gate_dst (N := 6) rfl ?_); refine box_event ?hg (N := 6) ?hd (cs := #[.string (⟨#[]⟩ : ByteArray), .slice none 0 0]) (t := 32) ?hr ?_; (case hd | hg => rfl); (case hr => first | (go_simp; done) | (go_simp; rfl)); intro gb152 hg w21 hbox hb; have n0_ := aM (bB (g := gb151) (qy BK151.out) hb); have n1_ := aM (bP (by repeat (first | (with_reducible first | exact HB.out | apply ea | apply en | apply ed | refine es ?_ GE151.out) | exact HB.out)) hb); have n2_ := aM (hbox); have n3_ := aM ((by rw [hg]; exact (bZ (by repeat (first | (with_reducible first | exact HB.out | apply ea | apply en | apply ed | refine es ?_ GE151.out) | exact HB.out))) : w.heap.size ≤ gb152)); have n4_ := n3_; have n5_ := aM ((by rw [hg]; exact Nat.ne_of_lt (blk_lt (g := gb151) (qy BK151.out)) : gb151 ≠ gb152)); have n6_ := aM ((by rw [hg]; exact Nat.ne_of_gt (blk_lt (g := gb151) (qy BK151.out)) : gb152 ≠ gb151)); clear BK151 HB; have BK151 := n0_; have HB := n1_; have BK152 := n2_; have GW152 := n3_; have GE152 := n4_; have NB151_152 := n5_; have NB152_151 := n6_; clear n0_ n1_ n2_ n3_ n4_ n5_ n6_; clear hb hbox hg; have hnb22 := NB151_152.out; have hnc22 := NB152_151.out; have hcz23_0 := zC BK151.out 0 (.string a0_0); have hcz23_1 := zC BK151.out 1 (.slice A0_1 l0_1.length c0_1); have hfz23_0 := bF BK151.out 0; have hfz23_1 := bF BK151.out 1) | ((with_reducible refine gate_callee (f := 59) rfl ?_); refine goesL_ (some 13) rfl rfl Try.func59 (by kernel_rfl) rfl #[.agg #[.string a0_0, .slice A0_1 l0_1.length c0_1], .int .i64 a1, .int .i64 a2] rfl (by (try simp only [mT, mC, mN]); first | done | rfl | (simp only [lD, lT]; rfl)) ?_; (with_reducible refine (strip_within.calls k a0_0 _ _ l0_1 a1 a2 false _ ?side1 ?side2 A4.out).mono ?_); (case side1 => repeat (first | exact (cB_ HR0_1.out HB.out) | (with_reducible refine Kd.C_alloc ?_ _) | (with_reducible refine Kd.C_drewN ?_ _) | (with_reducible refine Kd.C_drew ?_))); (case side2 => exact HC0_1.out); rintro e w24 ⟨rfl, hb⟩; refine ⟨_, rfl, ?_⟩; have n0_ := aM (bB (g := gb151) (qy BK151.out) hb); have n1_ := aM (bB (g := gb152) (qy BK152.out) hb); have n2_ := aM (bP (by repeat (first | (with_reducible first | exact HB.out | apply ea | apply en | apply ed | refine es ?_ GE151.out | refine es ?_ GE152.out) | exact HB.out)) hb); clear BK151 BK152 HB; have BK151 := n0_; have BK152 := n1_; have HB := n2_; clear n0_ n1_ n2_; (try clear hb); (try clear hb2); (try clear hk); (try clear hi); have hcz25_0 := zC BK152.out 0 (.string (⟨#[]⟩ : ByteArray)); have hcz25_1 := zC BK152.out 1 (.slice none 0 0); have hfz25_0 := bF BK152.out 0; have hfz25_1 := bF BK152.out 1))
  refine bodyPost_ret (results_ct rfl _ _ gb152 32 #[.string (⟨#[]⟩ : ByteArray), .slice none 0 0] (0, 0) _ rfl (by (with_reducible repeat (first | apply qn | apply qd | apply qa)); refine bU (cs := #[.string (⟨#[]⟩ : ByteArray), .slice none 0 0]) ?_ 1 _ rfl; (with_reducible repeat (first | apply qn | apply qd | apply qa)); refine bU (cs := #[.string (⟨#[]⟩ : ByteArray), .slice none 0 0]) ?_ 0 _ rfl; exact qy BK152.out) Try.underlying32 rfl (by kernel_rfl)) rfl ?_
  exact ⟨_, by first | rfl | (simp [errW_none, errW_some] <;> rfl) | (simp [*, errW_none, errW_some] <;> rfl), by first | exact Kd.R_nil _ _ _ _ _ | exact Kd.N_nil _ _ _ _ _ | exact Kd.V_nil _ _ _ _ _ | exact Kd.Q_nil _ _ _ _ _ | exact Kd.S_nil _ _ _ _ _, by repeat (first | (with_reducible first | exact HB.out | apply ea | apply en | apply ed | refine es ?_ GE151.out | refine es ?_ GE152.out) | exact HB.out)⟩
end Go.Proofs.Ytbbgpfjeobdogaa.PB
end

section
namespace Go.Proofs.Ytbbgpfjeobdogaa.PB
open Go.RowKit Go.Proofs.YtbbgpfjeobdogaaW.PrintWords
set_option linter.unusedVariables false
theorem run_ev (a b : List S71) (hl : a.length ≤ big) : Ev (fun k => api_Run.f k a b) (decide (a = b)) := by
 unfold big at hl
 unfold api_Run.f
 by_cases hab : a.length = b.length
 ·refine Ev.pos (by omega) ?_
  have loop : ∀ (d i : Nat), i + d = a.length → Ev (fun k => api_Run.l0 k a b (a.length : Int) (i : Int)) (decide (a.drop i = b.drop i)) := by
   intro d
   induction d with
   | zero =>
    intro i hi
    refine Ev.step (fun k => by simp only [api_Run.l0]; rfl) ?_
    refine Ev.neg (by omega) ?_
    rw [List.drop_eq_nil_of_le (by omega), List.drop_eq_nil_of_le (by omega)]
    exact Ev.now _
   | succ d ih =>
    intro i hi
    have hlt : i < a.length := by omega
    refine Ev.step (fun k => by simp only [api_Run.l0]; rfl) ?_
    refine Ev.pos (by omega) (Ev.pos (by omega) (Ev.pos (by omega) (Ev.pos (by omega) ?_)))
    rw [dropT hlt, dropT (show i < b.length by omega), rdT, rdT, w1 hlt (by omega)]
    by_cases he : a.getD i z71 = b.getD i z71
    ·rw [he]
     refine Ev.neg (by simp) ?_
     exact ev_val (ih (i + 1) (by omega)) (by simp)
    ·refine Ev.pos ?_ ?_
     ·have : ¬ ((a.getD i z71).f0 = (b.getD i z71).f0 ∧ (a.getD i z71).f1 = (b.getD i z71).f1) := fun h => he (by
       cases hx : a.getD i z71; cases hy : b.getD i z71; rw [hx, hy] at h; simp at h; rw [h.1, h.2])
      simp only [Bool.or_eq_true, Bool.not_eq_true', beq_eq_false_iff_ne]
      by_cases h1 : (a.getD i z71).f0 = (b.getD i z71).f0
      ·exact .inr (fun h2 => this ⟨h1, h2⟩)
      ·exact .inl h1
     ·exact ev_val (Ev.now _) (by simp; intro h; exact absurd h he)
  exact loop a.length 0 (by omega)
 ·refine Ev.neg (by omega) ?_
  exact ev_val (Ev.now _) (by simp; intro h; exact hab (by rw [h]))
def goodT (s : ByteArray) (l : List S71) : Bool := good l && decide (tot l = (s.size : Int))
theorem goodT_iff {s : ByteArray} {l : List S71} : goodT s l = true ↔ good l = true ∧ tot l = (s.size : Int) := by simp [goodT]
theorem goodT_facts {s : ByteArray} {l : List S71} (h : goodT s l = true) : good l = true ∧ nrm l ∧ (bytes l).length = s.size ∧ s.size ≤ 4096 ∧ tot l = (s.size : Int) := by
 obtain ⟨h1, h2⟩ := goodT_iff.1 h
 obtain ⟨h3, h4, h5⟩ := good_facts h1
 exact ⟨h1, h3, by omega, by omega, h2⟩
theorem goodT_ev (s : ByteArray) (l : List S71) (hl : l.length ≤ big) : Ev (fun k => strip_Good.f k s l) (goodT s l) := by
 unfold strip_Good.f
 refine Ev.bind (good_ev l hl) ?_
 by_cases hg : good l = true
 ·rw [hg]
  exact Ev.pos rfl (Ev.bind (total_ev l hl) (ev_val (Ev.now _) (by rw [Bool.eq_iff_iff]; simp [goodT, hg])))
 ·exact Ev.neg hg (ev_val (Ev.now _) (by simp [goodT, hg]))
def withinT (s : ByteArray) (l : List S71) (a b : Int) : Bool := goodT s l && (decide (0 ≤ a) && (decide (a ≤ b) && decide (b ≤ (s.size : Int))))
theorem withinT_iff {s : ByteArray} {l : List S71} {a b : Int} : withinT s l a b = true ↔ goodT s l = true ∧ 0 ≤ a ∧ a ≤ b ∧ b ≤ (s.size : Int) := by simp [withinT]
theorem withinT_ev (s : ByteArray) (l : List S71) (hl : l.length ≤ big) (a b : Int) : Ev (fun k => strip_within.f k s l a b) (withinT s l a b) := by
 unfold strip_within.f
 refine Ev.bind (goodT_ev s l hl) ?_
 by_cases hg : goodT s l = true
 ·refine Ev.pos hg ?_
  by_cases h0 : 0 ≤ a
  ·refine Ev.pos h0 ?_
   by_cases h1 : a ≤ b
   ·exact Ev.pos h1 (ev_val (Ev.now _) (by simp [withinT, hg, h0, h1]))
   ·exact Ev.neg h1 (ev_val (Ev.now _) (by simp [withinT, h1]))
  ·exact Ev.neg h0 (ev_val (Ev.now _) (by simp [withinT, h0]))
 ·exact Ev.neg hg (ev_val (Ev.now _) (by simp [withinT, hg]))
theorem withinT_facts {s : ByteArray} {l : List S71} {a b : Int} (h : withinT s l a b = true) : ∃ i j : Nat, a = i ∧ b = j ∧ i ≤ j ∧ j ≤ s.size ∧ goodT s l = true ∧ withinB l a b = true := by
 obtain ⟨h1, h2, h3, h4⟩ := withinT_iff.1 h
 obtain ⟨g1, g2, g3, g4, g5⟩ := goodT_facts h1
 obtain ⟨i, rfl⟩ := Int.eq_ofNat_of_zero_le h2
 obtain ⟨j, rfl⟩ := Int.eq_ofNat_of_zero_le (show 0 ≤ b by omega)
 exact ⟨i, j, rfl, rfl, by omega, by omega, h1, withinB_iff.2 ⟨g1, by omega, by omega, by omega⟩⟩
abbrev TX := ByteArray × List S71 × Int
def sameT (s : ByteArray) (l : List S71) (t : ByteArray) (m : List S71) : Bool := if s.toList = t.toList then decide (l = m) else false
theorem sameT_self (s : ByteArray) (l : List S71) : sameT s l s l = true := by simp [sameT]
theorem same4_ev (s : ByteArray) (l : List S71) (t : ByteArray) (m : List S71) (hl : l.length ≤ big) : Ev (fun k => strip_Same.f k s l t m) (sameT s l t m) := by
 unfold strip_Same.f sameT
 exact Ev.ite (fun _ => Ev.bind (run_ev l m hl) (Ev.now _)) (fun _ => Ev.now _)
def cutS (s : ByteArray) (l : List S71) (a b : Int) : TX := if withinT s l a b = true then (s.extract a.toNat b.toNat, pack (((bytes l).take b.toNat).drop a.toNat), 0) else (⟨#[]⟩, [], 2)
theorem cut_ev (s : ByteArray) (l : List S71) (hl : l.length ≤ big) (a b : Int) : Ev (fun k => strip_Cut.f k s l a b) (cutS s l a b) := by
 unfold strip_Cut.f cutS
 refine Ev.bind (withinT_ev s l hl a b) ?_
 refine Ev.ite (fun hw => ?_) (fun _ => Ev.now _)
 obtain ⟨h1, h2, h3, h4⟩ := withinT_iff.1 hw
 obtain ⟨i, j, rfl, rfl, hij, hj, hg, hwb⟩ := withinT_facts hw
 refine Ev.bind (slice_ev l hl _ _) (Ev.pos h2 (Ev.pos h3 (Ev.pos h4 (ev_val (Ev.now _) ?_))))
 unfold sliceS
 rw [if_pos hwb]
def spliceT (s : ByteArray) (l : List S71) (a b : Int) (x : ByteArray) (m : List S71) : TX :=
 if withinT s l a b = true then (if goodT x m = true then (if (s.size : Int) - (b - a) + (x.size : Int) > 4096 then (⟨#[]⟩, [], 3) else
  (s.extract 0 a.toNat ++ x ++ s.extract b.toNat s.size, pack ((bytes l).take a.toNat ++ bytes m ++ (bytes l).drop b.toNat), 0)) else (⟨#[]⟩, [], 2)) else (⟨#[]⟩, [], 2)
theorem ext_size (s : ByteArray) (i j : Nat) : (s.extract i j).size ≤ s.size := by rw [ByteArray.size_extract]; omega
theorem splice4_ev (s : ByteArray) (l : List S71) (hl : l.length ≤ big) (a b : Int) (x : ByteArray) (m : List S71) (hm : m.length ≤ big) : Ev (fun k => strip_Splice.f k s l a b x m) (spliceT s l a b x m) := by
 unfold strip_Splice.f spliceT
 refine Ev.bind (withinT_ev s l hl a b) ?_
 have bad : Ev (fun k => strip_Splice.j0 k a b true s l x m) (⟨#[]⟩, [], 2) := by
  refine Ev.step (fun k => by simp only [strip_Splice.j0]; rfl) ?_
  exact Ev.pos (by simp) (Ev.now _)
 refine Ev.ite (fun hw => ?_) (fun _ => bad)
 refine Ev.bind (goodT_ev x m hm) ?_
 by_cases hg : goodT x m = true
 ·rw [if_pos hg, hg]
  refine Ev.step (fun k => by simp only [strip_Splice.j0]; rfl) ?_
  refine Ev.neg (by simp) (Ev.bind (splice_ev l hl a b m hm) ?_)
  obtain ⟨h1, h2, h3, h4⟩ := withinT_iff.1 hw
  obtain ⟨i, j, rfl, rfl, hij, hj, hgl, hwb⟩ := withinT_facts hw
  obtain ⟨g1, g2, g3, g4, g5⟩ := goodT_facts hgl
  obtain ⟨q1, q2, q3, q4, q5⟩ := goodT_facts hg
  have he : spliceS l (i : Int) (j : Int) m = if (s.size : Int) - ((j : Int) - (i : Int)) + (x.size : Int) > 4096 then ([], 3) else (pack ((bytes l).take (i : Int).toNat ++ bytes m ++ (bytes l).drop (j : Int).toNat), 0) := by
   unfold spliceS
   rw [if_pos hwb, if_pos q1, g5, q5]
  rw [he]
  by_cases hb : (s.size : Int) - ((j : Int) - (i : Int)) + (x.size : Int) > 4096
  ·rw [if_pos hb, if_pos hb]
   exact Ev.neg (by decide) (Ev.now _)
  ·rw [if_neg hb, if_neg hb]
   have e1 := ext_size s 0 (i : Int).toNat
   have e2 := ext_size s (j : Int).toNat s.size
   refine Ev.pos rfl (Ev.pos h2 (Ev.pos (by omega) (Ev.pos (by omega) (Ev.pos (by omega) (Ev.pos h4 (Ev.pos ?_ (Ev.now _)))))))
   rw [ByteArray.size_append]
   omega
 ·rw [if_neg hg, show goodT x m = false by simpa using hg]
  exact bad
theorem cutS_len (s : ByteArray) (l : List S71) (a b : Int) : (cutS s l a b).2.1.length ≤ 20000 := by
 unfold cutS
 split
 ·rename_i hw
  obtain ⟨i, j, rfl, rfl, hij, hj, hgl, hwb⟩ := withinT_facts hw
  obtain ⟨g1, g2, g3, g4, g5⟩ := goodT_facts hgl
  have := pack_len (((bytes l).take (j : Int).toNat).drop (i : Int).toNat)
  rw [List.length_drop, List.length_take] at this
  show (pack _).length ≤ 20000
  omega
 ·simp
theorem toList_loop (a : ByteArray) : ∀ (n i : Nat) (r : List UInt8), i + n = a.size → ByteArray.toList.loop a i r = r.reverse ++ a.data.toList.drop i
 | 0, i, r, h => by
  unfold ByteArray.toList.loop
  rw [if_neg (by omega), List.drop_eq_nil_of_le (by rw [Array.length_toList]; show a.size ≤ i; omega), List.append_nil]
 | n + 1, i, r, h => by
  unfold ByteArray.toList.loop
  have hi : i < a.data.toList.length := by rw [Array.length_toList]; show i < a.size; omega
  rw [if_pos (by omega), toList_loop a n (i + 1) _ (by omega), List.reverse_cons, List.append_assoc, List.drop_eq_getElem_cons hi]
  congr 1
  show [a.get! i] ++ _ = _
  rw [List.singleton_append]
  congr 1
  show a.data[i]! = _
  rw [getElem!_pos a.data i (by rw [Array.length_toList] at hi; exact hi)]
  simp
theorem toList_data (a : ByteArray) : a.toList = a.data.toList := by
 unfold ByteArray.toList
 rw [toList_loop a a.size 0 [] (by omega)]
 rfl
theorem toList_inj {a b : ByteArray} (h : a.toList = b.toList) : a = b := by
 rw [toList_data, toList_data] at h
 exact ByteArray.ext (Array.toList_inj.1 h)
end Go.Proofs.Ytbbgpfjeobdogaa.PB
end

section
namespace Go.Proofs.Ytbbgpfjeobdogaa.PB
open Go.RowKit Go.Proofs.YtbbgpfjeobdogaaW.PrintWords Go.Proofs.YtbbgpfjeobdogaaW.PrintLast Go.Proofs.YtbbgpfjeobdogaaW.PrintMore
attribute [local go_sem] max2_int min2_int max_two min_two max_three min_three max_four min_four   
set_option linter.unusedVariables false
set_option linter.unusedSimpArgs false
def bureaulaw04_Fits.f (a0_0 : ByteArray) (l0_1 : List (S71)) : Option (Bool) := if (a0_0.size : Int) ≤ 5000 then (some (decide ((l0_1.length : Int) ≤ 5000))) else (some false)
set_option maxHeartbeats 8000000 in
set_option maxRecDepth 100000 in
theorem bureaulaw04_Fits.calls (a0_0 : ByteArray) (A0_1 : Option Addr) (c0_1 : Nat) (l0_1 : List (S71)) (r : Bool) (w : World) (hr0_1 : Kd.C k71 w A0_1 l0_1.length l0_1) (hc0_1 : l0_1.length ≤ c0_1) (h : bureaulaw04_Fits.f a0_0 l0_1 = some r) :
  Calls Try.prog 30 #[.agg #[.string a0_0, .slice A0_1 l0_1.length c0_1]] w fun e w' => e = .returned (.bool r) ∧ Below w.heap.size w w' := by
 have hu32 := Try.underlying32
 have HR0_1 := aM hr0_1
 have HC0_1 := aM hc0_1
 clear hr0_1 hc0_1
 have HB := aM (Below.refl w.heap.size w)
 have H : (if (a0_0.size : Int) ≤ 5000 then (some (decide ((l0_1.length : Int) ≤ 5000))) else (some false)) = some r := h
 clear h
 by_cases c2 : (a0_0.size : Int) ≤ 5000
 ·rw [if_pos c2] at H
  have c2b0 : decide ((a0_0.size : Int) ≤ 5000) = true := decide_eq_true c2
  have c2b1 : decide (a0_0.size ≤ 5000) = true := decide_eq_true (by omega)
  clear c2
  obtain rfl := Option.some.inj H
  go_enter Try.func30, Try.ntmps30
  go_wp2_with (first | ((with_reducible refine gate_dst (N := 1) rfl ?_); (try (refine gate_guard (by rfl) ?_; dsimp only)); refine box_event ?hg (N := 1) ?hd (cs := #[.string a0_0, .slice A0_1 l0_1.length c0_1]) (t := 32) ?hr ?_; (case hd | hg => rfl); (case hr => first | (go_simp; done) | (go_simp; rfl)); intro gb195 hg w3 hbox hb; have n0_ := aM (bP (ey HB.out) hb); have n1_ := aM (hbox); have n2_ := aM ((by rw [hg]; exact (bZ (ey HB.out)) : w.heap.size ≤ gb195)); have n3_ := n2_; clear HB; have HB := n0_; have BK195 := n1_; have GW195 := n2_; have GE195 := n3_; clear n0_ n1_ n2_ n3_; clear hb hbox hg; have hcz4_0 := zC BK195.out 0 (.string a0_0); have hcz4_1 := zC BK195.out 1 (.slice A0_1 l0_1.length c0_1); have hfz4_0 := bF BK195.out 0; have hfz4_1 := bF BK195.out 1))
  go_ret
  exact ⟨by first | rfl | (simp [errW_none, errW_some] <;> rfl) | (simp [*, errW_none, errW_some] <;> rfl), by repeat (first | (with_reducible first | exact HB.out | apply ea | apply en | apply ed | refine es ?_ GE195.out) | exact HB.out)⟩
 ·rw [if_neg c2] at H
  have c2b0 : decide ((a0_0.size : Int) ≤ 5000) = false := decide_eq_false c2
  have c2b1 : decide (a0_0.size ≤ 5000) = false := decide_eq_false (by omega)
  clear c2
  obtain rfl := Option.some.inj H
  go_enter Try.func30, Try.ntmps30
  go_wp2_with (first | ((with_reducible refine gate_dst (N := 1) rfl ?_); (try (refine gate_guard (by rfl) ?_; dsimp only)); refine box_event ?hg (N := 1) ?hd (cs := #[.string a0_0, .slice A0_1 l0_1.length c0_1]) (t := 32) ?hr ?_; (case hd | hg => rfl); (case hr => first | (go_simp; done) | (go_simp; rfl)); intro gb195 hg w5 hbox hb; have n0_ := aM (bP (ey HB.out) hb); have n1_ := aM (hbox); have n2_ := aM ((by rw [hg]; exact (bZ (ey HB.out)) : w.heap.size ≤ gb195)); have n3_ := n2_; clear HB; have HB := n0_; have BK195 := n1_; have GW195 := n2_; have GE195 := n3_; clear n0_ n1_ n2_ n3_; clear hb hbox hg; have hcz6_0 := zC BK195.out 0 (.string a0_0); have hcz6_1 := zC BK195.out 1 (.slice A0_1 l0_1.length c0_1); have hfz6_0 := bF BK195.out 0; have hfz6_1 := bF BK195.out 1))
  go_ret
  exact ⟨by first | rfl | (simp [errW_none, errW_some] <;> rfl) | (simp [*, errW_none, errW_some] <;> rfl), by repeat (first | (with_reducible first | exact HB.out | apply ea | apply en | apply ed | refine es ?_ GE195.out) | exact HB.out)⟩
end Go.Proofs.Ytbbgpfjeobdogaa.PB
end

section
namespace Go.Proofs.Ytbbgpfjeobdogaa.PB
open Go.RowKit Go.Proofs.YtbbgpfjeobdogaaW.PrintWords
set_option linter.unusedVariables false
theorem fits_eq (s : ByteArray) (l : List S71) : bureaulaw04_Fits.f s l = some (decide (s.size ≤ 5000 ∧ l.length ≤ 5000)) := by
  unfold bureaulaw04_Fits.f
  by_cases h : s.size ≤ 5000
  · rw [if_pos (by omega)]
    congr 1
    rw [Bool.eq_iff_iff, decide_eq_true_iff, decide_eq_true_iff]
    omega
  · rw [if_neg (by omega)]
    simp [h]
theorem len_big {n : Nat} (h : n ≤ 20000) : n ≤ big := by unfold big; omega
theorem goodT_pack {s : ByteArray} {B : List Int} (h : B.length = s.size) (h4 : s.size ≤ 4096) : goodT s (pack B) = true := by
  obtain ⟨g1, t1⟩ := good_pack (show B.length ≤ 4096 by omega)
  exact goodT_iff.2 ⟨g1, by omega⟩
end Go.Proofs.Ytbbgpfjeobdogaa.PB
end

section
namespace Go.Proofs.Ytbbgpfjeobdogaa.PB
open Go.RowKit Go.Proofs.YtbbgpfjeobdogaaW.PrintWords Go.Proofs.YtbbgpfjeobdogaaW.PrintLast Go.Proofs.YtbbgpfjeobdogaaW.PrintMore
attribute [local go_sem] max2_int min2_int max_two min_two max_three min_three max_four min_four   
set_option linter.unusedVariables false
set_option linter.unusedSimpArgs false
def edit_good.f (k : Nat) (a0_0 : Int) (a0_1 : ByteArray) (l0_2 : List (S71)) (a0_3 : ByteArray) (l0_4 : List (S71)) : Option (Bool) := (strip_Good.f k a0_1 l0_2).bind fun t145 => (if t145 = true then ((strip_Good.f k a0_3 l0_4).bind fun t146 => (if t146 = true then (if a0_0 ≥ 0 then (some (decide (a0_0 ≤ 4096))) else (some false)) else (some false))) else (some false))
set_option maxHeartbeats 8000000 in
set_option maxRecDepth 100000 in
theorem edit_good.calls (k : Nat) (a0_0 : Int) (a0_1 : ByteArray) (A0_2 : Option Addr) (c0_2 : Nat) (l0_2 : List (S71)) (a0_3 : ByteArray) (A0_4 : Option Addr) (c0_4 : Nat) (l0_4 : List (S71)) (r : Bool) (w : World) (hr0_2 : Kd.C k71 w A0_2 l0_2.length l0_2) (hc0_2 : l0_2.length ≤ c0_2) (hr0_4 : Kd.C k71 w A0_4 l0_4.length l0_4) (hc0_4 : l0_4.length ≤ c0_4) (h : edit_good.f k a0_0 a0_1 l0_2 a0_3 l0_4 = some r) :
  Calls Try.prog 48 #[.agg #[.int .i64 a0_0, .string a0_1, .slice A0_2 l0_2.length c0_2, .string a0_3, .slice A0_4 l0_4.length c0_4]] w fun e w' => e = .returned (.bool r) ∧ Below w.heap.size w w' := by
 have hu34 := Try.underlying34
 have hu32 := Try.underlying32
 have HR0_2 := aM hr0_2
 have HC0_2 := aM hc0_2
 clear hr0_2 hc0_2
 have HR0_4 := aM hr0_4
 have HC0_4 := aM hc0_4
 clear hr0_4 hc0_4
 have HB := aM (Below.refl w.heap.size w)
 have H : ((strip_Good.f k a0_1 l0_2).bind fun t145 => (if t145 = true then ((strip_Good.f k a0_3 l0_4).bind fun t146 => (if t146 = true then (if a0_0 ≥ 0 then (some (decide (a0_0 ≤ 4096))) else (some false)) else (some false))) else (some false))) = some r := h
 clear h
 replace H := Option.bind_eq_some_iff.mp H
 obtain ⟨t145, A20, H⟩ := H
 replace H : (if t145 = true then ((strip_Good.f k a0_3 l0_4).bind fun t146 => (if t146 = true then (if a0_0 ≥ 0 then (some (decide (a0_0 ≤ 4096))) else (some false)) else (some false))) else (some false)) = some r := H
 have A2 := aM A20
 clear A20
 by_cases c3 : t145 = true
 ·subst c3
  have H1 : ((strip_Good.f k a0_3 l0_4).bind fun t146 => (if t146 = true then (if a0_0 ≥ 0 then (some (decide (a0_0 ≤ 4096))) else (some false)) else (some false))) = some r := by rw [if_pos rfl] at H; exact H
  clear H
  have H := H1
  clear H1
  replace H := Option.bind_eq_some_iff.mp H
  obtain ⟨t146, A40, H⟩ := H
  replace H : (if t146 = true then (if a0_0 ≥ 0 then (some (decide (a0_0 ≤ 4096))) else (some false)) else (some false)) = some r := H
  have A4 := aM A40
  clear A40
  by_cases c5 : t146 = true
  ·subst c5
   have H1 : (if a0_0 ≥ 0 then (some (decide (a0_0 ≤ 4096))) else (some false)) = some r := by rw [if_pos rfl] at H; exact H
   clear H
   have H := H1
   clear H1
   by_cases c6 : a0_0 ≥ 0
   ·rw [if_pos c6] at H
    have c6b0 : decide (0 ≤ a0_0) = true := decide_eq_true c6
    clear c6
    obtain rfl := Option.some.inj H
    go_enter Try.func48, Try.ntmps48
    go_wp2_with (first | ((with_reducible refine gate_dst (N := 1) rfl ?_); refine box_event ?hg (N := 1) ?hd (cs := #[.int .i64 a0_0, .string a0_1, .slice A0_2 l0_2.length c0_2, .string a0_3, .slice A0_4 l0_4.length c0_4]) (t := 34) ?hr ?_; (case hd | hg => rfl); (case hr => first | (go_simp; done) | (go_simp; rfl)); intro gb144 hg w7 hbox hb; have n0_ := aM (bP (ey HB.out) hb); have n1_ := aM (hbox); have n2_ := aM ((by rw [hg]; exact (bZ (ey HB.out)) : w.heap.size ≤ gb144)); have n3_ := n2_; clear HB; have HB := n0_; have BK144 := n1_; have GW144 := n2_; have GE144 := n3_; clear n0_ n1_ n2_ n3_; clear hb hbox hg; have hcz8_0 := zC BK144.out 0 (.int .i64 a0_0); have hcz8_1 := zC BK144.out 1 (.string a0_1); have hcz8_2 := zC BK144.out 2 (.slice A0_2 l0_2.length c0_2); have hcz8_3 := zC BK144.out 3 (.string a0_3); have hcz8_4 := zC BK144.out 4 (.slice A0_4 l0_4.length c0_4); have hfz8_0 := bF BK144.out 0; have hfz8_1 := bF BK144.out 1; have hfz8_2 := bF BK144.out 2; have hfz8_3 := bF BK144.out 3; have hfz8_4 := bF BK144.out 4) | ((with_reducible refine gate_callee (f := 58) rfl ?_); refine goesL_ (some 5) rfl rfl Try.func58 (by kernel_rfl) rfl #[.agg #[.string a0_1, .slice A0_2 l0_2.length c0_2]] rfl (by (try simp only [mT, mC, mN]); first | done | rfl | (simp only [lD, lT]; rfl)) ?_; (with_reducible refine (strip_Good.calls k a0_1 _ _ l0_2 true _ ?side1 ?side2 A2.out).mono ?_); (case side1 => repeat (first | exact (cB_ HR0_2.out HB.out) | (with_reducible refine Kd.C_alloc ?_ _) | (with_reducible refine Kd.C_drewN ?_ _) | (with_reducible refine Kd.C_drew ?_))); (case side2 => exact HC0_2.out); rintro e w9 ⟨rfl, hb⟩; refine ⟨_, rfl, ?_⟩; have n0_ := aM (bB (g := gb144) (qy BK144.out) hb); have n1_ := aM (bP (by repeat (first | (with_reducible first | exact HB.out | apply ea | apply en | apply ed | refine es ?_ GE144.out) | exact HB.out)) hb); clear BK144 HB; have BK144 := n0_; have HB := n1_; clear n0_ n1_; (try clear hb); (try clear hb2); (try clear hk); (try clear hi); have hcz10_0 := zC BK144.out 0 (.int .i64 a0_0); have hcz10_1 := zC BK144.out 1 (.string a0_1); have hcz10_2 := zC BK144.out 2 (.slice A0_2 l0_2.length c0_2); have hcz10_3 := zC BK144.out 3 (.string a0_3); have hcz10_4 := zC BK144.out 4 (.slice A0_4 l0_4.length c0_4); have hfz10_0 := bF BK144.out 0; have hfz10_1 := bF BK144.out 1; have hfz10_2 := bF BK144.out 2; have hfz10_3 := bF BK144.out 3; have hfz10_4 := bF BK144.out 4) | (go_at_call 58; (with_reducible refine (strip_Good.calls k a0_3 _ _ l0_4 true _ ?side1 ?side2 A4.out).mono ?_); (case side1 => repeat (first | exact (cB_ HR0_4.out HB.out) | (with_reducible refine Kd.C_alloc ?_ _) | (with_reducible refine Kd.C_drewN ?_ _) | (with_reducible refine Kd.C_drew ?_))); (case side2 => exact HC0_4.out); rintro e w11 ⟨rfl, hb⟩; have n0_ := aM (bB (g := gb144) (qy BK144.out) hb); have n1_ := aM (bP (by repeat (first | (with_reducible first | exact HB.out | apply ea | apply en | apply ed | refine es ?_ GE144.out) | exact HB.out)) hb); clear BK144 HB; have BK144 := n0_; have HB := n1_; clear n0_ n1_; (try clear hb); (try clear hb2); (try clear hk); (try clear hi); have hcz12_0 := zC BK144.out 0 (.int .i64 a0_0); have hcz12_1 := zC BK144.out 1 (.string a0_1); have hcz12_2 := zC BK144.out 2 (.slice A0_2 l0_2.length c0_2); have hcz12_3 := zC BK144.out 3 (.string a0_3); have hcz12_4 := zC BK144.out 4 (.slice A0_4 l0_4.length c0_4); have hfz12_0 := bF BK144.out 0; have hfz12_1 := bF BK144.out 1; have hfz12_2 := bF BK144.out 2; have hfz12_3 := bF BK144.out 3; have hfz12_4 := bF BK144.out 4))
    go_ret
    exact ⟨by first | rfl | (simp [errW_none, errW_some] <;> rfl) | (simp [*, errW_none, errW_some] <;> rfl), by repeat (first | (with_reducible first | exact HB.out | apply ea | apply en | apply ed | refine es ?_ GE144.out) | exact HB.out)⟩
   ·rw [if_neg c6] at H
    have c6b0 : decide (0 ≤ a0_0) = false := decide_eq_false c6
    clear c6
    obtain rfl := Option.some.inj H
    go_enter Try.func48, Try.ntmps48
    go_wp2_with (first | ((with_reducible refine gate_dst (N := 1) rfl ?_); refine box_event ?hg (N := 1) ?hd (cs := #[.int .i64 a0_0, .string a0_1, .slice A0_2 l0_2.length c0_2, .string a0_3, .slice A0_4 l0_4.length c0_4]) (t := 34) ?hr ?_; (case hd | hg => rfl); (case hr => first | (go_simp; done) | (go_simp; rfl)); intro gb144 hg w13 hbox hb; have n0_ := aM (bP (ey HB.out) hb); have n1_ := aM (hbox); have n2_ := aM ((by rw [hg]; exact (bZ (ey HB.out)) : w.heap.size ≤ gb144)); have n3_ := n2_; clear HB; have HB := n0_; have BK144 := n1_; have GW144 := n2_; have GE144 := n3_; clear n0_ n1_ n2_ n3_; clear hb hbox hg; have hcz14_0 := zC BK144.out 0 (.int .i64 a0_0); have hcz14_1 := zC BK144.out 1 (.string a0_1); have hcz14_2 := zC BK144.out 2 (.slice A0_2 l0_2.length c0_2); have hcz14_3 := zC BK144.out 3 (.string a0_3); have hcz14_4 := zC BK144.out 4 (.slice A0_4 l0_4.length c0_4); have hfz14_0 := bF BK144.out 0; have hfz14_1 := bF BK144.out 1; have hfz14_2 := bF BK144.out 2; have hfz14_3 := bF BK144.out 3; have hfz14_4 := bF BK144.out 4) | ((with_reducible refine gate_callee (f := 58) rfl ?_); refine goesL_ (some 5) rfl rfl Try.func58 (by kernel_rfl) rfl #[.agg #[.string a0_1, .slice A0_2 l0_2.length c0_2]] rfl (by (try simp only [mT, mC, mN]); first | done | rfl | (simp only [lD, lT]; rfl)) ?_; (with_reducible refine (strip_Good.calls k a0_1 _ _ l0_2 true _ ?side1 ?side2 A2.out).mono ?_); (case side1 => repeat (first | exact (cB_ HR0_2.out HB.out) | (with_reducible refine Kd.C_alloc ?_ _) | (with_reducible refine Kd.C_drewN ?_ _) | (with_reducible refine Kd.C_drew ?_))); (case side2 => exact HC0_2.out); rintro e w15 ⟨rfl, hb⟩; refine ⟨_, rfl, ?_⟩; have n0_ := aM (bB (g := gb144) (qy BK144.out) hb); have n1_ := aM (bP (by repeat (first | (with_reducible first | exact HB.out | apply ea | apply en | apply ed | refine es ?_ GE144.out) | exact HB.out)) hb); clear BK144 HB; have BK144 := n0_; have HB := n1_; clear n0_ n1_; (try clear hb); (try clear hb2); (try clear hk); (try clear hi); have hcz16_0 := zC BK144.out 0 (.int .i64 a0_0); have hcz16_1 := zC BK144.out 1 (.string a0_1); have hcz16_2 := zC BK144.out 2 (.slice A0_2 l0_2.length c0_2); have hcz16_3 := zC BK144.out 3 (.string a0_3); have hcz16_4 := zC BK144.out 4 (.slice A0_4 l0_4.length c0_4); have hfz16_0 := bF BK144.out 0; have hfz16_1 := bF BK144.out 1; have hfz16_2 := bF BK144.out 2; have hfz16_3 := bF BK144.out 3; have hfz16_4 := bF BK144.out 4) | (go_at_call 58; (with_reducible refine (strip_Good.calls k a0_3 _ _ l0_4 true _ ?side1 ?side2 A4.out).mono ?_); (case side1 => repeat (first | exact (cB_ HR0_4.out HB.out) | (with_reducible refine Kd.C_alloc ?_ _) | (with_reducible refine Kd.C_drewN ?_ _) | (with_reducible refine Kd.C_drew ?_))); (case side2 => exact HC0_4.out); rintro e w17 ⟨rfl, hb⟩; have n0_ := aM (bB (g := gb144) (qy BK144.out) hb); have n1_ := aM (bP (by repeat (first | (with_reducible first | exact HB.out | apply ea | apply en | apply ed | refine es ?_ GE144.out) | exact HB.out)) hb); clear BK144 HB; have BK144 := n0_; have HB := n1_; clear n0_ n1_; (try clear hb); (try clear hb2); (try clear hk); (try clear hi); have hcz18_0 := zC BK144.out 0 (.int .i64 a0_0); have hcz18_1 := zC BK144.out 1 (.string a0_1); have hcz18_2 := zC BK144.out 2 (.slice A0_2 l0_2.length c0_2); have hcz18_3 := zC BK144.out 3 (.string a0_3); have hcz18_4 := zC BK144.out 4 (.slice A0_4 l0_4.length c0_4); have hfz18_0 := bF BK144.out 0; have hfz18_1 := bF BK144.out 1; have hfz18_2 := bF BK144.out 2; have hfz18_3 := bF BK144.out 3; have hfz18_4 := bF BK144.out 4))
    go_ret
    exact ⟨by first | rfl | (simp [errW_none, errW_some] <;> rfl) | (simp [*, errW_none, errW_some] <;> rfl), by repeat (first | (with_reducible first | exact HB.out | apply ea | apply en | apply ed | refine es ?_ GE144.out) | exact HB.out)⟩
  ·replace c5 := Bool.eq_false_iff.mpr c5
   subst c5
   have H1 : (some false) = some r := by rw [if_neg (show ¬ (false = true) by decide)] at H; exact H
   clear H
   have H := H1
   clear H1
   obtain rfl := Option.some.inj H
   go_enter Try.func48, Try.ntmps48
   go_wp2_with (first | ((with_reducible refine gate_dst (N := 1) rfl ?_); refine box_event ?hg (N := 1) ?hd (cs := #[.int .i64 a0_0, .string a0_1, .slice A0_2 l0_2.length c0_2, .string a0_3, .slice A0_4 l0_4.length c0_4]) (t := 34) ?hr ?_; (case hd | hg => rfl); (case hr => first | (go_simp; done) | (go_simp; rfl)); intro gb144 hg w19 hbox hb; have n0_ := aM (bP (ey HB.out) hb); have n1_ := aM (hbox); have n2_ := aM ((by rw [hg]; exact (bZ (ey HB.out)) : w.heap.size ≤ gb144)); have n3_ := n2_; clear HB; have HB := n0_; have BK144 := n1_; have GW144 := n2_; have GE144 := n3_; clear n0_ n1_ n2_ n3_; clear hb hbox hg; have hcz20_0 := zC BK144.out 0 (.int .i64 a0_0); have hcz20_1 := zC BK144.out 1 (.string a0_1); have hcz20_2 := zC BK144.out 2 (.slice A0_2 l0_2.length c0_2); have hcz20_3 := zC BK144.out 3 (.string a0_3); have hcz20_4 := zC BK144.out 4 (.slice A0_4 l0_4.length c0_4); have hfz20_0 := bF BK144.out 0; have hfz20_1 := bF BK144.out 1; have hfz20_2 := bF BK144.out 2; have hfz20_3 := bF BK144.out 3; have hfz20_4 := bF BK144.out 4) | ((with_reducible refine gate_callee (f := 58) rfl ?_); refine goesL_ (some 5) rfl rfl Try.func58 (by kernel_rfl) rfl #[.agg #[.string a0_1, .slice A0_2 l0_2.length c0_2]] rfl (by (try simp only [mT, mC, mN]); first | done | rfl | (simp only [lD, lT]; rfl)) ?_; (with_reducible refine (strip_Good.calls k a0_1 _ _ l0_2 true _ ?side1 ?side2 A2.out).mono ?_); (case side1 => repeat (first | exact (cB_ HR0_2.out HB.out) | (with_reducible refine Kd.C_alloc ?_ _) | (with_reducible refine Kd.C_drewN ?_ _) | (with_reducible refine Kd.C_drew ?_))); (case side2 => exact HC0_2.out); rintro e w21 ⟨rfl, hb⟩; refine ⟨_, rfl, ?_⟩; have n0_ := aM (bB (g := gb144) (qy BK144.out) hb); have n1_ := aM (bP (by repeat (first | (with_reducible first | exact HB.out | apply ea | apply en | apply ed | refine es ?_ GE144.out) | exact HB.out)) hb); clear BK144 HB; have BK144 := n0_; have HB := n1_; clear n0_ n1_; (try clear hb); (try clear hb2); (try clear hk); (try clear hi); have hcz22_0 := zC BK144.out 0 (.int .i64 a0_0); have hcz22_1 := zC BK144.out 1 (.string a0_1); have hcz22_2 := zC BK144.out 2 (.slice A0_2 l0_2.length c0_2); have hcz22_3 := zC BK144.out 3 (.string a0_3); have hcz22_4 := zC BK144.out 4 (.slice A0_4 l0_4.length c0_4); have hfz22_0 := bF BK144.out 0; have hfz22_1 := bF BK144.out 1; have hfz22_2 := bF BK144.out 2; have hfz22_3 := bF BK144.out 3; have hfz22_4 := bF BK144.out 4) | (go_at_call 58; (with_reducible refine (strip_Good.calls k a0_3 _ _ l0_4 false _ ?side1 ?side2 A4.out).mono ?_); (case side1 => repeat (first | exact (cB_ HR0_4.out HB.out) | (with_reducible refine Kd.C_alloc ?_ _) | (with_reducible refine Kd.C_drewN ?_ _) | (with_reducible refine Kd.C_drew ?_))); (case side2 => exact HC0_4.out); rintro e w23 ⟨rfl, hb⟩; have n0_ := aM (bB (g := gb144) (qy BK144.out) hb); have n1_ := aM (bP (by repeat (first | (with_reducible first | exact HB.out | apply ea | apply en | apply ed | refine es ?_ GE144.out) | exact HB.out)) hb); clear BK144 HB; have BK144 := n0_; have HB := n1_; clear n0_ n1_; (try clear hb); (try clear hb2); (try clear hk); (try clear hi)))
   go_ret
   exact ⟨by first | rfl | (simp [errW_none, errW_some] <;> rfl) | (simp [*, errW_none, errW_some] <;> rfl), by repeat (first | (with_reducible first | exact HB.out | apply ea | apply en | apply ed | refine es ?_ GE144.out) | exact HB.out)⟩
 ·replace c3 := Bool.eq_false_iff.mpr c3
  subst c3
  have H1 : (some false) = some r := by rw [if_neg (show ¬ (false = true) by decide)] at H; exact H
  clear H
  have H := H1
  clear H1
  obtain rfl := Option.some.inj H
  go_enter Try.func48, Try.ntmps48
  go_wp2_with (first | ((with_reducible refine gate_dst (N := 1) rfl ?_); refine box_event ?hg (N := 1) ?hd (cs := #[.int .i64 a0_0, .string a0_1, .slice A0_2 l0_2.length c0_2, .string a0_3, .slice A0_4 l0_4.length c0_4]) (t := 34) ?hr ?_; (case hd | hg => rfl); (case hr => first | (go_simp; done) | (go_simp; rfl)); intro gb144 hg w24 hbox hb; have n0_ := aM (bP (ey HB.out) hb); have n1_ := aM (hbox); have n2_ := aM ((by rw [hg]; exact (bZ (ey HB.out)) : w.heap.size ≤ gb144)); have n3_ := n2_; clear HB; have HB := n0_; have BK144 := n1_; have GW144 := n2_; have GE144 := n3_; clear n0_ n1_ n2_ n3_; clear hb hbox hg; have hcz25_0 := zC BK144.out 0 (.int .i64 a0_0); have hcz25_1 := zC BK144.out 1 (.string a0_1); have hcz25_2 := zC BK144.out 2 (.slice A0_2 l0_2.length c0_2); have hcz25_3 := zC BK144.out 3 (.string a0_3); have hcz25_4 := zC BK144.out 4 (.slice A0_4 l0_4.length c0_4); have hfz25_0 := bF BK144.out 0; have hfz25_1 := bF BK144.out 1; have hfz25_2 := bF BK144.out 2; have hfz25_3 := bF BK144.out 3; have hfz25_4 := bF BK144.out 4) | ((with_reducible refine gate_callee (f := 58) rfl ?_); refine goesL_ (some 5) rfl rfl Try.func58 (by kernel_rfl) rfl #[.agg #[.string a0_1, .slice A0_2 l0_2.length c0_2]] rfl (by (try simp only [mT, mC, mN]); first | done | rfl | (simp only [lD, lT]; rfl)) ?_; (with_reducible refine (strip_Good.calls k a0_1 _ _ l0_2 false _ ?side1 ?side2 A2.out).mono ?_); (case side1 => repeat (first | exact (cB_ HR0_2.out HB.out) | (with_reducible refine Kd.C_alloc ?_ _) | (with_reducible refine Kd.C_drewN ?_ _) | (with_reducible refine Kd.C_drew ?_))); (case side2 => exact HC0_2.out); rintro e w26 ⟨rfl, hb⟩; refine ⟨_, rfl, ?_⟩; have n0_ := aM (bB (g := gb144) (qy BK144.out) hb); have n1_ := aM (bP (by repeat (first | (with_reducible first | exact HB.out | apply ea | apply en | apply ed | refine es ?_ GE144.out) | exact HB.out)) hb); clear BK144 HB; have BK144 := n0_; have HB := n1_; clear n0_ n1_; (try clear hb); (try clear hb2); (try clear hk); (try clear hi)))
  go_ret
  exact ⟨by first | rfl | (simp [errW_none, errW_some] <;> rfl) | (simp [*, errW_none, errW_some] <;> rfl), by repeat (first | (with_reducible first | exact HB.out | apply ea | apply en | apply ed | refine es ?_ GE144.out) | exact HB.out)⟩
end Go.Proofs.Ytbbgpfjeobdogaa.PB
end

section
namespace Go.Proofs.Ytbbgpfjeobdogaa.PB
open Go.RowKit Go.Proofs.YtbbgpfjeobdogaaW.PrintWords Go.Proofs.YtbbgpfjeobdogaaW.PrintLast Go.Proofs.YtbbgpfjeobdogaaW.PrintMore
attribute [local go_sem] max2_int min2_int max_two min_two max_three min_three max_four min_four   
set_option linter.unusedVariables false
set_option linter.unusedSimpArgs false
def edit_Apply.f (k : Nat) (a0_0 : ByteArray) (l0_1 : List (S71)) (a1_0 : Int) (a1_1 : ByteArray) (l1_2 : List (S71)) (a1_3 : ByteArray) (l1_4 : List (S71)) : Option (ByteArray × (List (S71)) × Int) := (edit_good.f k a1_0 a1_1 l1_2 a1_3 l1_4).bind fun t175 => (if t175 = true then ((strip_Cut.f k a0_0 l0_1 a1_0 (wrap64 (a1_0 + (a1_1.size : Int)))).bind fun bt176 => (if bt176.2.2 = 0 then ((strip_Same.f k bt176.1 bt176.2.1 a1_1 l1_2).bind fun t182 => (if t182 = true then ((strip_Splice.f k a0_0 l0_1 a1_0 (wrap64 (a1_0 + (a1_1.size : Int))) a1_3 l1_4).bind fun bt183 => (some (bt183.1, bt183.2.1, bt183.2.2))) else (some ((⟨#[]⟩ : ByteArray), ([] : List (S71)), 7)))) else (some ((⟨#[]⟩ : ByteArray), ([] : List (S71)), bt176.2.2)))) else (some ((⟨#[]⟩ : ByteArray), ([] : List (S71)), 2)))
set_option maxHeartbeats 8000000 in
set_option maxRecDepth 100000 in
theorem edit_Apply.calls (k : Nat) (a0_0 : ByteArray) (A0_1 : Option Addr) (c0_1 : Nat) (l0_1 : List (S71)) (a1_0 : Int) (a1_1 : ByteArray) (A1_2 : Option Addr) (c1_2 : Nat) (l1_2 : List (S71)) (a1_3 : ByteArray) (A1_4 : Option Addr) (c1_4 : Nat) (l1_4 : List (S71)) (r1 : ByteArray) (r2 : List (S71)) (r3 : Int) (w : World) (hr0_1 : Kd.C k71 w A0_1 l0_1.length l0_1) (hc0_1 : l0_1.length ≤ c0_1) (hr1_2 : Kd.C k71 w A1_2 l1_2.length l1_2) (hc1_2 : l1_2.length ≤ c1_2) (hr1_4 : Kd.C k71 w A1_4 l1_4.length l1_4) (hc1_4 : l1_4.length ≤ c1_4) (h : edit_Apply.f k a0_0 l0_1 a1_0 a1_1 l1_2 a1_3 l1_4 = some (r1, r2, r3)) :
  Calls Try.prog 36 #[.agg #[.string a0_0, .slice A0_1 l0_1.length c0_1], .agg #[.int .i64 a1_0, .string a1_1, .slice A1_2 l1_2.length c1_2, .string a1_3, .slice A1_4 l1_4.length c1_4]] w fun e w' => ∃ v1_ : Value, e = .returned (.tuple #[.agg #[.string r1, v1_], .int .i64 r3]) ∧ Kd.R k71 71 w' w.heap.size (fun _ => True) v1_ r2 ∧ Below w.heap.size w w' := by
 have hu32 := Try.underlying32
 have hu34 := Try.underlying34
 have HR0_1 := aM hr0_1
 have HC0_1 := aM hc0_1
 clear hr0_1 hc0_1
 have HR1_2 := aM hr1_2
 have HC1_2 := aM hc1_2
 clear hr1_2 hc1_2
 have HR1_4 := aM hr1_4
 have HC1_4 := aM hc1_4
 clear hr1_4 hc1_4
 have HB := aM (Below.refl w.heap.size w)
 have H : ((edit_good.f k a1_0 a1_1 l1_2 a1_3 l1_4).bind fun t175 => (if t175 = true then ((strip_Cut.f k a0_0 l0_1 a1_0 (wrap64 (a1_0 + (a1_1.size : Int)))).bind fun bt176 => (if bt176.2.2 = 0 then ((strip_Same.f k bt176.1 bt176.2.1 a1_1 l1_2).bind fun t182 => (if t182 = true then ((strip_Splice.f k a0_0 l0_1 a1_0 (wrap64 (a1_0 + (a1_1.size : Int))) a1_3 l1_4).bind fun bt183 => (some (bt183.1, bt183.2.1, bt183.2.2))) else (some ((⟨#[]⟩ : ByteArray), ([] : List (S71)), 7)))) else (some ((⟨#[]⟩ : ByteArray), ([] : List (S71)), bt176.2.2)))) else (some ((⟨#[]⟩ : ByteArray), ([] : List (S71)), 2)))) = some (r1, r2, r3) := h
 clear h
 replace H := Option.bind_eq_some_iff.mp H
 obtain ⟨t175, A30, H⟩ := H
 replace H : (if t175 = true then ((strip_Cut.f k a0_0 l0_1 a1_0 (wrap64 (a1_0 + (a1_1.size : Int)))).bind fun bt176 => (if bt176.2.2 = 0 then ((strip_Same.f k bt176.1 bt176.2.1 a1_1 l1_2).bind fun t182 => (if t182 = true then ((strip_Splice.f k a0_0 l0_1 a1_0 (wrap64 (a1_0 + (a1_1.size : Int))) a1_3 l1_4).bind fun bt183 => (some (bt183.1, bt183.2.1, bt183.2.2))) else (some ((⟨#[]⟩ : ByteArray), ([] : List (S71)), 7)))) else (some ((⟨#[]⟩ : ByteArray), ([] : List (S71)), bt176.2.2)))) else (some ((⟨#[]⟩ : ByteArray), ([] : List (S71)), 2))) = some (r1, r2, r3) := H
 have A3 := aM A30
 clear A30
 by_cases c4 : t175 = true
 ·subst c4
  have H1 : ((strip_Cut.f k a0_0 l0_1 a1_0 (wrap64 (a1_0 + (a1_1.size : Int)))).bind fun bt176 => (if bt176.2.2 = 0 then ((strip_Same.f k bt176.1 bt176.2.1 a1_1 l1_2).bind fun t182 => (if t182 = true then ((strip_Splice.f k a0_0 l0_1 a1_0 (wrap64 (a1_0 + (a1_1.size : Int))) a1_3 l1_4).bind fun bt183 => (some (bt183.1, bt183.2.1, bt183.2.2))) else (some ((⟨#[]⟩ : ByteArray), ([] : List (S71)), 7)))) else (some ((⟨#[]⟩ : ByteArray), ([] : List (S71)), bt176.2.2)))) = some (r1, r2, r3) := by rw [if_pos rfl] at H; exact H
  clear H
  have H := H1
  clear H1
  replace H := Option.bind_eq_some_iff.mp H
  obtain ⟨⟨t176, t177, t180⟩, A50, H⟩ := H
  replace H : (if t180 = 0 then ((strip_Same.f k t176 t177 a1_1 l1_2).bind fun t182 => (if t182 = true then ((strip_Splice.f k a0_0 l0_1 a1_0 (wrap64 (a1_0 + (a1_1.size : Int))) a1_3 l1_4).bind fun bt183 => (some (bt183.1, bt183.2.1, bt183.2.2))) else (some ((⟨#[]⟩ : ByteArray), ([] : List (S71)), 7)))) else (some ((⟨#[]⟩ : ByteArray), ([] : List (S71)), t180))) = some (r1, r2, r3) := H
  have A5 := aM A50
  clear A50
  by_cases c6 : t180 = 0
  ·rw [if_pos c6] at H
   have c6b0 : (t180 == 0) = true := beq_iff_eq.mpr c6
   have c6b1 : (t180 != 0) = false := bne_eq_false_iff_eq.mpr c6
   clear c6
   replace H := Option.bind_eq_some_iff.mp H
   obtain ⟨t182, A70, H⟩ := H
   replace H : (if t182 = true then ((strip_Splice.f k a0_0 l0_1 a1_0 (wrap64 (a1_0 + (a1_1.size : Int))) a1_3 l1_4).bind fun bt183 => (some (bt183.1, bt183.2.1, bt183.2.2))) else (some ((⟨#[]⟩ : ByteArray), ([] : List (S71)), 7))) = some (r1, r2, r3) := H
   have A7 := aM A70
   clear A70
   by_cases c8 : t182 = true
   ·subst c8
    have H1 : ((strip_Splice.f k a0_0 l0_1 a1_0 (wrap64 (a1_0 + (a1_1.size : Int))) a1_3 l1_4).bind fun bt183 => (some (bt183.1, bt183.2.1, bt183.2.2))) = some (r1, r2, r3) := by rw [if_pos rfl] at H; exact H
    clear H
    have H := H1
    clear H1
    replace H := Option.bind_eq_some_iff.mp H
    obtain ⟨⟨t183, t184, t187⟩, A90, H⟩ := H
    replace H : (some (t183, t184, t187)) = some (r1, r2, r3) := H
    have A9 := aM A90
    clear A90
    simp only [Option.some.injEq, Prod.mk.injEq] at H
    obtain ⟨rfl, rfl, rfl⟩ := H
    go_enter Try.func36, Try.ntmps36
    go_wp2_with (first | ((with_reducible refine gate_dst (N := 2) rfl ?_); refine box_event ?hg (N := 2) ?hd (cs := #[.string a0_0, .slice A0_1 l0_1.length c0_1]) (t := 32) ?hr ?_; (case hd | hg => rfl); (case hr => first | (go_simp; done) | (go_simp; rfl)); intro gb172 hg w10 hbox hb; have n0_ := aM (bP (ey HB.out) hb); have n1_ := aM (hbox); have n2_ := aM ((by rw [hg]; exact (bZ (ey HB.out)) : w.heap.size ≤ gb172)); have n3_ := n2_; clear HB; have HB := n0_; have BK172 := n1_; have GW172 := n2_; have GE172 := n3_; clear n0_ n1_ n2_ n3_; clear hb hbox hg) | ((with_reducible refine gate_dst (N := 3) rfl ?_); refine box_event ?hg (N := 3) ?hd (cs := #[.int .i64 a1_0, .string a1_1, .slice A1_2 l1_2.length c1_2, .string a1_3, .slice A1_4 l1_4.length c1_4]) (t := 34) ?hr ?_; (case hd | hg => rfl); (case hr => first | (go_simp; done) | (go_simp; rfl)); intro gb173 hg w11 hbox hb; have n0_ := aM (bB (g := gb172) (qy BK172.out) hb); have n1_ := aM (bP (by repeat (first | (with_reducible first | exact HB.out | apply ea | apply en | apply ed | refine es ?_ GE172.out) | exact HB.out)) hb); have n2_ := aM (hbox); have n3_ := aM ((by rw [hg]; exact (bZ (by repeat (first | (with_reducible first | exact HB.out | apply ea | apply en | apply ed | refine es ?_ GE172.out) | exact HB.out))) : w.heap.size ≤ gb173)); have n4_ := n3_; have n5_ := aM ((by rw [hg]; exact Nat.ne_of_lt (blk_lt (g := gb172) (qy BK172.out)) : gb172 ≠ gb173)); have n6_ := aM ((by rw [hg]; exact Nat.ne_of_gt (blk_lt (g := gb172) (qy BK172.out)) : gb173 ≠ gb172)); clear BK172 HB; have BK172 := n0_; have HB := n1_; have BK173 := n2_; have GW173 := n3_; have GE173 := n4_; have NB172_173 := n5_; have NB173_172 := n6_; clear n0_ n1_ n2_ n3_ n4_ n5_ n6_; clear hb hbox hg) | ((with_reducible refine gate_dst (N := 4) rfl ?_); refine box_event ?hg (N := 4) ?hd (cs := #[.string (⟨#[]⟩ : ByteArray), .slice none 0 0]) (t := 32) ?hr ?_; (case hd | hg => rfl); (case hr => first | (go_simp; done) | (go_simp; rfl)); intro gb174 hg w12 hbox hb; have n0_ := aM (bB (g := gb172) (qy BK172.out) hb); have n1_ := aM (bB (g := gb173) (qy BK173.out) hb); have n2_ := aM (bP (by repeat (first | (with_reducible first | exact HB.out | apply ea | apply en | apply ed | refine es ?_ GE172.out | refine es ?_ GE173.out) | exact HB.out)) hb); have n3_ := aM (hbox); have n4_ := aM ((by rw [hg]; exact (bZ (by repeat (first | (with_reducible first | exact HB.out | apply ea | apply en | apply ed | refine es ?_ GE172.out | refine es ?_ GE173.out) | exact HB.out))) : w.heap.size ≤ gb174)); have n5_ := n4_; have n6_ := aM ((by rw [hg]; exact Nat.ne_of_lt (blk_lt (g := gb172) (qy BK172.out)) : gb172 ≠ gb174)); have n7_ := aM ((by rw [hg]; exact Nat.ne_of_gt (blk_lt (g := gb172) (qy BK172.out)) : gb174 ≠ gb172)); have n8_ := aM ((by rw [hg]; exact Nat.ne_of_lt (blk_lt (g := gb173) (qy BK173.out)) : gb173 ≠ gb174)); have n9_ := aM ((by rw [hg]; exact Nat.ne_of_gt (blk_lt (g := gb173) (qy BK173.out)) : gb174 ≠ gb173)); clear BK172 BK173 HB; have BK172 := n0_; have BK173 := n1_; have HB := n2_; have BK174 := n3_; have GW174 := n4_; have GE174 := n5_; have NB172_174 := n6_; have NB174_172 := n7_; have NB173_174 := n8_; have NB174_173 := n9_; clear n0_ n1_ n2_ n3_ n4_ n5_ n6_ n7_ n8_ n9_; clear hb hbox hg; have hnb13 := NB173_172.out; have hnc13 := NB172_173.out; have hnb14 := NB173_174.out; have hnc14 := NB174_173.out; have hcz15_0 := zC BK173.out 0 (.int .i64 a1_0); have hcz15_1 := zC BK173.out 1 (.string a1_1); have hcz15_2 := zC BK173.out 2 (.slice A1_2 l1_2.length c1_2); have hcz15_3 := zC BK173.out 3 (.string a1_3); have hcz15_4 := zC BK173.out 4 (.slice A1_4 l1_4.length c1_4); have hfz15_0 := bF BK173.out 0; have hfz15_1 := bF BK173.out 1; have hfz15_2 := bF BK173.out 2; have hfz15_3 := bF BK173.out 3; have hfz15_4 := bF BK173.out 4) | ((with_reducible refine gate_callee (f := 48) rfl ?_); refine goesL_ (some 10) rfl rfl Try.func48 (by kernel_rfl) rfl #[.agg #[.int .i64 a1_0, .string a1_1, .slice A1_2 l1_2.length c1_2, .string a1_3, .slice A1_4 l1_4.length c1_4]] rfl (by (try simp only [mT, mC, mN]); first | done | rfl | (simp only [lD, lT]; rfl)) ?_; (with_reducible refine (edit_good.calls k a1_0 a1_1 _ _ l1_2 a1_3 _ _ l1_4 true _ ?side1 ?side2 ?side3 ?side4 A3.out).mono ?_); (case side1 => repeat (first | exact (cB_ HR1_2.out HB.out) | (with_reducible refine Kd.C_alloc ?_ _) | (with_reducible refine Kd.C_drewN ?_ _) | (with_reducible refine Kd.C_drew ?_))); (case side2 => exact HC1_2.out); (case side3 => repeat (first | exact (cB_ HR1_4.out HB.out) | (with_reducible refine Kd.C_alloc ?_ _) | (with_reducible refine Kd.C_drewN ?_ _) | (with_reducible refine Kd.C_drew ?_))); (case side4 => exact HC1_4.out); rintro e w16 ⟨rfl, hb⟩; refine ⟨_, rfl, ?_⟩; have n0_ := aM (bB (g := gb172) (qy BK172.out) hb); have n1_ := aM (bB (g := gb173) (qy BK173.out) hb); have n2_ := aM (bB (g := gb174) (qy BK174.out) hb); have n3_ := aM (bP (by repeat (first | (with_reducible first | exact HB.out | apply ea | apply en | apply ed | refine es ?_ GE172.out | refine es ?_ GE173.out | refine es ?_ GE174.out) | exact HB.out)) hb); clear BK172 BK173 BK174 HB; have BK172 := n0_; have BK173 := n1_; have BK174 := n2_; have HB := n3_; clear n0_ n1_ n2_ n3_; (try clear hb); (try clear hb2); (try clear hk); (try clear hi); have hcz17_0 := zC BK173.out 0 (.int .i64 a1_0); have hcz17_1 := zC BK173.out 1 (.string a1_1); have hcz17_2 := zC BK173.out 2 (.slice A1_2 l1_2.length c1_2); have hcz17_3 := zC BK173.out 3 (.string a1_3); have hcz17_4 := zC BK173.out 4 (.slice A1_4 l1_4.length c1_4); have hfz17_0 := bF BK173.out 0; have hfz17_1 := bF BK173.out 1; have hfz17_2 := bF BK173.out 2; have hfz17_3 := bF BK173.out 3; have hfz17_4 := bF BK173.out 4; have hnb18 := NB172_174.out; have hnc18 := NB174_172.out; have hcz19_0 := zC BK172.out 0 (.string a0_0); have hcz19_1 := zC BK172.out 1 (.slice A0_1 l0_1.length c0_1); have hfz19_0 := bF BK172.out 0; have hfz19_1 := bF BK172.out 1) | ((with_reducible refine gate_callee (f := 49) rfl ?_); refine goesL_ (some 25) rfl rfl Try.func49 (by kernel_rfl) rfl #[.agg #[.string a0_0, .slice A0_1 l0_1.length c0_1], .int .i64 a1_0, .int .i64 (wrap64 (a1_0 + (a1_1.size : Int)))] rfl (by (try simp only [mT, mC, mN]); first | done | rfl | (simp only [lD, lT]; rfl)) ?_; (with_reducible refine (strip_Cut.calls k a0_0 _ _ l0_1 a1_0 (wrap64 (a1_0 + (a1_1.size : Int))) t176 t177 t180 _ ?side1 ?side2 A5.out).mono ?_); (case side1 => repeat (first | exact (cB_ HR0_1.out HB.out) | (with_reducible refine Kd.C_alloc ?_ _) | (with_reducible refine Kd.C_drewN ?_ _) | (with_reducible refine Kd.C_drew ?_))); (case side2 => exact HC0_1.out); rintro e w20 ⟨v178, rfl, ho0, hb⟩; refine ⟨_, rfl, ?_⟩; have n0_ := aM (rL ho0 (bZ (by repeat (first | (with_reducible first | exact HB.out | apply ea | apply en | apply ed | refine es ?_ GE172.out | refine es ?_ GE173.out | refine es ?_ GE174.out) | exact HB.out)))); have n1_ := aM (bB (g := gb172) (qy BK172.out) hb); have n2_ := aM (bB (g := gb173) (qy BK173.out) hb); have n3_ := aM (bB (g := gb174) (qy BK174.out) hb); have n4_ := aM (bP (by repeat (first | (with_reducible first | exact HB.out | apply ea | apply en | apply ed | refine es ?_ GE172.out | refine es ?_ GE173.out | refine es ?_ GE174.out) | exact HB.out)) hb); clear BK172 BK173 BK174 HB; have HO179 := n0_; have BK172 := n1_; have BK173 := n2_; have BK174 := n3_; have HB := n4_; clear n0_ n1_ n2_ n3_ n4_; (try clear hb); (try clear hb2); (try clear hk); (try clear hi); (try clear ho0)) | ((with_reducible refine gate_dst (N := 7) rfl ?_); refine box_event ?hg (N := 7) ?hd (cs := #[.string (⟨#[]⟩ : ByteArray), .slice none 0 0]) (t := 32) ?hr ?_; (case hd | hg => rfl); (case hr => first | (go_simp; done) | (go_simp; rfl)); intro gb181 hg w21 hbox hb; have n0_ := aM (Kd.R_below (ry HO179.out) hb); have n1_ := aM (bB (g := gb172) (qy BK172.out) hb); have n2_ := aM (bB (g := gb173) (qy BK173.out) hb); have n3_ := aM (bB (g := gb174) (qy BK174.out) hb); have n4_ := aM (bP (by repeat (first | (with_reducible first | exact HB.out | apply ea | apply en | apply ed | refine es ?_ GE172.out | refine es ?_ GE173.out | refine es ?_ GE174.out) | exact HB.out)) hb); have n5_ := aM (hbox); have n6_ := aM ((by rw [hg]; exact (bZ (by repeat (first | (with_reducible first | exact HB.out | apply ea | apply en | apply ed | refine es ?_ GE172.out | refine es ?_ GE173.out | refine es ?_ GE174.out) | exact HB.out))) : w.heap.size ≤ gb181)); have n7_ := n6_; have n8_ := aM ((by rw [hg]; exact Nat.ne_of_lt (blk_lt (g := gb172) (qy BK172.out)) : gb172 ≠ gb181)); have n9_ := aM ((by rw [hg]; exact Nat.ne_of_gt (blk_lt (g := gb172) (qy BK172.out)) : gb181 ≠ gb172)); have n10_ := aM ((by rw [hg]; exact Nat.ne_of_lt (blk_lt (g := gb173) (qy BK173.out)) : gb173 ≠ gb181)); have n11_ := aM ((by rw [hg]; exact Nat.ne_of_gt (blk_lt (g := gb173) (qy BK173.out)) : gb181 ≠ gb173)); have n12_ := aM ((by rw [hg]; exact Nat.ne_of_lt (blk_lt (g := gb174) (qy BK174.out)) : gb174 ≠ gb181)); have n13_ := aM ((by rw [hg]; exact Nat.ne_of_gt (blk_lt (g := gb174) (qy BK174.out)) : gb181 ≠ gb174)); clear HO179 BK172 BK173 BK174 HB; have HO179 := n0_; have BK172 := n1_; have BK173 := n2_; have BK174 := n3_; have HB := n4_; have BK181 := n5_; have GW181 := n6_; have GE181 := n7_; have NB172_181 := n8_; have NB181_172 := n9_; have NB173_181 := n10_; have NB181_173 := n11_; have NB174_181 := n12_; have NB181_174 := n13_; clear n0_ n1_ n2_ n3_ n4_ n5_ n6_ n7_ n8_ n9_ n10_ n11_ n12_ n13_; clear hb hbox hg; have hnb22 := NB181_172.out; have hnc22 := NB172_181.out; have hnb23 := NB181_173.out; have hnc23 := NB173_181.out; have hnb24 := NB181_174.out; have hnc24 := NB174_181.out; have hcz25_0 := zC BK181.out 0 (.string (⟨#[]⟩ : ByteArray)); have hcz25_1 := zC BK181.out 1 (.slice none 0 0); have hfz25_0 := bF BK181.out 0; have hfz25_1 := bF BK181.out 1; obtain ⟨Ao26, co26, eo26⟩ := Kd.R_slice HO179.out; subst eo26; have hcz27_0 := zC BK173.out 0 (.int .i64 a1_0); have hcz27_1 := zC BK173.out 1 (.string a1_1); have hcz27_2 := zC BK173.out 2 (.slice A1_2 l1_2.length c1_2); have hcz27_3 := zC BK173.out 3 (.string a1_3); have hcz27_4 := zC BK173.out 4 (.slice A1_4 l1_4.length c1_4); have hfz27_0 := bF BK173.out 0; have hfz27_1 := bF BK173.out 1; have hfz27_2 := bF BK173.out 2; have hfz27_3 := bF BK173.out 3; have hfz27_4 := bF BK173.out 4) | ((with_reducible refine gate_callee (f := 50) rfl ?_); refine goesL_ (some 37) rfl rfl Try.func50 (by kernel_rfl) rfl #[.agg #[.string t176, .slice Ao26 t177.length co26], .agg #[.string a1_1, .slice A1_2 l1_2.length c1_2]] rfl (by (try simp only [mT, mC, mN]); first | done | rfl | (simp only [lD, lT]; rfl)) ?_; (with_reducible refine (strip_Same.calls k t176 _ _ t177 a1_1 _ _ l1_2 true _ ?side1 ?side2 ?side3 ?side4 A7.out).mono ?_); (case side1 => refine (rR (e := 71) (base := w.heap.size) (ok := fun k_ => True) (n := t177.length) (c := co26) ?_).2.2; exact (by (with_reducible repeat (first | apply ra | apply rn | apply rd_)); exact (rM (rF (p := ⟨gb181, 1, none⟩) (rF (p := ⟨gb181, 0, none⟩) (rT HO179.out BK181.out (by decide)) (fun _ hk => hk.2) (.string t176)) (fun _ hk => hk.2) (.slice Ao26 t177.length co26)) (fun _ h_ => h_.1)))); (case side2 => exact (rR HO179.out).2.1); (case side3 => exact cB_ HR1_2.out (by repeat (first | (with_reducible first | exact HB.out | apply ea | apply en | apply ed | refine es ?_ GE172.out | refine es ?_ GE173.out | refine es ?_ GE174.out | refine es ?_ GE181.out) | exact HB.out))); (case side4 => exact HC1_2.out); rintro e w28 ⟨rfl, hb⟩; refine ⟨_, rfl, ?_⟩; have n0_ := aM (Kd.R_below (by (with_reducible repeat (first | apply ra | apply rn | apply rd_)); exact (rM (rF (p := ⟨gb181, 1, none⟩) (rF (p := ⟨gb181, 0, none⟩) (rT HO179.out BK181.out (by decide)) (fun _ hk => hk.2) (.string t176)) (fun _ hk => hk.2) (.slice Ao26 t177.length co26)) (fun _ h_ => h_.1))) hb); have n1_ := aM (bB (g := gb172) (o := .cells #[.string a0_0, .slice A0_1 l0_1.length c0_1] 32 (0, 0)) (by (with_reducible repeat (first | apply qn | apply qd | apply qa)); refine bR ?_ NB172_181.out _; (with_reducible repeat (first | apply qn | apply qd | apply qa)); refine bR ?_ NB172_181.out _; exact qy BK172.out) hb); have n2_ := aM (bB (g := gb173) (o := .cells #[.int .i64 a1_0, .string a1_1, .slice A1_2 l1_2.length c1_2, .string a1_3, .slice A1_4 l1_4.length c1_4] 34 (0, 0)) (by (with_reducible repeat (first | apply qn | apply qd | apply qa)); refine bR ?_ NB173_181.out _; (with_reducible repeat (first | apply qn | apply qd | apply qa)); refine bR ?_ NB173_181.out _; exact qy BK173.out) hb); have n3_ := aM (bB (g := gb174) (o := .cells #[.string (⟨#[]⟩ : ByteArray), .slice none 0 0] 32 (0, 0)) (by (with_reducible repeat (first | apply qn | apply qd | apply qa)); refine bR ?_ NB174_181.out _; (with_reducible repeat (first | apply qn | apply qd | apply qa)); refine bR ?_ NB174_181.out _; exact qy BK174.out) hb); have n4_ := aM (bB (g := gb181) (o := .cells #[.string t176, .slice Ao26 t177.length co26] 32 (0, 0)) (by (with_reducible repeat (first | apply qn | apply qd | apply qa)); refine bU (cs := #[.string t176, .slice none 0 0]) ?_ 1 _ rfl; (with_reducible repeat (first | apply qn | apply qd | apply qa)); refine bU (cs := #[.string (⟨#[]⟩ : ByteArray), .slice none 0 0]) ?_ 0 _ rfl; exact qy BK181.out) hb); have n5_ := aM (bP (by repeat (first | (with_reducible first | exact HB.out | apply ea | apply en | apply ed | refine es ?_ GE172.out | refine es ?_ GE173.out | refine es ?_ GE174.out | refine es ?_ GE181.out) | exact HB.out)) hb); clear HO179 BK172 BK173 BK174 BK181 HB; have HO179 := n0_; have BK172 := n1_; have BK173 := n2_; have BK174 := n3_; have BK181 := n4_; have HB := n5_; clear n0_ n1_ n2_ n3_ n4_ n5_; (try clear hb); (try clear hb2); (try clear hk); (try clear hi); have hcz29_0 := zC BK172.out 0 (.string a0_0); have hcz29_1 := zC BK172.out 1 (.slice A0_1 l0_1.length c0_1); have hfz29_0 := bF BK172.out 0; have hfz29_1 := bF BK172.out 1; have hcz30_0 := zC BK173.out 0 (.int .i64 a1_0); have hcz30_1 := zC BK173.out 1 (.string a1_1); have hcz30_2 := zC BK173.out 2 (.slice A1_2 l1_2.length c1_2); have hcz30_3 := zC BK173.out 3 (.string a1_3); have hcz30_4 := zC BK173.out 4 (.slice A1_4 l1_4.length c1_4); have hfz30_0 := bF BK173.out 0; have hfz30_1 := bF BK173.out 1; have hfz30_2 := bF BK173.out 2; have hfz30_3 := bF BK173.out 3; have hfz30_4 := bF BK173.out 4) | ((with_reducible refine gate_callee (f := 51) rfl ?_); refine goesL_ (some 46) rfl rfl Try.func51 (by kernel_rfl) rfl #[.agg #[.string a0_0, .slice A0_1 l0_1.length c0_1], .int .i64 a1_0, .int .i64 (wrap64 (a1_0 + (a1_1.size : Int))), .agg #[.string a1_3, .slice A1_4 l1_4.length c1_4]] rfl (by (try simp only [mT, mC, mN]); first | done | rfl | (simp only [lD, lT]; rfl)) ?_; (with_reducible refine (strip_Splice.calls k a0_0 _ _ l0_1 a1_0 (wrap64 (a1_0 + (a1_1.size : Int))) a1_3 _ _ l1_4 t183 t184 t187 _ ?side1 ?side2 ?side3 ?side4 A9.out).mono ?_); (case side1 => repeat (first | exact (cB_ HR0_1.out HB.out) | (with_reducible refine Kd.C_alloc ?_ _) | (with_reducible refine Kd.C_drewN ?_ _) | (with_reducible refine Kd.C_drew ?_))); (case side2 => exact HC0_1.out); (case side3 => repeat (first | exact (cB_ HR1_4.out HB.out) | (with_reducible refine Kd.C_alloc ?_ _) | (with_reducible refine Kd.C_drewN ?_ _) | (with_reducible refine Kd.C_drew ?_))); (case side4 => exact HC1_4.out); rintro e w31 ⟨v185, rfl, ho0, hb⟩; refine ⟨_, rfl, ?_⟩; have n0_ := aM (rE (ry HO179.out) (Kd.R_base ho0) hb); have n1_ := aM (rL (Kd.R_new' ho0 (Kd.R_lt (ry HO179.out))) (bZ (by repeat (first | (with_reducible first | exact HB.out | apply ea | apply en | apply ed | refine es ?_ GE172.out | refine es ?_ GE173.out | refine es ?_ GE174.out | refine es ?_ GE181.out) | exact HB.out)))); have n2_ := aM (bB (g := gb172) (qy BK172.out) hb); have n3_ := aM (bB (g := gb173) (qy BK173.out) hb); have n4_ := aM (bB (g := gb174) (qy BK174.out) hb); have n5_ := aM (bB (g := gb181) (qy BK181.out) hb); have n6_ := aM (bP (by repeat (first | (with_reducible first | exact HB.out | apply ea | apply en | apply ed | refine es ?_ GE172.out | refine es ?_ GE173.out | refine es ?_ GE174.out | refine es ?_ GE181.out) | exact HB.out)) hb); clear HO179 BK172 BK173 BK174 BK181 HB; have HO179 := n0_; have HO186 := n1_; have BK172 := n2_; have BK173 := n3_; have BK174 := n4_; have BK181 := n5_; have HB := n6_; clear n0_ n1_ n2_ n3_ n4_ n5_ n6_; (try clear hb); (try clear hb2); (try clear hk); (try clear hi); (try clear ho0); have hcz32_0 := zC BK174.out 0 (.string (⟨#[]⟩ : ByteArray)); have hcz32_1 := zC BK174.out 1 (.slice none 0 0); have hfz32_0 := bF BK174.out 0; have hfz32_1 := bF BK174.out 1; obtain ⟨Ao33, co33, eo33⟩ := Kd.R_slice HO186.out; subst eo33))
    refine bodyPost_ret (results_ct rfl _ _ gb174 32 #[.string t183, .slice Ao33 t184.length co33] (0, 0) _ rfl (by (with_reducible repeat (first | apply qn | apply qd | apply qa)); refine bU (cs := #[.string t183, .slice none 0 0]) ?_ 1 _ rfl; (with_reducible repeat (first | apply qn | apply qd | apply qa)); refine bU (cs := #[.string (⟨#[]⟩ : ByteArray), .slice none 0 0]) ?_ 0 _ rfl; exact qy BK174.out) Try.underlying32 rfl (by kernel_rfl)) rfl ?_
    exact ⟨_, by first | rfl | (simp [errW_none, errW_some] <;> rfl) | (simp [*, errW_none, errW_some] <;> rfl), by (with_reducible repeat (first | apply ra | apply rn | apply rd_)); exact rM (rF (p := ⟨gb174, 1, none⟩) (rF (p := ⟨gb174, 0, none⟩) (rT HO186.out BK174.out (by decide)) (fun _ hk => hk.2) (.string t183)) (fun _ hk => hk.2) (.slice Ao33 t184.length co33)) (fun _ hk => trivial), by repeat (first | (with_reducible first | exact HB.out | apply ea | apply en | apply ed | refine es ?_ GE172.out | refine es ?_ GE173.out | refine es ?_ GE174.out | refine es ?_ GE181.out) | exact HB.out)⟩
   ·replace c8 := Bool.eq_false_iff.mpr c8
    subst c8
    have H1 : (some ((⟨#[]⟩ : ByteArray), ([] : List (S71)), 7)) = some (r1, r2, r3) := by rw [if_neg (show ¬ (false = true) by decide)] at H; exact H
    clear H
    have H := H1
    clear H1
    simp only [Option.some.injEq, Prod.mk.injEq] at H
    obtain ⟨rfl, rfl, rfl⟩ := H
    go_enter Try.func36, Try.ntmps36
    go_wp2_with (first | ((with_reducible refine gate_dst (N := 2) rfl ?_); refine box_event ?hg (N := 2) ?hd (cs := #[.string a0_0, .slice A0_1 l0_1.length c0_1]) (t := 32) ?hr ?_; (case hd | hg => rfl); (case hr => first | (go_simp; done) | (go_simp; rfl)); intro gb172 hg w34 hbox hb; have n0_ := aM (bP (ey HB.out) hb); have n1_ := aM (hbox); have n2_ := aM ((by rw [hg]; exact (bZ (ey HB.out)) : w.heap.size ≤ gb172)); have n3_ := n2_; clear HB; have HB := n0_; have BK172 := n1_; have GW172 := n2_; have GE172 := n3_; clear n0_ n1_ n2_ n3_; clear hb hbox hg) | ((with_reducible refine gate_dst (N := 3) rfl ?_); refine box_event ?hg (N := 3) ?hd (cs := #[.int .i64 a1_0, .string a1_1, .slice A1_2 l1_2.length c1_2, .string a1_3, .slice A1_4 l1_4.length c1_4]) (t := 34) ?hr ?_; (case hd | hg => rfl); (case hr => first | (go_simp; done) | (go_simp; rfl)); intro gb173 hg w35 hbox hb; have n0_ := aM (bB (g := gb172) (qy BK172.out) hb); have n1_ := aM (bP (by repeat (first | (with_reducible first | exact HB.out | apply ea | apply en | apply ed | refine es ?_ GE172.out) | exact HB.out)) hb); have n2_ := aM (hbox); have n3_ := aM ((by rw [hg]; exact (bZ (by repeat (first | (with_reducible first | exact HB.out | apply ea | apply en | apply ed | refine es ?_ GE172.out) | exact HB.out))) : w.heap.size ≤ gb173)); have n4_ := n3_; have n5_ := aM ((by rw [hg]; exact Nat.ne_of_lt (blk_lt (g := gb172) (qy BK172.out)) : gb172 ≠ gb173)); have n6_ := aM ((by rw [hg]; exact Nat.ne_of_gt (blk_lt (g := gb172) (qy BK172.out)) : gb173 ≠ gb172)); clear BK172 HB; have BK172 := n0_; have HB := n1_; have BK173 := n2_; have GW173 := n3_; have GE173 := n4_; have NB172_173 := n5_; have NB173_172 := n6_; clear n0_ n1_ n2_ n3_ n4_ n5_ n6_; clear hb hbox hg) | ((with_reducible refine gate_dst (N := 4) rfl ?_); refine box_event ?hg (N := 4) ?hd (cs := #[.string (⟨#[]⟩ : ByteArray), .slice none 0 0]) (t := 32) ?hr ?_; (case hd | hg => rfl); (case hr => first | (go_simp; done) | (go_simp; rfl)); intro gb174 hg w36 hbox hb; have n0_ := aM (bB (g := gb172) (qy BK172.out) hb); have n1_ := aM (bB (g := gb173) (qy BK173.out) hb); have n2_ := aM (bP (by repeat (first | (with_reducible first | exact HB.out | apply ea | apply en | apply ed | refine es ?_ GE172.out | refine es ?_ GE173.out) | exact HB.out)) hb); have n3_ := aM (hbox); have n4_ := aM ((by rw [hg]; exact (bZ (by repeat (first | (with_reducible first | exact HB.out | apply ea | apply en | apply ed | refine es ?_ GE172.out | refine es ?_ GE173.out) | exact HB.out))) : w.heap.size ≤ gb174)); have n5_ := n4_; have n6_ := aM ((by rw [hg]; exact Nat.ne_of_lt (blk_lt (g := gb172) (qy BK172.out)) : gb172 ≠ gb174)); have n7_ := aM ((by rw [hg]; exact Nat.ne_of_gt (blk_lt (g := gb172) (qy BK172.out)) : gb174 ≠ gb172)); have n8_ := aM ((by rw [hg]; exact Nat.ne_of_lt (blk_lt (g := gb173) (qy BK173.out)) : gb173 ≠ gb174)); have n9_ := aM ((by rw [hg]; exact Nat.ne_of_gt (blk_lt (g := gb173) (qy BK173.out)) : gb174 ≠ gb173)); clear BK172 BK173 HB; have BK172 := n0_; have BK173 := n1_; have HB := n2_; have BK174 := n3_; have GW174 := n4_; have GE174 := n5_; have NB172_174 := n6_; have NB174_172 := n7_; have NB173_174 := n8_; have NB174_173 := n9_; clear n0_ n1_ n2_ n3_ n4_ n5_ n6_ n7_ n8_ n9_; clear hb hbox hg; have hnb37 := NB173_172.out; have hnc37 := NB172_173.out; have hnb38 := NB173_174.out; have hnc38 := NB174_173.out; have hcz39_0 := zC BK173.out 0 (.int .i64 a1_0); have hcz39_1 := zC BK173.out 1 (.string a1_1); have hcz39_2 := zC BK173.out 2 (.slice A1_2 l1_2.length c1_2); have hcz39_3 := zC BK173.out 3 (.string a1_3); have hcz39_4 := zC BK173.out 4 (.slice A1_4 l1_4.length c1_4); have hfz39_0 := bF BK173.out 0; have hfz39_1 := bF BK173.out 1; have hfz39_2 := bF BK173.out 2; have hfz39_3 := bF BK173.out 3; have hfz39_4 := bF BK173.out 4) | ((with_reducible refine gate_callee (f := 48) rfl ?_); refine goesL_ (some 10) rfl rfl Try.func48 (by kernel_rfl) rfl #[.agg #[.int .i64 a1_0, .string a1_1, .slice A1_2 l1_2.length c1_2, .string a1_3, .slice A1_4 l1_4.length c1_4]] rfl (by (try simp only [mT, mC, mN]); first | done | rfl | (simp only [lD, lT]; rfl)) ?_; (with_reducible refine (edit_good.calls k a1_0 a1_1 _ _ l1_2 a1_3 _ _ l1_4 true _ ?side1 ?side2 ?side3 ?side4 A3.out).mono ?_); (case side1 => repeat (first | exact (cB_ HR1_2.out HB.out) | (with_reducible refine Kd.C_alloc ?_ _) | (with_reducible refine Kd.C_drewN ?_ _) | (with_reducible refine Kd.C_drew ?_))); (case side2 => exact HC1_2.out); (case side3 => repeat (first | exact (cB_ HR1_4.out HB.out) | (with_reducible refine Kd.C_alloc ?_ _) | (with_reducible refine Kd.C_drewN ?_ _) | (with_reducible refine Kd.C_drew ?_))); (case side4 => exact HC1_4.out); rintro e w40 ⟨rfl, hb⟩; refine ⟨_, rfl, ?_⟩; have n0_ := aM (bB (g := gb172) (qy BK172.out) hb); have n1_ := aM (bB (g := gb173) (qy BK173.out) hb); have n2_ := aM (bB (g := gb174) (qy BK174.out) hb); have n3_ := aM (bP (by repeat (first | (with_reducible first | exact HB.out | apply ea | apply en | apply ed | refine es ?_ GE172.out | refine es ?_ GE173.out | refine es ?_ GE174.out) | exact HB.out)) hb); clear BK172 BK173 BK174 HB; have BK172 := n0_; have BK173 := n1_; have BK174 := n2_; have HB := n3_; clear n0_ n1_ n2_ n3_; (try clear hb); (try clear hb2); (try clear hk); (try clear hi); have hcz41_0 := zC BK173.out 0 (.int .i64 a1_0); have hcz41_1 := zC BK173.out 1 (.string a1_1); have hcz41_2 := zC BK173.out 2 (.slice A1_2 l1_2.length c1_2); have hcz41_3 := zC BK173.out 3 (.string a1_3); have hcz41_4 := zC BK173.out 4 (.slice A1_4 l1_4.length c1_4); have hfz41_0 := bF BK173.out 0; have hfz41_1 := bF BK173.out 1; have hfz41_2 := bF BK173.out 2; have hfz41_3 := bF BK173.out 3; have hfz41_4 := bF BK173.out 4; have hnb42 := NB172_174.out; have hnc42 := NB174_172.out; have hcz43_0 := zC BK172.out 0 (.string a0_0); have hcz43_1 := zC BK172.out 1 (.slice A0_1 l0_1.length c0_1); have hfz43_0 := bF BK172.out 0; have hfz43_1 := bF BK172.out 1) | ((with_reducible refine gate_callee (f := 49) rfl ?_); refine goesL_ (some 25) rfl rfl Try.func49 (by kernel_rfl) rfl #[.agg #[.string a0_0, .slice A0_1 l0_1.length c0_1], .int .i64 a1_0, .int .i64 (wrap64 (a1_0 + (a1_1.size : Int)))] rfl (by (try simp only [mT, mC, mN]); first | done | rfl | (simp only [lD, lT]; rfl)) ?_; (with_reducible refine (strip_Cut.calls k a0_0 _ _ l0_1 a1_0 (wrap64 (a1_0 + (a1_1.size : Int))) t176 t177 t180 _ ?side1 ?side2 A5.out).mono ?_); (case side1 => repeat (first | exact (cB_ HR0_1.out HB.out) | (with_reducible refine Kd.C_alloc ?_ _) | (with_reducible refine Kd.C_drewN ?_ _) | (with_reducible refine Kd.C_drew ?_))); (case side2 => exact HC0_1.out); rintro e w44 ⟨v178, rfl, ho0, hb⟩; refine ⟨_, rfl, ?_⟩; have n0_ := aM (rL ho0 (bZ (by repeat (first | (with_reducible first | exact HB.out | apply ea | apply en | apply ed | refine es ?_ GE172.out | refine es ?_ GE173.out | refine es ?_ GE174.out) | exact HB.out)))); have n1_ := aM (bB (g := gb172) (qy BK172.out) hb); have n2_ := aM (bB (g := gb173) (qy BK173.out) hb); have n3_ := aM (bB (g := gb174) (qy BK174.out) hb); have n4_ := aM (bP (by repeat (first | (with_reducible first | exact HB.out | apply ea | apply en | apply ed | refine es ?_ GE172.out | refine es ?_ GE173.out | refine es ?_ GE174.out) | exact HB.out)) hb); clear BK172 BK173 BK174 HB; have HO179 := n0_; have BK172 := n1_; have BK173 := n2_; have BK174 := n3_; have HB := n4_; clear n0_ n1_ n2_ n3_ n4_; (try clear hb); (try clear hb2); (try clear hk); (try clear hi); (try clear ho0)) | ((with_reducible refine gate_dst (N := 7) rfl ?_); refine box_event ?hg (N := 7) ?hd (cs := #[.string (⟨#[]⟩ : ByteArray), .slice none 0 0]) (t := 32) ?hr ?_; (case hd | hg => rfl); (case hr => first | (go_simp; done) | (go_simp; rfl)); intro gb181 hg w45 hbox hb; have n0_ := aM (Kd.R_below (ry HO179.out) hb); have n1_ := aM (bB (g := gb172) (qy BK172.out) hb); have n2_ := aM (bB (g := gb173) (qy BK173.out) hb); have n3_ := aM (bB (g := gb174) (qy BK174.out) hb); have n4_ := aM (bP (by repeat (first | (with_reducible first | exact HB.out | apply ea | apply en | apply ed | refine es ?_ GE172.out | refine es ?_ GE173.out | refine es ?_ GE174.out) | exact HB.out)) hb); have n5_ := aM (hbox); have n6_ := aM ((by rw [hg]; exact (bZ (by repeat (first | (with_reducible first | exact HB.out | apply ea | apply en | apply ed | refine es ?_ GE172.out | refine es ?_ GE173.out | refine es ?_ GE174.out) | exact HB.out))) : w.heap.size ≤ gb181)); have n7_ := n6_; have n8_ := aM ((by rw [hg]; exact Nat.ne_of_lt (blk_lt (g := gb172) (qy BK172.out)) : gb172 ≠ gb181)); have n9_ := aM ((by rw [hg]; exact Nat.ne_of_gt (blk_lt (g := gb172) (qy BK172.out)) : gb181 ≠ gb172)); have n10_ := aM ((by rw [hg]; exact Nat.ne_of_lt (blk_lt (g := gb173) (qy BK173.out)) : gb173 ≠ gb181)); have n11_ := aM ((by rw [hg]; exact Nat.ne_of_gt (blk_lt (g := gb173) (qy BK173.out)) : gb181 ≠ gb173)); have n12_ := aM ((by rw [hg]; exact Nat.ne_of_lt (blk_lt (g := gb174) (qy BK174.out)) : gb174 ≠ gb181)); have n13_ := aM ((by rw [hg]; exact Nat.ne_of_gt (blk_lt (g := gb174) (qy BK174.out)) : gb181 ≠ gb174)); clear HO179 BK172 BK173 BK174 HB; have HO179 := n0_; have BK172 := n1_; have BK173 := n2_; have BK174 := n3_; have HB := n4_; have BK181 := n5_; have GW181 := n6_; have GE181 := n7_; have NB172_181 := n8_; have NB181_172 := n9_; have NB173_181 := n10_; have NB181_173 := n11_; have NB174_181 := n12_; have NB181_174 := n13_; clear n0_ n1_ n2_ n3_ n4_ n5_ n6_ n7_ n8_ n9_ n10_ n11_ n12_ n13_; clear hb hbox hg; have hnb46 := NB181_172.out; have hnc46 := NB172_181.out; have hnb47 := NB181_173.out; have hnc47 := NB173_181.out; have hnb48 := NB181_174.out; have hnc48 := NB174_181.out; have hcz49_0 := zC BK181.out 0 (.string (⟨#[]⟩ : ByteArray)); have hcz49_1 := zC BK181.out 1 (.slice none 0 0); have hfz49_0 := bF BK181.out 0; have hfz49_1 := bF BK181.out 1; obtain ⟨Ao50, co50, eo50⟩ := Kd.R_slice HO179.out; subst eo50; have hcz51_0 := zC BK173.out 0 (.int .i64 a1_0); have hcz51_1 := zC BK173.out 1 (.string a1_1); have hcz51_2 := zC BK173.out 2 (.slice A1_2 l1_2.length c1_2); have hcz51_3 := zC BK173.out 3 (.string a1_3); have hcz51_4 := zC BK173.out 4 (.slice A1_4 l1_4.length c1_4); have hfz51_0 := bF BK173.out 0; have hfz51_1 := bF BK173.out 1; have hfz51_2 := bF BK173.out 2; have hfz51_3 := bF BK173.out 3; have hfz51_4 := bF BK173.out 4) | ((with_reducible refine gate_callee (f := 50) rfl ?_); refine goesL_ (some 37) rfl rfl Try.func50 (by kernel_rfl) rfl #[.agg #[.string t176, .slice Ao50 t177.length co50], .agg #[.string a1_1, .slice A1_2 l1_2.length c1_2]] rfl (by (try simp only [mT, mC, mN]); first | done | rfl | (simp only [lD, lT]; rfl)) ?_; (with_reducible refine (strip_Same.calls k t176 _ _ t177 a1_1 _ _ l1_2 false _ ?side1 ?side2 ?side3 ?side4 A7.out).mono ?_); (case side1 => refine (rR (e := 71) (base := w.heap.size) (ok := fun k_ => True) (n := t177.length) (c := co50) ?_).2.2; exact (by (with_reducible repeat (first | apply ra | apply rn | apply rd_)); exact (rM (rF (p := ⟨gb181, 1, none⟩) (rF (p := ⟨gb181, 0, none⟩) (rT HO179.out BK181.out (by decide)) (fun _ hk => hk.2) (.string t176)) (fun _ hk => hk.2) (.slice Ao50 t177.length co50)) (fun _ h_ => h_.1)))); (case side2 => exact (rR HO179.out).2.1); (case side3 => exact cB_ HR1_2.out (by repeat (first | (with_reducible first | exact HB.out | apply ea | apply en | apply ed | refine es ?_ GE172.out | refine es ?_ GE173.out | refine es ?_ GE174.out | refine es ?_ GE181.out) | exact HB.out))); (case side4 => exact HC1_2.out); rintro e w52 ⟨rfl, hb⟩; refine ⟨_, rfl, ?_⟩; have n0_ := aM (Kd.R_below (by (with_reducible repeat (first | apply ra | apply rn | apply rd_)); exact (rM (rF (p := ⟨gb181, 1, none⟩) (rF (p := ⟨gb181, 0, none⟩) (rT HO179.out BK181.out (by decide)) (fun _ hk => hk.2) (.string t176)) (fun _ hk => hk.2) (.slice Ao50 t177.length co50)) (fun _ h_ => h_.1))) hb); have n1_ := aM (bB (g := gb172) (o := .cells #[.string a0_0, .slice A0_1 l0_1.length c0_1] 32 (0, 0)) (by (with_reducible repeat (first | apply qn | apply qd | apply qa)); refine bR ?_ NB172_181.out _; (with_reducible repeat (first | apply qn | apply qd | apply qa)); refine bR ?_ NB172_181.out _; exact qy BK172.out) hb); have n2_ := aM (bB (g := gb173) (o := .cells #[.int .i64 a1_0, .string a1_1, .slice A1_2 l1_2.length c1_2, .string a1_3, .slice A1_4 l1_4.length c1_4] 34 (0, 0)) (by (with_reducible repeat (first | apply qn | apply qd | apply qa)); refine bR ?_ NB173_181.out _; (with_reducible repeat (first | apply qn | apply qd | apply qa)); refine bR ?_ NB173_181.out _; exact qy BK173.out) hb); have n3_ := aM (bB (g := gb174) (o := .cells #[.string (⟨#[]⟩ : ByteArray), .slice none 0 0] 32 (0, 0)) (by (with_reducible repeat (first | apply qn | apply qd | apply qa)); refine bR ?_ NB174_181.out _; (with_reducible repeat (first | apply qn | apply qd | apply qa)); refine bR ?_ NB174_181.out _; exact qy BK174.out) hb); have n4_ := aM (bB (g := gb181) (o := .cells #[.string t176, .slice Ao50 t177.length co50] 32 (0, 0)) (by (with_reducible repeat (first | apply qn | apply qd | apply qa)); refine bU (cs := #[.string t176, .slice none 0 0]) ?_ 1 _ rfl; (with_reducible repeat (first | apply qn | apply qd | apply qa)); refine bU (cs := #[.string (⟨#[]⟩ : ByteArray), .slice none 0 0]) ?_ 0 _ rfl; exact qy BK181.out) hb); have n5_ := aM (bP (by repeat (first | (with_reducible first | exact HB.out | apply ea | apply en | apply ed | refine es ?_ GE172.out | refine es ?_ GE173.out | refine es ?_ GE174.out | refine es ?_ GE181.out) | exact HB.out)) hb); clear HO179 BK172 BK173 BK174 BK181 HB; have HO179 := n0_; have BK172 := n1_; have BK173 := n2_; have BK174 := n3_; have BK181 := n4_; have HB := n5_; clear n0_ n1_ n2_ n3_ n4_ n5_; (try clear hb); (try clear hb2); (try clear hk); (try clear hi); have hcz53_0 := zC BK174.out 0 (.string (⟨#[]⟩ : ByteArray)); have hcz53_1 := zC BK174.out 1 (.slice none 0 0); have hfz53_0 := bF BK174.out 0; have hfz53_1 := bF BK174.out 1))
    refine bodyPost_ret (results_ct rfl _ _ gb174 32 #[.string (⟨#[]⟩ : ByteArray), .slice none 0 0] (0, 0) _ rfl (by (with_reducible repeat (first | apply qn | apply qd | apply qa)); refine bU (cs := #[.string (⟨#[]⟩ : ByteArray), .slice none 0 0]) ?_ 1 _ rfl; (with_reducible repeat (first | apply qn | apply qd | apply qa)); refine bU (cs := #[.string (⟨#[]⟩ : ByteArray), .slice none 0 0]) ?_ 0 _ rfl; exact qy BK174.out) Try.underlying32 rfl (by kernel_rfl)) rfl ?_
    exact ⟨_, by first | rfl | (simp [errW_none, errW_some] <;> rfl) | (simp [*, errW_none, errW_some] <;> rfl), by first | exact Kd.R_nil _ _ _ _ _ | exact Kd.N_nil _ _ _ _ _ | exact Kd.V_nil _ _ _ _ _ | exact Kd.Q_nil _ _ _ _ _ | exact Kd.S_nil _ _ _ _ _, by repeat (first | (with_reducible first | exact HB.out | apply ea | apply en | apply ed | refine es ?_ GE172.out | refine es ?_ GE173.out | refine es ?_ GE174.out | refine es ?_ GE181.out) | exact HB.out)⟩
  ·rw [if_neg c6] at H
   have c6b0 : (t180 == 0) = false := beq_eq_false_iff_ne.mpr c6
   have c6b1 : (t180 != 0) = true := bne_iff_ne.mpr c6
   simp only [Option.some.injEq, Prod.mk.injEq] at H
   obtain ⟨rfl, rfl, rfl⟩ := H
   go_enter Try.func36, Try.ntmps36
   go_wp2_with (first | ((with_reducible refine gate_dst (N := 2) rfl ?_); refine box_event ?hg (N := 2) ?hd (cs := #[.string a0_0, .slice A0_1 l0_1.length c0_1]) (t := 32) ?hr ?_; (case hd | hg => rfl); (case hr => first | (go_simp; done) | (go_simp; rfl)); intro gb172 hg w54 hbox hb; have n0_ := aM (bP (ey HB.out) hb); have n1_ := aM (hbox); have n2_ := aM ((by rw [hg]; exact (bZ (ey HB.out)) : w.heap.size ≤ gb172)); have n3_ := n2_; clear HB; have HB := n0_; have BK172 := n1_; have GW172 := n2_; have GE172 := n3_; clear n0_ n1_ n2_ n3_; clear hb hbox hg) | ((with_reducible refine gate_dst (N := 3) rfl ?_); refine box_event ?hg (N := 3) ?hd (cs := #[.int .i64 a1_0, .string a1_1, .slice A1_2 l1_2.length c1_2, .string a1_3, .slice A1_4 l1_4.length c1_4]) (t := 34) ?hr ?_; (case hd | hg => rfl); (case hr => first | (go_simp; done) | (go_simp; rfl)); intro gb173 hg w55 hbox hb; have n0_ := aM (bB (g := gb172) (qy BK172.out) hb); have n1_ := aM (bP (by repeat (first | (with_reducible first | exact HB.out | apply ea | apply en | apply ed | refine es ?_ GE172.out) | exact HB.out)) hb); have n2_ := aM (hbox); have n3_ := aM ((by rw [hg]; exact (bZ (by repeat (first | (with_reducible first | exact HB.out | apply ea | apply en | apply ed | refine es ?_ GE172.out) | exact HB.out))) : w.heap.size ≤ gb173)); have n4_ := n3_; have n5_ := aM ((by rw [hg]; exact Nat.ne_of_lt (blk_lt (g := gb172) (qy BK172.out)) : gb172 ≠ gb173)); have n6_ := aM ((by rw [hg]; exact Nat.ne_of_gt (blk_lt (g := gb172) (qy BK172.out)) : gb173 ≠ gb172)); clear BK172 HB; have BK172 := n0_; have HB := n1_; have BK173 := n2_; have GW173 := n3_; have GE173 := n4_; have NB172_173 := n5_; have NB173_172 := n6_; clear n0_ n1_ n2_ n3_ n4_ n5_ n6_; clear hb hbox hg) | ((with_reducible refine gate_dst (N := 4) rfl ?_); refine box_event ?hg (N := 4) ?hd (cs := #[.string (⟨#[]⟩ : ByteArray), .slice none 0 0]) (t := 32) ?hr ?_; (case hd | hg => rfl); (case hr => first | (go_simp; done) | (go_simp; rfl)); intro gb174 hg w56 hbox hb; have n0_ := aM (bB (g := gb172) (qy BK172.out) hb); have n1_ := aM (bB (g := gb173) (qy BK173.out) hb); have n2_ := aM (bP (by repeat (first | (with_reducible first | exact HB.out | apply ea | apply en | apply ed | refine es ?_ GE172.out | refine es ?_ GE173.out) | exact HB.out)) hb); have n3_ := aM (hbox); have n4_ := aM ((by rw [hg]; exact (bZ (by repeat (first | (with_reducible first | exact HB.out | apply ea | apply en | apply ed | refine es ?_ GE172.out | refine es ?_ GE173.out) | exact HB.out))) : w.heap.size ≤ gb174)); have n5_ := n4_; have n6_ := aM ((by rw [hg]; exact Nat.ne_of_lt (blk_lt (g := gb172) (qy BK172.out)) : gb172 ≠ gb174)); have n7_ := aM ((by rw [hg]; exact Nat.ne_of_gt (blk_lt (g := gb172) (qy BK172.out)) : gb174 ≠ gb172)); have n8_ := aM ((by rw [hg]; exact Nat.ne_of_lt (blk_lt (g := gb173) (qy BK173.out)) : gb173 ≠ gb174)); have n9_ := aM ((by rw [hg]; exact Nat.ne_of_gt (blk_lt (g := gb173) (qy BK173.out)) : gb174 ≠ gb173)); clear BK172 BK173 HB; have BK172 := n0_; have BK173 := n1_; have HB := n2_; have BK174 := n3_; have GW174 := n4_; have GE174 := n5_; have NB172_174 := n6_; have NB174_172 := n7_; have NB173_174 := n8_; have NB174_173 := n9_; clear n0_ n1_ n2_ n3_ n4_ n5_ n6_ n7_ n8_ n9_; clear hb hbox hg; have hnb57 := NB173_172.out; have hnc57 := NB172_173.out; have hnb58 := NB173_174.out; have hnc58 := NB174_173.out; have hcz59_0 := zC BK173.out 0 (.int .i64 a1_0); have hcz59_1 := zC BK173.out 1 (.string a1_1); have hcz59_2 := zC BK173.out 2 (.slice A1_2 l1_2.length c1_2); have hcz59_3 := zC BK173.out 3 (.string a1_3); have hcz59_4 := zC BK173.out 4 (.slice A1_4 l1_4.length c1_4); have hfz59_0 := bF BK173.out 0; have hfz59_1 := bF BK173.out 1; have hfz59_2 := bF BK173.out 2; have hfz59_3 := bF BK173.out 3; have hfz59_4 := bF BK173.out 4) | ((with_reducible refine gate_callee (f := 48) rfl ?_); refine goesL_ (some 10) rfl rfl Try.func48 (by kernel_rfl) rfl #[.agg #[.int .i64 a1_0, .string a1_1, .slice A1_2 l1_2.length c1_2, .string a1_3, .slice A1_4 l1_4.length c1_4]] rfl (by (try simp only [mT, mC, mN]); first | done | rfl | (simp only [lD, lT]; rfl)) ?_; (with_reducible refine (edit_good.calls k a1_0 a1_1 _ _ l1_2 a1_3 _ _ l1_4 true _ ?side1 ?side2 ?side3 ?side4 A3.out).mono ?_); (case side1 => repeat (first | exact (cB_ HR1_2.out HB.out) | (with_reducible refine Kd.C_alloc ?_ _) | (with_reducible refine Kd.C_drewN ?_ _) | (with_reducible refine Kd.C_drew ?_))); (case side2 => exact HC1_2.out); (case side3 => repeat (first | exact (cB_ HR1_4.out HB.out) | (with_reducible refine Kd.C_alloc ?_ _) | (with_reducible refine Kd.C_drewN ?_ _) | (with_reducible refine Kd.C_drew ?_))); (case side4 => exact HC1_4.out); rintro e w60 ⟨rfl, hb⟩; refine ⟨_, rfl, ?_⟩; have n0_ := aM (bB (g := gb172) (qy BK172.out) hb); have n1_ := aM (bB (g := gb173) (qy BK173.out) hb); have n2_ := aM (bB (g := gb174) (qy BK174.out) hb); have n3_ := aM (bP (by repeat (first | (with_reducible first | exact HB.out | apply ea | apply en | apply ed | refine es ?_ GE172.out | refine es ?_ GE173.out | refine es ?_ GE174.out) | exact HB.out)) hb); clear BK172 BK173 BK174 HB; have BK172 := n0_; have BK173 := n1_; have BK174 := n2_; have HB := n3_; clear n0_ n1_ n2_ n3_; (try clear hb); (try clear hb2); (try clear hk); (try clear hi); have hcz61_0 := zC BK173.out 0 (.int .i64 a1_0); have hcz61_1 := zC BK173.out 1 (.string a1_1); have hcz61_2 := zC BK173.out 2 (.slice A1_2 l1_2.length c1_2); have hcz61_3 := zC BK173.out 3 (.string a1_3); have hcz61_4 := zC BK173.out 4 (.slice A1_4 l1_4.length c1_4); have hfz61_0 := bF BK173.out 0; have hfz61_1 := bF BK173.out 1; have hfz61_2 := bF BK173.out 2; have hfz61_3 := bF BK173.out 3; have hfz61_4 := bF BK173.out 4; have hnb62 := NB172_174.out; have hnc62 := NB174_172.out; have hcz63_0 := zC BK172.out 0 (.string a0_0); have hcz63_1 := zC BK172.out 1 (.slice A0_1 l0_1.length c0_1); have hfz63_0 := bF BK172.out 0; have hfz63_1 := bF BK172.out 1) | ((with_reducible refine gate_callee (f := 49) rfl ?_); refine goesL_ (some 25) rfl rfl Try.func49 (by kernel_rfl) rfl #[.agg #[.string a0_0, .slice A0_1 l0_1.length c0_1], .int .i64 a1_0, .int .i64 (wrap64 (a1_0 + (a1_1.size : Int)))] rfl (by (try simp only [mT, mC, mN]); first | done | rfl | (simp only [lD, lT]; rfl)) ?_; (with_reducible refine (strip_Cut.calls k a0_0 _ _ l0_1 a1_0 (wrap64 (a1_0 + (a1_1.size : Int))) t176 t177 t180 _ ?side1 ?side2 A5.out).mono ?_); (case side1 => repeat (first | exact (cB_ HR0_1.out HB.out) | (with_reducible refine Kd.C_alloc ?_ _) | (with_reducible refine Kd.C_drewN ?_ _) | (with_reducible refine Kd.C_drew ?_))); (case side2 => exact HC0_1.out); rintro e w64 ⟨v178, rfl, ho0, hb⟩; refine ⟨_, rfl, ?_⟩; have n0_ := aM (rL ho0 (bZ (by repeat (first | (with_reducible first | exact HB.out | apply ea | apply en | apply ed | refine es ?_ GE172.out | refine es ?_ GE173.out | refine es ?_ GE174.out) | exact HB.out)))); have n1_ := aM (bB (g := gb172) (qy BK172.out) hb); have n2_ := aM (bB (g := gb173) (qy BK173.out) hb); have n3_ := aM (bB (g := gb174) (qy BK174.out) hb); have n4_ := aM (bP (by repeat (first | (with_reducible first | exact HB.out | apply ea | apply en | apply ed | refine es ?_ GE172.out | refine es ?_ GE173.out | refine es ?_ GE174.out) | exact HB.out)) hb); clear BK172 BK173 BK174 HB; have HO179 := n0_; have BK172 := n1_; have BK173 := n2_; have BK174 := n3_; have HB := n4_; clear n0_ n1_ n2_ n3_ n4_; (try clear hb); (try clear hb2); (try clear hk); (try clear hi); (try clear ho0)) | ((with_reducible refine gate_dst (N := 7) rfl ?_); refine box_event ?hg (N := 7) ?hd (cs := #[.string (⟨#[]⟩ : ByteArray), .slice none 0 0]) (t := 32) ?hr ?_; (case hd | hg => rfl); (case hr => first | (go_simp; done) | (go_simp; rfl)); intro gb181 hg w65 hbox hb; have n0_ := aM (Kd.R_below (ry HO179.out) hb); have n1_ := aM (bB (g := gb172) (qy BK172.out) hb); have n2_ := aM (bB (g := gb173) (qy BK173.out) hb); have n3_ := aM (bB (g := gb174) (qy BK174.out) hb); have n4_ := aM (bP (by repeat (first | (with_reducible first | exact HB.out | apply ea | apply en | apply ed | refine es ?_ GE172.out | refine es ?_ GE173.out | refine es ?_ GE174.out) | exact HB.out)) hb); have n5_ := aM (hbox); have n6_ := aM ((by rw [hg]; exact (bZ (by repeat (first | (with_reducible first | exact HB.out | apply ea | apply en | apply ed | refine es ?_ GE172.out | refine es ?_ GE173.out | refine es ?_ GE174.out) | exact HB.out))) : w.heap.size ≤ gb181)); have n7_ := n6_; have n8_ := aM ((by rw [hg]; exact Nat.ne_of_lt (blk_lt (g := gb172) (qy BK172.out)) : gb172 ≠ gb181)); have n9_ := aM ((by rw [hg]; exact Nat.ne_of_gt (blk_lt (g := gb172) (qy BK172.out)) : gb181 ≠ gb172)); have n10_ := aM ((by rw [hg]; exact Nat.ne_of_lt (blk_lt (g := gb173) (qy BK173.out)) : gb173 ≠ gb181)); have n11_ := aM ((by rw [hg]; exact Nat.ne_of_gt (blk_lt (g := gb173) (qy BK173.out)) : gb181 ≠ gb173)); have n12_ := aM ((by rw [hg]; exact Nat.ne_of_lt (blk_lt (g := gb174) (qy BK174.out)) : gb174 ≠ gb181)); have n13_ := aM ((by rw [hg]; exact Nat.ne_of_gt (blk_lt (g := gb174) (qy BK174.out)) : gb181 ≠ gb174)); clear HO179 BK172 BK173 BK174 HB; have HO179 := n0_; have BK172 := n1_; have BK173 := n2_; have BK174 := n3_; have HB := n4_; have BK181 := n5_; have GW181 := n6_; have GE181 := n7_; have NB172_181 := n8_; have NB181_172 := n9_; have NB173_181 := n10_; have NB181_173 := n11_; have NB174_181 := n12_; have NB181_174 := n13_; clear n0_ n1_ n2_ n3_ n4_ n5_ n6_ n7_ n8_ n9_ n10_ n11_ n12_ n13_; clear hb hbox hg; have hnb66 := NB181_172.out; have hnc66 := NB172_181.out; have hnb67 := NB181_173.out; have hnc67 := NB173_181.out; have hnb68 := NB181_174.out; have hnc68 := NB174_181.out; have hcz69_0 := zC BK181.out 0 (.string (⟨#[]⟩ : ByteArray)); have hcz69_1 := zC BK181.out 1 (.slice none 0 0); have hfz69_0 := bF BK181.out 0; have hfz69_1 := bF BK181.out 1; obtain ⟨Ao70, co70, eo70⟩ := Kd.R_slice HO179.out; subst eo70; have hcz71_0 := zC BK174.out 0 (.string (⟨#[]⟩ : ByteArray)); have hcz71_1 := zC BK174.out 1 (.slice none 0 0); have hfz71_0 := bF BK174.out 0; have hfz71_1 := bF BK174.out 1))
   refine bodyPost_ret (results_ct rfl _ _ gb174 32 #[.string (⟨#[]⟩ : ByteArray), .slice none 0 0] (0, 0) _ rfl (by (with_reducible repeat (first | apply qn | apply qd | apply qa)); refine bU (cs := #[.string (⟨#[]⟩ : ByteArray), .slice none 0 0]) ?_ 1 _ rfl; (with_reducible repeat (first | apply qn | apply qd | apply qa)); refine bU (cs := #[.string (⟨#[]⟩ : ByteArray), .slice none 0 0]) ?_ 0 _ rfl; (with_reducible repeat (first | apply qn | apply qd | apply qa)); refine bR ?_ NB174_181.out _; (with_reducible repeat (first | apply qn | apply qd | apply qa)); refine bR ?_ NB174_181.out _; exact qy BK174.out) Try.underlying32 rfl (by kernel_rfl)) rfl ?_
   exact ⟨_, by first | rfl | (simp [errW_none, errW_some] <;> rfl) | (simp [*, errW_none, errW_some] <;> rfl), by first | exact Kd.R_nil _ _ _ _ _ | exact Kd.N_nil _ _ _ _ _ | exact Kd.V_nil _ _ _ _ _ | exact Kd.Q_nil _ _ _ _ _ | exact Kd.S_nil _ _ _ _ _, by repeat (first | (with_reducible first | exact HB.out | apply ea | apply en | apply ed | refine es ?_ GE172.out | refine es ?_ GE173.out | refine es ?_ GE174.out | refine es ?_ GE181.out) | exact HB.out)⟩
 ·replace c4 := Bool.eq_false_iff.mpr c4
  subst c4
  have H1 : (some ((⟨#[]⟩ : ByteArray), ([] : List (S71)), 2)) = some (r1, r2, r3) := by rw [if_neg (show ¬ (false = true) by decide)] at H; exact H
  clear H
  have H := H1
  clear H1
  simp only [Option.some.injEq, Prod.mk.injEq] at H
  obtain ⟨rfl, rfl, rfl⟩ := H
  go_enter Try.func36, Try.ntmps36
  go_wp2_with (first | ((with_reducible refine gate_dst (N := 2) rfl ?_); refine box_event ?hg (N := 2) ?hd (cs := #[.string a0_0, .slice A0_1 l0_1.length c0_1]) (t := 32) ?hr ?_; (case hd | hg => rfl); (case hr => first | (go_simp; done) | (go_simp; rfl)); intro gb172 hg w72 hbox hb; have n0_ := aM (bP (ey HB.out) hb); have n1_ := aM (hbox); have n2_ := aM ((by rw [hg]; exact (bZ (ey HB.out)) : w.heap.size ≤ gb172)); have n3_ := n2_; clear HB; have HB := n0_; have BK172 := n1_; have GW172 := n2_; have GE172 := n3_; clear n0_ n1_ n2_ n3_; clear hb hbox hg) | ((with_reducible refine gate_dst (N := 3) rfl ?_); refine box_event ?hg (N := 3) ?hd (cs := #[.int .i64 a1_0, .string a1_1, .slice A1_2 l1_2.length c1_2, .string a1_3, .slice A1_4 l1_4.length c1_4]) (t := 34) ?hr ?_; (case hd | hg => rfl); (case hr => first | (go_simp; done) | (go_simp; rfl)); intro gb173 hg w73 hbox hb; have n0_ := aM (bB (g := gb172) (qy BK172.out) hb); have n1_ := aM (bP (by repeat (first | (with_reducible first | exact HB.out | apply ea | apply en | apply ed | refine es ?_ GE172.out) | exact HB.out)) hb); have n2_ := aM (hbox); have n3_ := aM ((by rw [hg]; exact (bZ (by repeat (first | (with_reducible first | exact HB.out | apply ea | apply en | apply ed | refine es ?_ GE172.out) | exact HB.out))) : w.heap.size ≤ gb173)); have n4_ := n3_; have n5_ := aM ((by rw [hg]; exact Nat.ne_of_lt (blk_lt (g := gb172) (qy BK172.out)) : gb172 ≠ gb173)); have n6_ := aM ((by rw [hg]; exact Nat.ne_of_gt (blk_lt (g := gb172) (qy BK172.out)) : gb173 ≠ gb172)); clear BK172 HB; have BK172 := n0_; have HB := n1_; have BK173 := n2_; have GW173 := n3_; have GE173 := n4_; have NB172_173 := n5_; have NB173_172 := n6_; clear n0_ n1_ n2_ n3_ n4_ n5_ n6_; clear hb hbox hg) | ((with_reducible refine gate_dst (N := 4) rfl ?_); refine box_event ?hg (N := 4) ?hd (cs := #[.string (⟨#[]⟩ : ByteArray), .slice none 0 0]) (t := 32) ?hr ?_; (case hd | hg => rfl); (case hr => first | (go_simp; done) | (go_simp; rfl)); intro gb174 hg w74 hbox hb; have n0_ := aM (bB (g := gb172) (qy BK172.out) hb); have n1_ := aM (bB (g := gb173) (qy BK173.out) hb); have n2_ := aM (bP (by repeat (first | (with_reducible first | exact HB.out | apply ea | apply en | apply ed | refine es ?_ GE172.out | refine es ?_ GE173.out) | exact HB.out)) hb); have n3_ := aM (hbox); have n4_ := aM ((by rw [hg]; exact (bZ (by repeat (first | (with_reducible first | exact HB.out | apply ea | apply en | apply ed | refine es ?_ GE172.out | refine es ?_ GE173.out) | exact HB.out))) : w.heap.size ≤ gb174)); have n5_ := n4_; have n6_ := aM ((by rw [hg]; exact Nat.ne_of_lt (blk_lt (g := gb172) (qy BK172.out)) : gb172 ≠ gb174)); have n7_ := aM ((by rw [hg]; exact Nat.ne_of_gt (blk_lt (g := gb172) (qy BK172.out)) : gb174 ≠ gb172)); have n8_ := aM ((by rw [hg]; exact Nat.ne_of_lt (blk_lt (g := gb173) (qy BK173.out)) : gb173 ≠ gb174)); have n9_ := aM ((by rw [hg]; exact Nat.ne_of_gt (blk_lt (g := gb173) (qy BK173.out)) : gb174 ≠ gb173)); clear BK172 BK173 HB; have BK172 := n0_; have BK173 := n1_; have HB := n2_; have BK174 := n3_; have GW174 := n4_; have GE174 := n5_; have NB172_174 := n6_; have NB174_172 := n7_; have NB173_174 := n8_; have NB174_173 := n9_; clear n0_ n1_ n2_ n3_ n4_ n5_ n6_ n7_ n8_ n9_; clear hb hbox hg; have hnb75 := NB173_172.out; have hnc75 := NB172_173.out; have hnb76 := NB173_174.out; have hnc76 := NB174_173.out; have hcz77_0 := zC BK173.out 0 (.int .i64 a1_0); have hcz77_1 := zC BK173.out 1 (.string a1_1); have hcz77_2 := zC BK173.out 2 (.slice A1_2 l1_2.length c1_2); have hcz77_3 := zC BK173.out 3 (.string a1_3); have hcz77_4 := zC BK173.out 4 (.slice A1_4 l1_4.length c1_4); have hfz77_0 := bF BK173.out 0; have hfz77_1 := bF BK173.out 1; have hfz77_2 := bF BK173.out 2; have hfz77_3 := bF BK173.out 3; have hfz77_4 := bF BK173.out 4) | ((with_reducible refine gate_callee (f := 48) rfl ?_); refine goesL_ (some 10) rfl rfl Try.func48 (by kernel_rfl) rfl #[.agg #[.int .i64 a1_0, .string a1_1, .slice A1_2 l1_2.length c1_2, .string a1_3, .slice A1_4 l1_4.length c1_4]] rfl (by (try simp only [mT, mC, mN]); first | done | rfl | (simp only [lD, lT]; rfl)) ?_; (with_reducible refine (edit_good.calls k a1_0 a1_1 _ _ l1_2 a1_3 _ _ l1_4 false _ ?side1 ?side2 ?side3 ?side4 A3.out).mono ?_); (case side1 => repeat (first | exact (cB_ HR1_2.out HB.out) | (with_reducible refine Kd.C_alloc ?_ _) | (with_reducible refine Kd.C_drewN ?_ _) | (with_reducible refine Kd.C_drew ?_))); (case side2 => exact HC1_2.out); (case side3 => repeat (first | exact (cB_ HR1_4.out HB.out) | (with_reducible refine Kd.C_alloc ?_ _) | (with_reducible refine Kd.C_drewN ?_ _) | (with_reducible refine Kd.C_drew ?_))); (case side4 => exact HC1_4.out); rintro e w78 ⟨rfl, hb⟩; refine ⟨_, rfl, ?_⟩; have n0_ := aM (bB (g := gb172) (qy BK172.out) hb); have n1_ := aM (bB (g := gb173) (qy BK173.out) hb); have n2_ := aM (bB (g := gb174) (qy BK174.out) hb); have n3_ := aM (bP (by repeat (first | (with_reducible first | exact HB.out | apply ea | apply en | apply ed | refine es ?_ GE172.out | refine es ?_ GE173.out | refine es ?_ GE174.out) | exact HB.out)) hb); clear BK172 BK173 BK174 HB; have BK172 := n0_; have BK173 := n1_; have BK174 := n2_; have HB := n3_; clear n0_ n1_ n2_ n3_; (try clear hb); (try clear hb2); (try clear hk); (try clear hi); have hnb79 := NB174_172.out; have hnc79 := NB172_174.out; have hcz80_0 := zC BK174.out 0 (.string (⟨#[]⟩ : ByteArray)); have hcz80_1 := zC BK174.out 1 (.slice none 0 0); have hfz80_0 := bF BK174.out 0; have hfz80_1 := bF BK174.out 1))
  refine bodyPost_ret (results_ct rfl _ _ gb174 32 #[.string (⟨#[]⟩ : ByteArray), .slice none 0 0] (0, 0) _ rfl (by (with_reducible repeat (first | apply qn | apply qd | apply qa)); refine bU (cs := #[.string (⟨#[]⟩ : ByteArray), .slice none 0 0]) ?_ 1 _ rfl; (with_reducible repeat (first | apply qn | apply qd | apply qa)); refine bU (cs := #[.string (⟨#[]⟩ : ByteArray), .slice none 0 0]) ?_ 0 _ rfl; exact qy BK174.out) Try.underlying32 rfl (by kernel_rfl)) rfl ?_
  exact ⟨_, by first | rfl | (simp [errW_none, errW_some] <;> rfl) | (simp [*, errW_none, errW_some] <;> rfl), by first | exact Kd.R_nil _ _ _ _ _ | exact Kd.N_nil _ _ _ _ _ | exact Kd.V_nil _ _ _ _ _ | exact Kd.Q_nil _ _ _ _ _ | exact Kd.S_nil _ _ _ _ _, by repeat (first | (with_reducible first | exact HB.out | apply ea | apply en | apply ed | refine es ?_ GE172.out | refine es ?_ GE173.out | refine es ?_ GE174.out) | exact HB.out)⟩
end Go.Proofs.Ytbbgpfjeobdogaa.PB
end

section
namespace Go.Proofs.Ytbbgpfjeobdogaa.PB
open Go.RowKit Go.Proofs.YtbbgpfjeobdogaaW.PrintWords
set_option linter.unusedVariables false
def goodE (a : Int) (o : ByteArray) (ol : List S71) (n : ByteArray) (nl : List S71) : Bool := goodT o ol && (goodT n nl && (decide (0 ≤ a) && decide (a ≤ 4096)))
theorem goodE_iff {a : Int} {o n : ByteArray} {ol nl : List S71} : goodE a o ol n nl = true ↔ goodT o ol = true ∧ goodT n nl = true ∧ 0 ≤ a ∧ a ≤ 4096 := by simp [goodE]
theorem goodE_ev (a : Int) (o : ByteArray) (ol : List S71) (n : ByteArray) (nl : List S71) (hl : ol.length ≤ big) (hm : nl.length ≤ big) : Ev (fun k => edit_good.f k a o ol n nl) (goodE a o ol n nl) := by
 unfold edit_good.f
 refine Ev.bind (goodT_ev o ol hl) ?_
 by_cases h1 : goodT o ol = true
 ·refine Ev.pos h1 (Ev.bind (goodT_ev n nl hm) ?_)
  by_cases h2 : goodT n nl = true
  ·refine Ev.pos h2 ?_
   by_cases h3 : 0 ≤ a
   ·exact Ev.pos h3 (ev_val (Ev.now _) (by simp [goodE, h1, h2, h3]))
   ·exact Ev.neg h3 (ev_val (Ev.now _) (by simp [goodE, h3]))
  ·exact Ev.neg h2 (ev_val (Ev.now _) (by simp [goodE, h2]))
 ·exact Ev.neg h1 (ev_val (Ev.now _) (by simp [goodE, h1]))
theorem goodE_facts {a : Int} {o n : ByteArray} {ol nl : List S71} (h : goodE a o ol n nl = true) : 0 ≤ a ∧ a ≤ 4096 ∧ o.size ≤ 4096 ∧ n.size ≤ 4096 := by
 obtain ⟨h1, h2, h3, h4⟩ := goodE_iff.1 h
 obtain ⟨_, _, _, g4, _⟩ := goodT_facts h1
 obtain ⟨_, _, _, q4, _⟩ := goodT_facts h2
 exact ⟨h3, h4, g4, q4⟩
def applyT (s : ByteArray) (l : List S71) (a : Int) (o : ByteArray) (ol : List S71) (n : ByteArray) (nl : List S71) : TX :=
 if goodE a o ol n nl = true then (if (cutS s l a (a + (o.size : Int))).2.2 = 0 then (if sameT (cutS s l a (a + (o.size : Int))).1 (cutS s l a (a + (o.size : Int))).2.1 o ol = true then spliceT s l a (a + (o.size : Int)) n nl else (⟨#[]⟩, [], 7)) else (⟨#[]⟩, [], (cutS s l a (a + (o.size : Int))).2.2)) else (⟨#[]⟩, [], 2)
theorem apply_ev (s : ByteArray) (l : List S71) (hls : l.length ≤ big) (a : Int) (o : ByteArray) (ol : List S71) (n : ByteArray) (nl : List S71) (hl : ol.length ≤ big) (hm : nl.length ≤ big) :
  Ev (fun k => edit_Apply.f k s l a o ol n nl) (applyT s l a o ol n nl) := by
 unfold edit_Apply.f applyT
 refine Ev.bind (goodE_ev a o ol n nl hl hm) ?_
 refine Ev.ite (fun hg => ?_) (fun _ => Ev.now _)
 obtain ⟨f1, f2, f3, f4⟩ := goodE_facts hg
 rw [show wrap64 (a + (o.size : Int)) = a + (o.size : Int) by unfold wrap64; omega]
 refine Ev.bind (cut_ev s l hls _ _) ?_
 refine Ev.ite (fun _ => ?_) (fun _ => Ev.now _)
 refine Ev.bind (same4_ev _ _ _ _ (len_big (cutS_len _ _ _ _))) ?_
 exact Ev.ite (fun _ => Ev.bind (splice4_ev s l hls _ _ n nl hm) (Ev.now _)) (fun _ => Ev.now _)
theorem ext_list (s : ByteArray) (i j : Nat) : (s.extract i j).data.toList = (s.data.toList.take j).drop i := by
 rw [ByteArray.data_extract, Array.toList_extract, List.extract_eq_take_drop, List.drop_take]
theorem size_list (s : ByteArray) : s.data.toList.length = s.size := by rw [Array.length_toList]; rfl
theorem app_list (s t : ByteArray) : (s ++ t).data.toList = s.data.toList ++ t.data.toList := by rw [ByteArray.data_append, Array.toList_append]
theorem data_inj {a b : ByteArray} (h : a.data.toList = b.data.toList) : a = b := ByteArray.ext (Array.toList_inj.1 h)
theorem ext_mid (P o Q : ByteArray) : (P ++ o ++ Q).extract P.size (P.size + o.size) = o := by
 apply data_inj
 rw [ext_list, app_list, app_list, show P.size + o.size = (P.data.toList ++ o.data.toList).length by rw [List.length_append, size_list, size_list], List.take_left, ← size_list P, List.drop_left]
theorem ext_left (P o Q : ByteArray) : (P ++ o ++ Q).extract 0 P.size = P := by
 apply data_inj
 rw [ext_list, app_list, app_list, List.drop_zero, List.append_assoc, ← size_list P, List.take_left]
theorem ext_right (P o Q : ByteArray) : (P ++ o ++ Q).extract (P.size + o.size) (P ++ o ++ Q).size = Q := by
 apply data_inj
 rw [ext_list, ← size_list (P ++ o ++ Q), List.take_length, app_list, app_list, show P.size + o.size = (P.data.toList ++ o.data.toList).length by rw [List.length_append, size_list, size_list], List.drop_left]
theorem cutS_mid (P o Q : ByteArray) (X O Z : List Int) (hX : X.length = P.size) (hO : O.length = o.size) (hZ : Z.length = Q.size) (h : P.size + o.size + Q.size ≤ 4096) :
  cutS (P ++ o ++ Q) (pack (X ++ O ++ Z)) (P.size : Int) ((P.size : Int) + (o.size : Int)) = (o, pack O, 0) := by
 have hs : (P ++ o ++ Q).size = P.size + o.size + Q.size := by rw [ByteArray.size_append, ByteArray.size_append]
 have hg := goodT_pack (s := P ++ o ++ Q) (B := X ++ O ++ Z) (by rw [hs]; simp only [List.length_append]; omega) (by omega)
 unfold cutS
 rw [if_pos (withinT_iff.2 ⟨hg, by omega, by omega, by omega⟩), pack_bytes, show ((P.size : Int) + (o.size : Int)).toNat = P.size + o.size by omega, Int.toNat_natCast, ext_mid]
 congr 3
 rw [show P.size + o.size = (X ++ O).length by rw [List.length_append]; omega, List.take_left, ← hX, List.drop_left]
theorem spliceT_mid (P o Q n : ByteArray) (X O Z N : List Int) (hX : X.length = P.size) (hO : O.length = o.size) (hZ : Z.length = Q.size) (hN : N.length = n.size) (h : P.size + o.size + Q.size ≤ 4096) (hn : P.size + n.size + Q.size ≤ 4096) :
  spliceT (P ++ o ++ Q) (pack (X ++ O ++ Z)) (P.size : Int) ((P.size : Int) + (o.size : Int)) n (pack N) = (P ++ n ++ Q, pack (X ++ N ++ Z), 0) := by
 have hs : (P ++ o ++ Q).size = P.size + o.size + Q.size := by rw [ByteArray.size_append, ByteArray.size_append]
 have hg := goodT_pack (s := P ++ o ++ Q) (B := X ++ O ++ Z) (by rw [hs]; simp only [List.length_append]; omega) (by omega)
 have hgn := goodT_pack hN (by omega)
 unfold spliceT
 rw [if_pos (withinT_iff.2 ⟨hg, by omega, by omega, by omega⟩), if_pos hgn, if_neg (by omega), pack_bytes, pack_bytes, show ((P.size : Int) + (o.size : Int)).toNat = P.size + o.size by omega, Int.toNat_natCast, ext_left, ext_right]
 congr 3
 rw [show P.size + o.size = (X ++ O).length by rw [List.length_append]; omega, List.drop_left, List.append_assoc X O Z, ← hX, List.take_left]
theorem applyT_mid (P o Q n : ByteArray) (X O Z N : List Int) (hX : X.length = P.size) (hO : O.length = o.size) (hZ : Z.length = Q.size) (hN : N.length = n.size) (h : P.size + o.size + Q.size ≤ 4096) (hn : P.size + n.size + Q.size ≤ 4096) :
  applyT (P ++ o ++ Q) (pack (X ++ O ++ Z)) (P.size : Int) o (pack O) n (pack N) = (P ++ n ++ Q, pack (X ++ N ++ Z), 0) := by
 unfold applyT
 rw [if_pos (goodE_iff.2 ⟨goodT_pack hO (by omega), goodT_pack hN (by omega), by omega, by omega⟩), cutS_mid P o Q X O Z hX hO hZ h, if_pos rfl, if_pos (sameT_self _ _), spliceT_mid P o Q n X O Z N hX hO hZ hN h hn]
theorem good_pack_bytes {s : ByteArray} {l : List S71} (h : goodT s l = true) : l = pack (bytes l) := by
 obtain ⟨_, h2, _⟩ := goodT_facts h
 exact (pack_of_nrm h2).symm
end Go.Proofs.Ytbbgpfjeobdogaa.PB
end

section
namespace Go.Proofs.Ytbbgpfjeobdogaa.PB
open Go.RowKit Go.Maps Go.Proofs.YtbbgpfjeobdogaaW.PrintWords
set_option linter.unusedVariables false
set_option linter.unusedSimpArgs false
theorem keepL_app (n : Int) (P R : List St) : ∃ R', R'.Sublist R ∧ keepL n (P ++ R) = keepL n P ++ R' := by
  suffices h : ∀ (R P : List St), ∃ R', R'.Sublist R ∧ keepL n (P ++ R) = keepL n P ++ R' from h R P
  intro R
  induction R with
  | nil => intro P; exact ⟨[], List.Sublist.refl _, by simp⟩
  | cons x R ih =>
    intro P
    obtain ⟨R', h1, h2⟩ := ih (P ++ [x])
    rw [List.append_assoc, List.singleton_append] at h2
    rw [h2, keepL_snoc]
    split
    · exact ⟨x :: R', h1.cons_cons x, by simp⟩
    · exact ⟨R', h1.cons x, rfl⟩
section
variable {L : List St} {n : Int}
theorem keepL_mem (hs : L.Pairwise (fun x y => x.f0 < y.f0)) (hu : ∀ x ∈ L, x.f1 < x.f0) (x : St) : x ∈ keepL n L ↔ x ∈ L ∧ (x.f0 = n ∨ ∃ y ∈ keepL n L, y.f0 = x.f1) := by
  have main : x ∈ L → (x ∈ keepL n L ↔ (x.f0 = n ∨ ∃ y ∈ keepL n L, y.f0 = x.f1)) := by
    intro hx
    obtain ⟨P, R, rfl⟩ := List.append_of_mem hx
    obtain ⟨R', h1, h2⟩ := keepL_app n (P ++ [x]) R
    rw [List.append_assoc, List.singleton_append] at h2
    obtain ⟨hp1, hp2, hp3⟩ := List.pairwise_append.1 hs
    have hR : ∀ y ∈ R', x.f0 < y.f0 := fun y hy => List.rel_of_pairwise_cons hp2 (h1.subset hy)
    have hP : ∀ y ∈ keepL n P, y.f0 < x.f0 := fun y hy => hp3 y ((keepL_sub n P).subset hy) x List.mem_cons_self
    have hxu := hu x hx
    have hany : (∃ y ∈ keepL n (P ++ x :: R), y.f0 = x.f1) ↔ (keepL n P).any (fun y => y.f0 == x.f1) = true := by
      rw [any_iff]
      constructor
      · rintro ⟨y, hy, he⟩
        rw [h2, keepL_snoc] at hy
        refine ⟨y, ?_, he⟩
        rcases List.mem_append.1 hy with hy | hy
        · split at hy
          · rcases List.mem_append.1 hy with hy | hy
            · exact hy
            · obtain rfl := List.mem_singleton.1 hy; omega
          · exact hy
        · have := hR y hy; omega
      · rintro ⟨y, hy, he⟩
        refine ⟨y, ?_, he⟩
        rw [h2, keepL_snoc]
        refine List.mem_append.2 (.inl ?_)
        split
        · exact List.mem_append.2 (.inl hy)
        · exact hy
    rw [hany]
    have hst : stays n (keepL n P) x = true ↔ (x.f0 = n ∨ (keepL n P).any (fun y => y.f0 == x.f1) = true) := by
      unfold stays
      rw [Bool.or_eq_true, beq_iff_eq]
    rw [← hst, h2, keepL_snoc]
    constructor
    · intro h
      rcases List.mem_append.1 h with h | h
      · split at h
        · assumption
        · have := hP x h; omega
      · have := hR x h; omega
    · intro h
      rw [if_pos h]
      exact List.mem_append.2 (.inl (List.mem_append.2 (.inr List.mem_cons_self)))
  constructor
  · intro h
    have hx := (keepL_sub n L).subset h
    exact ⟨hx, (main hx).1 h⟩
  · rintro ⟨hx, h⟩
    exact (main hx).2 h
theorem keepL_ge (hs : L.Pairwise (fun x y => x.f0 < y.f0)) (hu : ∀ x ∈ L, x.f1 < x.f0) (hl : ∀ x ∈ L, 0 ≤ x.f0) : ∀ (k : Nat) (x : St), x ∈ keepL n L → x.f0 < k → n ≤ x.f0
  | 0, x, hx, hk => by have := hl x ((keepL_sub n L).subset hx); omega
  | k + 1, x, hx, hk => by
    obtain ⟨h1, h2 | ⟨y, hy, he⟩⟩ := (keepL_mem hs hu x).1 hx
    · omega
    · have := hu x h1
      have := keepL_ge hs hu hl k y hy (by omega)
      omega
end
structure Inv (L : List St) (now next depth : Int) : Prop where
  wf : Wf L now next
  root : ∀ x ∈ L, x.f1 < 0 → ∀ y ∈ L, x.f0 ≤ y.f0
  cap : (L.length : Int) ≤ depth + 1
  d1 : 1 ≤ depth
  d2 : depth ≤ 64
theorem wf_add {L : List St} {now next : Int} (h : Wf L now next) (h1 : next + 1 ≤ 1000) (h2 : L.length + 1 ≤ 100) {e : Ed} (he : e.f1.f1.length ≤ 100000 ∧ e.f2.f1.length ≤ 100000) : Wf (L ++ [(⟨next, now, e⟩ : St)]) next (next + 1) := by
  obtain ⟨x0, hx0, hn0⟩ := h.now
  have hl0 := h.low x0 hx0
  refine ⟨?_, fun x hx => ?_, fun x hx => ?_, ⟨_, List.mem_append.2 (.inr List.mem_cons_self), rfl⟩, h1, by simpa using h2, fun x hx => ?_⟩
  · refine List.pairwise_append.2 ⟨h.inc, List.pairwise_singleton _ _, fun a ha b hb => ?_⟩
    obtain rfl := List.mem_singleton.1 hb
    exact (h.low a ha).2.1
  · rcases List.mem_append.1 hx with hx | hx
    · have := h.low x hx
      omega
    · obtain rfl := List.mem_singleton.1 hx
      show 0 ≤ next ∧ next < next + 1 ∧ -1 ≤ now ∧ now < next
      omega
  · rcases List.mem_append.1 hx with hx | hx
    · rcases h.up x hx with h | ⟨y, hy, he⟩
      · exact .inl h
      · exact .inr ⟨y, List.mem_append.2 (.inl hy), he⟩
    · obtain rfl := List.mem_singleton.1 hx
      exact .inr ⟨x0, List.mem_append.2 (.inl hx0), hn0⟩
  · rcases List.mem_append.1 hx with hx | hx
    · exact h.fit x hx
    · obtain rfl := List.mem_singleton.1 hx
      exact he
section
variable {L : List St} {now next : Int}
theorem Wf.inj (h : Wf L now next) {x : St} (hx : x ∈ L) : x.f1 < x.f0 := (h.low x hx).2.2.2
theorem up_two (h : Wf L now next) : ∀ (k : Nat) (x : St), x ∈ L → x.f0 < k → 0 ≤ x.f1 → ∃ (pre : List Int) (q r : Int), upL L k x.f0 = pre ++ [q, r] ∧ (∃ y ∈ L, y.f0 = q ∧ y.f1 = r) ∧ (∃ z ∈ L, z.f0 = r ∧ z.f1 < 0)
  | 0, x, hx, hk, _ => by have := h.low x hx; omega
  | k + 1, x, hx, hk, h1 => by
    have hl := h.low x hx
    rcases h.up x hx with hn | ⟨y, hy, he⟩
    · omega
    · have hly := h.low y hy
      rw [up_step h hx k, ← he]
      by_cases hy1 : y.f1 < 0
      · refine ⟨[], x.f0, y.f0, ?_, ⟨x, hx, rfl, he.symm⟩, ⟨y, hy, rfl, hy1⟩⟩
        cases k with
        | zero => omega
        | succ k => rw [up_step h hy k, up_none L k hy1]; rfl
      · obtain ⟨pre, q, r, e1, e2, e3⟩ := up_two h k y hy (by omega) (by omega)
        exact ⟨x.f0 :: pre, q, r, by rw [e1]; rfl, e2, e3⟩
theorem chain_keep (h : Wf L now next) {q : Int} : ∀ (k : Nat) (x : St), x ∈ L → q ∈ upL L k x.f0 → x ∈ keepL q L
  | 0, x, hx, hq => by simp [upL] at hq
  | k + 1, x, hx, hq => by
    rw [up_step h hx k] at hq
    refine (keepL_mem h.inc (fun y hy => h.inj hy) x).2 ⟨hx, ?_⟩
    rcases List.mem_cons.1 hq with rfl | hq
    · exact .inl rfl
    · right
      rcases h.up x hx with hn | ⟨y, hy, he⟩
      · rw [up_none L k hn] at hq; cases hq
      · rw [← he] at hq
        exact ⟨y, chain_keep h k y hy hq, he⟩
theorem rootL_f0 (q : Int) (K : List St) : (rootL q K).map (fun x => x.f0) = K.map (fun x => x.f0) := by
  unfold rootL
  rw [List.map_map]
  congr 1
  funext x
  simp only [Function.comp]
  split <;> rfl
theorem rootL_in {q : Int} {K : List St} {y : St} (hy : y ∈ K) : ∃ z ∈ rootL q K, z.f0 = y.f0 := by
  have : y.f0 ∈ (rootL q K).map (fun x => x.f0) := by rw [rootL_f0]; exact List.mem_map.2 ⟨y, hy, rfl⟩
  obtain ⟨z, hz, he⟩ := List.mem_map.1 this
  exact ⟨z, hz, he⟩
theorem wf_below (h : Wf L now next) {q : Int} (hn : ∃ x ∈ keepL q L, x.f0 = now) {y0 : St} (hy0 : y0 ∈ L) (hq : y0.f0 = q) : Wf (belowL q L) now next := by
  have hk := fun x => keepL_mem (n := q) h.inc (fun y hy => h.inj hy) x
  have hmem := fun x => rootL_mem (h.inc.sublist (keepL_sub q L)) (keepL_root hy0 hq) hq x
  have hly := h.low y0 hy0
  refine ⟨?_, fun x hx => ?_, fun x hx => ?_, ?_, h.top, ?_, fun x hx => ?_⟩
  · have h1 := h.inc.sublist (keepL_sub q L)
    have h2 : (statesL (keepL q L)).Pairwise (fun x y => x < y) := states_nodup h1
    unfold statesL at h2
    rw [← rootL_f0 q] at h2
    exact List.pairwise_map.1 h2
  · rcases (hmem x).1 hx with rfl | ⟨h1, h2⟩
    · show 0 ≤ q ∧ q < next ∧ (-1 : Int) ≤ -1 ∧ (-1 : Int) < q
      omega
    · exact h.low x ((keepL_sub q L).subset h1)
  · rcases (hmem x).1 hx with rfl | ⟨h1, h2⟩
    · exact .inl (by show (-1 : Int) < 0; omega)
    · rcases ((hk x).1 h1).2 with h3 | ⟨y, hy, he⟩
      · exact absurd h3 h2
      · obtain ⟨z, hz, hz2⟩ := rootL_in (q := q) hy
        exact .inr ⟨z, hz, hz2.trans he⟩
  · obtain ⟨x, hx, he⟩ := hn
    obtain ⟨z, hz, hz2⟩ := rootL_in (q := q) hx
    exact ⟨z, hz, hz2.trans he⟩
  · have h1 := (keepL_sub q L).length_le
    have h2 : (belowL q L).length = (keepL q L).length := List.length_map _
    have := h.len
    omega
  · rcases (hmem x).1 hx with rfl | ⟨h1, h2⟩
    · exact h.fit y0 hy0
    · exact h.fit x ((keepL_sub q L).subset h1)
end
def addL (e : Ed) (L : List St) (now next depth : Int) : List St :=
  if ((L ++ [(⟨next, now, e⟩ : St)]).length : Int) - 1 > depth then belowL ((pathL (L ++ [(⟨next, now, e⟩ : St)]) next).getD 1 0) (L ++ [(⟨next, now, e⟩ : St)]) else L ++ [(⟨next, now, e⟩ : St)]
theorem path_two {L : List St} {now next : Int} (h : Wf L now next) {x : St} (hx : x ∈ L) (hn : x.f0 = now) (h1 : 0 ≤ x.f1) : ∃ q y0, (pathL L now).getD 1 0 = q ∧ 2 ≤ (pathL L now).length ∧ y0 ∈ L ∧ y0.f0 = q ∧ x ∈ keepL q L ∧ (belowL q L).length < L.length := by
  have hlow := h.low x hx
  have htop := h.top
  obtain ⟨pre, q, r, e1, ⟨y, hy, hyq, hyr⟩, ⟨z, hz, hzr, hz1⟩⟩ := up_two h 1000 x hx (by omega) h1
  rw [hn] at e1
  refine ⟨q, y, ?_, ?_, hy, hyq, chain_keep h 1000 x hx (by rw [hn, e1]; simp), ?_⟩
  · unfold pathL; rw [e1]; simp
  · unfold pathL; rw [e1]; simp
  · have hk := keepL_mem (n := q) h.inc (fun y hy => h.inj hy) z
    have hne : z ∉ keepL q L := fun hzk => by
      rcases (hk.1 hzk).2 with h3 | ⟨u, hu, he⟩
      · have := h.low y hy; omega
      · have := h.low u ((keepL_sub q L).subset hu); omega
    have h2 : (belowL q L).length = (keepL q L).length := List.length_map _
    have hs := keepL_sub q L
    have := hs.length_le
    rw [h2]
    refine Nat.lt_of_le_of_ne this (fun e => hne ?_)
    rw [hs.eq_of_length e]
    exact hz
theorem add_inv {L : List St} {now next depth : Int} (h : Inv L now next depth) (h1 : next + 1 ≤ 1000) {e : Ed} (he : e.f1.f1.length ≤ 100000 ∧ e.f2.f1.length ≤ 100000) : Inv (addL e L now next depth) next (next + 1) depth := by
  have hd1 := h.d1
  have hd2 := h.d2
  have hcap := h.cap
  obtain ⟨x0, hx0, hn0⟩ := h.wf.now
  have hl0 := h.wf.low x0 hx0
  have hw := wf_add h.wf h1 (by omega) he
  have hroot : ∀ x ∈ L ++ [(⟨next, now, e⟩ : St)], x.f1 < 0 → ∀ y ∈ L ++ [(⟨next, now, e⟩ : St)], x.f0 ≤ y.f0 := by
    intro x hx hx1 y hy
    rcases List.mem_append.1 hx with hx | hx
    · rcases List.mem_append.1 hy with hy | hy
      · exact h.root x hx hx1 y hy
      · obtain rfl := List.mem_singleton.1 hy
        have := h.wf.low x hx
        show x.f0 ≤ next
        omega
    · obtain rfl := List.mem_singleton.1 hx
      exfalso
      have : now < 0 := hx1
      omega
  obtain ⟨q, y0, hq, _, hy0, hyq, hk, hlen⟩ := path_two hw (List.mem_append.2 (.inr List.mem_cons_self)) rfl (show 0 ≤ now by omega)
  have hll : (L ++ [(⟨next, now, e⟩ : St)]).length = L.length + 1 := by simp
  unfold addL
  split
  case isFalse hf =>
    exact ⟨hw, hroot, by omega, hd1, hd2⟩
  case isTrue ht =>
    rw [hq]
    refine ⟨wf_below hw ⟨_, hk, rfl⟩ hy0 hyq, fun x hx hx1 y hy => ?_, by omega, hd1, hd2⟩
    have hmem := fun x => rootL_mem (hw.inc.sublist (keepL_sub q _)) (keepL_root hy0 hyq) hyq x
    have hge : ∀ y ∈ belowL q (L ++ [(⟨next, now, e⟩ : St)]), q ≤ y.f0 := fun y hy => by
      rcases (hmem y).1 hy with rfl | ⟨h1, _⟩
      · exact Int.le_refl q
      · exact keepL_ge hw.inc (fun y hy => hw.inj hy) (fun y hy => (hw.low y hy).1) 1000 y h1 (by have := hw.low y ((keepL_sub q _).subset h1); omega)
    rcases (hmem x).1 hx with rfl | ⟨h1, h2⟩
    · exact hge y hy
    · exfalso
      rcases ((keepL_mem (n := q) hw.inc (fun y hy => hw.inj hy) x).1 h1).2 with h3 | ⟨u, hu, he⟩
      · exact h2 h3
      · have := hw.low u ((keepL_sub q _).subset hu); omega
def goodEd (e : Ed) : Bool := goodE e.f0 e.f1.f0 e.f1.f1 e.f2.f0 e.f2.f1
theorem empty_app (s : ByteArray) : (⟨#[]⟩ : ByteArray) ++ s ++ (⟨#[]⟩ : ByteArray) = s := by
  apply ByteArray.ext
  simp [ByteArray.data_append]
theorem apply_self (o : ByteArray) (ol : List S71) (n : ByteArray) (nl : List S71) : ((applyT o ol 0 o ol n nl).2.2 = 0 ↔ goodT o ol = true ∧ goodT n nl = true) ∧ 0 ≤ (applyT o ol 0 o ol n nl).2.2 := by
  by_cases h : goodT o ol = true ∧ goodT n nl = true
  · obtain ⟨h1, h2⟩ := h
    obtain ⟨_, _, o3, o4, o5⟩ := goodT_facts h1
    obtain ⟨_, _, n3, n4, n5⟩ := goodT_facts h2
    have := applyT_mid ⟨#[]⟩ o ⟨#[]⟩ n [] (bytes ol) [] (bytes nl) rfl (by omega) rfl (by omega) (by show 0 + o.size + 0 ≤ 4096; omega) (by show 0 + n.size + 0 ≤ 4096; omega)
    simp only [empty_app, List.nil_append, List.append_nil] at this
    rw [← good_pack_bytes h1, ← good_pack_bytes h2] at this
    rw [show ((⟨#[]⟩ : ByteArray).size : Int) = 0 from rfl] at this
    rw [this]
    simp [h1, h2]
  · have hg : ¬ goodE 0 o ol n nl = true := fun hg => h ⟨(goodE_iff.1 hg).1, (goodE_iff.1 hg).2.1⟩
    unfold applyT
    rw [if_neg hg]
    exact ⟨⟨fun e => absurd e (by decide), fun e => absurd e h⟩, by decide⟩
end Go.Proofs.Ytbbgpfjeobdogaa.PB
end

section
namespace Go.Proofs.Ytbbgpfjeobdogaa.PB
open Go.RowKit Go.Maps Go.Proofs.YtbbgpfjeobdogaaW.PrintWords Go.Proofs.YtbbgpfjeobdogaaW.PrintLast Go.Proofs.YtbbgpfjeobdogaaW.PrintMore
set_option maxRecDepth 100000
set_option linter.unusedVariables false
set_option linter.unusedSimpArgs false
structure EdIn (w : World) (ok : Nat → Prop) (e : Ed) (A1 : Option Addr) (c1 : Nat) (A2 : Option Addr) (c2 : Nat) : Prop where
  f1 : Kd.F k71 w ok A1 e.f1.f1.length e.f1.f1
  g1 : e.f1.f1.length ≤ c1
  f2 : Kd.F k71 w ok A2 e.f2.f1.length e.f2.f1
  g2 : e.f2.f1.length ≤ c2
  fit : e.f1.f1.length ≤ 100000 ∧ e.f2.f1.length ≤ 100000
theorem EdIn.turn {B : Nat} {S ok : Nat → Prop} {w W : World} {e : Ed} {A1 A2 : Option Addr} {c1 c2 : Nat} (h : EdIn w ok e A1 c1 A2 c2) (ht : Turn B S w W) (hok : ∀ k, ok k → ¬ S k) : EdIn W ok e A1 c1 A2 c2 :=
  ⟨ht.f h.f1 hok, h.g1, ht.f h.f2 hok, h.g2, h.fit⟩
theorem EdIn.below {ok : Nat → Prop} {w W : World} {e : Ed} {A1 A2 : Option Addr} {c1 c2 : Nat} (h : EdIn w ok e A1 c1 A2 c2) (hb : Below w.heap.size w W) : EdIn W ok e A1 c1 A2 c2 :=
  h.turn (Turn.of_below (B := 0) (S := fun _ => False) hb (Nat.zero_le _)) (fun _ _ h => h)
abbrev edV (e : Ed) (A1 : Option Addr) (c1 : Nat) (A2 : Option Addr) (c2 : Nat) : Value := .agg #[.int .i64 e.f0, .string e.f1.f0, .slice A1 e.f1.f1.length c1, .string e.f2.f0, .slice A2 e.f2.f1.length c2]
abbrev edC (e : Ed) (A1 : Option Addr) (c1 : Nat) (A2 : Option Addr) (c2 : Nat) : Array Value := #[.int .i64 e.f0, .string e.f1.f0, .slice A1 e.f1.f1.length c1, .string e.f2.f0, .slice A2 e.f2.f1.length c2]
set_option maxHeartbeats 8000000 in
theorem add_bad0 {B : Nat} {S : Nat → Prop} {g bm : Nat} {w : World} {L : List St} {now next depth : Int} (h : HistAt B S g bm w L now next depth) {e : Ed} {A1 A2 : Option Addr} {c1 c2 : Nat} (he : EdIn w (fun k => ¬ S k) e A1 c1 A2 c2)  (hr : (applyT e.f1.f0 e.f1.f1 0 e.f1.f0 e.f1.f1 e.f2.f0 e.f2.f1).2.2 ≠ 0) :
    Calls Try.prog 17 #[.pointer (some ⟨g, 0, none⟩), edV e A1 c1 A2 c2] w fun r w' => r = .returned (.tuple #[.int .i64 0, .int .i64 2]) ∧ Below w.heap.size w w' := by
  have hu34 := Try.underlying34
  have hu32 := Try.underlying32
  have hu74 := Try.underlying74
  have HH := aM h
  have HE := aM he
  obtain ⟨k, hk⟩ := (apply_ev e.f1.f0 e.f1.f1 (Nat.le_trans he.fit.1 (by decide)) 0 e.f1.f0 e.f1.f1 e.f2.f0 e.f2.f1 (Nat.le_trans he.fit.1 (by decide)) (Nat.le_trans he.fit.2 (by decide))).rounds
  generalize hT : applyT e.f1.f0 e.f1.f1 0 e.f1.f0 e.f1.f1 e.f2.f0 e.f2.f1 = T at hk hr
  obtain ⟨r1, r2, r3⟩ := T
  have HK := aM hk
  have HR3 := aM hT
  have hr : r3 ≠ 0 := hr
  clear h he hk hT
  have d1 : decide (r3 = 0) = false := decide_eq_false hr
  go_enter Try.func17, Try.ntmps17
  go_wp2_with (first
    | ((with_reducible refine gate_dst (N := 3) rfl ?_); refine box_event ?hg (N := 3) ?hd (cs := edC e A1 c1 A2 c2) (t := 34) ?hr ?_; (case hd => rfl); (case hg => rfl); (case hr => first | (go_simp; done) | (go_simp; rfl)); intro g3 hg w2 hbox hb; have HB2 := aM hb; have HX2 := aM hbox; have GE2 := aM (Nat.le_of_eq hg.symm); have HH2 := aM (HH.out.below hb); clear hb hbox hg; (have hx0 := (bC HX2.out 0).trans (rfl : _ = some (Value.int .i64 e.f0)); have hfx0 := bF HX2.out 0; have hx1 := (bC HX2.out 1).trans (rfl : _ = some (Value.string e.f1.f0)); have hfx1 := bF HX2.out 1; have hx2 := (bC HX2.out 2).trans (rfl : _ = some (Value.slice A1 e.f1.f1.length c1)); have hfx2 := bF HX2.out 2; have hx3 := (bC HX2.out 3).trans (rfl : _ = some (Value.string e.f2.f0)); have hfx3 := bF HX2.out 3; have hx4 := (bC HX2.out 4).trans (rfl : _ = some (Value.slice A2 e.f2.f1.length c2)); have hfx4 := bF HX2.out 4))
    | ((with_reducible refine gate_callee (f := 31) rfl ?_); refine goesL_ (some 10) rfl rfl Try.func31 (by kernel_rfl) rfl #[.pointer (some ⟨g, 0, none⟩)] rfl (by (try simp only [List.map_toArray, List.map_cons, List.map_nil]); first | done | rfl) ?_; (with_reducible refine (good_ok HH2.out).mono ?_); rintro e3 w3 ⟨rfl, hw⟩; subst w3; refine ⟨_, rfl, ?_⟩)
    | ((with_reducible refine gate_callee (f := 36) rfl ?_); refine goesL_ (some 20) rfl rfl Try.func36 (by kernel_rfl) rfl #[.agg #[.string e.f1.f0, .slice A1 e.f1.f1.length c1], .agg #[.int .i64 0, .string e.f1.f0, .slice A1 e.f1.f1.length c1, .string e.f2.f0, .slice A2 e.f2.f1.length c2]] rfl (by (try simp only [List.map_toArray, List.map_cons, List.map_nil]); first | done | rfl) ?_; have HE2 := aM (HE.out.below HB2.out); (with_reducible refine (edit_Apply.calls k e.f1.f0 A1 c1 e.f1.f1 0 e.f1.f0 A1 c1 e.f1.f1 e.f2.f0 A2 c2 e.f2.f1 r1 r2 r3 _ (Kd.F_now HE2.out.f1) HE2.out.g1 (Kd.F_now HE2.out.f1) HE2.out.g1 (Kd.F_now HE2.out.f2) HE2.out.g2 HK.out).mono ?_); rintro e4 w4 ⟨v1, rfl, ho, hb⟩; obtain ⟨A4, c4, rfl⟩ := Kd.R_slice ho; refine ⟨_, rfl, ?_⟩; have HB4 := aM (HB2.out.trans (hb.mono HB2.out.size)); have HX4 := aM (bB HX2.out hb); have HE4 := aM (HE2.out.below hb); have HH4 := aM (HH2.out.below hb); clear ho hb HE2 HB2 HX2 HH2; clear hx0 hfx0 hx1 hfx1 hx2 hfx2 hx3 hfx3 hx4 hfx4; (have hx0 := (bC HX4.out 0).trans (rfl : _ = some (Value.int .i64 e.f0)); have hfx0 := bF HX4.out 0; have hx1 := (bC HX4.out 1).trans (rfl : _ = some (Value.string e.f1.f0)); have hfx1 := bF HX4.out 1; have hx2 := (bC HX4.out 2).trans (rfl : _ = some (Value.slice A1 e.f1.f1.length c1)); have hfx2 := bF HX4.out 2; have hx3 := (bC HX4.out 3).trans (rfl : _ = some (Value.string e.f2.f0)); have hfx3 := bF HX4.out 3; have hx4 := (bC HX4.out 4).trans (rfl : _ = some (Value.slice A2 e.f2.f1.length c2)); have hfx4 := bF HX4.out 4))
    | ((with_reducible refine gate_dst (N := 6) rfl ?_); refine box_event ?hg (N := 6) ?hd (cs := #[.string ⟨#[]⟩, .slice none 0 0]) (t := 32) ?hr ?_; (case hd => rfl); (case hg => rfl); (case hr => first | (go_simp; done) | (go_simp; rfl)); intro g6 hg w6 hbox hb; have HB6 := aM (bP HB4.out hb); have HY6 := aM hbox; have HX6 := aM (bB HX4.out hb); have HE6 := aM (HE4.out.below hb); have HH6 := aM (HH4.out.below hb); have NE6 := aM (show g3 ≠ g6 from fun e => by have := blk_lt HX4.out; omega); have GE6 := aM (show w.heap.size ≤ g6 from by have := HB4.out.size; omega); clear hb hbox hg HB4 HX4 HE4 HH4; clear hx0 hfx0 hx1 hfx1 hx2 hfx2 hx3 hfx3 hx4 hfx4; (have hx0 := (bC HX6.out 0).trans (rfl : _ = some (Value.int .i64 e.f0)); have hfx0 := bF HX6.out 0; have hx1 := (bC HX6.out 1).trans (rfl : _ = some (Value.string e.f1.f0)); have hfx1 := bF HX6.out 1; have hx2 := (bC HX6.out 2).trans (rfl : _ = some (Value.slice A1 e.f1.f1.length c1)); have hfx2 := bF HX6.out 2; have hx3 := (bC HX6.out 3).trans (rfl : _ = some (Value.string e.f2.f0)); have hfx3 := bF HX6.out 3; have hx4 := (bC HX6.out 4).trans (rfl : _ = some (Value.slice A2 e.f2.f1.length c2)); have hfx4 := bF HX6.out 4); have hy0 := (bC HY6.out 0).trans (rfl : _ = some (Value.string ⟨#[]⟩)); have hy1 := (bC HY6.out 1).trans (rfl : _ = some (Value.slice none 0 0)); have hfy0 := bF HY6.out 0; have hfy1 := bF HY6.out 1; have hne := NE6.out; have hne' : g6 ≠ g3 := fun e => NE6.out e.symm)
    )
  refine bodyPost_ret (results_tmp2 rfl _ _ _) rfl ?_
  exact ⟨rfl, below_set (below_set HB6.out GE6.out) GE6.out⟩
set_option maxHeartbeats 8000000 in
theorem add_bad1 {B : Nat} {S : Nat → Prop} {g bm : Nat} {w : World} {L : List St} {now next depth : Int} (h : HistAt B S g bm w L now next depth) {e : Ed} {A1 A2 : Option Addr} {c1 c2 : Nat} (he : EdIn w (fun k => ¬ S k) e A1 c1 A2 c2)  (hr : (applyT e.f1.f0 e.f1.f1 0 e.f1.f0 e.f1.f1 e.f2.f0 e.f2.f1).2.2 = 0 ∧ e.f0 < 0) :
    Calls Try.prog 17 #[.pointer (some ⟨g, 0, none⟩), edV e A1 c1 A2 c2] w fun r w' => r = .returned (.tuple #[.int .i64 0, .int .i64 2]) ∧ Below w.heap.size w w' := by
  have hu34 := Try.underlying34
  have hu32 := Try.underlying32
  have hu74 := Try.underlying74
  have HH := aM h
  have HE := aM he
  obtain ⟨k, hk⟩ := (apply_ev e.f1.f0 e.f1.f1 (Nat.le_trans he.fit.1 (by decide)) 0 e.f1.f0 e.f1.f1 e.f2.f0 e.f2.f1 (Nat.le_trans he.fit.1 (by decide)) (Nat.le_trans he.fit.2 (by decide))).rounds
  generalize hT : applyT e.f1.f0 e.f1.f1 0 e.f1.f0 e.f1.f1 e.f2.f0 e.f2.f1 = T at hk hr
  obtain ⟨r1, r2, r3⟩ := T
  have HK := aM hk
  have HR3 := aM hT
  have hr : r3 = 0 ∧ e.f0 < 0 := hr
  clear h he hk hT
  obtain ⟨hr1, hr2⟩ := hr
  have d0 : decide (r3 = 0) = true := decide_eq_true hr1
  have d1 : decide (e.f0 < 0) = true := decide_eq_true hr2
  go_enter Try.func17, Try.ntmps17
  go_wp2_with (first
    | ((with_reducible refine gate_dst (N := 3) rfl ?_); refine box_event ?hg (N := 3) ?hd (cs := edC e A1 c1 A2 c2) (t := 34) ?hr ?_; (case hd => rfl); (case hg => rfl); (case hr => first | (go_simp; done) | (go_simp; rfl)); intro g3 hg w2 hbox hb; have HB2 := aM hb; have HX2 := aM hbox; have GE2 := aM (Nat.le_of_eq hg.symm); have HH2 := aM (HH.out.below hb); clear hb hbox hg; (have hx0 := (bC HX2.out 0).trans (rfl : _ = some (Value.int .i64 e.f0)); have hfx0 := bF HX2.out 0; have hx1 := (bC HX2.out 1).trans (rfl : _ = some (Value.string e.f1.f0)); have hfx1 := bF HX2.out 1; have hx2 := (bC HX2.out 2).trans (rfl : _ = some (Value.slice A1 e.f1.f1.length c1)); have hfx2 := bF HX2.out 2; have hx3 := (bC HX2.out 3).trans (rfl : _ = some (Value.string e.f2.f0)); have hfx3 := bF HX2.out 3; have hx4 := (bC HX2.out 4).trans (rfl : _ = some (Value.slice A2 e.f2.f1.length c2)); have hfx4 := bF HX2.out 4))
    | ((with_reducible refine gate_callee (f := 31) rfl ?_); refine goesL_ (some 10) rfl rfl Try.func31 (by kernel_rfl) rfl #[.pointer (some ⟨g, 0, none⟩)] rfl (by (try simp only [List.map_toArray, List.map_cons, List.map_nil]); first | done | rfl) ?_; (with_reducible refine (good_ok HH2.out).mono ?_); rintro e3 w3 ⟨rfl, hw⟩; subst w3; refine ⟨_, rfl, ?_⟩)
    | ((with_reducible refine gate_callee (f := 36) rfl ?_); refine goesL_ (some 20) rfl rfl Try.func36 (by kernel_rfl) rfl #[.agg #[.string e.f1.f0, .slice A1 e.f1.f1.length c1], .agg #[.int .i64 0, .string e.f1.f0, .slice A1 e.f1.f1.length c1, .string e.f2.f0, .slice A2 e.f2.f1.length c2]] rfl (by (try simp only [List.map_toArray, List.map_cons, List.map_nil]); first | done | rfl) ?_; have HE2 := aM (HE.out.below HB2.out); (with_reducible refine (edit_Apply.calls k e.f1.f0 A1 c1 e.f1.f1 0 e.f1.f0 A1 c1 e.f1.f1 e.f2.f0 A2 c2 e.f2.f1 r1 r2 r3 _ (Kd.F_now HE2.out.f1) HE2.out.g1 (Kd.F_now HE2.out.f1) HE2.out.g1 (Kd.F_now HE2.out.f2) HE2.out.g2 HK.out).mono ?_); rintro e4 w4 ⟨v1, rfl, ho, hb⟩; obtain ⟨A4, c4, rfl⟩ := Kd.R_slice ho; refine ⟨_, rfl, ?_⟩; have HB4 := aM (HB2.out.trans (hb.mono HB2.out.size)); have HX4 := aM (bB HX2.out hb); have HE4 := aM (HE2.out.below hb); have HH4 := aM (HH2.out.below hb); clear ho hb HE2 HB2 HX2 HH2; clear hx0 hfx0 hx1 hfx1 hx2 hfx2 hx3 hfx3 hx4 hfx4; (have hx0 := (bC HX4.out 0).trans (rfl : _ = some (Value.int .i64 e.f0)); have hfx0 := bF HX4.out 0; have hx1 := (bC HX4.out 1).trans (rfl : _ = some (Value.string e.f1.f0)); have hfx1 := bF HX4.out 1; have hx2 := (bC HX4.out 2).trans (rfl : _ = some (Value.slice A1 e.f1.f1.length c1)); have hfx2 := bF HX4.out 2; have hx3 := (bC HX4.out 3).trans (rfl : _ = some (Value.string e.f2.f0)); have hfx3 := bF HX4.out 3; have hx4 := (bC HX4.out 4).trans (rfl : _ = some (Value.slice A2 e.f2.f1.length c2)); have hfx4 := bF HX4.out 4))
    | ((with_reducible refine gate_dst (N := 6) rfl ?_); refine box_event ?hg (N := 6) ?hd (cs := #[.string ⟨#[]⟩, .slice none 0 0]) (t := 32) ?hr ?_; (case hd => rfl); (case hg => rfl); (case hr => first | (go_simp; done) | (go_simp; rfl)); intro g6 hg w6 hbox hb; have HB6 := aM (bP HB4.out hb); have HY6 := aM hbox; have HX6 := aM (bB HX4.out hb); have HE6 := aM (HE4.out.below hb); have HH6 := aM (HH4.out.below hb); have NE6 := aM (show g3 ≠ g6 from fun e => by have := blk_lt HX4.out; omega); have GE6 := aM (show w.heap.size ≤ g6 from by have := HB4.out.size; omega); clear hb hbox hg HB4 HX4 HE4 HH4; clear hx0 hfx0 hx1 hfx1 hx2 hfx2 hx3 hfx3 hx4 hfx4; (have hx0 := (bC HX6.out 0).trans (rfl : _ = some (Value.int .i64 e.f0)); have hfx0 := bF HX6.out 0; have hx1 := (bC HX6.out 1).trans (rfl : _ = some (Value.string e.f1.f0)); have hfx1 := bF HX6.out 1; have hx2 := (bC HX6.out 2).trans (rfl : _ = some (Value.slice A1 e.f1.f1.length c1)); have hfx2 := bF HX6.out 2; have hx3 := (bC HX6.out 3).trans (rfl : _ = some (Value.string e.f2.f0)); have hfx3 := bF HX6.out 3; have hx4 := (bC HX6.out 4).trans (rfl : _ = some (Value.slice A2 e.f2.f1.length c2)); have hfx4 := bF HX6.out 4); have hy0 := (bC HY6.out 0).trans (rfl : _ = some (Value.string ⟨#[]⟩)); have hy1 := (bC HY6.out 1).trans (rfl : _ = some (Value.slice none 0 0)); have hfy0 := bF HY6.out 0; have hfy1 := bF HY6.out 1; have hne := NE6.out; have hne' : g6 ≠ g3 := fun e => NE6.out e.symm)
    )
  refine bodyPost_ret (results_tmp2 rfl _ _ _) rfl ?_
  exact ⟨rfl, below_set (below_set HB6.out GE6.out) GE6.out⟩
set_option maxHeartbeats 8000000 in
theorem add_bad2 {B : Nat} {S : Nat → Prop} {g bm : Nat} {w : World} {L : List St} {now next depth : Int} (h : HistAt B S g bm w L now next depth) {e : Ed} {A1 A2 : Option Addr} {c1 c2 : Nat} (he : EdIn w (fun k => ¬ S k) e A1 c1 A2 c2)  (hr : (applyT e.f1.f0 e.f1.f1 0 e.f1.f0 e.f1.f1 e.f2.f0 e.f2.f1).2.2 = 0 ∧ ¬ e.f0 < 0 ∧ e.f0 > 4096) :
    Calls Try.prog 17 #[.pointer (some ⟨g, 0, none⟩), edV e A1 c1 A2 c2] w fun r w' => r = .returned (.tuple #[.int .i64 0, .int .i64 2]) ∧ Below w.heap.size w w' := by
  have hu34 := Try.underlying34
  have hu32 := Try.underlying32
  have hu74 := Try.underlying74
  have HH := aM h
  have HE := aM he
  obtain ⟨k, hk⟩ := (apply_ev e.f1.f0 e.f1.f1 (Nat.le_trans he.fit.1 (by decide)) 0 e.f1.f0 e.f1.f1 e.f2.f0 e.f2.f1 (Nat.le_trans he.fit.1 (by decide)) (Nat.le_trans he.fit.2 (by decide))).rounds
  generalize hT : applyT e.f1.f0 e.f1.f1 0 e.f1.f0 e.f1.f1 e.f2.f0 e.f2.f1 = T at hk hr
  obtain ⟨r1, r2, r3⟩ := T
  have HK := aM hk
  have HR3 := aM hT
  have hr : r3 = 0 ∧ ¬ e.f0 < 0 ∧ e.f0 > 4096 := hr
  clear h he hk hT
  obtain ⟨hr1, hr2, hr3⟩ := hr
  have d0 : decide (r3 = 0) = true := decide_eq_true hr1
  have d1 : decide (e.f0 < 0) = false := decide_eq_false hr2
  have d2 : decide (e.f0 > 4096) = true := decide_eq_true hr3
  have d3 : decide (4096 < e.f0) = true := decide_eq_true hr3
  go_enter Try.func17, Try.ntmps17
  go_wp2_with (first
    | ((with_reducible refine gate_dst (N := 3) rfl ?_); refine box_event ?hg (N := 3) ?hd (cs := edC e A1 c1 A2 c2) (t := 34) ?hr ?_; (case hd => rfl); (case hg => rfl); (case hr => first | (go_simp; done) | (go_simp; rfl)); intro g3 hg w2 hbox hb; have HB2 := aM hb; have HX2 := aM hbox; have GE2 := aM (Nat.le_of_eq hg.symm); have HH2 := aM (HH.out.below hb); clear hb hbox hg; (have hx0 := (bC HX2.out 0).trans (rfl : _ = some (Value.int .i64 e.f0)); have hfx0 := bF HX2.out 0; have hx1 := (bC HX2.out 1).trans (rfl : _ = some (Value.string e.f1.f0)); have hfx1 := bF HX2.out 1; have hx2 := (bC HX2.out 2).trans (rfl : _ = some (Value.slice A1 e.f1.f1.length c1)); have hfx2 := bF HX2.out 2; have hx3 := (bC HX2.out 3).trans (rfl : _ = some (Value.string e.f2.f0)); have hfx3 := bF HX2.out 3; have hx4 := (bC HX2.out 4).trans (rfl : _ = some (Value.slice A2 e.f2.f1.length c2)); have hfx4 := bF HX2.out 4))
    | ((with_reducible refine gate_callee (f := 31) rfl ?_); refine goesL_ (some 10) rfl rfl Try.func31 (by kernel_rfl) rfl #[.pointer (some ⟨g, 0, none⟩)] rfl (by (try simp only [List.map_toArray, List.map_cons, List.map_nil]); first | done | rfl) ?_; (with_reducible refine (good_ok HH2.out).mono ?_); rintro e3 w3 ⟨rfl, hw⟩; subst w3; refine ⟨_, rfl, ?_⟩)
    | ((with_reducible refine gate_callee (f := 36) rfl ?_); refine goesL_ (some 20) rfl rfl Try.func36 (by kernel_rfl) rfl #[.agg #[.string e.f1.f0, .slice A1 e.f1.f1.length c1], .agg #[.int .i64 0, .string e.f1.f0, .slice A1 e.f1.f1.length c1, .string e.f2.f0, .slice A2 e.f2.f1.length c2]] rfl (by (try simp only [List.map_toArray, List.map_cons, List.map_nil]); first | done | rfl) ?_; have HE2 := aM (HE.out.below HB2.out); (with_reducible refine (edit_Apply.calls k e.f1.f0 A1 c1 e.f1.f1 0 e.f1.f0 A1 c1 e.f1.f1 e.f2.f0 A2 c2 e.f2.f1 r1 r2 r3 _ (Kd.F_now HE2.out.f1) HE2.out.g1 (Kd.F_now HE2.out.f1) HE2.out.g1 (Kd.F_now HE2.out.f2) HE2.out.g2 HK.out).mono ?_); rintro e4 w4 ⟨v1, rfl, ho, hb⟩; obtain ⟨A4, c4, rfl⟩ := Kd.R_slice ho; refine ⟨_, rfl, ?_⟩; have HB4 := aM (HB2.out.trans (hb.mono HB2.out.size)); have HX4 := aM (bB HX2.out hb); have HE4 := aM (HE2.out.below hb); have HH4 := aM (HH2.out.below hb); clear ho hb HE2 HB2 HX2 HH2; clear hx0 hfx0 hx1 hfx1 hx2 hfx2 hx3 hfx3 hx4 hfx4; (have hx0 := (bC HX4.out 0).trans (rfl : _ = some (Value.int .i64 e.f0)); have hfx0 := bF HX4.out 0; have hx1 := (bC HX4.out 1).trans (rfl : _ = some (Value.string e.f1.f0)); have hfx1 := bF HX4.out 1; have hx2 := (bC HX4.out 2).trans (rfl : _ = some (Value.slice A1 e.f1.f1.length c1)); have hfx2 := bF HX4.out 2; have hx3 := (bC HX4.out 3).trans (rfl : _ = some (Value.string e.f2.f0)); have hfx3 := bF HX4.out 3; have hx4 := (bC HX4.out 4).trans (rfl : _ = some (Value.slice A2 e.f2.f1.length c2)); have hfx4 := bF HX4.out 4))
    | ((with_reducible refine gate_dst (N := 6) rfl ?_); refine box_event ?hg (N := 6) ?hd (cs := #[.string ⟨#[]⟩, .slice none 0 0]) (t := 32) ?hr ?_; (case hd => rfl); (case hg => rfl); (case hr => first | (go_simp; done) | (go_simp; rfl)); intro g6 hg w6 hbox hb; have HB6 := aM (bP HB4.out hb); have HY6 := aM hbox; have HX6 := aM (bB HX4.out hb); have HE6 := aM (HE4.out.below hb); have HH6 := aM (HH4.out.below hb); have NE6 := aM (show g3 ≠ g6 from fun e => by have := blk_lt HX4.out; omega); have GE6 := aM (show w.heap.size ≤ g6 from by have := HB4.out.size; omega); clear hb hbox hg HB4 HX4 HE4 HH4; clear hx0 hfx0 hx1 hfx1 hx2 hfx2 hx3 hfx3 hx4 hfx4; (have hx0 := (bC HX6.out 0).trans (rfl : _ = some (Value.int .i64 e.f0)); have hfx0 := bF HX6.out 0; have hx1 := (bC HX6.out 1).trans (rfl : _ = some (Value.string e.f1.f0)); have hfx1 := bF HX6.out 1; have hx2 := (bC HX6.out 2).trans (rfl : _ = some (Value.slice A1 e.f1.f1.length c1)); have hfx2 := bF HX6.out 2; have hx3 := (bC HX6.out 3).trans (rfl : _ = some (Value.string e.f2.f0)); have hfx3 := bF HX6.out 3; have hx4 := (bC HX6.out 4).trans (rfl : _ = some (Value.slice A2 e.f2.f1.length c2)); have hfx4 := bF HX6.out 4); have hy0 := (bC HY6.out 0).trans (rfl : _ = some (Value.string ⟨#[]⟩)); have hy1 := (bC HY6.out 1).trans (rfl : _ = some (Value.slice none 0 0)); have hfy0 := bF HY6.out 0; have hfy1 := bF HY6.out 1; have hne := NE6.out; have hne' : g6 ≠ g3 := fun e => NE6.out e.symm)
    )
  refine bodyPost_ret (results_tmp2 rfl _ _ _) rfl ?_
  exact ⟨rfl, below_set (below_set HB6.out GE6.out) GE6.out⟩
theorem add_bad {B : Nat} {S : Nat → Prop} {g bm : Nat} {w : World} {L : List St} {now next depth : Int} (h : HistAt B S g bm w L now next depth) {e : Ed} {A1 A2 : Option Addr} {c1 c2 : Nat} (he : EdIn w (fun k => ¬ S k) e A1 c1 A2 c2) (hg : goodEd e = false) :
    Calls Try.prog 17 #[.pointer (some ⟨g, 0, none⟩), edV e A1 c1 A2 c2] w fun r w' => r = .returned (.tuple #[.int .i64 0, .int .i64 2]) ∧ Below w.heap.size w w' := by
  by_cases h1 : (applyT e.f1.f0 e.f1.f1 0 e.f1.f0 e.f1.f1 e.f2.f0 e.f2.f1).2.2 = 0
  · by_cases h2 : e.f0 < 0
    · exact add_bad1 h he ⟨h1, h2⟩
    · by_cases h3 : e.f0 > 4096
      · exact add_bad2 h he ⟨h1, h2, h3⟩
      · exfalso
        obtain ⟨h4, h5⟩ := (apply_self e.f1.f0 e.f1.f1 e.f2.f0 e.f2.f1).1.1 h1
        have : goodEd e = true := goodE_iff.2 ⟨h4, h5, by omega, by omega⟩
        rw [hg] at this
        cases this
  · exact add_bad0 h he h1
end Go.Proofs.Ytbbgpfjeobdogaa.PB
end

section
namespace Go.Proofs.Ytbbgpfjeobdogaa.PB
open Go.RowKit Go.Maps Go.Proofs.YtbbgpfjeobdogaaW.PrintWords Go.Proofs.YtbbgpfjeobdogaaW.PrintLast Go.Proofs.YtbbgpfjeobdogaaW.PrintMore
set_option maxRecDepth 100000
set_option linter.unusedVariables false
set_option linter.unusedSimpArgs false
theorem fk_state {w : World} {ok : Nat → Prop} {a : Int} {e : Ed} {cs : List Value} (h : Kd.FK k34 w ok e cs) : Kd.FK kS w ok ⟨a, e⟩ (.int .i64 a :: cs) := fun W hW => ⟨[.int .i64 a], cs, rfl, rfl, h W hW⟩
set_option maxHeartbeats 8000000 in
theorem add_go1 {B : Nat} {S : Nat → Prop} {g bm : Nat} {w : World} {L : List St} {now next depth : Int} (h : HistAt B S g bm w L now next depth) {e : Ed} {A1 A2 : Option Addr} {c1 c2 : Nat} (he : EdIn w (fun k => k ≠ g) e A1 c1 A2 c2) (hi : Inv L now next depth) (hn : next + 1 ≤ 1000) (hS : ∀ k, S k → k < w.heap.size) (hr : (applyT e.f1.f0 e.f1.f1 0 e.f1.f0 e.f1.f1 e.f2.f0 e.f2.f1).2.2 = 0 ∧ 0 ≤ e.f0 ∧ e.f0 ≤ 4096) :
    Calls Try.prog 17 #[.pointer (some ⟨g, 0, none⟩), edV e A1 c1 A2 c2] w fun r w' => r = .returned (.tuple #[.int .i64 next, .int .i64 0]) ∧ HistAt B S g bm w' (addL e L now next depth) next (next + 1) depth ∧ Turn B (hb g bm) w w' := by
  have hu34 := Try.underlying34
  have hu32 := Try.underlying32
  have hu74 := Try.underlying74
  have HH := aM h
  have HE := aM he
  obtain ⟨k, hk⟩ := (apply_ev e.f1.f0 e.f1.f1 (Nat.le_trans he.fit.1 (by decide)) 0 e.f1.f0 e.f1.f1 e.f2.f0 e.f2.f1 (Nat.le_trans he.fit.1 (by decide)) (Nat.le_trans he.fit.2 (by decide))).rounds
  generalize hT : applyT e.f1.f0 e.f1.f1 0 e.f1.f0 e.f1.f1 e.f2.f0 e.f2.f1 = T at hk hr
  obtain ⟨r1, r2, r3⟩ := T
  have HK := aM hk
  have HR3 := aM hT
  have hr : r3 = 0 ∧ 0 ≤ e.f0 ∧ e.f0 ≤ 4096 := hr
  clear h he hk hT
  obtain ⟨hr1, hr2, hr3⟩ := hr
  have d0 : decide (r3 = 0) = true := decide_eq_true hr1
  have d1 : decide (e.f0 < 0) = false := decide_eq_false (by omega)
  have d2 : decide (e.f0 > 4096) = false := decide_eq_false (by omega)
  have d3 : decide (4096 < e.f0) = false := decide_eq_false (by omega)
  have HI := aM hi
  have HN := aM hn
  have HS := aM hS
  clear hi hn hS
  go_enter Try.func17, Try.ntmps17
  go_wp2_with (first
    | ((with_reducible refine gate_dst (N := 3) rfl ?_); refine box_event ?hg (N := 3) ?hd (cs := edC e A1 c1 A2 c2) (t := 34) ?hr ?_; (case hd => rfl); (case hg => rfl); (case hr => first | (go_simp; done) | (go_simp; rfl)); intro g3 hg w2 hbox hb; have HB2 := aM hb; have HX2 := aM hbox; have GE2 := aM (Nat.le_of_eq hg.symm); have HH2 := aM (HH.out.below hb); clear hb hbox hg; (have hx0 := (bC HX2.out 0).trans (rfl : _ = some (Value.int .i64 e.f0)); have hfx0 := bF HX2.out 0; have hx1 := (bC HX2.out 1).trans (rfl : _ = some (Value.string e.f1.f0)); have hfx1 := bF HX2.out 1; have hx2 := (bC HX2.out 2).trans (rfl : _ = some (Value.slice A1 e.f1.f1.length c1)); have hfx2 := bF HX2.out 2; have hx3 := (bC HX2.out 3).trans (rfl : _ = some (Value.string e.f2.f0)); have hfx3 := bF HX2.out 3; have hx4 := (bC HX2.out 4).trans (rfl : _ = some (Value.slice A2 e.f2.f1.length c2)); have hfx4 := bF HX2.out 4))
    | ((with_reducible refine gate_callee (f := 31) rfl ?_); refine goesL_ (some 10) rfl rfl Try.func31 (by kernel_rfl) rfl #[.pointer (some ⟨g, 0, none⟩)] rfl (by (try simp only [List.map_toArray, List.map_cons, List.map_nil]); first | done | rfl) ?_; (with_reducible refine (good_ok HH2.out).mono ?_); rintro e3 w3 ⟨rfl, hw⟩; subst w3; refine ⟨_, rfl, ?_⟩)
    | ((with_reducible refine gate_callee (f := 36) rfl ?_); refine goesL_ (some 20) rfl rfl Try.func36 (by kernel_rfl) rfl #[.agg #[.string e.f1.f0, .slice A1 e.f1.f1.length c1], .agg #[.int .i64 0, .string e.f1.f0, .slice A1 e.f1.f1.length c1, .string e.f2.f0, .slice A2 e.f2.f1.length c2]] rfl (by (try simp only [List.map_toArray, List.map_cons, List.map_nil]); first | done | rfl) ?_; have HE2 := aM (HE.out.below HB2.out); (with_reducible refine (edit_Apply.calls k e.f1.f0 A1 c1 e.f1.f1 0 e.f1.f0 A1 c1 e.f1.f1 e.f2.f0 A2 c2 e.f2.f1 r1 r2 r3 _ (Kd.F_now HE2.out.f1) HE2.out.g1 (Kd.F_now HE2.out.f1) HE2.out.g1 (Kd.F_now HE2.out.f2) HE2.out.g2 HK.out).mono ?_); rintro e4 w4 ⟨v1, rfl, ho, hb⟩; obtain ⟨A4, c4, rfl⟩ := Kd.R_slice ho; refine ⟨_, rfl, ?_⟩; have HB4 := aM (HB2.out.trans (hb.mono HB2.out.size)); have HX4 := aM (bB HX2.out hb); have HE4 := aM (HE2.out.below hb); have HH4 := aM (HH2.out.below hb); clear ho hb HE2 HB2 HX2 HH2; clear hx0 hfx0 hx1 hfx1 hx2 hfx2 hx3 hfx3 hx4 hfx4; (have hx0 := (bC HX4.out 0).trans (rfl : _ = some (Value.int .i64 e.f0)); have hfx0 := bF HX4.out 0; have hx1 := (bC HX4.out 1).trans (rfl : _ = some (Value.string e.f1.f0)); have hfx1 := bF HX4.out 1; have hx2 := (bC HX4.out 2).trans (rfl : _ = some (Value.slice A1 e.f1.f1.length c1)); have hfx2 := bF HX4.out 2; have hx3 := (bC HX4.out 3).trans (rfl : _ = some (Value.string e.f2.f0)); have hfx3 := bF HX4.out 3; have hx4 := (bC HX4.out 4).trans (rfl : _ = some (Value.slice A2 e.f2.f1.length c2)); have hfx4 := bF HX4.out 4))
    | ((with_reducible refine gate_dst (N := 6) rfl ?_); refine box_event ?hg (N := 6) ?hd (cs := #[.string ⟨#[]⟩, .slice none 0 0]) (t := 32) ?hr ?_; (case hd => rfl); (case hg => rfl); (case hr => first | (go_simp; done) | (go_simp; rfl)); intro g6 hg w6 hbox hb; have HB6 := aM (bP HB4.out hb); have HY6 := aM hbox; have HX6 := aM (bB HX4.out hb); have HE6 := aM (HE4.out.below hb); have HH6 := aM (HH4.out.below hb); have NE6 := aM (show g3 ≠ g6 from fun e => by have := blk_lt HX4.out; omega); have GE6 := aM (show w.heap.size ≤ g6 from by have := HB4.out.size; omega); clear hb hbox hg HB4 HX4 HE4 HH4; clear hx0 hfx0 hx1 hfx1 hx2 hfx2 hx3 hfx3 hx4 hfx4; (have hx0 := (bC HX6.out 0).trans (rfl : _ = some (Value.int .i64 e.f0)); have hfx0 := bF HX6.out 0; have hx1 := (bC HX6.out 1).trans (rfl : _ = some (Value.string e.f1.f0)); have hfx1 := bF HX6.out 1; have hx2 := (bC HX6.out 2).trans (rfl : _ = some (Value.slice A1 e.f1.f1.length c1)); have hfx2 := bF HX6.out 2; have hx3 := (bC HX6.out 3).trans (rfl : _ = some (Value.string e.f2.f0)); have hfx3 := bF HX6.out 3; have hx4 := (bC HX6.out 4).trans (rfl : _ = some (Value.slice A2 e.f2.f1.length c2)); have hfx4 := bF HX6.out 4); have hy0 := (bC HY6.out 0).trans (rfl : _ = some (Value.string ⟨#[]⟩)); have hy1 := (bC HY6.out 1).trans (rfl : _ = some (Value.slice none 0 0)); have hfy0 := bF HY6.out 0; have hfy1 := bF HY6.out 1; have hne := NE6.out; have hne' : g6 ≠ g3 := fun e => NE6.out e.symm; obtain ⟨f0, hg6⟩ := HH6.out.hg; have HG6 := aM hg6; have hc3 := (bC hg6 3).trans (rfl : _ = some (Value.int .i64 next)); have hfc3 := bF hg6 3; have NG6 := aM (show g ≠ g6 ∧ g ≠ g3 from by have := HH.out.lt; have := GE6.out; have := GE2.out; omega); have hng := NG6.out.1; have hng' : g6 ≠ g := fun e => NG6.out.1 e.symm; clear hg6)
    )
  generalize hw8 : World.setCell _ ⟨g, 3, none⟩ _ = w8
  have HT8 := aM (show Turn B (fun k => k = g) w w8 from by subst hw8; exact ((Turn.of_below (S := fun k => k = g) (below_set (below_set HB6.out GE6.out) GE6.out) HH.out.lt.1).set (p := ⟨g, 3, none⟩) (.inl rfl) HH.out.bg _))
  have e1 : wrap64 (next + 1) = next + 1 := by
    have := HN.out
    obtain ⟨x0, hx0, _⟩ := HI.out.wf.now
    have := HI.out.wf.low x0 hx0
    unfold wrap64
    omega
  have HG8 := aM (show w8.heap[g]? = some (.cells #[.map (some bm), .int .i64 f0, .int .i64 now, .int .i64 (next + 1), .int .i64 depth] 67 (0, 0)) from by
    subst hw8
    rw [e1]
    exact (bU (bR (bR HG6.out NG6.out.1 _) NG6.out.1 _) 3 _ rfl).trans rfl)
  have HX8 := aM (show w8.heap[g3]? = some (.cells (edC e A1 c1 A2 c2) 34 (0, 0)) from by
    subst hw8
    exact bR (bR (bR HX6.out NE6.out _) NE6.out _) (fun e => NG6.out.2 e.symm) _)
  clear hw8 HB6 HG6 HX6 HY6 hy0 hy1 hfy0 hfy1 hc3 hfc3 hx0 hx1 hx2 hx3 hx4 hfx0 hfx1 hfx2 hfx3 hfx4 HE6 HH6
  have HH8 := aM (HH.out.of_g HT8.out ⟨f0, HG8.out⟩)
  have HE8 := aM (HE.out.turn HT8.out (fun k hk e => hk e))
  have HLK := aM (show ∀ W : World, Below w8.heap.size w8 W → W.cell? ⟨g, 0, none⟩ = some (.map (some bm)) ∧ W.cell? ⟨g, 2, none⟩ = some (.int .i64 now) ∧ W.cell? ⟨g3, 0, none⟩ = some (.int .i64 e.f0) ∧ W.cell? ⟨g3, 1, none⟩ = some (.string e.f1.f0) ∧ W.cell? ⟨g3, 2, none⟩ = some (.slice A1 e.f1.f1.length c1) ∧ W.cell? ⟨g3, 3, none⟩ = some (.string e.f2.f0) ∧ W.cell? ⟨g3, 4, none⟩ = some (.slice A2 e.f2.f1.length c2) from fun W hb => ⟨(bC (bB HG8.out hb) 0).trans rfl, (bC (bB HG8.out hb) 2).trans rfl, (bC (bB HX8.out hb) 0).trans rfl, (bC (bB HX8.out hb) 1).trans rfl, (bC (bB HX8.out hb) 2).trans rfl, (bC (bB HX8.out hb) 3).trans rfl, (bC (bB HX8.out hb) 4).trans rfl⟩)
  refine start_ (n := 13) (S := fun W => W.cell? ⟨g, 0, none⟩ = some (.map (some bm)) ∧ W.cell? ⟨g, 2, none⟩ = some (.int .i64 now) ∧ W.cell? ⟨g3, 0, none⟩ = some (.int .i64 e.f0) ∧ W.cell? ⟨g3, 1, none⟩ = some (.string e.f1.f0) ∧ W.cell? ⟨g3, 2, none⟩ = some (.slice A1 e.f1.f1.length c1) ∧ W.cell? ⟨g3, 3, none⟩ = some (.string e.f2.f0) ∧ W.cell? ⟨g3, 4, none⟩ = some (.slice A2 e.f2.f1.length c2)) (ds := [12]) #[tF,tF,tF,tF,tF,tF,tF,tF,tF,tF,tF,tF,tF] (by kernel_rfl) rfl rfl (HLK.out _ (below_drew1 (Below.refl _ _))) (fun hHeld => ?_)
  have HB9 := aM (below_drew1 (Below.refl w8.heap.size w8))
  generalize w8.drew = w9 at HB9 hHeld ⊢
  refine sv 0 46 #[tT,tF,tF,tF,tF,tF,tF,tF,tF,tF,tF,tF,tF] ?_
  refine sv 1 47 #[tT,tT,tF,tF,tF,tF,tF,tF,tF,tF,tF,tF,tF] ?_
  refine sv 2 48 #[tT,tT,tT,tF,tF,tF,tF,tF,tF,tF,tF,tF,tF] ?_
  refine sv 4 50 #[tT,tT,tT,tF,tT,tF,tF,tF,tF,tF,tF,tF,tF] ?_
  refine sv 5 51 #[tT,tT,tT,tF,tT,tT,tF,tF,tF,tF,tF,tF,tF] ?_
  refine sv 6 52 #[tT,tT,tT,tF,tT,tT,tT,tF,tF,tF,tF,tF,tF] ?_
  refine sv 7 53 #[tT,tT,tT,tF,tT,tT,tT,tT,tF,tF,tF,tF,tF] ?_
  refine st 3 49 #[tT,tT,tT,tT,tT,tT,tT,tT,tF,tF,tF,tF,tF] hHeld ?_
  refine st 8 54 #[tT,tT,tT,tT,tT,tT,tT,tT,tT,tF,tF,tF,tF] hHeld ?_
  refine st 9 55 #[tT,tT,tT,tT,tT,tT,tT,tT,tT,tT,tF,tF,tF] hHeld ?_
  refine one_ (i := 10) (N := some 56) #[tT,tT,tT,tT,tT,tT,tT,tT,tT,tT,tT,tF,tF] rfl rfl (by kernel_rfl) (by decide) (fun K hK => ?_)
  refine goes_ Try.func35 (by kernel_rfl) rfl #[edV e A1 c1 A2 c2] (by rfl) rfl rfl (by (try simp only [List.map_toArray, List.map_cons, List.map_nil]); first | done | rfl) ?_
  have HE9 := aM (HE8.out.below HB9.out)
  (with_reducible refine (hist_own.calls e.f0 e.f1.f0 A1 c1 e.f1.f1 e.f2.f0 A2 c2 e.f2.f1 _ _ _ _ _ _ (Kd.F_now HE9.out.f1) HE9.out.g1 (Kd.F_now HE9.out.f2) HE9.out.g2 (hown_f e HE.out.fit.1 HE.out.fit.2)).mono ?_)
  rintro e5 w10 ⟨v2, v4, rfl, h2, h4, hb⟩
  obtain ⟨A7, c7, rfl⟩ := Kd.R_slice h2
  obtain ⟨A8, c8, rfl⟩ := Kd.R_slice h4
  have HB10 := aM (HB9.out.trans (hb.mono HB9.out.size))
  have HF10 := aM (Kd.FK_mono (ok' := fun k => ¬ S k) (ed_of (x := e) h2 h4) (fun k hk hs => by have := HS.out k hs; have := HT8.out.size; have := HB9.out.size; omega))
  refine ⟨_, rfl, hK.out _ _ (HLK.out _ HB10.out) (fun hHeld => ?_)⟩
  clear hK K HB9 HE9 h2 h4 hb hHeld
  refine norm_ (a' := ?_) ?_ ?_
  rotate_left
  · simp only [Act.put, List.setIfInBounds_toArray, List.set_cons_zero, List.set_cons_succ, i64_w, i32_w]
    rfl
  refine sv 11 57 #[tT,tT,tT,tT,tT,tT,tT,tT,tT,tT,tT,tT,tF] ?_
  refine last_ (i := 12) (N := none) #[tT,tT,tT,tT,tT,tT,tT,tT,tT,tT,tT,tT,tT] rfl rfl (by kernel_rfl) (by decide) (fun K hK => ?_)
  have HH10 := aM (HH8.out.below HB10.out)
  obtain ⟨D, hD⟩ := HH10.out.hm
  obtain ⟨q, hq, ho⟩ := hD.own
  have HNX := aM (show 0 ≤ next ∧ next ≤ 999 ∧ L.length ≤ 65 from by
    obtain ⟨x0, hx0, _⟩ := HI.out.wf.now
    have := HI.out.wf.low x0 hx0
    have := HN.out
    have := HI.out.cap
    have := HI.out.d2
    omega)
  refine mapput_ (by rfl) _ _ _ _ rfl rfl 3 74 lawK Try.underlying65 heldE bm q D rfl ho (Nat.lt_of_le_of_lt hq (by decide)) (.int .i64 next) (.agg (List.toArray [.int .i64 now, .int .i64 e.f0, .string e.f1.f0, .slice A7 e.f1.f1.length c7, .string e.f2.f0, .slice A8 e.f2.f1.length c8])) (kN next) rfl rfl (hkN (by have := HNX.out; omega) (by have := HNX.out; omega)) (.held (.agg (List.toArray [.int .i64 now, .int .i64 e.f0, .string e.f1.f0, .slice A7 e.f1.f1.length c7, .string e.f2.f0, .slice A8 e.f2.f1.length c8]))) [] rfl (fun w11 hown11 hturn11 => ?_)
  refine hK.out _ _ (done_ (by kernel_rfl) ?_)
  have hnot : ∀ x ∈ L, x.f0 ≠ next := fun x hx => by have := HI.out.wf.low x hx; omega
  have HH11 := aM (show HistAt B S g bm w11 (L ++ [(⟨next, now, e⟩ : St)]) now (next + 1) depth from HH10.out.remap hturn11 (hD.put (k := next) (y := ⟨next, now, e⟩) ⟨_, by
      rw [size_put hD.tidy, hD.size]
      have := HNX.out
      split <;> omega, own_tight hown11⟩ rfl (fk_turned hturn11 HH10.out.sm _ _ (fk_state HF10.out)) (fun x => by
        rw [List.mem_append, List.mem_singleton]
        constructor
        · rintro (hx | hx)
          · exact .inr ⟨hx, hnot x hx⟩
          · exact .inl hx
        · rintro (hx | hx)
          · exact .inr hx
          · exact .inl hx.1) (by
        rw [show L.any (fun x => x.f0 == next) = false from by rw [Bool.eq_false_iff]; intro e; obtain ⟨x, hx, he⟩ := any_iff.1 e; exact hnot x hx he]
        simp) (fun y _ cs => fk_turned hturn11 HH10.out.sm _ cs)))
  have HT11 := aM (show Turn B (hb g bm) w w11 from ((HT8.out.mono (fun k hk => .inl hk)).below HB10.out (Nat.le_trans HH.out.lt.1 HT8.out.size)).turned hturn11 (.inr rfl) HH10.out.lt.1 HH.out.bb)
  clear hnot hD ho hown11 hturn11 hK hHeld HLK HB10 HF10 HH10 HH8 HE8 HX8 HG8 HT8 e1
  obtain ⟨f7, hg7⟩ := HH11.out.hg
  have hg2 := (bC hg7 2).trans (rfl : _ = some (Value.int .i64 now))
  have hfg := bF hg7 2
  have HG11 := aM hg7
  clear hg7
  go_wp2
  generalize hw12 : World.setCell _ ⟨g, 2, none⟩ _ = w12
  have HT12 := aM (show Turn B (hb g bm) w w12 from by subst hw12; exact HT11.out.set (p := ⟨g, 2, none⟩) (.inl (.inl rfl)) HH.out.bg _)
  have HH12 := aM (show HistAt B S g bm w12 (L ++ [(⟨next, now, e⟩ : St)]) next (next + 1) depth from by subst hw12; exact HH11.out.of_g ((Turn.refl B (fun k => k = g) w11).set (p := ⟨g, 2, none⟩) (.inl rfl) HH.out.bg _) ⟨f7, (bU HG11.out 2 _ rfl).trans rfl⟩)
  clear hw12 HT11 HH11 HG11 hg2 hfg
  have HW1 := aM (wf_add HI.out.wf HN.out (by have := HNX.out; omega) HE.out.fit)
  have HI2 := aM (add_inv HI.out HN.out HE.out.fit)
  have HLL := aM (show (L ++ [(⟨next, now, e⟩ : St)]).length = L.length + 1 from by simp)
  go_loopg [] 1 (fun kq w' => ∃ Lc : List St, Aside0 (HistAt B S g bm w' Lc next (next + 1) depth) ∧ Aside0 (Turn B (hb g bm) w w') ∧ Aside0 (Lc = addL e L now next depth ∨ Lc = L ++ [(⟨next, now, e⟩ : St)] ∧ kq = 1 ∧ ((L ++ [(⟨next, now, e⟩ : St)]).length : Int) - 1 > depth))
  case atStart =>
    refine ⟨_, HH12, HT12, ⟨?_⟩⟩
    by_cases hc : ((L ++ [(⟨next, now, e⟩ : St)]).length : Int) - 1 > depth
    · exact .inr ⟨rfl, rfl, hc⟩
    · exact .inl (by unfold addL; rw [if_neg hc])
  case round =>
    clear HH12 HT12
    obtain ⟨Lc, HHr, HTr, HC⟩ := hrel
    have HLC := aM (show Lc.length ≤ 66 from by
      rcases HC.out with h | ⟨h, _, _⟩
      · rw [h]; have := HI2.out.cap; have := HI2.out.d2; omega
      · rw [h]; have := HLL.out; have := HNX.out; omega)
    obtain ⟨fr, hgr⟩ := HHr.out.hg
    obtain ⟨D, hD⟩ := HHr.out.hm
    obtain ⟨q, _, ho⟩ := hD.own
    have HLK := aM (show ∀ W : World, Below wr.heap.size wr W → W.cell? ⟨g, 0, none⟩ = some (.map (some bm)) ∧ W.cell? ⟨g, 4, none⟩ = some (.int .i64 depth) ∧ (Builtin.len_ #[65] 3 #[.map (some bm)]).run Try.prog W = .ok (.int .i64 (Lc.length : Int)) W from fun W hb => ⟨(bC (bB hgr hb) 0).trans rfl, (bC (bB hgr hb) 4).trans rfl, by
      obtain ⟨q', _, ho'⟩ := (hD.turn (Turn.of_below (B := 0) (S := fun _ => False) hb (Nat.zero_le _)) (fun h => h) (fun _ _ h => h)).own
      rw [← hD.size]
      exact ho'.len Try.underlying65 3⟩)
    clear hgr hD ho
    go_wp2
    refine start_ (n := 11) (S := fun W => W.cell? ⟨g, 0, none⟩ = some (.map (some bm)) ∧ W.cell? ⟨g, 4, none⟩ = some (.int .i64 depth) ∧ (Builtin.len_ #[65] 3 #[.map (some bm)]).run Try.prog W = .ok (.int .i64 (Lc.length : Int)) W) (ds := []) #[tF,tF,tF,tF,tF,tF,tF,tF,tF,tF,tF] (by kernel_rfl) rfl rfl (HLK.out _ (below_drew1 (Below.refl _ _))) (fun hHeld => ?_)
    have HBd := aM (below_drew1 (Below.refl wr.heap.size wr))
    have HH13 := aM (HHr.out.below HBd.out)
    have HT13 := aM (HTr.out.below HBd.out (Nat.le_trans HH.out.lt.1 HTr.out.size))
    generalize wr.drew = w13 at HH13 HT13 hHeld ⊢
    clear HLK HBd
    refine sv 0 62 #[tT,tF,tF,tF,tF,tF,tF,tF,tF,tF,tF] ?_
    refine sv 1 63 #[tT,tT,tF,tF,tF,tF,tF,tF,tF,tF,tF] ?_
    refine sv 2 64 #[tT,tT,tT,tF,tF,tF,tF,tF,tF,tF,tF] ?_
    refine sv 6 68 #[tT,tT,tT,tF,tF,tF,tT,tF,tF,tF,tF] ?_
    refine sv 7 69 #[tT,tT,tT,tF,tF,tF,tT,tT,tF,tF,tF] ?_
    refine sv 8 70 #[tT,tT,tT,tF,tF,tF,tT,tT,tT,tF,tF] ?_
    refine st 3 65 #[tT,tT,tT,tT,tF,tF,tT,tT,tT,tF,tF] hHeld ?_
    refine st 4 66 #[tT,tT,tT,tT,tT,tF,tT,tT,tT,tF,tF] hHeld ?_
    refine sv 5 67 #[tT,tT,tT,tT,tT,tT,tT,tT,tT,tF,tF] ?_
    refine st 9 71 #[tT,tT,tT,tT,tT,tT,tT,tT,tT,tT,tF] hHeld ?_
    refine sv 10 72 #[tT,tT,tT,tT,tT,tT,tT,tT,tT,tT,tT] ?_
    refine done_ (by kernel_rfl) ?_
    clear hHeld
    have e2 : wrap64 ((Lc.length : Int) - 1) = (Lc.length : Int) - 1 := by have := HLC.out; unfold wrap64; omega
    rcases Classical.em (Lc = addL e L now next depth) with hLc | hLc
    · subst hLc
      have c1 : decide ((((addL e L now next depth).length : Nat) : Int) - 1 > depth) = false := decide_eq_false (by have := HI2.out.cap; omega)
      have c2 : (depth < (((addL e L now next depth).length : Nat) : Int) - 1) = False := eq_false (by have := HI2.out.cap; omega)
      rw [e2, show decide (depth < (((addL e L now next depth).length : Nat) : Int) - 1) = false from decide_eq_false (by rw [c2]; exact not_false)]
      go_wp2
      refine bodyPost_ret (results_tmp2 rfl _ _ _) rfl ?_
      exact ⟨rfl, HH13.out, HT13.out⟩
    · obtain ⟨rfl, hkq, hcap⟩ := HC.out.resolve_left hLc
      have c1 : decide ((((L ++ [(⟨next, now, e⟩ : St)]).length : Nat) : Int) - 1 > depth) = true := decide_eq_true hcap
      have c2 : (depth < (((L ++ [(⟨next, now, e⟩ : St)]).length : Nat) : Int) - 1) = True := eq_true hcap
      have hp2 := path_two HW1.out (x := ⟨next, now, e⟩) (List.mem_append.2 (.inr List.mem_cons_self)) rfl (by obtain ⟨x0, hx0, hxn⟩ := HI.out.wf.now; have := HI.out.wf.low x0 hx0; show 0 ≤ now; omega)
      obtain ⟨q, y0, hq, hl2, hy0, hyq, -, -⟩ := hp2
      have HQ := aM (And.intro hq (And.intro hl2 (And.intro hy0 hyq)))
      have HADD := aM (show addL e L now next depth = belowL q (L ++ [(⟨next, now, e⟩ : St)]) from by unfold addL; rw [if_pos hcap, hq])
      have HKQ := aM hkq
      have hc3 : depth < (((L ++ [(⟨next, now, e⟩ : St)]).length : Nat) : Int) - 1 := hcap
      clear hq hl2 hy0 hyq hkq hcap hLc HC
      rw [e2, show decide (depth < (((L ++ [(⟨next, now, e⟩ : St)]).length : Nat) : Int) - 1) = true from decide_eq_true hc3]
      clear hc3
      have q1 : ((1 : Int) < ((pathL (L ++ [(⟨next, now, e⟩ : St)]) next).length : Int)) = True := eq_true (by have := HQ.out.2.1; omega)
      have q2 : (1 < (pathL (L ++ [(⟨next, now, e⟩ : St)]) next).length) = True := eq_true (by have := HQ.out.2.1; omega)
      go_wp2_with (first
        | ((with_reducible refine gate_callee (f := 23) rfl ?_); refine goesL_ (some 75) rfl rfl Try.func23 (by kernel_rfl) rfl #[.pointer (some ⟨g, 0, none⟩)] rfl (by (try simp only [List.map_toArray, List.map_cons, List.map_nil]); first | done | rfl) ?_; (with_reducible refine (path_ok HH13.out HW1.out).mono ?_); rintro e5 w14 ⟨v, rfl, ho, hb⟩; obtain ⟨Ap, cp, rfl⟩ := Kd.R_slice ho; refine ⟨_, rfl, ?_⟩; have HH14 := aM (HH13.out.below hb); have HT14 := aM (HT13.out.below hb (Nat.le_trans HH.out.lt.1 HT13.out.size)); obtain ⟨ad, ead, hcell⟩ := Kd.at_int (rR ho).2.2 1 (by omega) (by have := HQ.out.2.1; omega); cases ead; have hcell1 : w14.cell? (ad.add 1) = some (.int .i64 q) := (by rw [← HQ.out.1]; exact hcell); have hcell2 : w14.cell? { block := ad.block, off := ad.off + 1 } = some (.int .i64 q) := hcell1; clear ho hb hcell)
        | ((with_reducible refine gate_callee (f := 37) rfl ?_); refine goesL_ (some 78) rfl rfl Try.func37 (by kernel_rfl) rfl #[.pointer (some ⟨g, 0, none⟩), .int .i64 q] rfl (by (try simp only [List.map_toArray, List.map_cons, List.map_nil]); first | done | rfl) ?_; (with_reducible refine (forget_ok HH14.out HW1.out HQ.out.2.2.1 HQ.out.2.2.2).mono ?_); rintro e5 w15 ⟨rfl, hh, ht⟩; refine ⟨_, rfl, ?_⟩; have HH15 := aM hh; have HT15 := aM (HT14.out.trans ht); clear hh ht)
        )
      go_roundg 0
      case measure => have := HKQ.out; omega
      case rel => exact ⟨_, HH15, HT15, ⟨.inl HADD.out.symm⟩⟩
theorem add_go {B : Nat} {S : Nat → Prop} {g bm : Nat} {w : World} {L : List St} {now next depth : Int} (h : HistAt B S g bm w L now next depth) {e : Ed} {A1 A2 : Option Addr} {c1 c2 : Nat} (he : EdIn w (fun k => ¬ S k) e A1 c1 A2 c2) (hi : Inv L now next depth) (hn : next + 1 ≤ 1000) (hS : ∀ k, S k → k < w.heap.size) (hr : (applyT e.f1.f0 e.f1.f1 0 e.f1.f0 e.f1.f1 e.f2.f0 e.f2.f1).2.2 = 0 ∧ 0 ≤ e.f0 ∧ e.f0 ≤ 4096) :
    Calls Try.prog 17 #[.pointer (some ⟨g, 0, none⟩), edV e A1 c1 A2 c2] w fun r w' => r = .returned (.tuple #[.int .i64 next, .int .i64 0]) ∧ HistAt B S g bm w' (addL e L now next depth) next (next + 1) depth ∧ Turn B (hb g bm) w w' :=
  add_go1 h ⟨Kd.F_mono he.f1 (fun k hk e => hk (e ▸ h.sg)), he.g1, Kd.F_mono he.f2 (fun k hk e => hk (e ▸ h.sg)), he.g2, he.fit⟩ hi hn hS hr
end Go.Proofs.Ytbbgpfjeobdogaa.PB
end

section
namespace Go.Proofs.Ytbbgpfjeobdogaa.PB
open Go.RowKit Go.Maps Go.Proofs.YtbbgpfjeobdogaaW.PrintWords Go.Proofs.YtbbgpfjeobdogaaW.PrintLast Go.Proofs.YtbbgpfjeobdogaaW.PrintMore
set_option maxRecDepth 100000
set_option linter.unusedVariables false
set_option linter.unusedSimpArgs false
def redoL (L : List St) (now : Int) : Option St := L.reverse.find? (fun x => x.f1 == now)
theorem redoL_hit {L : List St} {now : Int} {i : Nat} (hi : i < L.length) (hx : (L[i]).f1 = now) (hn : ∀ j (hj : j < L.length), i < j → (L[j]).f1 ≠ now) : redoL L now = some L[i] := by
  unfold redoL
  have e : L = L.take i ++ L[i] :: L.drop (i + 1) := by rw [← List.drop_eq_getElem_cons hi, List.take_append_drop]
  conv => lhs; rw [e]
  rw [List.reverse_append, List.reverse_cons, List.append_assoc, List.find?_append]
  have h1 : (L.drop (i + 1)).reverse.find? (fun x => x.f1 == now) = none := by
    rw [List.find?_eq_none]
    intro y hy
    obtain ⟨j, hj, hjy⟩ := List.mem_iff_getElem.1 (List.mem_reverse.1 hy)
    rw [List.getElem_drop] at hjy
    rw [List.length_drop] at hj
    rw [← hjy]
    have := hn (i + 1 + j) (by omega) (by omega)
    simpa using this
  rw [h1]
  simp [hx]
theorem redoL_none {L : List St} {now : Int} (hn : ∀ j (hj : j < L.length), (L[j]).f1 ≠ now) : redoL L now = none := by
  unfold redoL
  rw [List.find?_eq_none]
  intro y hy
  obtain ⟨j, hj, hjy⟩ := List.mem_iff_getElem.1 (List.mem_reverse.1 hy)
  rw [← hjy]
  simpa using hn j hj
def redoNow (L : List St) (now : Int) : Int := ((redoL L now).map (fun x => x.f0)).getD now
def redoEd (L : List St) (now : Int) : Ed := ((redoL L now).map (fun x => x.f2)).getD z34
def redoCode (L : List St) (now : Int) : Int := if (redoL L now).isSome then 0 else 6
structure Rg (B : Nat) (S : Nat → Prop) (g bm g2 : Nat) (w : World) (L : List St) (now next depth : Int) (A : Option Addr) (c : Nat) (W : World) : Prop where
  below : Below w.heap.size w W
  box : W.heap[g2]? = some (.cells zs5 34 (0, 0))
  row : Kd.R (Kd.int .i64) 3 W w.heap.size (fun _ => True) (.slice A (statesL L).length c) (statesL L)
theorem Rg.later {B : Nat} {S : Nat → Prop} {g bm g2 : Nat} {w W W2 : World} {L : List St} {now next depth : Int} {A : Option Addr} {c : Nat} (h : Rg B S g bm g2 w L now next depth A c W) (hb : Below W.heap.size W W2) : Rg B S g bm g2 w L now next depth A c W2 :=
  ⟨h.below.trans (hb.mono h.below.size), bB h.box hb, Kd.R_below h.row hb⟩
set_option maxHeartbeats 8000000 in
theorem redo_ok {B : Nat} {S : Nat → Prop} {g bm : Nat} {w : World} {L : List St} {now next depth : Int} (h : HistAt B S g bm w L now next depth) (hw : Wf L now next) :
    Calls Try.prog 15 #[.pointer (some ⟨g, 0, none⟩)] w fun e w' => ∃ v, e = .returned (.tuple #[v, .int .i64 (redoCode L now)]) ∧ EdAt w' (fun k => w.heap.size ≤ k) v (redoEd L now) ∧ HistAt B S g bm w' L (redoNow L now) next depth ∧ Turn B (hb g bm) w w' := by
  have hu34 := Try.underlying34
  have hu74 := Try.underlying74
  have HH := aM h
  have HW := aM hw
  clear h hw
  go_enter Try.func15, Try.ntmps15
  go_wp2_with (first
    | ((with_reducible refine gate_dst (N := 2) rfl ?_); refine box_event ?hg (N := 2) ?hd (cs := zs5) (t := 34) ?hr ?_; (case hd => rfl); (case hg => rfl); (case hr => first | (go_simp; done) | (go_simp; rfl)); intro g2 hg w2 hbox hb; have HB2 := aM hb; have HX2 := aM hbox; have GE2 := aM (Nat.le_of_eq hg.symm); have HH2 := aM (HH.out.below hb); clear hb hbox hg)
    | ((with_reducible refine gate_callee (f := 31) rfl ?_); refine goesL_ (some 8) rfl rfl Try.func31 (by kernel_rfl) rfl #[.pointer (some ⟨g, 0, none⟩)] rfl (by (try simp only [List.map_toArray, List.map_cons, List.map_nil]); first | done | rfl) ?_; (with_reducible refine (good_ok HH2.out).mono ?_); rintro e w3 ⟨rfl, hw⟩; subst w3; refine ⟨_, rfl, ?_⟩)
    | ((with_reducible refine gate_callee (f := 21) rfl ?_); refine goesL_ (some 12) rfl rfl Try.func21 (by kernel_rfl) rfl #[.pointer (some ⟨g, 0, none⟩)] rfl (by (try simp only [List.map_toArray, List.map_cons, List.map_nil]); first | done | rfl) ?_; (with_reducible refine (states_ok HH2.out HW.out).mono ?_); rintro e w3 ⟨v, rfl, ho, hb⟩; obtain ⟨A, c, rfl⟩ := Kd.R_slice ho; refine ⟨_, rfl, ?_⟩; have HRG := aM (show Rg B S g bm g2 w L now next depth A c w3 from ⟨HB2.out.trans (hb.mono HB2.out.size), bB HX2.out hb, rL ho HB2.out.size⟩); clear ho hb)
    )
  clear HB2 HX2 HH2
  have HSL := aM (show (statesL L).length = L.length from by unfold statesL; rw [List.length_map])
  go_loopg [5] L.length (fun kq v5 w' => ∃ z : Int, v5 = .int .i64 z ∧ Aside0 (z = (kq : Int) - 1) ∧ Aside0 (kq ≤ L.length) ∧ Aside0 (∀ j (hj : j < L.length), kq ≤ j → (L[j]).f1 ≠ now) ∧ Aside0 (Rg B S g bm g2 w L now next depth A c w'))
  case atStart => exact ⟨_, rfl, ⟨by rw [HSL.out]; have := HW.out.len; unfold wrap64; omega⟩, ⟨Nat.le_refl _⟩, ⟨fun j hj h => by omega⟩, HRG⟩
  case round =>
    clear HRG
    obtain ⟨z, rfl, HZ, HK, HM, HRG⟩ := hrel
    have HHr := aM (HH.out.below HRG.out.below)
    obtain ⟨fst0, hg0⟩ := HHr.out.hg
    have HG0 := aM hg0
    cases gk with
    | zero =>
      obtain rfl : z = -1 := HZ.out
      have HNN := aM (redoL_none (fun j hj => HM.out j hj (Nat.zero_le _)))
      have q1 : ((-1 : Int) ≥ 0) = False := eq_false (by omega)
      have q2 : ((0 : Int) ≤ -1) = False := eq_false (by omega)
      have HX := aM HRG.out.box
      have hz0 := (bC HX.out 0).trans (rfl : _ = some (Value.int .i64 0))
      have hz1 := (bC HX.out 1).trans (rfl : _ = some (Value.string ⟨#[]⟩))
      have hz2 := (bC HX.out 2).trans (rfl : _ = some (Value.slice none 0 0))
      have hz3 := (bC HX.out 3).trans (rfl : _ = some (Value.string ⟨#[]⟩))
      have hz4 := (bC HX.out 4).trans (rfl : _ = some (Value.slice none 0 0))
      have hfz0 := bF HX.out 0
      have hfz1 := bF HX.out 1
      have hfz2 := bF HX.out 2
      have hfz3 := bF HX.out 3
      have hfz4 := bF HX.out 4
      clear hg0
      go_wp2
      refine bodyPost_ret (results_ct rfl _ _ g2 34 zs5 (0, 0) _ rfl ((blk_set (blk_set (blk_set (blk_set (blk_set HX.out 0 _) 1 _) 2 _) 3 _) 4 _).trans rfl) Try.underlying34 rfl (by kernel_rfl)) rfl ?_
      have HB6 : ∀ W, Below w.heap.size w W → HistAt B S g bm W L now next depth ∧ Turn B (hb g bm) w W := fun W hb => ⟨HH.out.below hb, Turn.of_below hb HH.out.lt.1⟩
      refine ⟨zEd, by unfold redoCode; rw [HNN.out]; rfl, by unfold redoEd; rw [HNN.out]; exact ed_zero _ _, ?_⟩
      unfold redoNow
      rw [HNN.out]
      exact HB6 _ (below_set (below_set (below_set (below_set (below_set HRG.out.below GE2.out) GE2.out) GE2.out) GE2.out) GE2.out)
    | succ i =>
      obtain rfl : z = (i : Int) := by have := HZ.out; omega
      have c1 : i < L.length := HK.out
      have p1 : (0 ≤ (i : Int)) = True := eq_true (by omega)
      have p2 : ((i : Int) ≥ 0) = True := eq_true (by omega)
      have q1 : ((i : Int) < ((statesL L).length : Int)) = True := eq_true (by rw [HSL.out]; omega)
      obtain ⟨ad, ead, hcell⟩ := Kd.at_int (rR HRG.out.row).2.2 (i : Int) (by omega) (by rw [HSL.out]; omega)
      cases ead
      rw [rd_states c1, Int.toNat_natCast] at hcell
      have HX := aM (show ∃ x, x = L[i] ∧ x ∈ L from ⟨_, rfl, List.getElem_mem c1⟩)
      generalize hxg : L[i] = x at HX hcell
      have HXE := aM hxg.symm
      clear hxg
      obtain ⟨x', ex, hxl⟩ := HX.out
      subst x'
      have HXL := aM hxl
      have HLX := aM (HW.out.low x hxl)
      have HTOP := aM HW.out.top
      have HFIT := aM (HW.out.fit x hxl)
      obtain ⟨D, hD⟩ := HHr.out.hm
      obtain ⟨cs, hcs⟩ := hD.val x hxl
      obtain ⟨A3, c3, A5, c5, rfl, l3, F3, l5, F5⟩ := cells_open hcs.2
      have HLK := aM (show ∀ W : World, Below wr.heap.size wr W → W.cell? ⟨g, 0, none⟩ = some (.map (some bm)) ∧ W.cell? (ad.add i) = some (.int .i64 x.f0) ∧ (Instr.lookup 65 (.map (some bm)) (.int .i64 x.f0) false).run Try.prog W = .ok (.agg #[.int .i64 x.f1, .int .i64 x.f2.f0, .string x.f2.f1.f0, .slice A3 x.f2.f1.f1.length c3, .string x.f2.f2.f0, .slice A5 x.f2.f2.f1.length c5]) W from fun W hb => ⟨(bC (bB hg0 hb) 0).trans rfl, by
        obtain ⟨ad2, ead2, hcell2⟩ := Kd.at_int (rR (Kd.R_below HRG.out.row hb)).2.2 (i : Int) (by omega) (by rw [HSL.out]; omega)
        cases ead2
        rw [rd_states c1, Int.toNat_natCast, ← HXE.out] at hcell2
        exact hcell2, look_in (hD.turn (Turn.of_below (B := 0) (S := fun _ => False) hb (Nat.zero_le _)) (fun h => h) (fun _ _ h => h)) hxl (by have := HLX.out; omega) (by have := HLX.out; have := HTOP.out; omega) ⟨hcs.1, Kd.FK_below hcs.2 hb⟩⟩)
      have HF := aM (And.intro (And.intro l3 l5) (And.intro F3 F5))
      clear hg0 hD hcs D hxl hcell HX l3 l5 F3 F5
      go_wp2
      refine start_ (n := 11) (S := fun W => W.cell? ⟨g, 0, none⟩ = some (.map (some bm)) ∧ W.cell? (ad.add i) = some (.int .i64 x.f0) ∧ (Instr.lookup 65 (.map (some bm)) (.int .i64 x.f0) false).run Try.prog W = .ok (.agg #[.int .i64 x.f1, .int .i64 x.f2.f0, .string x.f2.f1.f0, .slice A3 x.f2.f1.f1.length c3, .string x.f2.f2.f0, .slice A5 x.f2.f2.f1.length c5]) W) (ds := [10]) #[tF,tF,tF,tF,tF,tF,tF,tF,tF,tF,tF] (by kernel_rfl) rfl rfl (HLK.out _ (below_drew1 (Below.refl _ _))) (fun hHeld => ?_)
      have HB3 := aM (below_drew1 (Below.refl wr.heap.size wr))
      generalize wr.drew = w4 at HB3 hHeld ⊢
      refine sv 0 20 #[tT,tF,tF,tF,tF,tF,tF,tF,tF,tF,tF] ?_
      refine sv 1 21 #[tT,tT,tF,tF,tF,tF,tF,tF,tF,tF,tF] ?_
      refine sv 2 22 #[tT,tT,tT,tF,tF,tF,tF,tF,tF,tF,tF] ?_
      refine sv 4 24 #[tT,tT,tT,tF,tT,tF,tF,tF,tF,tF,tF] ?_
      refine sv 5 25 #[tT,tT,tT,tF,tT,tT,tF,tF,tF,tF,tF] ?_
      refine sv 6 26 #[tT,tT,tT,tF,tT,tT,tT,tF,tF,tF,tF] ?_
      refine st 3 23 #[tT,tT,tT,tT,tT,tT,tT,tF,tF,tF,tF] hHeld ?_
      refine st 7 27 #[tT,tT,tT,tT,tT,tT,tT,tT,tF,tF,tF] hHeld ?_
      refine st 8 28 #[tT,tT,tT,tT,tT,tT,tT,tT,tT,tF,tF] hHeld ?_
      refine one_ (i := 9) (N := some 6) #[tT,tT,tT,tT,tT,tT,tT,tT,tT,tT,tF] rfl rfl (by kernel_rfl) (by decide) (fun K hK => ?_)
      refine value_ (v := .pointer (some ⟨w4.heap.size, 0, none⟩)) (w1 := w4.alloc (.cells zs6 74)) (by rfl) rfl ?_ ?_
      · first | (go_simp; done) | (go_simp; rfl)
      have HB4 := aM (below_alloc HB3.out (.cells zs6 74))
      have HY4 := aM (blk_new w4 (.cells zs6 74))
      have GE4 := aM HB3.out.size
      refine hK.out _ _ (HLK.out _ HB4.out) (fun hHeld => ?_)
      clear hK K HB3
      generalize w4.alloc _ = w5 at HB4 HY4 hHeld ⊢
      generalize w4.heap.size = g4 at GE4 HY4 ⊢
      refine norm_ (a' := ?_) ?_ ?_
      rotate_left
      · simp only [Act.put, List.setIfInBounds_toArray, List.set_cons_zero, List.set_cons_succ, i64_w, i32_w]
        rfl
      refine last_ (i := 10) (N := none) #[tT,tT,tT,tT,tT,tT,tT,tT,tT,tT,tT] rfl rfl (by kernel_rfl) (by decide) (fun K hK => ?_)
      have hy0 := (bC HY4.out 0).trans (rfl : _ = some (Value.int .i64 0))
      have hy1 := (bC HY4.out 1).trans (rfl : _ = some (Value.int .i64 0))
      have hy2 := (bC HY4.out 2).trans (rfl : _ = some (Value.string ⟨#[]⟩))
      have hy3 := (bC HY4.out 3).trans (rfl : _ = some (Value.slice none 0 0))
      have hy4 := (bC HY4.out 4).trans (rfl : _ = some (Value.string ⟨#[]⟩))
      have hy5 := (bC HY4.out 5).trans (rfl : _ = some (Value.slice none 0 0))
      have hfy0 := bF HY4.out 0
      have hfy1 := bF HY4.out 1
      have hfy2 := bF HY4.out 2
      have hfy3 := bF HY4.out 3
      have hfy4 := bF HY4.out 4
      have hfy5 := bF HY4.out 5
      refine skip_ (w1 := ?_) (by rfl) rfl ?_ ?_
      rotate_left
      · go_simp
        rfl
      refine hK.out _ _ (done_ (by kernel_rfl) ?_)
      clear hK K hHeld hy0 hy1 hy2 hy3 hy4 hy5 hfy0 hfy1 hfy2 hfy3 hfy4 hfy5
      generalize hw5 : World.setCell _ ⟨g4, 5, none⟩ _ = w6
      have HB5 := aM (show Below wr.heap.size wr w6 from by subst hw5; exact below_set (below_set (below_set (below_set (below_set (below_set HB4.out GE4.out) GE4.out) GE4.out) GE4.out) GE4.out) GE4.out)
      have HY5 := aM (show w6.heap[g4]? = some (.cells #[.int .i64 x.f1, .int .i64 x.f2.f0, .string x.f2.f1.f0, .slice A3 x.f2.f1.f1.length c3, .string x.f2.f2.f0, .slice A5 x.f2.f2.f1.length c5] 74 (0, 0)) from by subst hw5; exact (blk_set (blk_set (blk_set (blk_set (blk_set (blk_set HY4.out 0 _) 1 _) 2 _) 3 _) 4 _) 5 _).trans rfl)
      clear hw5 HB4 HY4
      have HRG6 := aM (HRG.out.later HB5.out)
      have HBr := HB5
      have HG6 := aM (bB HG0.out HB5.out)
      clear HB5 HLK
      go_wp2
      have HLK8 := aM (show ∀ W : World, Below w6.heap.size w6 W → W.cell? ⟨g4, 0, none⟩ = some (.int .i64 x.f1) ∧ W.cell? ⟨g, 2, none⟩ = some (.int .i64 now) from fun W hb => ⟨(bC (bB HY5.out hb) 0).trans rfl, (bC (bB HG6.out hb) 2).trans rfl⟩)
      refine start_ (n := 7) (S := fun W => W.cell? ⟨g4, 0, none⟩ = some (.int .i64 x.f1) ∧ W.cell? ⟨g, 2, none⟩ = some (.int .i64 now)) (ds := []) #[tF,tF,tF,tF,tF,tF,tF] (by kernel_rfl) rfl rfl (HLK8.out _ (below_drew1 (Below.refl _ _))) (fun hHeld => ?_)
      have HB7 := aM (below_drew1 (Below.refl w6.heap.size w6))
      have HBs := aM (HBr.out.trans (HB7.out.mono HBr.out.size))
      have HRG7 := aM (HRG6.out.later HB7.out)
      have HG7 := aM (bB HG6.out HB7.out)
      have HY7 := aM (bB HY5.out HB7.out)
      generalize w6.drew = w7 at HRG7 HG7 HY7 HBs hHeld ⊢
      clear HB7 HLK8 HRG6 HG6 HY5
      refine sv 0 29 #[tT,tF,tF,tF,tF,tF,tF] ?_
      refine sv 2 31 #[tT,tF,tT,tF,tF,tF,tF] ?_
      refine sv 3 32 #[tT,tF,tT,tT,tF,tF,tF] ?_
      refine sv 4 33 #[tT,tF,tT,tT,tT,tF,tF] ?_
      refine st 1 30 #[tT,tT,tT,tT,tT,tF,tF] hHeld ?_
      refine st 5 34 #[tT,tT,tT,tT,tT,tT,tF] hHeld ?_
      refine sv 6 35 #[tT,tT,tT,tT,tT,tT,tT] ?_
      refine done_ (by kernel_rfl) ?_
      clear hHeld
      by_cases hup : x.f1 = now
      · rw [show (x.f1 == now) = true from by simpa using hup]
        have HRD := aM (show redoL L now = some x from by rw [HXE.out]; exact redoL_hit c1 (by rw [← HXE.out]; exact hup) (fun j hj hij => HM.out j hj (by omega)))
        have NG2 := aM (show g ≠ g2 from fun e => by have := HH.out.lt.2.1; have := GE2.out; omega)
        have NG4 := aM (show g ≠ g4 from fun e => by have h1 := HH.out.lt.2.1; have h2 := HRG.out.below.size; have h3 := GE4.out; omega)
        have hn4 := NG4.out
        have hn4' : g4 ≠ g := fun e => hn4 e.symm
        have hn2' : g2 ≠ g := fun e => NG2.out e.symm
        have hcg := (bC HG7.out 2).trans (rfl : _ = some (Value.int .i64 now))
        have hfg := bF HG7.out 2
        have hcell : w7.cell? (ad.add i) = some (.int .i64 x.f0) := by
          obtain ⟨ad2, ead2, hcell2⟩ := Kd.at_int (rR HRG7.out.row).2.2 (i : Int) (by omega) (by rw [HSL.out]; omega)
          cases ead2
          rw [rd_states c1, Int.toNat_natCast, ← HXE.out] at hcell2
          exact hcell2
        have HF8 := aM (show ∀ u : Value, Kd.F k71 (w7.setCell ⟨g, 2, none⟩ u) (fun k => ¬ S k) A3 x.f2.f1.f1.length x.f2.f1.f1 ∧ Kd.F k71 (w7.setCell ⟨g, 2, none⟩ u) (fun k => ¬ S k) A5 x.f2.f2.f1.length x.f2.f2.f1 from fun u => by
          have hT : Turn 0 (fun k => k = g) wr (w7.setCell ⟨g, 2, none⟩ u) := (Turn.of_below (B := 0) (S := fun k => k = g) HBs.out (Nat.zero_le _)).set (p := ⟨g, 2, none⟩) (.inl rfl) (Nat.zero_le _) u
          exact ⟨hT.f HF.out.2.1 (fun k hk e => hk (e ▸ HH.out.sg)), hT.f HF.out.2.2 (fun k hk e => hk (e ▸ HH.out.sg))⟩)
        have hy0 := (bC HY7.out 0).trans (rfl : _ = some (Value.int .i64 x.f1))
        have hy1 := (bC HY7.out 1).trans (rfl : _ = some (Value.int .i64 x.f2.f0))
        have hy2 := (bC HY7.out 2).trans (rfl : _ = some (Value.string x.f2.f1.f0))
        have hy3 := (bC HY7.out 3).trans (rfl : _ = some (Value.slice A3 x.f2.f1.f1.length c3))
        have hy4 := (bC HY7.out 4).trans (rfl : _ = some (Value.string x.f2.f2.f0))
        have hy5 := (bC HY7.out 5).trans (rfl : _ = some (Value.slice A5 x.f2.f2.f1.length c5))
        go_wp2_with (first
          | ((with_reducible refine gate_callee (f := 35) rfl ?_); refine goesL_ (some 45) rfl rfl Try.func35 (by kernel_rfl) rfl #[.agg #[.int .i64 x.f2.f0, .string x.f2.f1.f0, .slice A3 x.f2.f1.f1.length c3, .string x.f2.f2.f0, .slice A5 x.f2.f2.f1.length c5]] rfl (by (try simp only [List.map_toArray, List.map_cons, List.map_nil]); first | done | rfl) ?_; have HT8 := aM ((Turn.of_below (S := fun k => k = g) HRG7.out.below HH.out.lt.1).set (p := ⟨g, 2, none⟩) (.inl rfl) HH.out.bg (.int .i64 x.f0)); have HG8 := aM (bU (cs' := #[.map (some bm), .int .i64 fst0, .int .i64 x.f0, .int .i64 next, .int .i64 depth]) HG7.out 2 (.int .i64 x.f0) rfl); have HX8 := aM (bR (p := ⟨g, 2, none⟩) HRG7.out.box (fun e => NG2.out e.symm) (.int .i64 x.f0)); (with_reducible refine (hist_own.calls x.f2.f0 x.f2.f1.f0 A3 c3 x.f2.f1.f1 x.f2.f2.f0 A5 c5 x.f2.f2.f1 _ _ _ _ _ _ (Kd.F_now (HF8.out _).1) HF.out.1.1 (Kd.F_now (HF8.out _).2) HF.out.1.2 (hown_f x.f2 HFIT.out.1 HFIT.out.2)).mono ?_); rintro e w9 ⟨v2, v4, rfl, h2, h4, hbb⟩; obtain ⟨A7, c7, rfl⟩ := Kd.R_slice h2; obtain ⟨A8, c8, rfl⟩ := Kd.R_slice h4; refine ⟨_, rfl, ?_⟩; have HE9 := aM (Kd.FK_mono (ok' := fun k => w.heap.size ≤ k ∧ k ≠ g2) (ed_of (x := x.f2) h2 h4) (fun k hk => ⟨Nat.le_trans HT8.out.size hk, fun e => by have := blk_lt HX8.out; omega⟩)); have HT9 := aM (HT8.out.below hbb (Nat.le_trans HH.out.lt.1 HT8.out.size)); have HG9 := aM (bB HG8.out hbb); have HX9 := aM (bB HX8.out hbb); clear h2 h4 hbb HX8 HG8 HT8; have hz0 := (bC HX9.out 0).trans (rfl : _ = some (Value.int .i64 0)); have hz1 := (bC HX9.out 1).trans (rfl : _ = some (Value.string ⟨#[]⟩)); have hz2 := (bC HX9.out 2).trans (rfl : _ = some (Value.slice none 0 0)); have hz3 := (bC HX9.out 3).trans (rfl : _ = some (Value.string ⟨#[]⟩)); have hz4 := (bC HX9.out 4).trans (rfl : _ = some (Value.slice none 0 0)); have hfz0 := bF HX9.out 0; have hfz1 := bF HX9.out 1; have hfz2 := bF HX9.out 2; have hfz3 := bF HX9.out 3; have hfz4 := bF HX9.out 4)
          )
        refine bodyPost_ret (results_ct rfl _ _ g2 34 _ (0, 0) _ rfl ((blk_set (blk_set (blk_set (blk_set (blk_set HX9.out 0 _) 1 _) 2 _) 3 _) 4 _).trans rfl) Try.underlying34 rfl (by kernel_rfl)) rfl ?_
        have ht : ∀ (i : Nat) (u : Value) (W : World), Turn B (fun k => k = g) w W → Turn B (fun k => k = g) w (W.setCell ⟨g2, i, none⟩ u) := fun i u W h => h.set (p := ⟨g2, i, none⟩) (.inr GE2.out) (Nat.le_trans HH.out.lt.1 GE2.out) u
        have hf : ∀ (i : Nat) (u : Value) (W : World) (cs : List Value), Kd.FK k34 W (fun k => w.heap.size ≤ k ∧ k ≠ g2) x.f2 cs → Kd.FK k34 (W.setCell ⟨g2, i, none⟩ u) (fun k => w.heap.size ≤ k ∧ k ≠ g2) x.f2 cs := fun i u W cs h => Kd.FK_step h (fun k hk _ => Below.heap_setCell W ⟨g2, i, none⟩ u k hk.2)
        unfold redoCode redoEd redoNow
        rw [HRD.out]
        refine ⟨_, rfl, ⟨_, rfl, Kd.FK_mono (hf _ _ _ _ (hf _ _ _ _ (hf _ _ _ _ (hf _ _ _ _ (hf _ _ _ _ HE9.out))))) (fun k hk => hk.1)⟩, ?_, (ht _ _ _ (ht _ _ _ (ht _ _ _ (ht _ _ _ (ht _ _ _ HT9.out))))).mono (fun k hk => .inl hk)⟩
        exact HH.out.of_g (ht _ _ _ (ht _ _ _ (ht _ _ _ (ht _ _ _ (ht _ _ _ HT9.out))))) ⟨fst0, bR (bR (bR (bR (bR HG9.out NG2.out _) NG2.out _) NG2.out _) NG2.out _) NG2.out _⟩
      · rw [show (x.f1 == now) = false from by simpa using hup]
        go_wp2
        go_roundg i
        case measure => exact Nat.lt_succ_self _
        case rel =>
          refine ⟨_, rfl, ⟨by have := HW.out.len; unfold wrap64; omega⟩, ⟨by omega⟩, ⟨fun j hj hij => ?_⟩, HRG7⟩
          by_cases hji : j = i
          · subst hji; rw [← HXE.out]; exact hup
          · exact HM.out j hj (by omega)
end Go.Proofs.Ytbbgpfjeobdogaa.PB
end
