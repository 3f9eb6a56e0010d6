/- What the row hangs on, part 3. -/
import Derived.Deep.MidRow
import Derived.Laws.BitsAllLaws
import Derived.Test.YtjkfkiebhgkolaaGreatDoorQOperSwaps2
section
namespace Go.Proofs.YtjkfkiebhgkolaaGreatDoor.PB
open Go.ChangeShapes Go.WideShapes Go.Proofs.YtjkfkiebhgkolaaGreatDoor Go.Proofs.YtjkfkiebhgkolaaGreatDoorW.PrintWords
set_option linter.unusedVariables false
def wf68 (x : S68) : Prop := ((Lit.int .u64 x.f0).wf = true) ∧ ((Lit.int .i64 x.f1).wf = true)
theorem opn68 {w : World} : Opn.Opn Tryz.prog w 68 k68 wf68 := by
  intro H enc base spare held fuel cs x h hz
  obtain ⟨xs, n, _, rfl, hlen, hyl, hf⟩ := DataW.trod_struct Tryz.underlying68 h
  have hcl : cs.length = 2 := hlen.trans (by kernel_rfl)
  obtain ⟨y0, y1, rfl⟩ : ∃ y0 y1, xs = [y0, y1] := by
    clear h hz hf hlen hcl; have hyl' : xs.length = 2 := hyl; clear hyl
    match xs, hyl' with | [y0, y1], _ => exact ⟨y0, y1, rfl⟩
  obtain ⟨c0, c1, rfl⟩ : ∃ c0 c1, cs = [c0, c1] := by
    clear h hz hf hlen hyl
    match cs, hcl with | [c0, c1], _ => exact ⟨c0, c1, rfl⟩
  simp only [DataW.weights, Tryz.underlying68] at hz
  have h0 : DataW.trod enc Tryz.prog w base spare held n 26 [c0] = some y0 := by have z := hf 0 _ rfl; rwa [show Tryz.prog.cellsOf _ = 1 from by kernel_rfl] at z
  obtain ⟨a0, k0_, w0⟩ := (Opn.int Tryz.underlying26) H enc base spare held n _ _ h0 (fun q hq => hz q (by simp [DataW.weightsEach, hq]))
  have h1 : DataW.trod enc Tryz.prog w base spare held n 3 [c1] = some y1 := by have z := hf 1 _ rfl; rwa [show Tryz.prog.cellsOf _ = 1 from by kernel_rfl] at z
  obtain ⟨a1, k1_, w1⟩ := (Opn.int Tryz.underlying3) H enc base spare held n _ _ h1 (fun q hq => hz q (by simp [DataW.weightsEach, hq]))
  exact ⟨⟨a0, a1⟩, ⟨_, _, rfl, k0_, k1_⟩, w0, w1⟩
def wf24 (x : S24) : Prop := (x.f0.size ≤ 140737488351232) ∧ (x.f1.length * 16 ≤ 140737488351232 ∧ ∀ x_ ∈ x.f1, wf68 x_)
theorem opn24 {w : World} : Opn.Opn Tryz.prog w 24 k24 wf24 := by
  intro H enc base spare held fuel cs x h hz
  obtain ⟨xs, n, _, rfl, hlen, hyl, hf⟩ := DataW.trod_struct Tryz.underlying24 h
  have hcl : cs.length = 2 := hlen.trans (by kernel_rfl)
  obtain ⟨y0, y1, rfl⟩ : ∃ y0 y1, xs = [y0, y1] := by
    clear h hz hf hlen hcl; have hyl' : xs.length = 2 := hyl; clear hyl
    match xs, hyl' with | [y0, y1], _ => exact ⟨y0, y1, rfl⟩
  obtain ⟨c0, c1, rfl⟩ : ∃ c0 c1, cs = [c0, c1] := by
    clear h hz hf hlen hyl
    match cs, hcl with | [c0, c1], _ => exact ⟨c0, c1, rfl⟩
  simp only [DataW.weights, Tryz.underlying24] at hz
  have h0 : DataW.trod enc Tryz.prog w base spare held n 9 [c0] = some y0 := by have z := hf 0 _ rfl; rwa [show Tryz.prog.cellsOf _ = 1 from by kernel_rfl] at z
  obtain ⟨a0, k0_, w0⟩ := (Opn.string Tryz.underlying9) H enc base spare held n _ _ h0 (fun q hq => hz q (by simp [DataW.weightsEach, hq]))
  have h1 : DataW.trod enc Tryz.prog w base spare held n 22 [c1] = some y1 := by have z := hf 1 _ rfl; rwa [show Tryz.prog.cellsOf _ = 1 from by kernel_rfl] at z
  obtain ⟨a1, k1_, w1⟩ := (Opn.slice Tryz.underlying22 (by kernel_rfl) (by kernel_rfl : Tryz.prog.bytesOf 68 = 16) opn68) H enc base spare held n _ _ h1 (fun q hq => hz q (by simp [DataW.weightsEach, hq]))
  exact ⟨⟨a0, a1⟩, ⟨_, _, rfl, k0_, k1_⟩, w0, w1⟩
def wf28 (x : S28) : Prop := ((Lit.int .i64 x.f0).wf = true) ∧ ((Lit.int .i64 x.f1).wf = true) ∧ (True)
theorem opn28 {w : World} : Opn.Opn Tryz.prog w 28 k28 wf28 := by
  intro H enc base spare held fuel cs x h hz
  obtain ⟨xs, n, _, rfl, hlen, hyl, hf⟩ := DataW.trod_struct Tryz.underlying28 h
  have hcl : cs.length = 3 := hlen.trans (by kernel_rfl)
  obtain ⟨y0, y1, y2, rfl⟩ : ∃ y0 y1 y2, xs = [y0, y1, y2] := by
    clear h hz hf hlen hcl; have hyl' : xs.length = 3 := hyl; clear hyl
    match xs, hyl' with | [y0, y1, y2], _ => exact ⟨y0, y1, y2, rfl⟩
  obtain ⟨c0, c1, c2, rfl⟩ : ∃ c0 c1 c2, cs = [c0, c1, c2] := by
    clear h hz hf hlen hyl
    match cs, hcl with | [c0, c1, c2], _ => exact ⟨c0, c1, c2, rfl⟩
  simp only [DataW.weights, Tryz.underlying28] at hz
  have h0 : DataW.trod enc Tryz.prog w base spare held n 3 [c0] = some y0 := by have z := hf 0 _ rfl; rwa [show Tryz.prog.cellsOf _ = 1 from by kernel_rfl] at z
  obtain ⟨a0, k0_, w0⟩ := (Opn.int Tryz.underlying3) H enc base spare held n _ _ h0 (fun q hq => hz q (by simp [DataW.weightsEach, hq]))
  have h1 : DataW.trod enc Tryz.prog w base spare held n 3 [c1] = some y1 := by have z := hf 1 _ rfl; rwa [show Tryz.prog.cellsOf _ = 1 from by kernel_rfl] at z
  obtain ⟨a1, k1_, w1⟩ := (Opn.int Tryz.underlying3) H enc base spare held n _ _ h1 (fun q hq => hz q (by simp [DataW.weightsEach, hq]))
  have h2 : DataW.trod enc Tryz.prog w base spare held n 4 [c2] = some y2 := by have z := hf 2 _ rfl; rwa [show Tryz.prog.cellsOf _ = 1 from by kernel_rfl] at z
  obtain ⟨a2, k2_, w2⟩ := (Opn.bool Tryz.underlying4) H enc base spare held n _ _ h2 (fun q hq => hz q (by simp [DataW.weightsEach, hq]))
  exact ⟨⟨a0, a1, a2⟩, ⟨_, _, rfl, k0_, ⟨_, _, rfl, k1_, k2_⟩⟩, w0, w1, w2⟩
def wf30 (x : S30) : Prop := (wf24 x.f0) ∧ (True)
theorem opn30 {w : World} : Opn.Opn Tryz.prog w 30 k30 wf30 := by
  intro H enc base spare held fuel cs x h hz
  obtain ⟨xs, n, _, rfl, hlen, hyl, hf⟩ := DataW.trod_struct Tryz.underlying30 h
  have hcl : cs.length = 3 := hlen.trans (by kernel_rfl)
  obtain ⟨y0, y1, rfl⟩ : ∃ y0 y1, xs = [y0, y1] := by
    clear h hz hf hlen hcl; have hyl' : xs.length = 2 := hyl; clear hyl
    match xs, hyl' with | [y0, y1], _ => exact ⟨y0, y1, rfl⟩
  obtain ⟨c0, c1, c2, rfl⟩ : ∃ c0 c1 c2, cs = [c0, c1, c2] := by
    clear h hz hf hlen hyl
    match cs, hcl with | [c0, c1, c2], _ => exact ⟨c0, c1, c2, rfl⟩
  simp only [DataW.weights, Tryz.underlying30] at hz
  have h0 : DataW.trod enc Tryz.prog w base spare held n 24 [c0, c1] = some y0 := by have z := hf 0 _ rfl; rwa [show Tryz.prog.cellsOf _ = 2 from by kernel_rfl] at z
  obtain ⟨a0, k0_, w0⟩ := opn24 H enc base spare held n _ _ h0 (fun q hq => hz q (by simp [DataW.weightsEach, hq]))
  have h1 : DataW.trod enc Tryz.prog w base spare held n 4 [c2] = some y1 := by have z := hf 1 _ rfl; rwa [show Tryz.prog.cellsOf _ = 1 from by kernel_rfl] at z
  obtain ⟨a1, k1_, w1⟩ := (Opn.bool Tryz.underlying4) H enc base spare held n _ _ h1 (fun q hq => hz q (by simp [DataW.weightsEach, hq]))
  exact ⟨⟨a0, a1⟩, ⟨_, _, rfl, k0_, k1_⟩, w0, w1⟩
def wf32 (x : S32) : Prop := (wf24 x.f0) ∧ ((Lit.int .u64 x.f1).wf = true) ∧ ((Lit.int .i32 x.f2).wf = true) ∧ (wf28 x.f3) ∧ ((Lit.int .i64 x.f4).wf = true) ∧ ((Lit.int .i64 x.f5).wf = true) ∧ (wf30 x.f6) ∧ (True)
theorem opn32 {w : World} : Opn.Opn Tryz.prog w 32 k32 wf32 := by
  intro H enc base spare held fuel cs x h hz
  obtain ⟨xs, n, _, rfl, hlen, hyl, hf⟩ := DataW.trod_struct Tryz.underlying32 h
  have hcl : cs.length = 13 := hlen.trans (by kernel_rfl)
  obtain ⟨y0, y1, y2, y3, y4, y5, y6, y7, rfl⟩ : ∃ y0 y1 y2 y3 y4 y5 y6 y7, xs = [y0, y1, y2, y3, y4, y5, y6, y7] := by
    clear h hz hf hlen hcl; have hyl' : xs.length = 8 := hyl; clear hyl
    match xs, hyl' with | [y0, y1, y2, y3, y4, y5, y6, y7], _ => exact ⟨y0, y1, y2, y3, y4, y5, y6, y7, rfl⟩
  obtain ⟨c0, c1, c2, c3, c4, c5, c6, c7, c8, c9, c10, c11, c12, rfl⟩ : ∃ c0 c1 c2 c3 c4 c5 c6 c7 c8 c9 c10 c11 c12, cs = [c0, c1, c2, c3, c4, c5, c6, c7, c8, c9, c10, c11, c12] := by
    clear h hz hf hlen hyl
    match cs, hcl with | [c0, c1, c2, c3, c4, c5, c6, c7, c8, c9, c10, c11, c12], _ => exact ⟨c0, c1, c2, c3, c4, c5, c6, c7, c8, c9, c10, c11, c12, rfl⟩
  simp only [DataW.weights, Tryz.underlying32] at hz
  have h0 : DataW.trod enc Tryz.prog w base spare held n 24 [c0, c1] = some y0 := by have z := hf 0 _ rfl; rwa [show Tryz.prog.cellsOf _ = 2 from by kernel_rfl] at z
  obtain ⟨a0, k0_, w0⟩ := opn24 H enc base spare held n _ _ h0 (fun q hq => hz q (by simp [DataW.weightsEach, hq]))
  have h1 : DataW.trod enc Tryz.prog w base spare held n 26 [c2] = some y1 := by have z := hf 1 _ rfl; rwa [show Tryz.prog.cellsOf _ = 1 from by kernel_rfl] at z
  obtain ⟨a1, k1_, w1⟩ := (Opn.int Tryz.underlying26) H enc base spare held n _ _ h1 (fun q hq => hz q (by simp [DataW.weightsEach, hq]))
  have h2 : DataW.trod enc Tryz.prog w base spare held n 21 [c3] = some y2 := by have z := hf 2 _ rfl; rwa [show Tryz.prog.cellsOf _ = 1 from by kernel_rfl] at z
  obtain ⟨a2, k2_, w2⟩ := (Opn.int Tryz.underlying21) H enc base spare held n _ _ h2 (fun q hq => hz q (by simp [DataW.weightsEach, hq]))
  have h3 : DataW.trod enc Tryz.prog w base spare held n 28 [c4, c5, c6] = some y3 := by have z := hf 3 _ rfl; rwa [show Tryz.prog.cellsOf _ = 3 from by kernel_rfl] at z
  obtain ⟨a3, k3_, w3⟩ := opn28 H enc base spare held n _ _ h3 (fun q hq => hz q (by simp [DataW.weightsEach, hq]))
  have h4 : DataW.trod enc Tryz.prog w base spare held n 3 [c7] = some y4 := by have z := hf 4 _ rfl; rwa [show Tryz.prog.cellsOf _ = 1 from by kernel_rfl] at z
  obtain ⟨a4, k4_, w4⟩ := (Opn.int Tryz.underlying3) H enc base spare held n _ _ h4 (fun q hq => hz q (by simp [DataW.weightsEach, hq]))
  have h5 : DataW.trod enc Tryz.prog w base spare held n 3 [c8] = some y5 := by have z := hf 5 _ rfl; rwa [show Tryz.prog.cellsOf _ = 1 from by kernel_rfl] at z
  obtain ⟨a5, k5_, w5⟩ := (Opn.int Tryz.underlying3) H enc base spare held n _ _ h5 (fun q hq => hz q (by simp [DataW.weightsEach, hq]))
  have h6 : DataW.trod enc Tryz.prog w base spare held n 30 [c9, c10, c11] = some y6 := by have z := hf 6 _ rfl; rwa [show Tryz.prog.cellsOf _ = 3 from by kernel_rfl] at z
  obtain ⟨a6, k6_, w6⟩ := opn30 H enc base spare held n _ _ h6 (fun q hq => hz q (by simp [DataW.weightsEach, hq]))
  have h7 : DataW.trod enc Tryz.prog w base spare held n 4 [c12] = some y7 := by have z := hf 7 _ rfl; rwa [show Tryz.prog.cellsOf _ = 1 from by kernel_rfl] at z
  obtain ⟨a7, k7_, w7⟩ := (Opn.bool Tryz.underlying4) H enc base spare held n _ _ h7 (fun q hq => hz q (by simp [DataW.weightsEach, hq]))
  exact ⟨⟨a0, a1, a2, a3, a4, a5, a6, a7⟩, ⟨_, _, rfl, k0_, ⟨_, _, rfl, k1_, ⟨_, _, rfl, k2_, ⟨_, _, rfl, k3_, ⟨_, _, rfl, k4_, ⟨_, _, rfl, k5_, ⟨_, _, rfl, k6_, k7_⟩⟩⟩⟩⟩⟩⟩, w0, w1, w2, w3, w4, w5, w6, w7⟩
end Go.Proofs.YtjkfkiebhgkolaaGreatDoor.PB
end

section
namespace Go.Proofs.YtjkfkiebhgkolaaGreatDoor.PB
open Go.RowKit Go.Proofs.YtjkfkiebhgkolaaGreatDoorW.PrintWords
set_option linter.unusedVariables false
theorem capped_nil : capped 0 [] := fun r hr => by cases hr
theorem gather0 (a b : Nat) (l : List S68) (h0 : ∀ r ∈ l, 0 ≤ r.f1) (hl : (bytes l).length ≤ 500000) (ha : a ≤ 500000) (hb : b ≤ 500000) :
  someTo addRun (a : Int) (b : Int) l 0 [] = pack (((bytes l).take b).drop a) := by
 have := someTo_pack a b l 0 [] 0 h0 capped_nil (by omega) (by omega) (by omega) (by omega) (by omega)
 simpa [pack] using this
theorem gather_all (l : List S68) (h0 : ∀ r ∈ l, 0 ≤ r.f1) (hl : (bytes l).length ≤ 4096) : someTo addRun 0 4096 l 0 [] = pack (bytes l) := by
 have := gather0 0 4096 l h0 (by omega) (by omega) (by omega)
 rw [List.take_of_length_le (by omega), List.drop_zero] at this
 exact this
def normalS (l : List S68) : List S68 × Int :=
 if (∃ j : Nat, j < l.length ∧ (rd_T68 l (j : Int)).f1 < 0) then ([], 2) else if tot l > 4096 then ([], 3) else (pack (bytes l), 0)
theorem notneg {l : List S68} (h : ¬ ∃ j : Nat, j < l.length ∧ (rd_T68 l (j : Int)).f1 < 0) : ∀ r ∈ l, 0 ≤ r.f1 := fun r hr => by
 obtain ⟨j, hj, rfl⟩ := List.mem_iff_getElem.1 hr
 have hh : ¬ (rd_T68 l (j : Int)).f1 < 0 := fun hn => h ⟨j, hj, hn⟩
 rw [rdT, List.getD_eq_getElem?_getD, List.getElem?_eq_getElem hj] at hh
 simp at hh
 exact hh
theorem normal_ev (l : List S68) (hl : l.length ≤ big) : Ev (fun k => runs_Normal.f k l) (normalS l) := by
 unfold runs_Normal.f normalS
 refine Ev.ite (fun _ => Ev.now _) (fun hn => ?_)
 refine Ev.bind (total_ev l hl) ?_
 refine Ev.ite (fun _ => Ev.now _) (fun ht => ?_)
 unfold big at hl
 refine Ev.pos (by omega) (ev_val (Ev.now _) ?_)
 have hb := tot_bytes (l := l) (by omega)
 rw [gather_all l (notneg hn) (by omega)]
theorem good_nrm {l : List S68} (h : good l = true) : nrm l ∧ tot l ≤ 4096 := by
 unfold good at h
 simpa using h
theorem nrm_nonneg {l : List S68} (h : nrm l) : ∀ r ∈ l, 0 ≤ r.f1 := fun r hr => by have := nrm_pos h r hr; omega
theorem step1_len (acc : List S68) (x : Int) : (step1 acc x).length ≤ acc.length + 1 := by
 unfold step1
 split
 ·simp
 ·simp
theorem packTo_len (b : List Int) : ∀ acc : List S68, (packTo acc b).length ≤ acc.length + b.length := by
 induction b with
 | nil => intro acc; simp [packTo]
 | cons x b ih => intro acc; have h1 := ih (step1 acc x); have h2 := step1_len acc x; show (packTo (step1 acc x) b).length ≤ _; rw [List.length_cons]; omega
theorem pack_len (b : List Int) : (pack b).length ≤ b.length := by have := packTo_len b []; simpa [pack] using this
end Go.Proofs.YtjkfkiebhgkolaaGreatDoor.PB
end

section
namespace Go.Proofs.YtjkfkiebhgkolaaGreatDoor.PB
set_option linter.unusedVariables false
def marksTo (n k : Nat) : List Bool := (List.range 64).map (fun i => decide (i < k) && n.testBit i)
def marksN (n : Nat) : List Bool := (List.range 64).map (fun i => n.testBit i)
theorem marksTo_len (n k : Nat) : (marksTo n k).length = 64 := by simp [marksTo]
theorem marksN_len (n : Nat) : (marksN n).length = 64 := by simp [marksN]
theorem marksTo_zero (n : Nat) : marksTo n 0 = List.replicate 64 false := by simp [marksTo]; rfl
theorem marksTo_all (n : Nat) : marksTo n 64 = marksN n := by
 unfold marksTo marksN
 apply List.map_congr_left
 intro i hi
 simp [List.mem_range.1 hi]
theorem marksTo_set (n k : Nat) (hk : k < 64) : (marksTo n k).set k (n.testBit k) = marksTo n (k + 1) := by
 apply List.ext_getElem?
 intro i
 rw [List.getElem?_set]
 unfold marksTo
 simp only [List.getElem?_map, List.length_map, List.length_range]
 by_cases hi : i < 64
 ·rw [List.getElem?_range hi]
  by_cases h : k = i
  ·subst h; simp [hk]
  ·have : decide (i < k) = decide (i < k + 1) := by rw [decide_eq_decide]; omega
   rw [if_neg h, Option.map_some, Option.map_some, this]
 ·rw [List.getElem?_eq_none (by simpa using hi), if_neg (by omega)]; rfl
theorem marksN_getD (n i : Nat) (hi : i < 64) : (marksN n).getD i false = n.testBit i := by
 unfold marksN
 rw [List.getD_eq_getElem?_getD, List.getElem?_map, List.getElem?_range hi]
 rfl
end Go.Proofs.YtjkfkiebhgkolaaGreatDoor.PB
end

section
namespace Go.Proofs.YtjkfkiebhgkolaaGreatDoor.PB
open Go.RowKit Go.Proofs.YtjkfkiebhgkolaaGreatDoorW.PrintWords Go.Proofs.YtjkfkiebhgkolaaGreatDoorW.PrintLast Go.Proofs.YtjkfkiebhgkolaaGreatDoorW.PrintMore
attribute [local go_sem] max2_int min2_int max_two min_two max_three min_three max_four min_four
set_option linter.unusedVariables false
set_option linter.unusedSimpArgs false
def mcells (l : List Bool) : Array Value := (bools l).toArray
theorem mcells_size (l : List Bool) : (mcells l).size = l.length := by simp [mcells, bools]
theorem mcells_get (l : List Bool) (i : Nat) (h : i < l.length) : (mcells l)[i]? = some (.bool (l.getD i false)) := by
 simp [mcells, bools, List.getD_eq_getElem?_getD, List.getElem?_eq_getElem h]
theorem mcells_set (l : List Bool) (i : Nat) (b : Bool) : (mcells l).setIfInBounds i (.bool b) = mcells (l.set i b) := by
 simp [mcells, bools, List.map_set]
theorem mcells_full (l : List Bool) (hl : l.length = 64) : (Tryz.prog.info? 170).map (fun i => i.size) = some (mcells l).size := by
 rw [mcells_size, hl]
 kernel_rfl
theorem mcells_one (l : List Bool) : (mcells l).all (·.oneCell') = true := by
 simp [mcells, bools, Value.oneCell']
theorem blk_there {w : World} {g : Nat} {t : TypeId} {l : List Bool} (h : w.heap[g]? = some (.cells (mcells l) t (0, 0))) : w.there g 0 l.length := fun j hj =>
 ⟨by rw [bC h, Nat.zero_add, mcells_get l j hj]; rfl, bF h _⟩
theorem setCells_blk {w : World} {g : Nat} {t : TypeId} {l m : List Bool} (h : w.heap[g]? = some (.cells (mcells l) t (0, 0))) (hl : m.length = l.length) :
  (w.setCells g 0 (mcells m).toList).heap[g]? = some (.cells (mcells m) t (0, 0)) := by
 obtain ⟨cur, h1, h2, h3⟩ := setCells_row (mcells m).toList 0 w (mcells l) h (by rw [Nat.zero_add, Array.length_toList, mcells_size, mcells_size, hl]; exact Nat.le_refl _)
 rw [h1]
 congr 2
 apply Array.toList_inj.1
 have hs : (mcells l).toList.length = (mcells m).toList.length := by rw [Array.length_toList, Array.length_toList, mcells_size, mcells_size, hl]
 rw [h3, List.take_zero, List.nil_append, List.drop_eq_nil_of_le (by omega), List.append_nil]
set_option maxHeartbeats 4000000 in
set_option maxRecDepth 100000 in
theorem Marks_calls (n : Nat) (hn : n < 2 ^ 64) (w : World) :
  Calls Tryz.prog 121 #[.int .u64 (n : Int)] w fun e w' => e = .returned (.agg (mcells (marksN n))) ∧ Below w.heap.size w w' := by
 go_enter Tryz.func121, Tryz.ntmps121
 have hn' : (n : Int) < 18446744073709551616 := by omega
 go_wp2_with (first | ((with_reducible refine gate_dst (N := 2) rfl ?_); refine box_event ?hg (N := 2) ?hd (cs := mcells (List.replicate 64 false)) (t := 170) ?hr ?_; (case hd => rfl); (case hg => rfl); (case hr => (go_simp; rfl)); intro g2 hg2 w2 hbox2 hb2; have HX2 := aM hbox2; have HB2 := aM hb2; have HE2 := aM hg2; clear hbox2 hb2 hg2) | ((with_reducible refine gate_dst (N := 3) rfl ?_); refine box_event ?hg (N := 3) ?hd (cs := mcells (List.replicate 64 false)) (t := 170) ?hr ?_; (case hd => rfl); (case hg => rfl); (case hr => (go_simp; rfl)); intro g3 hg3 w3 hbox3 hb3; have HX3 := aM hbox3; have HB3 := aM hb3; have HE3 := aM hg3; clear hbox3 hb3 hg3))
 have h23 : g2 < g3 := by have := HE3.out; have := blk_lt HX2.out; omega
 have hs2 : g2 = w.heap.size := HE2.out
 have HX2 := aM ((HB3.out.block g2 (blk_lt HX2.out)).trans HX2.out)
 have HBB := aM ((HB2.out).trans (HB3.out.mono (HB2.out.size)))
 rw [← marksTo_zero n] at HX3
 go_loopw [4, 5] (fun v4 v5 wr => ∃ (k : Nat), k ≤ 64 ∧ v5 = .int .i64 k ∧ v4 = .int .u64 ((n / 2 ^ k : Nat) : Int) ∧ Aside0 (wr.heap[g3]? = some (.cells (mcells (marksTo n k)) 170 (0, 0))) ∧ Aside0 (wr.heap[g2]? = some (.cells (mcells (List.replicate 64 false)) 170 (0, 0))) ∧ Aside0 (Below w.heap.size w wr)) (fun _ i _ => 64 - (intOf i).toNat)
 case atStart => exact ⟨0, by omega, rfl, by simp, HX3, HX2, HBB⟩
 case round =>
  obtain ⟨k, hk, rfl, rfl, HA, HC, HB⟩ := hrel
  by_cases hlt : k < 64
  ·have hq := Nat.div_div_eq_div_mul n (2 ^ k) 2
   rw [← Nat.pow_succ] at hq
   have hb : n.testBit k = ((((n / 2 ^ k : Nat) : Int) % 2) == 1) := by
    rw [Nat.testBit_eq_decide_div_mod_eq]
    generalize n / 2 ^ k = q
    rw [Bool.eq_iff_iff, decide_eq_true_iff, beq_iff_eq]
    omega
   have hq2 : ((n / 2 ^ k : Nat) : Int) / 2 = ((n / 2 ^ (k + 1) : Nat) : Int) := by rw [← hq]; omega
   have hle : n / 2 ^ k ≤ n := Nat.div_le_self _ _
   have hc := (bC HA.out k).trans (mcells_get _ k (by rw [marksTo_len]; exact hlt))
   have hf := bF HA.out k
   have HQ := aM hq2
   have HBT := aM hb
   clear hq hb hq2
   generalize n / 2 ^ k = q at *
   generalize hqq : n / 2 ^ (k + 1) = q2 at *
   have HQ2 := aM hqq
   clear hqq
   have hk0 : (0 : Int) ≤ (k : Int) := by omega
   have hk1 : (k : Int) < 64 := by omega
   go_wp2
   have hb2 := blk_set HA.out k (.bool ((q : Int) % 2 == 1))
   rw [← HBT.out, mcells_set, marksTo_set _ _ hlt] at hb2
   refine ⟨⟨k + 1, by omega, by go_num, by rw [HQ2.out, HQ.out], ⟨by rw [← HBT.out]; exact hb2⟩, ⟨bR HC.out (by show g2 ≠ g3; omega) _⟩, ⟨HB.out.setCell (by show w.heap.size ≤ g3; omega) _⟩⟩, by simp [intOf]; omega⟩
  ·obtain rfl : k = 64 := by omega
   have HA2 := HA.out
   rw [marksTo_all] at HA2
   have HA3 := aM HA2
   have ht := blk_there HC.out
   rw [List.length_replicate, ← marksN_len n, ← mcells_size] at ht
   have HT := aM ht
   clear HA2 ht hn hn'
   go_wp2_with (first | ((with_reducible refine gate_dst (N := 18) rfl ?_); refine wpList_load_row rfl 170 (.tmp 3) rfl g3 rfl 170 (mcells (marksN n)) (0, 0) _ HA3.out Tryz.underlying170 rfl (mcells_full _ (marksN_len n)) ?_) | ((with_reducible refine gate_store (t := 170) (p := 2) rfl ?_); refine wpList_store_mid rfl 170 (.tmp 2) (.tmp 18) rfl g2 0 (mcells (marksN n)) rfl rfl (HT.out) (mcells_full _ (marksN_len n)) (mcells_one _) ?_))
   have hz := setCells_blk HC.out (m := marksN n) (by rw [marksN_len, List.length_replicate])
   refine bodyPost_ret (results_cell_row rfl _ _ g2 170 (mcells (marksN n)) (0, 0) _ rfl hz Tryz.underlying170 rfl (mcells_full _ (marksN_len n))) rfl ⟨rfl, ?_⟩
   obtain ⟨s1, s2, s3, s4⟩ := setCells_same g2 (mcells (marksN n)).toList 0 wr
   exact HB.out.trans ⟨s1, s2, s3, by rw [s4]; exact Nat.le_refl _, fun i hi => setCells_far _ _ _ (by omega)⟩
theorem row_there {w : World} {g : Nat} {t : TypeId} {l m : List Bool} (h : w.heap[g]? = some (.cells (mcells l) t (0, 0))) (hl : l.length = 64) (hm : m.length = 64) : w.there g 0 (mcells m).size := by
 have := blk_there h
 rwa [hl, ← hm, ← mcells_size] at this
theorem setCells_below {B g : Nat} {w W : World} (h : Below B w W) (hB : B ≤ g) (vs : List Value) : Below B w (W.setCells g 0 vs) := by
 obtain ⟨s1, s2, s3, s4⟩ := setCells_same g vs 0 W
 exact h.trans ⟨s1, s2, s3, by rw [s4]; exact Nat.le_refl _, fun i hi => setCells_far _ _ _ (by omega)⟩
theorem blk_later {w w1 : World} {g : Nat} {o : Obj} (h : w.heap[g]? = some o) (hb : Below w.heap.size w w1) : w1.heap[g]? = some o := (hb.block g (blk_lt h)).trans h
theorem blk_other {w : World} {g g2 : Nat} {o : Obj} (h : w.heap[g]? = some o) (hne : g ≠ g2) (vs : List Value) : (w.setCells g2 0 vs).heap[g]? = some o := (setCells_far _ _ _ hne).trans h
theorem zlen : (List.replicate 64 false).length = 64 := List.length_replicate
def belowN (a b : Nat) : Bool := (List.range 64).all (fun i => !a.testBit i || b.testBit i)
theorem belowN_yes {a b : Nat} (h : ∀ i, i < 64 → a.testBit i = true → b.testBit i = true) : belowN a b = true := by
 unfold belowN
 rw [List.all_eq_true]
 intro i hi
 have := h i (List.mem_range.1 hi)
 cases ha : a.testBit i <;> simp_all
theorem belowN_no {a b i : Nat} (hi : i < 64) (ha : a.testBit i = true) (hb : b.testBit i = false) : belowN a b = false := by
 unfold belowN
 rw [List.all_eq_false]
 exact ⟨i, List.mem_range.2 hi, by simp [ha, hb]⟩
theorem belowN_bits (a b : Nat) (ha : a < 2 ^ 64) (hb : b < 2 ^ 64) : (Go.bits .andNot .u64 (a : Int) (b : Int) == 0) = belowN a b := by
 rw [u64_andNot_nat a b ha hb]
 have hs : ∀ i, (a &&& (18446744073709551615 - b)).testBit i = (a.testBit i && (decide (i < 64) && !b.testBit i)) := fun i => by
  rw [Nat.testBit_and, show 18446744073709551615 - b = 2 ^ 64 - (b + 1) by omega, Nat.testBit_two_pow_sub_succ hb]
 cases h : belowN a b with
 | true =>
  have h0 : a &&& (18446744073709551615 - b) = 0 := by
   apply Nat.eq_of_testBit_eq
   intro i
   rw [hs, Nat.zero_testBit]
   by_cases hi : i < 64
   ·unfold belowN at h
    have := List.all_eq_true.1 h i (List.mem_range.2 hi)
    cases ha : a.testBit i <;> cases hb : b.testBit i <;> simp_all
   ·simp [hi]
  rw [h0]; rfl
 | false =>
  unfold belowN at h
  obtain ⟨i, hi, hc⟩ := List.all_eq_false.1 h
  have hz : (a &&& (18446744073709551615 - b)).testBit i = true := by
   rw [hs]
   have := List.mem_range.1 hi
   cases ha : a.testBit i <;> cases hb : b.testBit i <;> simp_all
  rw [beq_eq_false_iff_ne]
  intro he
  have : a &&& (18446744073709551615 - b) = 0 := by omega
  rw [this, Nat.zero_testBit] at hz
  cases hz
set_option maxHeartbeats 4000000 in
set_option maxRecDepth 100000 in
theorem Below_calls (a b : Nat) (ha : a < 2 ^ 64) (hb : b < 2 ^ 64) (w : World) :
  Calls Tryz.prog 69 #[.int .u64 (a : Int), .int .u64 (b : Int)] w fun e w' => e = .returned (.bool (belowN a b)) ∧ Below w.heap.size w w' := by
 have HM1 := aM (fun W => Marks_calls a ha W)
 have HM2 := aM (fun W => Marks_calls b hb W)
 clear ha hb
 go_enter Tryz.func69, Tryz.ntmps69
 go_wp2_with fail
 refine (HM1.out _).mono ?_
 rintro e w1 ⟨rfl, hb1⟩
 have HC1 := aM hb1
 clear hb1
 go_wp2_with fail
 refine (HM2.out _).mono ?_
 rintro e w2 ⟨rfl, hb2⟩
 have HC2 := aM (HC1.out.trans (hb2.mono HC1.out.size))
 clear hb2
 go_wp2_with (first | ((with_reducible refine gate_dst (N := 5) rfl ?_); refine box_event ?hg (N := 5) ?hd (cs := mcells (List.replicate 64 false)) (t := 170) ?hr ?_; (case hd => rfl); (case hg => rfl); (case hr => first | (go_simp; done) | (go_simp; rfl)); intro g5 hg5 w5 hbox5 hb5; have HX5 := aM hbox5; have HB5 := aM hb5; have HE5 := aM hg5; clear hbox5 hb5 hg5) | ((with_reducible refine gate_dst (N := 6) rfl ?_); refine box_event ?hg (N := 6) ?hd (cs := mcells (List.replicate 64 false)) (t := 170) ?hr ?_; (case hd => rfl); (case hg => rfl); (case hr => first | (go_simp; done) | (go_simp; rfl)); intro g6 hg6 w6 hbox6 hb6; have HX6 := aM hbox6; have HB6 := aM hb6; have HE6 := aM hg6; clear hbox6 hb6 hg6) | ((with_reducible refine gate_store (t := 170) (p := 5) rfl ?_); refine wpList_store_mid rfl 170 (.tmp 5) (.tmp 9) rfl g5 0 (mcells (marksN a)) rfl rfl ?ht (mcells_full _ (marksN_len a)) (mcells_one _) ?_; (case ht => exact row_there (blk_later HX5.out HB6.out) zlen (marksN_len a)); have HS5 := aM (setCells_blk (blk_later HX5.out HB6.out) (m := marksN a) ((marksN_len a).trans zlen.symm)); have HS6 := aM (blk_other HX6.out (g2 := g5) (by have h1 := HE6.out; have h2 := blk_lt HX5.out; omega) (mcells (marksN a)).toList); have HD5 := aM (setCells_below (HC2.out.trans ((HB5.out.trans (HB6.out.mono HB5.out.size)).mono HC2.out.size)) (by have h1 := HE5.out; have h2 := HC2.out.size; omega : w.heap.size ≤ g5) (mcells (marksN a)).toList); generalize (World.setCells w6 g5 0 (mcells (marksN a)).toList) = w7 at HS5 HS6 HD5 ⊢) | ((with_reducible refine gate_store (t := 170) (p := 6) rfl ?_); refine wpList_store_mid rfl 170 (.tmp 6) (.tmp 11) rfl g6 0 (mcells (marksN b)) rfl rfl ?ht (mcells_full _ (marksN_len b)) (mcells_one _) ?_; (case ht => exact row_there HS6.out zlen (marksN_len b)); have HU6 := aM (setCells_blk HS6.out (m := marksN b) ((marksN_len b).trans zlen.symm)); have HU5 := aM (blk_other HS5.out (g2 := g6) (by have h1 := HE6.out; have h2 := blk_lt HX5.out; omega) (mcells (marksN b)).toList); have HD6 := aM (setCells_below HD5.out (by have h1 := HE6.out; have h2 := HC2.out.size; have h3 := HB5.out.size; omega : w.heap.size ≤ g6) (mcells (marksN b)).toList); generalize (World.setCells w7 g6 0 (mcells (marksN b)).toList) = w8 at HU5 HU6 HD6 ⊢))
 have h56 : g5 < g6 := by have h1 := HE6.out; have h2 := blk_lt HX5.out; omega
 go_loopw [7] (fun v8 wr => ∃ (k : Nat), k ≤ 64 ∧ v8 = .int .i64 k ∧ Aside0 (∀ i, i < k → a.testBit i = true → b.testBit i = true) ∧ Aside0 (wr.heap[g5]? = some (.cells (mcells (marksN a)) 170 (0, 0))) ∧ Aside0 (wr.heap[g6]? = some (.cells (mcells (marksN b)) 170 (0, 0))) ∧ Aside0 (Below w.heap.size w wr)) (fun i _ => 64 - (intOf i).toNat)
 case atStart => exact ⟨0, by omega, rfl, ⟨fun i hi => absurd hi (by omega)⟩, HU5, HU6, HD6⟩
 case round =>
  obtain ⟨k, hk, rfl, HA, HP, HQ, HB⟩ := hrel
  by_cases hlt : k < 64
  ·have hc5 := (bC HP.out k).trans (mcells_get _ k (by rw [marksN_len]; exact hlt))
   have hc6 := (bC HQ.out k).trans (mcells_get _ k (by rw [marksN_len]; exact hlt))
   rw [marksN_getD _ _ hlt] at hc5 hc6
   have hk0 : (0 : Int) ≤ (k : Int) := by omega
   have hk1 : (k : Int) < 64 := by omega
   have HNO := aM (fun h1 h2 => belowN_no (a := a) (b := b) hlt h1 h2)
   have HYES := aM (fun (h1 : a.testBit k = true → b.testBit k = true) (i : Nat) (hi : i < k + 1) (h2 : a.testBit i = true) => (by
    rcases Nat.lt_or_ge i k with h | h
    ·exact HA.out i h h2
    ·obtain rfl : i = k := by omega
     exact h1 h2 : b.testBit i = true))
   cases hx : a.testBit k <;> cases hy : b.testBit k
   all_goals
    rw [hx, hy] at HNO HYES
    rw [hx] at hc5
    rw [hy] at hc6
    have HXY := aM (And.intro hx hy)
    clear hx hy
   case true.false =>
    go_wp2
    go_ret
    rw [HNO.out (by simp) (by simp)]
    exact ⟨rfl, HB.out⟩
   all_goals
    go_wp2
    exact ⟨⟨k + 1, by omega, by go_num, ⟨HYES.out (by simp)⟩, HP, HQ, HB⟩, by simp [intOf]; omega⟩
  ·obtain rfl : k = 64 := by omega
   have hy := belowN_yes HA.out
   have HY := aM hy
   clear hy
   go_wp2
   go_ret
   rw [HY.out]
   exact ⟨rfl, HB.out⟩
def bureauref01_Below.f (a0 : Int) (a1 : Int) : Option Bool := if 0 ≤ a0 ∧ a0 < 18446744073709551616 ∧ 0 ≤ a1 ∧ a1 < 18446744073709551616 then some (Go.bits .andNot .u64 a0 a1 == 0) else none
theorem bureauref01_Below.calls (a0 : Int) (a1 : Int) (r : Bool) (w : World) (h : bureauref01_Below.f a0 a1 = some r) :
  Calls Tryz.prog 69 #[.int .u64 a0, .int .u64 a1] w fun e w' => e = .returned (.bool r) ∧ Below w.heap.size w w' := by
 unfold bureauref01_Below.f at h
 split at h
 case isFalse => cases h
 rename_i hc
 injection h with h
 subst h
 obtain ⟨a, rfl⟩ := Int.eq_ofNat_of_zero_le hc.1
 obtain ⟨b, rfl⟩ := Int.eq_ofNat_of_zero_le hc.2.2.1
 rw [belowN_bits a b (by omega) (by omega)]
 exact Below_calls a b (by omega) (by omega) w
end Go.Proofs.YtjkfkiebhgkolaaGreatDoor.PB
end

section
namespace Go.Proofs.YtjkfkiebhgkolaaGreatDoor.PB
open Go.RowKit Go.Proofs.YtjkfkiebhgkolaaGreatDoorW.PrintWords
set_option linter.unusedVariables false
def withinB (l : List S68) (a b : Int) : Bool := good l && (decide (0 ≤ a) && (decide (a ≤ b) && decide (b ≤ tot l)))
theorem withinB_iff {l : List S68} {a b : Int} : withinB l a b = true ↔ good l = true ∧ 0 ≤ a ∧ a ≤ b ∧ b ≤ tot l := by simp [withinB]
theorem within_ev (l : List S68) (hl : l.length ≤ big) (a b : Int) : Ev (fun k => runs_within.f k l a b) (withinB l a b) := by
 unfold runs_within.f
 refine Ev.bind (good_ev l hl) ?_
 by_cases hg : good l = true
 ·refine Ev.pos hg ?_
  by_cases h0 : a ≥ 0
  ·refine Ev.pos h0 ?_
   by_cases h1 : a ≤ b
   ·refine Ev.pos h1 (Ev.bind (total_ev l hl) (ev_val (Ev.now _) ?_))
    simp [withinB, hg, h1, show 0 ≤ a from h0]
   ·exact Ev.neg h1 (ev_val (Ev.now _) (by simp [withinB, h1]))
  ·exact Ev.neg h0 (ev_val (Ev.now _) (by simp [withinB]; intro _ h; omega))
 ·exact Ev.neg hg (ev_val (Ev.now _) (by simp [withinB, hg]))
theorem within_facts {l : List S68} {a b : Int} (h : withinB l a b = true) : ∃ i j : Nat, a = i ∧ b = j ∧ i ≤ j ∧ j ≤ (bytes l).length ∧ (bytes l).length ≤ 4096 ∧ nrm l ∧ tot l = (bytes l).length := by
 obtain ⟨hg, h0, h1, h2⟩ := withinB_iff.1 h
 obtain ⟨hn, ht⟩ := good_nrm hg
 have hb := tot_bytes ht
 obtain ⟨i, rfl⟩ := Int.eq_ofNat_of_zero_le h0
 obtain ⟨j, rfl⟩ := Int.eq_ofNat_of_zero_le (show 0 ≤ b by omega)
 exact ⟨i, j, rfl, rfl, by omega, by omega, by omega, hn, hb⟩
def sliceS (l : List S68) (a b : Int) : List S68 × Int := if withinB l a b = true then (pack (((bytes l).take b.toNat).drop a.toNat), 0) else ([], 2)
theorem slice_ev (l : List S68) (hl : l.length ≤ big) (a b : Int) : Ev (fun k => runs_Slice.f k l a b) (sliceS l a b) := by
 unfold runs_Slice.f sliceS
 refine Ev.bind (within_ev l hl a b) ?_
 refine Ev.ite (fun hw => ?_) (fun _ => Ev.now _)
 obtain ⟨i, j, rfl, rfl, hij, hj, h4, hn, _⟩ := within_facts hw
 unfold big at hl
 refine Ev.pos (by omega) (ev_val (Ev.now _) ?_)
 rw [gather0 i j l (nrm_nonneg hn) (by omega) (by omega) (by omega)]
 rfl
theorem wf_u64 {n : Int} (h : (Lit.int .u64 n).wf = true) : 0 ≤ n ∧ n < 18446744073709551616 := by
 have hmin : IntKind.u64.min = 0 := rfl
 have hmax : IntKind.u64.max = 18446744073709551615 := rfl
 simp only [Lit.wf, Bool.and_eq_true, decide_eq_true_eq, hmin, hmax] at h
 omega
theorem wf_labels {l : List S68} (h : ∀ x ∈ l, wf68 x) : ∀ r ∈ l, 0 ≤ r.f0 ∧ r.f0 < 18446744073709551616 := fun r hr => wf_u64 (h r hr).1
def spliceS (l : List S68) (a b : Int) (m : List S68) : List S68 × Int :=
 if withinB l a b = true then (if good m = true then (if tot l - (b - a) + tot m > 4096 then ([], 3) else (pack ((bytes l).take a.toNat ++ bytes m ++ (bytes l).drop b.toNat), 0)) else ([], 2)) else ([], 2)
theorem good_facts {m : List S68} (h : good m = true) : nrm m ∧ (bytes m).length ≤ 4096 ∧ tot m = (bytes m).length := by
 obtain ⟨hn, ht⟩ := good_nrm h
 have hb := tot_bytes ht
 exact ⟨hn, by omega, hb⟩
theorem spliceRuns_pack (l m : List S68) (i j : Nat) (hi : i ≤ 4096) (hj : j ≤ 4096) (hl : (bytes l).length ≤ 4096) (hm : (bytes m).length ≤ 4096) (hn : nrm l) (hnm : nrm m) :
  spliceRuns l i j m = pack ((bytes l).take i ++ bytes m ++ (bytes l).drop j) := by
 unfold spliceRuns
 have e1 := someTo_pack 0 i l 0 [] 0 (nrm_nonneg hn) capped_nil (by omega) (by omega) (by omega) (by omega) (by omega)
 rw [show ((0 : Nat) : Int) = 0 from rfl, Nat.sub_zero, Nat.sub_zero, List.drop_zero] at e1
 rw [e1]
 have c1 := packTo_capped ((bytes l).take i) (capped_nil) (show (0 : Int) ≤ 0 by omega)
 have hlen1 : ((bytes l).take i).length ≤ 4096 := by rw [List.length_take]; omega
 have e2 := someTo_pack 0 4096 m 0 _ _ (nrm_nonneg hnm) c1 (by omega) (by omega) (by omega) (by omega) (by omega)
 rw [show ((0 : Nat) : Int) = 0 from rfl, show ((4096 : Nat) : Int) = 4096 from rfl, Nat.sub_zero, Nat.sub_zero, List.drop_zero, List.take_of_length_le hm] at e2
 rw [e2]
 have c2 := packTo_capped (bytes m) c1 (by omega)
 have e3 := someTo_pack j 4096 l 0 _ _ (nrm_nonneg hn) c2 (by omega) (by omega) (by omega) (by omega) (by omega)
 rw [show ((0 : Nat) : Int) = 0 from rfl, show ((4096 : Nat) : Int) = 4096 from rfl, Nat.sub_zero, Nat.sub_zero, List.take_of_length_le hl] at e3
 rw [e3]
 unfold pack
 rw [packTo_append, packTo_append]
theorem splice_ev (l : List S68) (hl : l.length ≤ big) (a b : Int) (m : List S68) (hm : m.length ≤ big) : Ev (fun k => runs_Splice.f k l a b m) (spliceS l a b m) := by
 unfold runs_Splice.f spliceS
 refine Ev.bind (within_ev l hl a b) ?_
 refine Ev.ite (fun hw => ?_) (fun _ => Ev.now _)
 refine Ev.bind (good_ev m hm) ?_
 refine Ev.ite (fun hg => ?_) (fun _ => Ev.now _)
 refine Ev.bind (total_ev l hl) (Ev.bind (total_ev m hm) ?_)
 obtain ⟨i, j, rfl, rfl, hij, hj, h4, hn, ht⟩ := within_facts hw
 obtain ⟨hnm, h4m, htm⟩ := good_facts hg
 rw [show wrap64 (wrap64 (tot l - wrap64 ((j : Int) - (i : Int))) + tot m) = tot l - ((j : Int) - (i : Int)) + tot m by unfold wrap64; omega]
 refine Ev.ite (fun _ => Ev.now _) (fun _ => ?_)
 unfold big at hl hm
 refine Ev.pos (by omega) (ev_val (Ev.now _) ?_)
 rw [spliceRuns_pack l m i j (by omega) (by omega) h4 h4m hn hnm]
 rfl
theorem good_pack {b : List Int} (h : b.length ≤ 4096) : good (pack b) = true ∧ tot (pack b) = b.length := by
 have hn := pack_nrm b
 have ht : tot (pack b) = b.length := by
  rw [tot_of_bytes (nrm_nonneg hn) (by rw [pack_bytes]; exact h), pack_bytes]
 exact ⟨by unfold good; rw [Bool.and_eq_true, decide_eq_true_iff, decide_eq_true_iff]; exact ⟨hn, by omega⟩, ht⟩
theorem bytes_mem {l : List S68} {x : Int} (h : x ∈ bytes l) : ∃ r ∈ l, r.f0 = x := by
 obtain ⟨r, hr, hx⟩ := List.mem_flatMap.1 h
 exact ⟨r, hr, (List.eq_of_mem_replicate hx).symm⟩
end Go.Proofs.YtjkfkiebhgkolaaGreatDoor.PB
end

section
namespace Go.Proofs.YtjkfkiebhgkolaaGreatDoor.PB
open Go.RowKit Go.Proofs.YtjkfkiebhgkolaaGreatDoorW.PrintWords Go.Proofs.YtjkfkiebhgkolaaGreatDoorW.PrintLast Go.Proofs.YtjkfkiebhgkolaaGreatDoorW.PrintMore
attribute [local go_sem] max2_int min2_int max_two min_two max_three min_three max_four min_four   
set_option linter.unusedVariables false
set_option linter.unusedSimpArgs false
attribute [local go_sem high] eqA68
def api_Run.l0 : Nat → List (S68) → List (S68) → Int → Int → Option (Bool)
 | 0, _, _, _, _ => none
 | k + 1, x0, x1, x12, x13 => if x13 < x12 then (if 0 ≤ x13 then (if x13 < (x0.length : Int) then (if x13 < (x1.length : Int) then (if (!(((rd_T68 x0 x13).f0) == ((rd_T68 x1 x13).f0)) || (!(((rd_T68 x0 x13).f1) == ((rd_T68 x1 x13).f1)))) = true then (some false) else (api_Run.l0 k x0 x1 x12 (wrap64 (x13 + 1)))) else (none)) else (none)) else (none)) else (some true)
def api_Run.f (k : Nat) (l0 : List (S68)) (l1 : List (S68)) : Option (Bool) := if (l0.length : Int) = (l1.length : Int) then (api_Run.l0 k l0 l1 (l0.length : Int) 0) else (some false)
set_option maxHeartbeats 8000000 in
set_option maxRecDepth 100000 in
theorem api_Run.calls (k : Nat) (A0 : Option Addr) (c0 : Nat) (l0 : List (S68)) (A1 : Option Addr) (c1 : Nat) (l1 : List (S68)) (r : Bool) (w : World) (hr0 : Kd.C k68 w A0 l0.length l0) (hc0 : l0.length ≤ c0) (hr1 : Kd.C k68 w A1 l1.length l1) (hc1 : l1.length ≤ c1) (h : api_Run.f k l0 l1 = some r) :
  Calls Tryz.prog 165 #[.slice A0 l0.length c0, .slice A1 l1.length c1] w fun e w' => e = .returned (.bool r) ∧ Drawn0 w w' := by
 have hu68 := Tryz.underlying68
 have HR0 := aM hr0
 have HC0 := aM hc0
 clear hr0 hc0
 have HR1 := aM hr1
 have HC1 := aM hc1
 clear hr1 hc1
 have H : (if (l0.length : Int) = (l1.length : Int) then (api_Run.l0 k l0 l1 (l0.length : Int) 0) else (some false)) = some r := h
 clear h
 by_cases c3 : (l0.length : Int) = (l1.length : Int)
 ·rw [if_pos c3] at H
  have c3b0 : ((l0.length : Int) == (l1.length : Int)) = true := beq_iff_eq.mpr c3
  have c3b1 : ((l0.length : Int) != (l1.length : Int)) = false := bne_eq_false_iff_eq.mpr c3
  have c3b2 : (l0.length == l1.length) = true := by first | simpa using c3 | (simp at c3 ⊢; omega)
  clear c3
  have H' := aM H
  clear H
  go_enter Tryz.func165, Tryz.ntmps165
  go_wp2
  repeat (go_quiet (fail); try go_wp2)
  go_loopg [13] k (fun kq v13 w' => ∃ (x13_1 : Int), v13 = .int .i64 x13_1 ∧ Aside0 (api_Run.l0 kq l0 l1 (l0.length : Int) x13_1 = some r) ∧ Aside0 (kq ≤ k) ∧ Drawn0 w w')
  case atStart => exact ⟨(0), (by first | rfl | (simp; done) | (simp [*]; done)), H', ⟨Nat.le_refl _⟩, by repeat (first | exact Drawn0.refl _ | apply Drawn0.step)⟩
  case round =>
   clear H'
   try clear c1
   try clear p2
   try clear c3
   try clear c3b0
   try clear c3b1
   try clear c3b2
   obtain ⟨x13_1, rfl, HA, HK1, ⟨m1, rfl⟩⟩ := hrel
   cases gk with
   | zero => exact absurd HA.out (by simp [api_Run.l0])
   | succ k1 =>
    have H := HA.out
    clear HA
    simp only [api_Run.l0] at H
    by_cases c4 : x13_1 < (l0.length : Int)
    ·rw [if_pos c4] at H
     have c4b0 : decide (x13_1 < (l0.length : Int)) = true := decide_eq_true c4
     clear c4
     by_cases c5 : 0 ≤ x13_1
     ·rw [if_pos c5] at H
      have c5b0 : decide (0 ≤ x13_1) = true := decide_eq_true c5
      clear c5
      by_cases c6 : x13_1 < (l0.length : Int)
      ·rw [if_pos c6] at H
       have c6b0 : decide (x13_1 < (l0.length : Int)) = true := decide_eq_true c6
       clear c6
       by_cases c7 : x13_1 < (l1.length : Int)
       ·rw [if_pos c7] at H
        have c7b0 : decide (x13_1 < (l1.length : Int)) = true := decide_eq_true c7
        clear c7
        by_cases c8 : (!(((rd_T68 l0 x13_1).f0) == ((rd_T68 l1 x13_1).f0)) || (!(((rd_T68 l0 x13_1).f1) == ((rd_T68 l1 x13_1).f1)))) = true
        ·rw [if_pos c8] at H
         have c8b0 : (!(((rd_T68 l0 x13_1).f0) == ((rd_T68 l1 x13_1).f0)) || (!(((rd_T68 l0 x13_1).f1) == ((rd_T68 l1 x13_1).f1)))) = true := c8
         clear c8
         obtain rfl := Option.some.inj H
         have p153 : 0 ≤ (x13_1 : Int) := of_decide_eq_true (by first | (with_reducible assumption) | assumption)
         have q153 : x13_1 < (l0.length : Int) := of_decide_eq_true (by first | (with_reducible assumption) | assumption)
         obtain ⟨ad153, e153, hx153_0, hx153_1⟩ := at_T68 HR0.out x13_1 p153 q153
         cases e153
         replace p153 := eq_true p153
         replace q153 := eq_true q153
         have p154 : 0 ≤ (x13_1 : Int) := of_decide_eq_true (by first | (with_reducible assumption) | assumption)
         have q154 : x13_1 < (l1.length : Int) := of_decide_eq_true (by first | (with_reducible assumption) | assumption)
         obtain ⟨ad154, e154, hx154_0, hx154_1⟩ := at_T68 HR1.out x13_1 p154 q154
         cases e154
         replace p154 := eq_true p154
         replace q154 := eq_true q154
         go_wp2
         repeat (go_quiet (fail); try go_wp2)
         go_ret
         exact ⟨by first | rfl | (simp; done) | (simp [*]; done), by repeat (first | exact Drawn0.refl _ | apply Drawn0.step)⟩
        ·rw [if_neg c8] at H
         have c8b0 : (!(((rd_T68 l0 x13_1).f0) == ((rd_T68 l1 x13_1).f0)) || (!(((rd_T68 l0 x13_1).f1) == ((rd_T68 l1 x13_1).f1)))) = false := by simpa using c8
         clear c8
         have H' := aM H
         clear H
         have p153 : 0 ≤ (x13_1 : Int) := of_decide_eq_true (by first | (with_reducible assumption) | assumption)
         have q153 : x13_1 < (l0.length : Int) := of_decide_eq_true (by first | (with_reducible assumption) | assumption)
         obtain ⟨ad153, e153, hx153_0, hx153_1⟩ := at_T68 HR0.out x13_1 p153 q153
         cases e153
         replace p153 := eq_true p153
         replace q153 := eq_true q153
         have p154 : 0 ≤ (x13_1 : Int) := of_decide_eq_true (by first | (with_reducible assumption) | assumption)
         have q154 : x13_1 < (l1.length : Int) := of_decide_eq_true (by first | (with_reducible assumption) | assumption)
         obtain ⟨ad154, e154, hx154_0, hx154_1⟩ := at_T68 HR1.out x13_1 p154 q154
         cases e154
         replace p154 := eq_true p154
         replace q154 := eq_true q154
         go_wp2
         repeat (go_quiet (fail); try go_wp2)
         go_roundg k1
         case measure => have := HK1.out; omega
         case rel => exact ⟨(wrap64 (x13_1 + 1)), (by first | rfl | (simp; done) | (simp [*]; done)), H', ⟨by have := HK1.out; omega⟩, by repeat (first | exact Drawn0.refl _ | apply Drawn0.step)⟩
       ·rw [if_neg c7] at H
        exact absurd H (by simp)
      ·rw [if_neg c6] at H
       exact absurd H (by simp)
     ·rw [if_neg c5] at H
      exact absurd H (by simp)
    ·rw [if_neg c4] at H
     have c4b0 : decide (x13_1 < (l0.length : Int)) = false := decide_eq_false c4
     clear c4
     obtain rfl := Option.some.inj H
     go_wp2
     repeat (go_quiet (fail); try go_wp2)
     go_ret
     exact ⟨by first | rfl | (simp; done) | (simp [*]; done), by repeat (first | exact Drawn0.refl _ | apply Drawn0.step)⟩
 ·rw [if_neg c3] at H
  have c3b0 : ((l0.length : Int) == (l1.length : Int)) = false := beq_eq_false_iff_ne.mpr c3
  have c3b1 : ((l0.length : Int) != (l1.length : Int)) = true := bne_iff_ne.mpr c3
  have c3b2 : (l0.length == l1.length) = false := by first | simpa using c3 | (simp at c3 ⊢; omega)
  obtain rfl := Option.some.inj H
  go_enter Tryz.func165, Tryz.ntmps165
  go_wp2
  repeat (go_quiet (fail); try go_wp2)
  go_ret
  exact ⟨by first | rfl | (simp; done) | (simp [*]; done), by repeat (first | exact Drawn0.refl _ | apply Drawn0.step)⟩
end Go.Proofs.YtjkfkiebhgkolaaGreatDoor.PB
end

section
namespace Go.Proofs.YtjkfkiebhgkolaaGreatDoor.PB
open Go.RowKit Go.Proofs.YtjkfkiebhgkolaaGreatDoorW.PrintWords Go.Proofs.YtjkfkiebhgkolaaGreatDoorW.PrintLast Go.Proofs.YtjkfkiebhgkolaaGreatDoorW.PrintMore
attribute [local go_sem] max2_int min2_int max_two min_two max_three min_three max_four min_four   
set_option linter.unusedVariables false
set_option linter.unusedSimpArgs false
def strip_Good.f (k : Nat) (a0_0 : ByteArray) (l0_1 : List (S68)) : Option (Bool) := (runs_Good.f k l0_1).bind fun t108 => (if t108 = true then ((runs_Total.f k l0_1).bind fun t109 => (some (t109 == (a0_0.size : Int)))) else (some false))
def strip_Good.T1 : Bool × List (List Nat × List Nat) := (true, [([], []), ([0], [0]), ([1], [1]), ([2, 2], [2]), ([3], [3]), ([4, 3], [3, 4]), ([5, 3, 3], [3, 5]), ([3], [3]), ([7, 3], [3, 7]), ([8, 3], [3, 8]), ([6, 9, 3], [3, 6, 9]), ([3, 10], [3, 10]), ([11, 6, 0, 1, 2, 3, 4, 5, 6, 7, 8, 9, 10, 11], [11])])
def strip_Good.B1 : List Nat := [0, 1, 3, 7, 15, 31, 63, 15, 143, 399, 1023, 2047, 4095]
theorem strip_Good.tab1 : rtab .any (opsOf Tryz.f59 1) = strip_Good.T1 := by kernel_rfl
theorem strip_Good.bits1 : waitsOk strip_Good.T1.2 strip_Good.B1 = true := by kernel_rfl
set_option maxHeartbeats 8000000 in
set_option maxRecDepth 100000 in
theorem strip_Good.calls (k : Nat) (a0_0 : ByteArray) (A0_1 : Option Addr) (c0_1 : Nat) (l0_1 : List (S68)) (r : Bool) (w : World) (hr0_1 : Kd.C k68 w A0_1 l0_1.length l0_1) (hc0_1 : l0_1.length ≤ c0_1) (h : strip_Good.f k a0_0 l0_1 = some r) :
  Calls Tryz.prog 59 #[.agg #[.string a0_0, .slice A0_1 l0_1.length c0_1]] w fun e w' => e = .returned (.bool r) ∧ Below w.heap.size w w' := by
 have hu24 := Tryz.underlying24
 have HR0_1 := aM hr0_1
 have HC0_1 := aM hc0_1
 clear hr0_1 hc0_1
 have HB := aM (Below.refl w.heap.size w)
 have H : ((runs_Good.f k l0_1).bind fun t108 => (if t108 = true then ((runs_Total.f k l0_1).bind fun t109 => (some (t109 == (a0_0.size : Int)))) else (some false))) = some r := h
 clear h
 replace H := Option.bind_eq_some_iff.mp H
 obtain ⟨t108, A20, H⟩ := H
 replace H : (if t108 = true then ((runs_Total.f k l0_1).bind fun t109 => (some (t109 == (a0_0.size : Int)))) else (some false)) = some r := H
 have A2 := aM A20
 clear A20
 by_cases c3 : t108 = true
 ·subst c3
  rw [if_pos rfl] at H
  replace H := Option.bind_eq_some_iff.mp H
  obtain ⟨t109, A40, H⟩ := H
  replace H : (some (t109 == (a0_0.size : Int))) = some r := H
  have A4 := aM A40
  clear A40
  obtain rfl := Option.some.inj H
  go_enter Tryz.func59, Tryz.ntmps59
  try go_wp2_with (first | ((with_reducible refine gate_dst (N := 1) rfl ?_); (try (refine gate_guard (by rfl) ?_; dsimp only)); refine box_event ?hg (N := 1) ?hd (cs := #[.string a0_0, .slice A0_1 l0_1.length c0_1]) (t := 24) ?hr ?_; (case hd | hg => rfl); (case hr => first | (go_simp; done) | (go_simp; rfl)); intro gb107 hg w5 hbox hb; have BK107 := aM (hbox); have GW107 := yG w hg; have GE107 := GW107; replace HB := yP w hb; clear hb hbox hg))
  have n0_ := aM (blk_drew BK107.out)
  have n1_ := aM (below_drew1 HB.out)
  clear BK107
  clear HB
  have BK107 := n0_
  have HB := n1_
  clear n0_ n1_
  refine start_ (n := 13) (S := fun w' => w'.cell? ⟨gb107, 0, none⟩ = some (.string a0_0) ∧ w'.cell? ⟨gb107, 1, none⟩ = some (.slice A0_1 l0_1.length c0_1)) (ds := []) b0_ (by kernel_rfl) rfl rfl ⟨(bC BK107.out 0).trans rfl, (bC BK107.out 1).trans rfl⟩ (fun hHeld => ?_); refine with_tabW strip_Good.tab1 strip_Good.bits1 (fun HT_ HW_ => ?_)
  generalize w5.drew = w6 at BK107 HB hHeld ⊢
  refine pure_ (i := 0) (N := some 3) (v := ?_) (a' := ?_) b1_ rfl rfl (any_of HT_.out (by kernel_rfl)) (fun _ _ _ h => h) (Or.inl ⟨by rfl, ?_⟩) ?_ ?_
  rotate_left
  ·intro w'
   go_simp
   with_reducible rfl
  rotate_left
  ·simp only [Act.put, sA, sZ, sS, i64_w, i32_w]
   rfl
  refine take_ (i := 1) (N := some 4) (v := ?_) (a' := ?_) b2_ rfl rfl (take_ofW HT_.out HW_.out (by kernel_rfl)) (fun _ _ _ h => h) (Or.inl ⟨by rfl, ?_⟩) hHeld ?_ ?_
  rotate_left
  ·rintro w' ⟨s0, s1⟩
   go_simp
   with_reducible rfl
  rotate_left
  ·simp only [Act.put, sA, sZ, sS, i64_w, i32_w]
   rfl
  refine one_ (i := 2) (N := some 5) b3_ rfl rfl (one_of HT_.out (by kernel_rfl)) (by decide) (fun K hK => ?_)
  refine goes_ Tryz.func113 (by kernel_rfl) rfl #[.slice A0_1 l0_1.length c0_1] (by rfl) rfl rfl (by (try simp only [mT, mC, mN]); first | done | rfl | (simp only [lD, lT]; rfl)) ?_
  with_reducible refine (runs_Good.calls k _ _ l0_1 true _ ?side1 ?side2 A2.out).mono ?_
  (case side1 => exact yR HR0_1)
  (case side2 => exact HC0_1.out)
  rintro e w7 ⟨rfl, hb⟩
  refine ⟨_, rfl, ?_⟩
  have n0_ := yB hb BK107
  have n1_ := yP w hb
  clear BK107
  clear HB
  have BK107 := n0_
  have HB := n1_
  clear n0_ n1_
  (try clear hb)
  (try clear hb2)
  (try clear hk)
  (try clear hi)
  refine hK.out _ _ ⟨(bC BK107.out 0).trans rfl, (bC BK107.out 1).trans rfl⟩ (fun hHeld => ?_)
  clear hK K
  refine norm_ (a' := ?_) ?_ ?_
  rotate_left
  ·show Act.put _ (some 5) _ = _
   simp only [Act.put, sA, sZ, sS, i64_w, i32_w]
   rfl
  refine pure_ (i := 3) (N := some 6) (v := ?_) (a' := ?_) b4_ rfl rfl (any_of HT_.out (by kernel_rfl)) (fun _ _ _ h => h) (Or.inl ⟨by rfl, ?_⟩) ?_ ?_
  rotate_left
  ·intro w'
   go_simp
   with_reducible rfl
  rotate_left
  ·simp only [Act.put, sA, sZ, sS, i64_w, i32_w]
   rfl
  refine pure_ (i := 4) (N := some 7) (v := ?_) (a' := ?_) b5_ rfl rfl (any_of HT_.out (by kernel_rfl)) (fun _ _ _ h => h) (Or.inl ⟨by rfl, ?_⟩) ?_ ?_
  rotate_left
  ·intro w'
   go_simp
   with_reducible rfl
  rotate_left
  ·simp only [Act.put, sA, sZ, sS, i64_w, i32_w]
   rfl
  refine pure_ (i := 7) (N := some 10) (v := ?_) (a' := ?_) b6_ rfl rfl (any_of HT_.out (by kernel_rfl)) (fun _ _ _ h => h) (Or.inl ⟨by rfl, ?_⟩) ?_ ?_
  rotate_left
  ·intro w'
   go_simp
   with_reducible rfl
  rotate_left
  ·simp only [Act.put, sA, sZ, sS, i64_w, i32_w]
   rfl
  refine take_ (i := 5) (N := some 8) (v := ?_) (a' := ?_) b7_ rfl rfl (take_ofW HT_.out HW_.out (by kernel_rfl)) (fun _ _ _ h => h) (Or.inl ⟨by rfl, ?_⟩) hHeld ?_ ?_
  rotate_left
  ·rintro w' ⟨s0, s1⟩
   go_simp
   with_reducible rfl
  rotate_left
  ·simp only [Act.put, sA, sZ, sS, i64_w, i32_w]
   rfl
  refine take_ (i := 8) (N := some 11) (v := ?_) (a' := ?_) b8_ rfl rfl (take_ofW HT_.out HW_.out (by kernel_rfl)) (fun _ _ _ h => h) (Or.inl ⟨by rfl, ?_⟩) hHeld ?_ ?_
  rotate_left
  ·rintro w' ⟨s0, s1⟩
   go_simp
   with_reducible rfl
  rotate_left
  ·simp only [Act.put, sA, sZ, sS, i64_w, i32_w]
   rfl
  refine pure_ (i := 9) (N := some 12) (v := ?_) (a' := ?_) b9_ rfl rfl (any_of HT_.out (by kernel_rfl)) (fun _ _ _ h => h) (Or.inl ⟨by rfl, ?_⟩) ?_ ?_
  rotate_left
  ·intro w'
   go_simp
   with_reducible rfl
  rotate_left
  ·simp only [Act.put, sA, sZ, sS, i64_w, i32_w]
   rfl
  refine one_ (i := 6) (N := some 9) b10_ rfl rfl (one_of HT_.out (by kernel_rfl)) (by decide) (fun K hK => ?_)
  refine goes_ Tryz.func114 (by kernel_rfl) rfl #[.slice A0_1 l0_1.length c0_1] (by rfl) rfl rfl (by (try simp only [mT, mC, mN]); first | done | rfl | (simp only [lD, lT]; rfl)) ?_
  with_reducible refine (runs_Total.calls k _ _ l0_1 t109 _ ?side1 ?side2 A4.out).mono ?_
  (case side1 => exact yR HR0_1)
  (case side2 => exact HC0_1.out)
  rintro e w8 ⟨rfl, hb⟩
  refine ⟨_, rfl, ?_⟩
  have n0_ := yB hb BK107
  have n1_ := yP w hb
  clear BK107
  clear HB
  have BK107 := n0_
  have HB := n1_
  clear n0_ n1_
  (try clear hb)
  (try clear hb2)
  (try clear hk)
  (try clear hi)
  refine hK.out _ _ ⟨(bC BK107.out 0).trans rfl, (bC BK107.out 1).trans rfl⟩ (fun hHeld => ?_)
  clear hK K
  refine norm_ (a' := ?_) ?_ ?_
  rotate_left
  ·show Act.put _ (some 9) _ = _
   simp only [Act.put, sA, sZ, sS, i64_w, i32_w]
   rfl
  refine pure_ (i := 10) (N := some 13) (v := ?_) (a' := ?_) b11_ rfl rfl (any_of HT_.out (by kernel_rfl)) (fun _ _ _ h => h) (Or.inl ⟨by rfl, ?_⟩) ?_ ?_
  rotate_left
  ·intro w'
   go_simp
   with_reducible rfl
  rotate_left
  ·simp only [Act.put, sA, sZ, sS, i64_w, i32_w]
   rfl
  refine pure_ (i := 11) (N := some 14) (v := ?_) (a' := ?_) b12_ rfl rfl (any_of HT_.out (by kernel_rfl)) (fun _ _ _ h => h) (Or.inl ⟨by rfl, ?_⟩) ?_ ?_
  rotate_left
  ·intro w'
   go_simp
   with_reducible rfl
  rotate_left
  ·simp only [Act.put, sA, sZ, sS, i64_w, i32_w]
   rfl
  refine pure_ (i := 12) (N := some 2) (v := ?_) (a' := ?_) b13_ rfl rfl (any_of HT_.out (by kernel_rfl)) (fun _ _ _ h => h) (Or.inl ⟨by rfl, ?_⟩) ?_ ?_
  rotate_left
  ·intro w'
   go_simp
   with_reducible rfl
  rotate_left
  ·simp only [Act.put, sA, sZ, sS, i64_w, i32_w]
   rfl
  refine done_ (done_of HT_.out (by kernel_rfl)) ?_
  try go_wp2
  go_ret
  exact ⟨ye, yH⟩
 ·replace c3 := Bool.eq_false_iff.mpr c3
  subst c3
  rw [if_neg (show ¬ (false = true) by decide)] at H
  obtain rfl := Option.some.inj H
  go_enter Tryz.func59, Tryz.ntmps59
  try go_wp2_with (first | ((with_reducible refine gate_dst (N := 1) rfl ?_); (try (refine gate_guard (by rfl) ?_; dsimp only)); refine box_event ?hg (N := 1) ?hd (cs := #[.string a0_0, .slice A0_1 l0_1.length c0_1]) (t := 24) ?hr ?_; (case hd | hg => rfl); (case hr => first | (go_simp; done) | (go_simp; rfl)); intro gb107 hg w9 hbox hb; have BK107 := aM (hbox); have GW107 := yG w hg; have GE107 := GW107; replace HB := yP w hb; clear hb hbox hg))
  have n0_ := aM (blk_drew BK107.out)
  have n1_ := aM (below_drew1 HB.out)
  clear BK107
  clear HB
  have BK107 := n0_
  have HB := n1_
  clear n0_ n1_
  refine start_ (n := 13) (S := fun w' => w'.cell? ⟨gb107, 0, none⟩ = some (.string a0_0) ∧ w'.cell? ⟨gb107, 1, none⟩ = some (.slice A0_1 l0_1.length c0_1)) (ds := []) b0_ (by kernel_rfl) rfl rfl ⟨(bC BK107.out 0).trans rfl, (bC BK107.out 1).trans rfl⟩ (fun hHeld => ?_); refine with_tabW strip_Good.tab1 strip_Good.bits1 (fun HT_ HW_ => ?_)
  generalize w9.drew = w10 at BK107 HB hHeld ⊢
  refine pure_ (i := 0) (N := some 3) (v := ?_) (a' := ?_) b1_ rfl rfl (any_of HT_.out (by kernel_rfl)) (fun _ _ _ h => h) (Or.inl ⟨by rfl, ?_⟩) ?_ ?_
  rotate_left
  ·intro w'
   go_simp
   with_reducible rfl
  rotate_left
  ·simp only [Act.put, sA, sZ, sS, i64_w, i32_w]
   rfl
  refine take_ (i := 1) (N := some 4) (v := ?_) (a' := ?_) b2_ rfl rfl (take_ofW HT_.out HW_.out (by kernel_rfl)) (fun _ _ _ h => h) (Or.inl ⟨by rfl, ?_⟩) hHeld ?_ ?_
  rotate_left
  ·rintro w' ⟨s0, s1⟩
   go_simp
   with_reducible rfl
  rotate_left
  ·simp only [Act.put, sA, sZ, sS, i64_w, i32_w]
   rfl
  refine one_ (i := 2) (N := some 5) b3_ rfl rfl (one_of HT_.out (by kernel_rfl)) (by decide) (fun K hK => ?_)
  refine goes_ Tryz.func113 (by kernel_rfl) rfl #[.slice A0_1 l0_1.length c0_1] (by rfl) rfl rfl (by (try simp only [mT, mC, mN]); first | done | rfl | (simp only [lD, lT]; rfl)) ?_
  with_reducible refine (runs_Good.calls k _ _ l0_1 false _ ?side1 ?side2 A2.out).mono ?_
  (case side1 => exact yR HR0_1)
  (case side2 => exact HC0_1.out)
  rintro e w11 ⟨rfl, hb⟩
  refine ⟨_, rfl, ?_⟩
  have n0_ := yB hb BK107
  have n1_ := yP w hb
  clear BK107
  clear HB
  have BK107 := n0_
  have HB := n1_
  clear n0_ n1_
  (try clear hb)
  (try clear hb2)
  (try clear hk)
  (try clear hi)
  refine hK.out _ _ ⟨(bC BK107.out 0).trans rfl, (bC BK107.out 1).trans rfl⟩ (fun hHeld => ?_)
  clear hK K
  refine norm_ (a' := ?_) ?_ ?_
  rotate_left
  ·show Act.put _ (some 5) _ = _
   simp only [Act.put, sA, sZ, sS, i64_w, i32_w]
   rfl
  refine pure_ (i := 3) (N := some 6) (v := ?_) (a' := ?_) b4_ rfl rfl (any_of HT_.out (by kernel_rfl)) (fun _ _ _ h => h) (Or.inl ⟨by rfl, ?_⟩) ?_ ?_
  rotate_left
  ·intro w'
   go_simp
   with_reducible rfl
  rotate_left
  ·simp only [Act.put, sA, sZ, sS, i64_w, i32_w]
   rfl
  refine pure_ (i := 4) (N := some 7) (v := undef) (a' := ?_) b5_ rfl rfl (any_of HT_.out (by kernel_rfl)) (fun _ _ _ h => h) (Or.inr ⟨by rfl, rfl⟩) ?_ ?_
  rotate_left
  ·simp only [Act.put, sA, sZ, sS, i64_w, i32_w]
   rfl
  refine pure_ (i := 5) (N := some 8) (v := undef) (a' := ?_) b14_ rfl rfl (any_of HT_.out (by kernel_rfl)) (fun _ _ _ h => h) (Or.inr ⟨by rfl, rfl⟩) ?_ ?_
  rotate_left
  ·simp only [Act.put, sA, sZ, sS, i64_w, i32_w]
   rfl
  refine pure_ (i := 6) (N := some 9) (v := undef) (a' := ?_) b15_ rfl rfl (any_of HT_.out (by kernel_rfl)) (fun _ _ _ h => h) (Or.inr ⟨by rfl, rfl⟩) ?_ ?_
  rotate_left
  ·simp only [Act.put, sA, sZ, sS, i64_w, i32_w]
   rfl
  refine pure_ (i := 7) (N := some 10) (v := undef) (a' := ?_) b16_ rfl rfl (any_of HT_.out (by kernel_rfl)) (fun _ _ _ h => h) (Or.inr ⟨by rfl, rfl⟩) ?_ ?_
  rotate_left
  ·simp only [Act.put, sA, sZ, sS, i64_w, i32_w]
   rfl
  refine pure_ (i := 8) (N := some 11) (v := undef) (a' := ?_) b17_ rfl rfl (any_of HT_.out (by kernel_rfl)) (fun _ _ _ h => h) (Or.inr ⟨by rfl, rfl⟩) ?_ ?_
  rotate_left
  ·simp only [Act.put, sA, sZ, sS, i64_w, i32_w]
   rfl
  refine pure_ (i := 9) (N := some 12) (v := undef) (a' := ?_) b10_ rfl rfl (any_of HT_.out (by kernel_rfl)) (fun _ _ _ h => h) (Or.inr ⟨by rfl, rfl⟩) ?_ ?_
  rotate_left
  ·simp only [Act.put, sA, sZ, sS, i64_w, i32_w]
   rfl
  refine pure_ (i := 10) (N := some 13) (v := undef) (a' := ?_) b11_ rfl rfl (any_of HT_.out (by kernel_rfl)) (fun _ _ _ h => h) (Or.inr ⟨by rfl, rfl⟩) ?_ ?_
  rotate_left
  ·simp only [Act.put, sA, sZ, sS, i64_w, i32_w]
   rfl
  refine pure_ (i := 11) (N := some 14) (v := ?_) (a' := ?_) b12_ rfl rfl (any_of HT_.out (by kernel_rfl)) (fun _ _ _ h => h) (Or.inl ⟨by rfl, ?_⟩) ?_ ?_
  rotate_left
  ·intro w'
   go_simp
   with_reducible rfl
  rotate_left
  ·simp only [Act.put, sA, sZ, sS, i64_w, i32_w]
   rfl
  refine pure_ (i := 12) (N := some 2) (v := ?_) (a' := ?_) b13_ rfl rfl (any_of HT_.out (by kernel_rfl)) (fun _ _ _ h => h) (Or.inl ⟨by rfl, ?_⟩) ?_ ?_
  rotate_left
  ·intro w'
   go_simp
   with_reducible rfl
  rotate_left
  ·simp only [Act.put, sA, sZ, sS, i64_w, i32_w]
   rfl
  refine done_ (done_of HT_.out (by kernel_rfl)) ?_
  try go_wp2
  go_ret
  exact ⟨ye, yH⟩
def strip_Same.f (k : Nat) (a0_0 : ByteArray) (l0_1 : List (S68)) (a1_0 : ByteArray) (l1_1 : List (S68)) : Option (Bool) := if a0_0.toList = a1_0.toList then ((api_Run.f k l0_1 l1_1).bind fun t157 => (some t157)) else (some false)
set_option maxHeartbeats 8000000 in
set_option maxRecDepth 100000 in
theorem strip_Same.calls (k : Nat) (a0_0 : ByteArray) (A0_1 : Option Addr) (c0_1 : Nat) (l0_1 : List (S68)) (a1_0 : ByteArray) (A1_1 : Option Addr) (c1_1 : Nat) (l1_1 : List (S68)) (r : Bool) (w : World) (hr0_1 : Kd.C k68 w A0_1 l0_1.length l0_1) (hc0_1 : l0_1.length ≤ c0_1) (hr1_1 : Kd.C k68 w A1_1 l1_1.length l1_1) (hc1_1 : l1_1.length ≤ c1_1) (h : strip_Same.f k a0_0 l0_1 a1_0 l1_1 = some r) :
  Calls Tryz.prog 150 #[.agg #[.string a0_0, .slice A0_1 l0_1.length c0_1], .agg #[.string a1_0, .slice A1_1 l1_1.length c1_1]] w fun e w' => e = .returned (.bool r) ∧ Below w.heap.size w w' := by
 have hu24 := Tryz.underlying24
 have HR0_1 := aM hr0_1
 have HC0_1 := aM hc0_1
 clear hr0_1 hc0_1
 have HR1_1 := aM hr1_1
 have HC1_1 := aM hc1_1
 clear hr1_1 hc1_1
 have HB := aM (Below.refl w.heap.size w)
 have H : (if a0_0.toList = a1_0.toList then ((api_Run.f k l0_1 l1_1).bind fun t157 => (some t157)) else (some false)) = some r := h
 clear h
 by_cases c3 : a0_0.toList = a1_0.toList
 ·rw [if_pos c3] at H
  have c3b0 : (a0_0.toList == a1_0.toList) = true := beq_iff_eq.mpr c3
  have c3b1 : (a0_0.toList != a1_0.toList) = false := bne_eq_false_iff_eq.mpr c3
  clear c3
  replace H := Option.bind_eq_some_iff.mp H
  obtain ⟨t157, A40, H⟩ := H
  replace H : (some t157) = some r := H
  have A4 := aM A40
  clear A40
  obtain rfl := Option.some.inj H
  go_enter Tryz.func150, Tryz.ntmps150
  go_wp2_with (first | (refine yX 2 #[.string a0_0, .slice A0_1 l0_1.length c0_1] 24 (fun gb155 hg w5 hbox hb => ?_); have BK155 := hbox; have GW155 := yG w hg; have GE155 := GW155; replace HB := yP w hb; clear hb hbox hg) | (refine yX 3 #[.string a1_0, .slice A1_1 l1_1.length c1_1] 24 (fun gb156 hg w6 hbox hb => ?_); have BK156 := hbox; have GW156 := yG w hg; have GE156 := GW156; have NB155_156 := yN hg BK155; have NB156_155 := yM hg BK155; replace BK155 := yB hb BK155; replace HB := yP w hb; clear hb hbox hg; have hnb7 := NB155_156.out; have hnc7 := NB156_155.out; have hcz8_0 := zC BK155.out 0 (.string a0_0); have hcz8_1 := zC BK155.out 1 (.slice A0_1 l0_1.length c0_1); have hfz8_0 := bF BK155.out 0; have hfz8_1 := bF BK155.out 1; have hcz9_0 := zC BK156.out 0 (.string a1_0); have hcz9_1 := zC BK156.out 1 (.slice A1_1 l1_1.length c1_1); have hfz9_0 := bF BK156.out 0; have hfz9_1 := bF BK156.out 1) | (go_at_call 165; (with_reducible refine (api_Run.calls k _ _ l0_1 _ _ l1_1 t157 _ ?side1 ?side2 ?side3 ?side4 A4.out).mono ?_); (case side1 => exact yR HR0_1); (case side2 => exact HC0_1.out); (case side3 => exact yR HR1_1); (case side4 => exact HC1_1.out); rintro e w' ⟨rfl, ⟨nd, rfl⟩⟩))
  go_ret
  exact ⟨ye, yH⟩
 ·rw [if_neg c3] at H
  have c3b0 : (a0_0.toList == a1_0.toList) = false := beq_eq_false_iff_ne.mpr c3
  have c3b1 : (a0_0.toList != a1_0.toList) = true := bne_iff_ne.mpr c3
  obtain rfl := Option.some.inj H
  go_enter Tryz.func150, Tryz.ntmps150
  go_wp2_with (first | (refine yX 2 #[.string a0_0, .slice A0_1 l0_1.length c0_1] 24 (fun gb155 hg w10 hbox hb => ?_); have BK155 := hbox; have GW155 := yG w hg; have GE155 := GW155; replace HB := yP w hb; clear hb hbox hg) | (refine yX 3 #[.string a1_0, .slice A1_1 l1_1.length c1_1] 24 (fun gb156 hg w11 hbox hb => ?_); have BK156 := hbox; have GW156 := yG w hg; have GE156 := GW156; have NB155_156 := yN hg BK155; have NB156_155 := yM hg BK155; replace BK155 := yB hb BK155; replace HB := yP w hb; clear hb hbox hg; have hnb12 := NB155_156.out; have hnc12 := NB156_155.out; have hcz13_0 := zC BK155.out 0 (.string a0_0); have hcz13_1 := zC BK155.out 1 (.slice A0_1 l0_1.length c0_1); have hfz13_0 := bF BK155.out 0; have hfz13_1 := bF BK155.out 1; have hcz14_0 := zC BK156.out 0 (.string a1_0); have hcz14_1 := zC BK156.out 1 (.slice A1_1 l1_1.length c1_1); have hfz14_0 := bF BK156.out 0; have hfz14_1 := bF BK156.out 1))
  go_ret
  exact ⟨ye, yH⟩
def strip_within.f (k : Nat) (a0_0 : ByteArray) (l0_1 : List (S68)) (a1 : Int) (a2 : Int) : Option (Bool) := (strip_Good.f k a0_0 l0_1).bind fun t112 => (if t112 = true then (if a1 ≥ 0 then (if a1 ≤ a2 then (some (decide (a2 ≤ (a0_0.size : Int)))) else (some false)) else (some false)) else (some false))
set_option maxHeartbeats 8000000 in
set_option maxRecDepth 100000 in
theorem strip_within.calls (k : Nat) (a0_0 : ByteArray) (A0_1 : Option Addr) (c0_1 : Nat) (l0_1 : List (S68)) (a1 : Int) (a2 : Int) (r : Bool) (w : World) (hr0_1 : Kd.C k68 w A0_1 l0_1.length l0_1) (hc0_1 : l0_1.length ≤ c0_1) (h : strip_within.f k a0_0 l0_1 a1 a2 = some r) :
  Calls Tryz.prog 123 #[.agg #[.string a0_0, .slice A0_1 l0_1.length c0_1], .int .i64 a1, .int .i64 a2] w fun e w' => e = .returned (.bool r) ∧ Below w.heap.size w w' := by
 have hu24 := Tryz.underlying24
 have HR0_1 := aM hr0_1
 have HC0_1 := aM hc0_1
 clear hr0_1 hc0_1
 have HB := aM (Below.refl w.heap.size w)
 have H : ((strip_Good.f k a0_0 l0_1).bind fun t112 => (if t112 = true then (if a1 ≥ 0 then (if a1 ≤ a2 then (some (decide (a2 ≤ (a0_0.size : Int)))) else (some false)) else (some false)) else (some false))) = some r := h
 clear h
 replace H := Option.bind_eq_some_iff.mp H
 obtain ⟨t112, A40, H⟩ := H
 replace H : (if t112 = true then (if a1 ≥ 0 then (if a1 ≤ a2 then (some (decide (a2 ≤ (a0_0.size : Int)))) else (some false)) else (some false)) else (some false)) = some r := H
 have A4 := aM A40
 clear A40
 by_cases c5 : t112 = true
 ·subst c5
  rw [if_pos rfl] at H
  by_cases c6 : a1 ≥ 0
  ·rw [if_pos c6] at H
   have c6b0 : decide (0 ≤ a1) = true := decide_eq_true c6
   clear c6
   by_cases c7 : a1 ≤ a2
   ·rw [if_pos c7] at H
    have c7b0 : decide (a1 ≤ a2) = true := decide_eq_true c7
    clear c7
    obtain rfl := Option.some.inj H
    go_enter Tryz.func123, Tryz.ntmps123
    go_wp2_with (first | ((with_reducible refine gate_dst (N := 3) rfl ?_); (try (refine gate_guard (by rfl) ?_; dsimp only)); refine box_event ?hg (N := 3) ?hd (cs := #[.string a0_0, .slice A0_1 l0_1.length c0_1]) (t := 24) ?hr ?_; (case hd | hg => rfl); (case hr => first | (go_simp; done) | (go_simp; rfl)); intro gb111 hg w8 hbox hb; have BK111 := aM (hbox); have GW111 := yG w hg; have GE111 := GW111; replace HB := yP w hb; clear hb hbox hg; have hcz9_0 := zC BK111.out 0 (.string a0_0); have hcz9_1 := zC BK111.out 1 (.slice A0_1 l0_1.length c0_1); have hfz9_0 := bF BK111.out 0; have hfz9_1 := bF BK111.out 1) | (refine yC (some 8) Tryz.func59 #[.agg #[.string a0_0, .slice A0_1 l0_1.length c0_1]] ?_; (with_reducible refine (strip_Good.calls k a0_0 _ _ l0_1 true _ ?side1 ?side2 A4.out).mono ?_); (case side1 => exact yR HR0_1); (case side2 => exact HC0_1.out); rintro e w10 ⟨rfl, hb⟩; refine ⟨_, rfl, ?_⟩; replace BK111 := yB hb BK111; replace HB := yP w hb; clear hb; have hcz11_0 := zC BK111.out 0 (.string a0_0); have hcz11_1 := zC BK111.out 1 (.slice A0_1 l0_1.length c0_1); have hfz11_0 := bF BK111.out 0; have hfz11_1 := bF BK111.out 1))
    go_ret
    exact ⟨ye, yH⟩
   ·rw [if_neg c7] at H
    have c7b0 : decide (a1 ≤ a2) = false := decide_eq_false c7
    clear c7
    obtain rfl := Option.some.inj H
    go_enter Tryz.func123, Tryz.ntmps123
    go_wp2_with (first | ((with_reducible refine gate_dst (N := 3) rfl ?_); (try (refine gate_guard (by rfl) ?_; dsimp only)); refine box_event ?hg (N := 3) ?hd (cs := #[.string a0_0, .slice A0_1 l0_1.length c0_1]) (t := 24) ?hr ?_; (case hd | hg => rfl); (case hr => first | (go_simp; done) | (go_simp; rfl)); intro gb111 hg w12 hbox hb; have BK111 := aM (hbox); have GW111 := yG w hg; have GE111 := GW111; replace HB := yP w hb; clear hb hbox hg; have hcz13_0 := zC BK111.out 0 (.string a0_0); have hcz13_1 := zC BK111.out 1 (.slice A0_1 l0_1.length c0_1); have hfz13_0 := bF BK111.out 0; have hfz13_1 := bF BK111.out 1) | (refine yC (some 8) Tryz.func59 #[.agg #[.string a0_0, .slice A0_1 l0_1.length c0_1]] ?_; (with_reducible refine (strip_Good.calls k a0_0 _ _ l0_1 true _ ?side1 ?side2 A4.out).mono ?_); (case side1 => exact yR HR0_1); (case side2 => exact HC0_1.out); rintro e w14 ⟨rfl, hb⟩; refine ⟨_, rfl, ?_⟩; replace BK111 := yB hb BK111; replace HB := yP w hb; clear hb))
    go_ret
    exact ⟨ye, yH⟩
  ·rw [if_neg c6] at H
   have c6b0 : decide (0 ≤ a1) = false := decide_eq_false c6
   clear c6
   obtain rfl := Option.some.inj H
   go_enter Tryz.func123, Tryz.ntmps123
   go_wp2_with (first | ((with_reducible refine gate_dst (N := 3) rfl ?_); (try (refine gate_guard (by rfl) ?_; dsimp only)); refine box_event ?hg (N := 3) ?hd (cs := #[.string a0_0, .slice A0_1 l0_1.length c0_1]) (t := 24) ?hr ?_; (case hd | hg => rfl); (case hr => first | (go_simp; done) | (go_simp; rfl)); intro gb111 hg w15 hbox hb; have BK111 := aM (hbox); have GW111 := yG w hg; have GE111 := GW111; replace HB := yP w hb; clear hb hbox hg; have hcz16_0 := zC BK111.out 0 (.string a0_0); have hcz16_1 := zC BK111.out 1 (.slice A0_1 l0_1.length c0_1); have hfz16_0 := bF BK111.out 0; have hfz16_1 := bF BK111.out 1) | (refine yC (some 8) Tryz.func59 #[.agg #[.string a0_0, .slice A0_1 l0_1.length c0_1]] ?_; (with_reducible refine (strip_Good.calls k a0_0 _ _ l0_1 true _ ?side1 ?side2 A4.out).mono ?_); (case side1 => exact yR HR0_1); (case side2 => exact HC0_1.out); rintro e w17 ⟨rfl, hb⟩; refine ⟨_, rfl, ?_⟩; replace BK111 := yB hb BK111; replace HB := yP w hb; clear hb))
   go_ret
   exact ⟨ye, yH⟩
 ·replace c5 := Bool.eq_false_iff.mpr c5
  subst c5
  rw [if_neg (show ¬ (false = true) by decide)] at H
  obtain rfl := Option.some.inj H
  go_enter Tryz.func123, Tryz.ntmps123
  go_wp2_with (first | ((with_reducible refine gate_dst (N := 3) rfl ?_); (try (refine gate_guard (by rfl) ?_; dsimp only)); refine box_event ?hg (N := 3) ?hd (cs := #[.string a0_0, .slice A0_1 l0_1.length c0_1]) (t := 24) ?hr ?_; (case hd | hg => rfl); (case hr => first | (go_simp; done) | (go_simp; rfl)); intro gb111 hg w18 hbox hb; have BK111 := aM (hbox); have GW111 := yG w hg; have GE111 := GW111; replace HB := yP w hb; clear hb hbox hg; have hcz19_0 := zC BK111.out 0 (.string a0_0); have hcz19_1 := zC BK111.out 1 (.slice A0_1 l0_1.length c0_1); have hfz19_0 := bF BK111.out 0; have hfz19_1 := bF BK111.out 1) | (refine yC (some 8) Tryz.func59 #[.agg #[.string a0_0, .slice A0_1 l0_1.length c0_1]] ?_; (with_reducible refine (strip_Good.calls k a0_0 _ _ l0_1 false _ ?side1 ?side2 A4.out).mono ?_); (case side1 => exact yR HR0_1); (case side2 => exact HC0_1.out); rintro e w20 ⟨rfl, hb⟩; refine ⟨_, rfl, ?_⟩; replace BK111 := yB hb BK111; replace HB := yP w hb; clear hb))
  go_ret
  exact ⟨ye, yH⟩
def strip_Make.f (k : Nat) (a0 : ByteArray) (a1 : Int) : Option (ByteArray × (List (S68)) × Int) := (runs_Normal.f k (([(⟨a1, (a0.size : Int)⟩ : S68)] : List (S68)))).bind fun bt201 => (if bt201.2 = 0 then (some (a0, bt201.1, 0)) else (some ((⟨#[]⟩ : ByteArray), ([] : List (S68)), bt201.2)))
set_option maxHeartbeats 8000000 in
set_option maxRecDepth 100000 in
theorem strip_Make.calls (k : Nat) (a0 : ByteArray) (a1 : Int) (r1 : ByteArray) (r2 : List (S68)) (r3 : Int) (w : World) (h : strip_Make.f k a0 a1 = some (r1, r2, r3)) :
  Calls Tryz.prog 97 #[.string a0, .int .u64 a1] w fun e w' => ∃ v1_ : Value, e = .returned (.tuple #[.agg #[.string r1, v1_], .int .i64 r3]) ∧ Kd.R k68 68 w' w.heap.size (fun _ => True) v1_ r2 ∧ Below w.heap.size w w' := by
 have hu24 := Tryz.underlying24
 have hu68 := Tryz.underlying68
 have HB := aM (Below.refl w.heap.size w)
 have H : ((runs_Normal.f k (([(⟨a1, (a0.size : Int)⟩ : S68)] : List (S68)))).bind fun bt201 => (if bt201.2 = 0 then (some (a0, bt201.1, 0)) else (some ((⟨#[]⟩ : ByteArray), ([] : List (S68)), bt201.2)))) = some (r1, r2, r3) := h
 clear h
 obtain ⟨y198, hy198⟩ : ∃ y_ : List (S68), y_ = (([(⟨a1, (a0.size : Int)⟩ : S68)] : List (S68))) := ⟨_, rfl⟩
 replace H : ((runs_Normal.f k y198).bind fun bt201 => (if bt201.2 = 0 then (some (a0, bt201.1, 0)) else (some ((⟨#[]⟩ : ByteArray), ([] : List (S68)), bt201.2)))) = some (r1, r2, r3) := by first | (rw [hy198]; with_reducible exact H) | (have H2_ := (Option.bind_some _ _).symm.trans H; rw [hy198]; with_reducible exact H2_) | (have H2_ := (Option.bind_some _ _).symm.trans H; with_reducible exact H2_) | with_reducible exact H | (rw [hy198]; exact H) | exact H
 have Ny198 := aM hy198
 clear hy198
 replace H := Option.bind_eq_some_iff.mp H
 obtain ⟨⟨t201, t202⟩, A30, H⟩ := H
 replace H : (if t202 = 0 then (some (a0, t201, 0)) else (some ((⟨#[]⟩ : ByteArray), ([] : List (S68)), t202))) = some (r1, r2, r3) := H
 have A3 := aM A30
 clear A30
 by_cases c4 : t202 = 0
 ·rw [if_pos c4] at H
  have c4b0 : (t202 == 0) = true := beq_iff_eq.mpr c4
  have c4b1 : (t202 != 0) = false := bne_eq_false_iff_eq.mpr c4
  clear c4
  simp only [Option.some.injEq, Prod.mk.injEq] at H
  obtain ⟨rfl, rfl, rfl⟩ := H
  go_enter Tryz.func97, Tryz.ntmps97
  go_wp2_with (first | (refine yX 4 #[.string (⟨#[]⟩ : ByteArray), .slice none 0 0] 24 (fun gb197 hg w5 hbox hb => ?_); have BK197 := hbox; have GW197 := yG w hg; have GE197 := GW197; replace HB := yP w hb; clear hb hbox hg) | ((with_reducible refine gate_dst (N := 13) rfl ?_); refine Kd.R_lit k68 _ 68 ?hg (N := 13) ?hd (xs := ([(⟨a1, (a0.size : Int)⟩ : S68)] : List (S68))) (inner := [.int .u64 a1, .int .i64 (a0.size : Int)]) (ok := fun _ => True) (okp := fun _ => True) ?hr ?hp (fun _ hk => hk) trivial (Below.refl _ _) (Nat.le_refl _) (by simp) ?_; (case hd | hg => rfl); (case hr => first | (go_simp; done) | (go_simp; rfl)); (case hp => exact (Reps.c2 (show Kd.M k68 _ _ _ (⟨a1, (a0.size : Int)⟩ : S68) [.int .u64 a1, .int .i64 (a0.size : Int)] from (k68_mkM _ _ _ (⟨a1, (a0.size : Int)⟩ : S68) )) (Reps.none _ _))); intro v199 w6 ho7 hb hg_ hnew_; clear hg_ hnew_; (first | rw [← Ny198.out] at ho7 | (simp only [Int.reduceToNat] at ho7; rw [← Ny198.out] at ho7)); have HO200 := aM (rL ho7 (bZ (yH))); replace BK197 := yB hb BK197; replace HB := yP w hb; clear hb ho7; obtain ⟨Ao8, co8, eo8⟩ := Kd.R_slice HO200.out; subst eo8) | (refine yC (some 14) Tryz.func141 #[.slice Ao8 y198.length co8] ?_; (with_reducible refine (runs_Normal.calls k _ _ y198 t201 t202 _ ?side1 ?side2 A3.out).mono ?_); (case side1 => repeat (first | exact (rR HO200.out).2.2 | (with_reducible refine Kd.C_alloc ?_ _) | (with_reducible refine Kd.C_drewN ?_ _) | (with_reducible refine Kd.C_drew ?_))); (case side2 => exact (rR HO200.out).2.1); rintro e w9 ⟨v203, rfl, ho0, hb⟩; refine ⟨_, rfl, ?_⟩; have HO204 := aM (rL (Kd.R_new' ho0 (Kd.R_lt (ry HO200.out))) (bZ (yH))); replace HO200 := aM (rE (ry HO200.out) (Kd.R_base ho0) hb); replace BK197 := yB hb BK197; replace HB := yP w hb; clear hb; (try clear ho0); obtain ⟨Ao10, co10, eo10⟩ := Kd.R_slice HO204.out; subst eo10; have hcz11_0 := zC BK197.out 0 (.string (⟨#[]⟩ : ByteArray)); have hcz11_1 := zC BK197.out 1 (.slice none 0 0); have hfz11_0 := bF BK197.out 0; have hfz11_1 := bF BK197.out 1))
  refine bodyPost_ret (results_ct rfl _ _ gb197 24 #[.string a0, .slice Ao10 t201.length co10] (0, 0) _ rfl (by (with_reducible repeat (first | apply qn | apply qd | apply qa)); refine bU (cs := #[.string a0, .slice none 0 0]) ?_ 1 _ rfl; (with_reducible repeat (first | apply qn | apply qd | apply qa)); refine bU (cs := #[.string (⟨#[]⟩ : ByteArray), .slice none 0 0]) ?_ 0 _ rfl; exact qy BK197.out) Tryz.underlying24 rfl (by kernel_rfl)) rfl ?_
  exact ⟨_, ye, by (with_reducible repeat (first | apply ra | apply rn | apply rd_)); exact rM (rF (p := ⟨gb197, 1, none⟩) (rF (p := ⟨gb197, 0, none⟩) (rT HO204.out BK197.out (by decide)) (fun _ hk => hk.2) (.string a0)) (fun _ hk => hk.2) (.slice Ao10 t201.length co10)) (fun _ hk => trivial), yH⟩
 ·rw [if_neg c4] at H
  have c4b0 : (t202 == 0) = false := beq_eq_false_iff_ne.mpr c4
  have c4b1 : (t202 != 0) = true := bne_iff_ne.mpr c4
  simp only [Option.some.injEq, Prod.mk.injEq] at H
  obtain ⟨rfl, rfl, rfl⟩ := H
  go_enter Tryz.func97, Tryz.ntmps97
  go_wp2_with (first | (refine yX 4 #[.string (⟨#[]⟩ : ByteArray), .slice none 0 0] 24 (fun gb197 hg w12 hbox hb => ?_); have BK197 := hbox; have GW197 := yG w hg; have GE197 := GW197; replace HB := yP w hb; clear hb hbox hg) | ((with_reducible refine gate_dst (N := 13) rfl ?_); refine Kd.R_lit k68 _ 68 ?hg (N := 13) ?hd (xs := ([(⟨a1, (a0.size : Int)⟩ : S68)] : List (S68))) (inner := [.int .u64 a1, .int .i64 (a0.size : Int)]) (ok := fun _ => True) (okp := fun _ => True) ?hr ?hp (fun _ hk => hk) trivial (Below.refl _ _) (Nat.le_refl _) (by simp) ?_; (case hd | hg => rfl); (case hr => first | (go_simp; done) | (go_simp; rfl)); (case hp => exact (Reps.c2 (show Kd.M k68 _ _ _ (⟨a1, (a0.size : Int)⟩ : S68) [.int .u64 a1, .int .i64 (a0.size : Int)] from (k68_mkM _ _ _ (⟨a1, (a0.size : Int)⟩ : S68) )) (Reps.none _ _))); intro v199 w13 ho14 hb hg_ hnew_; clear hg_ hnew_; (first | rw [← Ny198.out] at ho14 | (simp only [Int.reduceToNat] at ho14; rw [← Ny198.out] at ho14)); have HO200 := aM (rL ho14 (bZ (yH))); replace BK197 := yB hb BK197; replace HB := yP w hb; clear hb ho14; obtain ⟨Ao15, co15, eo15⟩ := Kd.R_slice HO200.out; subst eo15) | (refine yC (some 14) Tryz.func141 #[.slice Ao15 y198.length co15] ?_; (with_reducible refine (runs_Normal.calls k _ _ y198 t201 t202 _ ?side1 ?side2 A3.out).mono ?_); (case side1 => repeat (first | exact (rR HO200.out).2.2 | (with_reducible refine Kd.C_alloc ?_ _) | (with_reducible refine Kd.C_drewN ?_ _) | (with_reducible refine Kd.C_drew ?_))); (case side2 => exact (rR HO200.out).2.1); rintro e w16 ⟨v203, rfl, ho0, hb⟩; refine ⟨_, rfl, ?_⟩; have HO204 := aM (rL (Kd.R_new' ho0 (Kd.R_lt (ry HO200.out))) (bZ (yH))); replace HO200 := aM (rE (ry HO200.out) (Kd.R_base ho0) hb); replace BK197 := yB hb BK197; replace HB := yP w hb; clear hb; (try clear ho0); have hcz17_0 := zC BK197.out 0 (.string (⟨#[]⟩ : ByteArray)); have hcz17_1 := zC BK197.out 1 (.slice none 0 0); have hfz17_0 := bF BK197.out 0; have hfz17_1 := bF BK197.out 1))
  refine bodyPost_ret (results_ct rfl _ _ gb197 24 #[.string (⟨#[]⟩ : ByteArray), .slice none 0 0] (0, 0) _ rfl (by (with_reducible repeat (first | apply qn | apply qd | apply qa)); refine bU (cs := #[.string (⟨#[]⟩ : ByteArray), .slice none 0 0]) ?_ 1 _ rfl; (with_reducible repeat (first | apply qn | apply qd | apply qa)); refine bU (cs := #[.string (⟨#[]⟩ : ByteArray), .slice none 0 0]) ?_ 0 _ rfl; exact qy BK197.out) Tryz.underlying24 rfl (by kernel_rfl)) rfl ?_
  exact ⟨_, ye, yn, yH⟩
def strip_Splice.j0 : Nat → Int → Int → Bool → ByteArray → List (S68) → ByteArray → List (S68) → Option (ByteArray × (List (S68)) × Int)
 | 0, _, _, _, _, _, _, _ => none
 | k + 1, x1, x2, x21, x123000, x123001, x124000, x124001 => if x21 = true then (some ((⟨#[]⟩ : ByteArray), ([] : List (S68)), 2)) else ((runs_Splice.f k x123001 x1 x2 x124001).bind fun bt127 => (if bt127.2 = 0 then (if 0 ≤ x1 then (if x1 ≤ (x123000.size : Int) then (if (x123000.extract 0 (x1 : Int).toNat).size + x124000.size ≤ 9223372036854775807 then (if 0 ≤ x2 then (if x2 ≤ (x123000.size : Int) then (if ((x123000.extract 0 (x1 : Int).toNat) ++ x124000).size + (x123000.extract (x2 : Int).toNat x123000.size).size ≤ 9223372036854775807 then (some (((x123000.extract 0 (x1 : Int).toNat) ++ x124000) ++ (x123000.extract (x2 : Int).toNat x123000.size), bt127.1, 0)) else (none)) else (none)) else (none)) else (none)) else (none)) else (none)) else (some ((⟨#[]⟩ : ByteArray), ([] : List (S68)), bt127.2))))
def strip_Splice.f (k : Nat) (a0_0 : ByteArray) (l0_1 : List (S68)) (a1 : Int) (a2 : Int) (a3_0 : ByteArray) (l3_1 : List (S68)) : Option (ByteArray × (List (S68)) × Int) := (strip_within.f k a0_0 l0_1 a1 a2).bind fun t125 => (if t125 = true then ((strip_Good.f k a3_0 l3_1).bind fun t126 => (strip_Splice.j0 k a1 a2 (!t126) a0_0 l0_1 a3_0 l3_1)) else (strip_Splice.j0 k a1 a2 true a0_0 l0_1 a3_0 l3_1))
def strip_Splice.T6 : Bool × List (List Nat × List Nat) := (true, [([], []), ([0], [0]), ([], []), ([1, 2], [1, 2]), ([], []), ([4], [4]), ([3, 5], [3, 5]), ([], []), ([7], [7]), ([], []), ([8, 9], [8, 9]), ([6, 10], [6, 10]), ([], []), ([11, 12], [11, 12]), ([13, 0, 1, 2, 3, 4, 5, 6, 7, 8, 9, 10, 11, 12, 13], [13]), ([14, 0, 1, 2, 3, 4, 5, 6, 7, 8, 9, 10, 11, 12, 13, 14], [])])
def strip_Splice.B6 : List Nat := [0, 1, 0, 7, 0, 16, 63, 0, 128, 0, 896, 2047, 0, 8191, 16383, 32767]
theorem strip_Splice.tab6 : rtab .any (opsOf Tryz.f147 6) = strip_Splice.T6 := by kernel_rfl
theorem strip_Splice.bits6 : waitsOk strip_Splice.T6.2 strip_Splice.B6 = true := by kernel_rfl
set_option maxHeartbeats 8000000 in
set_option maxRecDepth 100000 in
theorem strip_Splice.calls (k : Nat) (a0_0 : ByteArray) (A0_1 : Option Addr) (c0_1 : Nat) (l0_1 : List (S68)) (a1 : Int) (a2 : Int) (a3_0 : ByteArray) (A3_1 : Option Addr) (c3_1 : Nat) (l3_1 : List (S68)) (r1 : ByteArray) (r2 : List (S68)) (r3 : Int) (w : World) (hr0_1 : Kd.C k68 w A0_1 l0_1.length l0_1) (hc0_1 : l0_1.length ≤ c0_1) (hr3_1 : Kd.C k68 w A3_1 l3_1.length l3_1) (hc3_1 : l3_1.length ≤ c3_1) (h : strip_Splice.f k a0_0 l0_1 a1 a2 a3_0 l3_1 = some (r1, r2, r3)) :
  Calls Tryz.prog 147 #[.agg #[.string a0_0, .slice A0_1 l0_1.length c0_1], .int .i64 a1, .int .i64 a2, .agg #[.string a3_0, .slice A3_1 l3_1.length c3_1]] w fun e w' => ∃ v1_ : Value, e = .returned (.tuple #[.agg #[.string r1, v1_], .int .i64 r3]) ∧ Kd.R k68 68 w' w.heap.size (fun _ => True) v1_ r2 ∧ Below w.heap.size w w' := by
 have hu24 := Tryz.underlying24
 have HR0_1 := aM hr0_1
 have HC0_1 := aM hc0_1
 clear hr0_1 hc0_1
 have HR3_1 := aM hr3_1
 have HC3_1 := aM hc3_1
 clear hr3_1 hc3_1
 have HB := aM (Below.refl w.heap.size w)
 have H : ((strip_within.f k a0_0 l0_1 a1 a2).bind fun t125 => (if t125 = true then ((strip_Good.f k a3_0 l3_1).bind fun t126 => (strip_Splice.j0 k a1 a2 (!t126) a0_0 l0_1 a3_0 l3_1)) else (strip_Splice.j0 k a1 a2 true a0_0 l0_1 a3_0 l3_1))) = some (r1, r2, r3) := h
 clear h
 have HC5 := aM H
 clear H
 go_enter Tryz.func147, Tryz.ntmps147
 go_upto_region 1 with (first | (refine yX 4 #[.string a0_0, .slice A0_1 l0_1.length c0_1] 24 (fun gb122 hg w6 hbox hb => ?_); have BK122 := hbox; have GW122 := yG w hg; have GE122 := GW122; replace HB := yP w hb; clear hb hbox hg) | (refine yX 7 #[.string a3_0, .slice A3_1 l3_1.length c3_1] 24 (fun gb123 hg w7 hbox hb => ?_); have BK123 := hbox; have GW123 := yG w hg; have GE123 := GW123; have NB122_123 := yN hg BK122; have NB123_122 := yM hg BK122; replace BK122 := yB hb BK122; replace HB := yP w hb; clear hb hbox hg) | (refine yX 8 #[.string (⟨#[]⟩ : ByteArray), .slice none 0 0] 24 (fun gb124 hg w8 hbox hb => ?_); have BK124 := hbox; have GW124 := yG w hg; have GE124 := GW124; have NB122_124 := yN hg BK122; have NB124_122 := yM hg BK122; have NB123_124 := yN hg BK123; have NB124_123 := yM hg BK123; replace BK122 := yB hb BK122; replace BK123 := yB hb BK123; replace HB := yP w hb; clear hb hbox hg))
 (try simp only [Act.put, sA, sZ, sS])
 go_cut [21] (fun v21 wc => ∃ (kq : Nat) (x21_4 : Bool), v21 = .bool x21_4 ∧ Aside0 (strip_Splice.j0 kq a1 a2 x21_4 a0_0 l0_1 a3_0 l3_1 = some (r1, r2, r3)) ∧ Aside0 (kq ≤ k) ∧ Aside0 (wc.heap[gb122]? = some (.cells #[.string a0_0, (.slice A0_1 l0_1.length c0_1)] 24 (0, 0))) ∧ Aside0 (wc.heap[gb123]? = some (.cells #[.string a3_0, (.slice A3_1 l3_1.length c3_1)] 24 (0, 0))) ∧ Aside0 (wc.heap[gb124]? = some (.cells #[.string (⟨#[]⟩ : ByteArray), (.slice none 0 0)] 24 (0, 0))) ∧ Aside0 (Below w.heap.size w wc))
 case first =>
  have H := HC5.out
  clear HC5
  replace H := Option.bind_eq_some_iff.mp H
  obtain ⟨t125, A90, H⟩ := H
  replace H : (if t125 = true then ((strip_Good.f k a3_0 l3_1).bind fun t126 => (strip_Splice.j0 k a1 a2 (!t126) a0_0 l0_1 a3_0 l3_1)) else (strip_Splice.j0 k a1 a2 true a0_0 l0_1 a3_0 l3_1)) = some (r1, r2, r3) := H
  have A9 := aM A90
  clear A90
  by_cases c10 : t125 = true
  ·subst c10
   rw [if_pos rfl] at H
   replace H := Option.bind_eq_some_iff.mp H
   obtain ⟨t126, A110, H⟩ := H
   replace H : (strip_Splice.j0 k a1 a2 (!t126) a0_0 l0_1 a3_0 l3_1) = some (r1, r2, r3) := H
   have A11 := aM A110
   clear A110
   have H' := aM H
   clear H
   have hnb12 := NB122_123.out
   have hnc12 := NB123_122.out
   have hnb13 := NB122_124.out
   have hnc13 := NB124_122.out
   have hcz14_0 := zC BK122.out 0 (.string a0_0)
   have hcz14_1 := zC BK122.out 1 (.slice A0_1 l0_1.length c0_1)
   have hfz14_0 := bF BK122.out 0
   have hfz14_1 := bF BK122.out 1
   go_wp2_with (first | (refine yC (some 15) Tryz.func123 #[.agg #[.string a0_0, .slice A0_1 l0_1.length c0_1], .int .i64 a1, .int .i64 a2] ?_; (with_reducible refine (strip_within.calls k a0_0 _ _ l0_1 a1 a2 true _ ?side1 ?side2 A9.out).mono ?_); (case side1 => exact yR HR0_1); (case side2 => exact HC0_1.out); rintro e w15 ⟨rfl, hb⟩; refine ⟨_, rfl, ?_⟩; replace BK122 := yB hb BK122; replace BK123 := yB hb BK123; replace BK124 := yB hb BK124; replace HB := yP w hb; clear hb; have hnb16 := NB123_124.out; have hnc16 := NB124_123.out; have hcz17_0 := zC BK123.out 0 (.string a3_0); have hcz17_1 := zC BK123.out 1 (.slice A3_1 l3_1.length c3_1); have hfz17_0 := bF BK123.out 0; have hfz17_1 := bF BK123.out 1) | (go_at_call 59; (with_reducible refine (strip_Good.calls k a3_0 _ _ l3_1 t126 _ ?side1 ?side2 A11.out).mono ?_); (case side1 => exact yR HR3_1); (case side2 => exact HC3_1.out); rintro e w18 ⟨rfl, hb⟩; replace BK122 := yB hb BK122; replace BK123 := yB hb BK123; replace BK124 := yB hb BK124; replace HB := yP w hb; clear hb))
   go_meet
   case rel => exact ⟨_, (!t126), (by first | rfl | (simp; done) | (simp [*]; done)), H', ⟨by first | omega | exact Nat.le_refl _⟩, ⟨by exact qy BK122.out⟩, ⟨by exact qy BK123.out⟩, ⟨by exact qy BK124.out⟩, ⟨yH⟩⟩
  ·replace c10 := Bool.eq_false_iff.mpr c10
   subst c10
   rw [if_neg (show ¬ (false = true) by decide)] at H
   have H' := aM H
   clear H
   have hnb19 := NB122_123.out
   have hnc19 := NB123_122.out
   have hnb20 := NB122_124.out
   have hnc20 := NB124_122.out
   have hcz21_0 := zC BK122.out 0 (.string a0_0)
   have hcz21_1 := zC BK122.out 1 (.slice A0_1 l0_1.length c0_1)
   have hfz21_0 := bF BK122.out 0
   have hfz21_1 := bF BK122.out 1
   go_wp2_with (first | (refine yC (some 15) Tryz.func123 #[.agg #[.string a0_0, .slice A0_1 l0_1.length c0_1], .int .i64 a1, .int .i64 a2] ?_; (with_reducible refine (strip_within.calls k a0_0 _ _ l0_1 a1 a2 false _ ?side1 ?side2 A9.out).mono ?_); (case side1 => exact yR HR0_1); (case side2 => exact HC0_1.out); rintro e w22 ⟨rfl, hb⟩; refine ⟨_, rfl, ?_⟩; replace BK122 := yB hb BK122; replace BK123 := yB hb BK123; replace BK124 := yB hb BK124; replace HB := yP w hb; clear hb))
   go_meet
   case rel => exact ⟨_, (true), (by first | rfl | (simp; done) | (simp [*]; done)), H', ⟨by first | omega | exact Nat.le_refl _⟩, ⟨by exact qy BK122.out⟩, ⟨by exact qy BK123.out⟩, ⟨by exact qy BK124.out⟩, ⟨yH⟩⟩
 case rest =>
  clear HC5
  try clear c1
  try clear c2
  try clear p2
  try clear c3
  try clear c10
  try clear c12
  try clear c13
  try clear c14
  try clear c16
  try clear c19
  try clear c20
  try clear hcz14_0
  try clear hcz14_1
  try clear hcz17_0
  try clear hcz17_1
  try clear hcz21_0
  try clear hcz21_1
  try clear hfz14_0
  try clear hfz14_1
  try clear hfz17_0
  try clear hfz17_1
  try clear hfz21_0
  try clear hfz21_1
  obtain ⟨kq, x21_4, rfl, HA, HJ4, BK122, BK123, BK124, HB⟩ := hcut
  cases kq with
  | zero => exact absurd HA.out (by simp [strip_Splice.j0])
  | succ kj4 =>
   have H := HA.out
   clear HA
   simp only [strip_Splice.j0] at H
   by_cases c23 : x21_4 = true
   ·subst c23
    rw [if_pos rfl] at H
    simp only [Option.some.injEq, Prod.mk.injEq] at H
    obtain ⟨rfl, rfl, rfl⟩ := H
    have hnb24 := NB124_122.out
    have hnc24 := NB122_124.out
    have hnb25 := NB124_123.out
    have hnc25 := NB123_124.out
    have hcz26_0 := zC BK124.out 0 (.string (⟨#[]⟩ : ByteArray))
    have hcz26_1 := zC BK124.out 1 (.slice none 0 0)
    have hfz26_0 := bF BK124.out 0
    have hfz26_1 := bF BK124.out 1
    go_wp2
    refine bodyPost_ret (results_ct rfl _ _ gb124 24 #[.string (⟨#[]⟩ : ByteArray), .slice none 0 0] (0, 0) _ rfl (by (with_reducible repeat (first | apply qn | apply qd | apply qa)); refine bU (cs := #[.string (⟨#[]⟩ : ByteArray), .slice none 0 0]) ?_ 1 _ rfl; (with_reducible repeat (first | apply qn | apply qd | apply qa)); refine bU (cs := #[.string (⟨#[]⟩ : ByteArray), .slice none 0 0]) ?_ 0 _ rfl; exact qy BK124.out) Tryz.underlying24 rfl (by kernel_rfl)) rfl ?_
    exact ⟨_, ye, yn, yH⟩
   ·replace c23 := Bool.eq_false_iff.mpr c23
    subst c23
    rw [if_neg (show ¬ (false = true) by decide)] at H
    replace H := Option.bind_eq_some_iff.mp H
    obtain ⟨⟨t127, t128⟩, A270, H⟩ := H
    replace H : (if t128 = 0 then (if 0 ≤ a1 then (if a1 ≤ (a0_0.size : Int) then (if (a0_0.extract 0 (a1 : Int).toNat).size + a3_0.size ≤ 9223372036854775807 then (if 0 ≤ a2 then (if a2 ≤ (a0_0.size : Int) then (if ((a0_0.extract 0 (a1 : Int).toNat) ++ a3_0).size + (a0_0.extract (a2 : Int).toNat a0_0.size).size ≤ 9223372036854775807 then (some (((a0_0.extract 0 (a1 : Int).toNat) ++ a3_0) ++ (a0_0.extract (a2 : Int).toNat a0_0.size), t127, 0)) else (none)) else (none)) else (none)) else (none)) else (none)) else (none)) else (some ((⟨#[]⟩ : ByteArray), ([] : List (S68)), t128))) = some (r1, r2, r3) := H
    have A27 := aM A270
    clear A270
    by_cases c28 : t128 = 0
    ·rw [if_pos c28] at H
     have c28b0 : (t128 == 0) = true := beq_iff_eq.mpr c28
     have c28b1 : (t128 != 0) = false := bne_eq_false_iff_eq.mpr c28
     clear c28
     by_cases c29 : 0 ≤ a1
     ·rw [if_pos c29] at H
      have c29b0 := eq_true c29
      have c29b1 : decide (0 ≤ a1) = true := decide_eq_true c29
      clear c29
      by_cases c30 : a1 ≤ (a0_0.size : Int)
      ·rw [if_pos c30] at H
       have c30b0 := eq_true c30
       have c30b1 : decide (a1 ≤ (a0_0.size : Int)) = true := decide_eq_true c30
       clear c30
       by_cases c31 : (a0_0.extract 0 (a1 : Int).toNat).size + a3_0.size ≤ 9223372036854775807
       ·rw [if_pos c31] at H
        have c31b0 := eq_true c31
        have c31b1 : decide ((a0_0.extract 0 (a1 : Int).toNat).size + a3_0.size ≤ 9223372036854775807) = true := decide_eq_true c31
        try have c31b2 : (9223372036854775807 < (a0_0.extract 0 (a1 : Int).toNat).size + a3_0.size) = False := eq_false (Nat.not_lt.2 c31)
        try (have c31e_ := Nat.not_lt.2 c31; simp only [ByteArray.size_append] at c31e_; have c31f_ := eq_false c31e_; clear c31e_)
        try (have c31c_ := c31; simp [go_sem, c29b0, c30b0] at c31c_; have c31d_ := eq_false (Nat.not_lt.2 c31c_); clear c31c_)
        by_cases c32 : 0 ≤ a2
        ·rw [if_pos c32] at H
         have c32b0 := eq_true c32
         have c32b1 : decide (0 ≤ a2) = true := decide_eq_true c32
         clear c32
         by_cases c33 : a2 ≤ (a0_0.size : Int)
         ·rw [if_pos c33] at H
          have c33b0 := eq_true c33
          have c33b1 : decide (a2 ≤ (a0_0.size : Int)) = true := decide_eq_true c33
          clear c33
          by_cases c34 : ((a0_0.extract 0 (a1 : Int).toNat) ++ a3_0).size + (a0_0.extract (a2 : Int).toNat a0_0.size).size ≤ 9223372036854775807
          ·rw [if_pos c34] at H
           have c34b0 := eq_true c34
           have c34b1 : decide (((a0_0.extract 0 (a1 : Int).toNat) ++ a3_0).size + (a0_0.extract (a2 : Int).toNat a0_0.size).size ≤ 9223372036854775807) = true := decide_eq_true c34
           try have c34b2 : (9223372036854775807 < ((a0_0.extract 0 (a1 : Int).toNat) ++ a3_0).size + (a0_0.extract (a2 : Int).toNat a0_0.size).size) = False := eq_false (Nat.not_lt.2 c34)
           try (have c34e_ := Nat.not_lt.2 c34; simp only [ByteArray.size_append] at c34e_; have c34f_ := eq_false c34e_; clear c34e_)
           try (have c34c_ := c34; simp [go_sem, c29b0, c30b0, c31b0, c32b0, c33b0] at c34c_; have c34d_ := eq_false (Nat.not_lt.2 c34c_); clear c34c_)
           simp only [Option.some.injEq, Prod.mk.injEq] at H
           obtain ⟨rfl, rfl, rfl⟩ := H
           have hnb35 := NB122_123.out
           have hnc35 := NB123_122.out
           have hnb36 := NB122_124.out
           have hnc36 := NB124_122.out
           have hcz37_0 := zC BK122.out 0 (.string a0_0)
           have hcz37_1 := zC BK122.out 1 (.slice A0_1 l0_1.length c0_1)
           have hfz37_0 := bF BK122.out 0
           have hfz37_1 := bF BK122.out 1
           have hnb38 := NB123_124.out
           have hnc38 := NB124_123.out
           have hcz39_0 := zC BK123.out 0 (.string a3_0)
           have hcz39_1 := zC BK123.out 1 (.slice A3_1 l3_1.length c3_1)
           have hfz39_0 := bF BK123.out 0
           have hfz39_1 := bF BK123.out 1
           try go_wp2_with (first | (refine yC (some 30) Tryz.func164 #[.slice A0_1 l0_1.length c0_1, .int .i64 a1, .int .i64 a2, .slice A3_1 l3_1.length c3_1] ?_; (with_reducible refine (runs_Splice.calls kj4 _ _ l0_1 a1 a2 _ _ l3_1 t127 t128 _ ?side1 ?side2 ?side3 ?side4 A27.out).mono ?_); (case side1 => exact yR HR0_1); (case side2 => exact HC0_1.out); (case side3 => exact yR HR3_1); (case side4 => exact HC3_1.out); rintro e w40 ⟨v129, rfl, ho0, hb⟩; refine ⟨_, rfl, ?_⟩; have HO130 := aM (rL ho0 (bZ (yH))); replace BK122 := yB hb BK122; replace BK123 := yB hb BK123; replace BK124 := yB hb BK124; replace HB := yP w hb; clear hb; (try clear ho0)))
           have n0_ := aM (Kd.R_drew HO130.out)
           have n1_ := aM (blk_drew BK122.out)
           have n2_ := aM (blk_drew BK123.out)
           have n3_ := aM (blk_drew BK124.out)
           have n4_ := aM (below_drew1 HB.out)
           clear HO130
           clear BK122
           clear BK123
           clear BK124
           clear HB
           have HO130 := n0_
           have BK122 := n1_
           have BK123 := n2_
           have BK124 := n3_
           have HB := n4_
           clear n0_ n1_ n2_ n3_ n4_
           obtain ⟨Ao42, co42, eo42⟩ := Kd.R_slice HO130.out
           (first | subst eo42 | (injection eo42 with f1_ f2_ f3_; have f4_ := f1_.symm; have f5_ := f3_.symm; clear f1_ f2_ f3_; subst f4_; subst f5_))
           refine start_ (n := 16) (S := fun w' => w'.cell? ⟨gb122, 0, none⟩ = some (.string a0_0) ∧ w'.cell? ⟨gb122, 1, none⟩ = some (.slice A0_1 l0_1.length c0_1) ∧ w'.cell? ⟨gb123, 0, none⟩ = some (.string a3_0) ∧ w'.cell? ⟨gb123, 1, none⟩ = some (.slice A3_1 l3_1.length c3_1)) (ds := []) b18_ (by kernel_rfl) rfl rfl ⟨(bC BK122.out 0).trans rfl, (bC BK122.out 1).trans rfl, (bC BK123.out 0).trans rfl, (bC BK123.out 1).trans rfl⟩ (fun hHeld => ?_); refine with_tabW strip_Splice.tab6 strip_Splice.bits6 (fun HT_ HW_ => ?_)
           generalize w40.drew = w41 at HO130 BK122 BK123 BK124 HB hHeld ⊢
           refine pure_ (i := 0) (N := some 37) (v := ?_) (a' := ?_) b19_ rfl rfl (any_of HT_.out (by kernel_rfl)) (fun _ _ _ h => h) (Or.inl ⟨by rfl, ?_⟩) ?_ ?_
           rotate_left
           ·intro w'
            go_simp
            with_reducible rfl
           rotate_left
           ·simp only [Act.put, sA, sZ, sS, i64_w, i32_w]
            rfl
           refine pure_ (i := 2) (N := some 39) (v := ?_) (a' := ?_) b20_ rfl rfl (any_of HT_.out (by kernel_rfl)) (fun _ _ _ h => h) (Or.inl ⟨by rfl, ?_⟩) ?_ ?_
           rotate_left
           ·intro w'
            go_simp
            with_reducible rfl
           rotate_left
           ·simp only [Act.put, sA, sZ, sS, i64_w, i32_w]
            rfl
           refine pure_ (i := 4) (N := some 41) (v := ?_) (a' := ?_) b21_ rfl rfl (any_of HT_.out (by kernel_rfl)) (fun _ _ _ h => h) (Or.inl ⟨by rfl, ?_⟩) ?_ ?_
           rotate_left
           ·intro w'
            go_simp
            with_reducible rfl
           rotate_left
           ·simp only [Act.put, sA, sZ, sS, i64_w, i32_w]
            rfl
           refine pure_ (i := 7) (N := some 44) (v := ?_) (a' := ?_) b22_ rfl rfl (any_of HT_.out (by kernel_rfl)) (fun _ _ _ h => h) (Or.inl ⟨by rfl, ?_⟩) ?_ ?_
           rotate_left
           ·intro w'
            go_simp
            with_reducible rfl
           rotate_left
           ·simp only [Act.put, sA, sZ, sS, i64_w, i32_w]
            rfl
           refine pure_ (i := 9) (N := some 46) (v := ?_) (a' := ?_) b23_ rfl rfl (any_of HT_.out (by kernel_rfl)) (fun _ _ _ h => h) (Or.inl ⟨by rfl, ?_⟩) ?_ ?_
           rotate_left
           ·intro w'
            go_simp
            with_reducible rfl
           rotate_left
           ·simp only [Act.put, sA, sZ, sS, i64_w, i32_w]
            rfl
           refine pure_ (i := 12) (N := some 49) (v := ?_) (a' := ?_) b24_ rfl rfl (any_of HT_.out (by kernel_rfl)) (fun _ _ _ h => h) (Or.inl ⟨by rfl, ?_⟩) ?_ ?_
           rotate_left
           ·intro w'
            go_simp
            with_reducible rfl
           rotate_left
           ·simp only [Act.put, sA, sZ, sS, i64_w, i32_w]
            rfl
           refine take_ (i := 1) (N := some 38) (v := ?_) (a' := ?_) b25_ rfl rfl (take_ofW HT_.out HW_.out (by kernel_rfl)) (fun _ _ _ h => h) (Or.inl ⟨by rfl, ?_⟩) hHeld ?_ ?_
           rotate_left
           ·rintro w' ⟨s0, s1, s2, s3⟩
            go_simp
            with_reducible rfl
           rotate_left
           ·simp only [Act.put, sA, sZ, sS, i64_w, i32_w]
            rfl
           refine pure_ (i := 3) (N := some 40) (v := ?_) (a' := ?_) b26_ rfl rfl (any_of HT_.out (by kernel_rfl)) (fun _ _ _ h => h) (Or.inl ⟨by rfl, ?_⟩) ?_ ?_
           rotate_left
           ·intro w'
            go_simp
            with_reducible rfl
           rotate_left
           ·simp only [Act.put, sA, sZ, sS, i64_w, i32_w]
            rfl
           refine take_ (i := 5) (N := some 42) (v := ?_) (a' := ?_) b27_ rfl rfl (take_ofW HT_.out HW_.out (by kernel_rfl)) (fun _ _ _ h => h) (Or.inl ⟨by rfl, ?_⟩) hHeld ?_ ?_
           rotate_left
           ·rintro w' ⟨s0, s1, s2, s3⟩
            go_simp
            with_reducible rfl
           rotate_left
           ·simp only [Act.put, sA, sZ, sS, i64_w, i32_w]
            rfl
           refine pure_ (i := 6) (N := some 43) (v := ?_) (a' := ?_) b28_ rfl rfl (any_of HT_.out (by kernel_rfl)) (fun _ _ _ h => h) (Or.inl ⟨by rfl, ?_⟩) ?_ ?_
           rotate_left
           ·intro w'
            go_simp
            with_reducible rfl
           rotate_left
           ·simp only [Act.put, sA, sZ, sS, i64_w, i32_w]
            rfl
           refine take_ (i := 8) (N := some 45) (v := ?_) (a' := ?_) b29_ rfl rfl (take_ofW HT_.out HW_.out (by kernel_rfl)) (fun _ _ _ h => h) (Or.inl ⟨by rfl, ?_⟩) hHeld ?_ ?_
           rotate_left
           ·rintro w' ⟨s0, s1, s2, s3⟩
            go_simp
            with_reducible rfl
           rotate_left
           ·simp only [Act.put, sA, sZ, sS, i64_w, i32_w]
            rfl
           refine pure_ (i := 10) (N := some 47) (v := ?_) (a' := ?_) b30_ rfl rfl (any_of HT_.out (by kernel_rfl)) (fun _ _ _ h => h) (Or.inl ⟨by rfl, ?_⟩) ?_ ?_
           rotate_left
           ·intro w'
            go_simp
            with_reducible rfl
           rotate_left
           ·simp only [Act.put, sA, sZ, sS, i64_w, i32_w]
            rfl
           refine pure_ (i := 11) (N := some 48) (v := ?_) (a' := ?_) b31_ rfl rfl (any_of HT_.out (by kernel_rfl)) (fun _ _ _ h => h) (Or.inl ⟨by rfl, ?_⟩) ?_ ?_
           rotate_left
           ·intro w'
            go_simp
            with_reducible rfl
           rotate_left
           ·simp only [Act.put, sA, sZ, sS, i64_w, i32_w]
            rfl
           refine pure_ (i := 13) (N := some 50) (v := ?_) (a' := ?_) b32_ rfl rfl (any_of HT_.out (by kernel_rfl)) (fun _ _ _ h => h) (Or.inl ⟨by rfl, ?_⟩) ?_ ?_
           rotate_left
           ·intro w'
            go_simp
            with_reducible rfl
           rotate_left
           ·simp only [Act.put, sA, sZ, sS, i64_w, i32_w]
            rfl
           refine one_ (i := 14) (N := none) b33_ rfl rfl (one_of HT_.out (by kernel_rfl)) (by decide) (fun K hK => ?_)
           have hs43 : w41.cell? ⟨gb124, 0, none⟩ = some (.string (⟨#[]⟩ : ByteArray)) := (bC BK124.out 0).trans rfl
           have hfs43 := bF BK124.out 0
           have hns43_0 := NB122_124.out
           have hns43_1 := NB123_124.out
           have hms43_0 := NB124_122.out
           have hms43_1 := NB124_123.out
           have hs44 : w41.cell? ⟨gb124, 1, none⟩ = some (.slice none 0 0) := (bC BK124.out 1).trans rfl
           have hfs44 := bF BK124.out 1
           have hns44_0 := NB122_124.out
           have hns44_1 := NB123_124.out
           have hms44_0 := NB124_122.out
           have hms44_1 := NB124_123.out
           refine skip_ (w1 := ?_) (by rfl) rfl ?_ ?_
           rotate_left
           ·go_simp
            rfl
           refine hK.out _ _ ⟨((cell_far (p := ⟨gb124, _, none⟩) NB122_124.out _).trans (((cell_far (p := ⟨gb124, _, none⟩) NB122_124.out _).trans (hHeld.1)))), ((cell_far (p := ⟨gb124, _, none⟩) NB122_124.out _).trans (((cell_far (p := ⟨gb124, _, none⟩) NB122_124.out _).trans (hHeld.2.1)))), ((cell_far (p := ⟨gb124, _, none⟩) NB123_124.out _).trans (((cell_far (p := ⟨gb124, _, none⟩) NB123_124.out _).trans (hHeld.2.2.1)))), ((cell_far (p := ⟨gb124, _, none⟩) NB123_124.out _).trans (((cell_far (p := ⟨gb124, _, none⟩) NB123_124.out _).trans (hHeld.2.2.2))))⟩ (fun hHeld => ?_)
           clear hK K
           refine pure_ (i := 15) (N := some 9) (v := ?_) (a' := ?_) b34_ rfl rfl (any_of HT_.out (by kernel_rfl)) (fun _ _ _ h => h) (Or.inl ⟨by rfl, ?_⟩) ?_ ?_
           rotate_left
           ·intro w'
            go_simp
            with_reducible rfl
           rotate_left
           ·simp only [Act.put, sA, sZ, sS, i64_w, i32_w]
            rfl
           refine done_ (done_of HT_.out (by kernel_rfl)) ?_
           try go_wp2
           refine bodyPost_ret (results_ct rfl _ _ gb124 24 #[.string (((a0_0.extract 0 (a1 : Int).toNat) ++ a3_0) ++ (a0_0.extract (a2 : Int).toNat a0_0.size)), .slice Ao42 t127.length co42] (0, 0) _ rfl (by (with_reducible repeat (first | apply qn | apply qd | apply qa)); refine bU (cs := #[.string (((a0_0.extract 0 (a1 : Int).toNat) ++ a3_0) ++ (a0_0.extract (a2 : Int).toNat a0_0.size)), .slice none 0 0]) ?_ 1 _ rfl; (with_reducible repeat (first | apply qn | apply qd | apply qa)); refine bU (cs := #[.string (⟨#[]⟩ : ByteArray), .slice none 0 0]) ?_ 0 _ rfl; exact qy BK124.out) Tryz.underlying24 rfl (by kernel_rfl)) rfl ?_
           exact ⟨_, ye, by (with_reducible repeat (first | apply ra | apply rn | apply rd_)); exact rM (rF (p := ⟨gb124, 1, none⟩) (rF (p := ⟨gb124, 0, none⟩) (rT HO130.out BK124.out (by decide)) (fun _ hk => hk.2) (.string (((a0_0.extract 0 (a1 : Int).toNat) ++ a3_0) ++ (a0_0.extract (a2 : Int).toNat a0_0.size)))) (fun _ hk => hk.2) (.slice Ao42 t127.length co42)) (fun _ hk => trivial), yH⟩
          ·rw [if_neg c34] at H
           exact absurd H (by simp)
         ·rw [if_neg c33] at H
          exact absurd H (by simp)
        ·rw [if_neg c32] at H
         exact absurd H (by simp)
       ·rw [if_neg c31] at H
        exact absurd H (by simp)
      ·rw [if_neg c30] at H
       exact absurd H (by simp)
     ·rw [if_neg c29] at H
      exact absurd H (by simp)
    ·rw [if_neg c28] at H
     have c28b0 : (t128 == 0) = false := beq_eq_false_iff_ne.mpr c28
     have c28b1 : (t128 != 0) = true := bne_iff_ne.mpr c28
     simp only [Option.some.injEq, Prod.mk.injEq] at H
     obtain ⟨rfl, rfl, rfl⟩ := H
     have hnb45 := NB122_123.out
     have hnc45 := NB123_122.out
     have hnb46 := NB122_124.out
     have hnc46 := NB124_122.out
     have hcz47_0 := zC BK122.out 0 (.string a0_0)
     have hcz47_1 := zC BK122.out 1 (.slice A0_1 l0_1.length c0_1)
     have hfz47_0 := bF BK122.out 0
     have hfz47_1 := bF BK122.out 1
     have hnb48 := NB123_124.out
     have hnc48 := NB124_123.out
     have hcz49_0 := zC BK123.out 0 (.string a3_0)
     have hcz49_1 := zC BK123.out 1 (.slice A3_1 l3_1.length c3_1)
     have hfz49_0 := bF BK123.out 0
     have hfz49_1 := bF BK123.out 1
     go_wp2_with (first | (refine yC (some 30) Tryz.func164 #[.slice A0_1 l0_1.length c0_1, .int .i64 a1, .int .i64 a2, .slice A3_1 l3_1.length c3_1] ?_; (with_reducible refine (runs_Splice.calls kj4 _ _ l0_1 a1 a2 _ _ l3_1 t127 t128 _ ?side1 ?side2 ?side3 ?side4 A27.out).mono ?_); (case side1 => exact yR HR0_1); (case side2 => exact HC0_1.out); (case side3 => exact yR HR3_1); (case side4 => exact HC3_1.out); rintro e w50 ⟨v129, rfl, ho0, hb⟩; refine ⟨_, rfl, ?_⟩; have HO130 := aM (rL ho0 (bZ (yH))); replace BK122 := yB hb BK122; replace BK123 := yB hb BK123; replace BK124 := yB hb BK124; replace HB := yP w hb; clear hb; (try clear ho0); have hcz51_0 := zC BK124.out 0 (.string (⟨#[]⟩ : ByteArray)); have hcz51_1 := zC BK124.out 1 (.slice none 0 0); have hfz51_0 := bF BK124.out 0; have hfz51_1 := bF BK124.out 1))
     refine bodyPost_ret (results_ct rfl _ _ gb124 24 #[.string (⟨#[]⟩ : ByteArray), .slice none 0 0] (0, 0) _ rfl (by (with_reducible repeat (first | apply qn | apply qd | apply qa)); refine bU (cs := #[.string (⟨#[]⟩ : ByteArray), .slice none 0 0]) ?_ 1 _ rfl; (with_reducible repeat (first | apply qn | apply qd | apply qa)); refine bU (cs := #[.string (⟨#[]⟩ : ByteArray), .slice none 0 0]) ?_ 0 _ rfl; exact qy BK124.out) Tryz.underlying24 rfl (by kernel_rfl)) rfl ?_
     exact ⟨_, ye, yn, yH⟩
def strip_Cat.f (k : Nat) (a0_0 : ByteArray) (l0_1 : List (S68)) (a1_0 : ByteArray) (l1_1 : List (S68)) : Option (ByteArray × (List (S68)) × Int) := (strip_Splice.f k a0_0 l0_1 (a0_0.size : Int) (a0_0.size : Int) a1_0 l1_1).bind fun bt192 => (some (bt192.1, bt192.2.1, bt192.2.2))
set_option maxHeartbeats 8000000 in
set_option maxRecDepth 100000 in
theorem strip_Cat.calls (k : Nat) (a0_0 : ByteArray) (A0_1 : Option Addr) (c0_1 : Nat) (l0_1 : List (S68)) (a1_0 : ByteArray) (A1_1 : Option Addr) (c1_1 : Nat) (l1_1 : List (S68)) (r1 : ByteArray) (r2 : List (S68)) (r3 : Int) (w : World) (hr0_1 : Kd.C k68 w A0_1 l0_1.length l0_1) (hc0_1 : l0_1.length ≤ c0_1) (hr1_1 : Kd.C k68 w A1_1 l1_1.length l1_1) (hc1_1 : l1_1.length ≤ c1_1) (h : strip_Cat.f k a0_0 l0_1 a1_0 l1_1 = some (r1, r2, r3)) :
  Calls Tryz.prog 115 #[.agg #[.string a0_0, .slice A0_1 l0_1.length c0_1], .agg #[.string a1_0, .slice A1_1 l1_1.length c1_1]] w fun e w' => ∃ v1_ : Value, e = .returned (.tuple #[.agg #[.string r1, v1_], .int .i64 r3]) ∧ Kd.R k68 68 w' w.heap.size (fun _ => True) v1_ r2 ∧ Below w.heap.size w w' := by
 have hu24 := Tryz.underlying24
 have HR0_1 := aM hr0_1
 have HC0_1 := aM hc0_1
 clear hr0_1 hc0_1
 have HR1_1 := aM hr1_1
 have HC1_1 := aM hc1_1
 clear hr1_1 hc1_1
 have HB := aM (Below.refl w.heap.size w)
 have H : ((strip_Splice.f k a0_0 l0_1 (a0_0.size : Int) (a0_0.size : Int) a1_0 l1_1).bind fun bt192 => (some (bt192.1, bt192.2.1, bt192.2.2))) = some (r1, r2, r3) := h
 clear h
 replace H := Option.bind_eq_some_iff.mp H
 obtain ⟨⟨t192, t193, t196⟩, A30, H⟩ := H
 replace H : (some (t192, t193, t196)) = some (r1, r2, r3) := H
 have A3 := aM A30
 clear A30
 simp only [Option.some.injEq, Prod.mk.injEq] at H
 obtain ⟨rfl, rfl, rfl⟩ := H
 go_enter Tryz.func115, Tryz.ntmps115
 go_wp2_with (first | (refine yX 2 #[.string a0_0, .slice A0_1 l0_1.length c0_1] 24 (fun gb189 hg w4 hbox hb => ?_); have BK189 := hbox; have GW189 := yG w hg; have GE189 := GW189; replace HB := yP w hb; clear hb hbox hg) | (refine yX 3 #[.string a1_0, .slice A1_1 l1_1.length c1_1] 24 (fun gb190 hg w5 hbox hb => ?_); have BK190 := hbox; have GW190 := yG w hg; have GE190 := GW190; have NB189_190 := yN hg BK189; have NB190_189 := yM hg BK189; replace BK189 := yB hb BK189; replace HB := yP w hb; clear hb hbox hg) | (refine yX 4 #[.string (⟨#[]⟩ : ByteArray), .slice none 0 0] 24 (fun gb191 hg w6 hbox hb => ?_); have BK191 := hbox; have GW191 := yG w hg; have GE191 := GW191; have NB189_191 := yN hg BK189; have NB191_189 := yM hg BK189; have NB190_191 := yN hg BK190; have NB191_190 := yM hg BK190; replace BK189 := yB hb BK189; replace BK190 := yB hb BK190; replace HB := yP w hb; clear hb hbox hg; have hnb7 := NB189_190.out; have hnc7 := NB190_189.out; have hnb8 := NB189_191.out; have hnc8 := NB191_189.out; have hcz9_0 := zC BK189.out 0 (.string a0_0); have hcz9_1 := zC BK189.out 1 (.slice A0_1 l0_1.length c0_1); have hfz9_0 := bF BK189.out 0; have hfz9_1 := bF BK189.out 1; have hnb10 := NB190_191.out; have hnc10 := NB191_190.out; have hcz11_0 := zC BK190.out 0 (.string a1_0); have hcz11_1 := zC BK190.out 1 (.slice A1_1 l1_1.length c1_1); have hfz11_0 := bF BK190.out 0; have hfz11_1 := bF BK190.out 1) | (refine yC (some 14) Tryz.func147 #[.agg #[.string a0_0, .slice A0_1 l0_1.length c0_1], .int .i64 (a0_0.size : Int), .int .i64 (a0_0.size : Int), .agg #[.string a1_0, .slice A1_1 l1_1.length c1_1]] ?_; (with_reducible refine (strip_Splice.calls k a0_0 _ _ l0_1 (a0_0.size : Int) (a0_0.size : Int) a1_0 _ _ l1_1 t192 t193 t196 _ ?side1 ?side2 ?side3 ?side4 A3.out).mono ?_); (case side1 => exact yR HR0_1); (case side2 => exact HC0_1.out); (case side3 => exact yR HR1_1); (case side4 => exact HC1_1.out); rintro e w12 ⟨v194, rfl, ho0, hb⟩; refine ⟨_, rfl, ?_⟩; have HO195 := aM (rL ho0 (bZ (yH))); replace BK189 := yB hb BK189; replace BK190 := yB hb BK190; replace BK191 := yB hb BK191; replace HB := yP w hb; clear hb; (try clear ho0); have hcz13_0 := zC BK191.out 0 (.string (⟨#[]⟩ : ByteArray)); have hcz13_1 := zC BK191.out 1 (.slice none 0 0); have hfz13_0 := bF BK191.out 0; have hfz13_1 := bF BK191.out 1; obtain ⟨Ao14, co14, eo14⟩ := Kd.R_slice HO195.out; subst eo14))
 refine bodyPost_ret (results_ct rfl _ _ gb191 24 #[.string t192, .slice Ao14 t193.length co14] (0, 0) _ rfl (by (with_reducible repeat (first | apply qn | apply qd | apply qa)); refine bU (cs := #[.string t192, .slice none 0 0]) ?_ 1 _ rfl; (with_reducible repeat (first | apply qn | apply qd | apply qa)); refine bU (cs := #[.string (⟨#[]⟩ : ByteArray), .slice none 0 0]) ?_ 0 _ rfl; exact qy BK191.out) Tryz.underlying24 rfl (by kernel_rfl)) rfl ?_
 exact ⟨_, ye, by (with_reducible repeat (first | apply ra | apply rn | apply rd_)); exact rM (rF (p := ⟨gb191, 1, none⟩) (rF (p := ⟨gb191, 0, none⟩) (rT HO195.out BK191.out (by decide)) (fun _ hk => hk.2) (.string t192)) (fun _ hk => hk.2) (.slice Ao14 t193.length co14)) (fun _ hk => trivial), yH⟩
def strip_Cut.f (k : Nat) (a0_0 : ByteArray) (l0_1 : List (S68)) (a1 : Int) (a2 : Int) : Option (ByteArray × (List (S68)) × Int) := (strip_within.f k a0_0 l0_1 a1 a2).bind fun t117 => (if t117 = true then ((runs_Slice.f k l0_1 a1 a2).bind fun bt118 => (if 0 ≤ a1 then (if a1 ≤ a2 then (if a2 ≤ (a0_0.size : Int) then (some (a0_0.extract (a1 : Int).toNat (a2 : Int).toNat, bt118.1, bt118.2)) else (none)) else (none)) else (none))) else (some ((⟨#[]⟩ : ByteArray), ([] : List (S68)), 2)))
set_option maxHeartbeats 8000000 in
set_option maxRecDepth 100000 in
theorem strip_Cut.calls (k : Nat) (a0_0 : ByteArray) (A0_1 : Option Addr) (c0_1 : Nat) (l0_1 : List (S68)) (a1 : Int) (a2 : Int) (r1 : ByteArray) (r2 : List (S68)) (r3 : Int) (w : World) (hr0_1 : Kd.C k68 w A0_1 l0_1.length l0_1) (hc0_1 : l0_1.length ≤ c0_1) (h : strip_Cut.f k a0_0 l0_1 a1 a2 = some (r1, r2, r3)) :
  Calls Tryz.prog 74 #[.agg #[.string a0_0, .slice A0_1 l0_1.length c0_1], .int .i64 a1, .int .i64 a2] w fun e w' => ∃ v1_ : Value, e = .returned (.tuple #[.agg #[.string r1, v1_], .int .i64 r3]) ∧ Kd.R k68 68 w' w.heap.size (fun _ => True) v1_ r2 ∧ Below w.heap.size w w' := by
 have hu24 := Tryz.underlying24
 have HR0_1 := aM hr0_1
 have HC0_1 := aM hc0_1
 clear hr0_1 hc0_1
 have HB := aM (Below.refl w.heap.size w)
 have H : ((strip_within.f k a0_0 l0_1 a1 a2).bind fun t117 => (if t117 = true then ((runs_Slice.f k l0_1 a1 a2).bind fun bt118 => (if 0 ≤ a1 then (if a1 ≤ a2 then (if a2 ≤ (a0_0.size : Int) then (some (a0_0.extract (a1 : Int).toNat (a2 : Int).toNat, bt118.1, bt118.2)) else (none)) else (none)) else (none))) else (some ((⟨#[]⟩ : ByteArray), ([] : List (S68)), 2)))) = some (r1, r2, r3) := h
 clear h
 replace H := Option.bind_eq_some_iff.mp H
 obtain ⟨t117, A40, H⟩ := H
 replace H : (if t117 = true then ((runs_Slice.f k l0_1 a1 a2).bind fun bt118 => (if 0 ≤ a1 then (if a1 ≤ a2 then (if a2 ≤ (a0_0.size : Int) then (some (a0_0.extract (a1 : Int).toNat (a2 : Int).toNat, bt118.1, bt118.2)) else (none)) else (none)) else (none))) else (some ((⟨#[]⟩ : ByteArray), ([] : List (S68)), 2))) = some (r1, r2, r3) := H
 have A4 := aM A40
 clear A40
 by_cases c5 : t117 = true
 ·subst c5
  rw [if_pos rfl] at H
  replace H := Option.bind_eq_some_iff.mp H
  obtain ⟨⟨t118, t119⟩, A60, H⟩ := H
  replace H : (if 0 ≤ a1 then (if a1 ≤ a2 then (if a2 ≤ (a0_0.size : Int) then (some (a0_0.extract (a1 : Int).toNat (a2 : Int).toNat, t118, t119)) else (none)) else (none)) else (none)) = some (r1, r2, r3) := H
  have A6 := aM A60
  clear A60
  by_cases c7 : 0 ≤ a1
  ·rw [if_pos c7] at H
   have c7b0 := eq_true c7
   have c7b1 : decide (0 ≤ a1) = true := decide_eq_true c7
   clear c7
   by_cases c8 : a1 ≤ a2
   ·rw [if_pos c8] at H
    have c8b0 := eq_true c8
    have c8b1 : decide (a1 ≤ a2) = true := decide_eq_true c8
    clear c8
    by_cases c9 : a2 ≤ (a0_0.size : Int)
    ·rw [if_pos c9] at H
     have c9b0 := eq_true c9
     have c9b1 : decide (a2 ≤ (a0_0.size : Int)) = true := decide_eq_true c9
     clear c9
     simp only [Option.some.injEq, Prod.mk.injEq] at H
     obtain ⟨rfl, rfl, rfl⟩ := H
     go_enter Tryz.func74, Tryz.ntmps74
     go_wp2_with (first | (refine yX 3 #[.string a0_0, .slice A0_1 l0_1.length c0_1] 24 (fun gb115 hg w10 hbox hb => ?_); have BK115 := hbox; have GW115 := yG w hg; have GE115 := GW115; replace HB := yP w hb; clear hb hbox hg) | (refine yX 6 #[.string (⟨#[]⟩ : ByteArray), .slice none 0 0] 24 (fun gb116 hg w11 hbox hb => ?_); have BK116 := hbox; have GW116 := yG w hg; have GE116 := GW116; have NB115_116 := yN hg BK115; have NB116_115 := yM hg BK115; replace BK115 := yB hb BK115; replace HB := yP w hb; clear hb hbox hg; have hnb12 := NB115_116.out; have hnc12 := NB116_115.out; have hcz13_0 := zC BK115.out 0 (.string a0_0); have hcz13_1 := zC BK115.out 1 (.slice A0_1 l0_1.length c0_1); have hfz13_0 := bF BK115.out 0; have hfz13_1 := bF BK115.out 1) | (refine yC (some 13) Tryz.func123 #[.agg #[.string a0_0, .slice A0_1 l0_1.length c0_1], .int .i64 a1, .int .i64 a2] ?_; (with_reducible refine (strip_within.calls k a0_0 _ _ l0_1 a1 a2 true _ ?side1 ?side2 A4.out).mono ?_); (case side1 => exact yR HR0_1); (case side2 => exact HC0_1.out); rintro e w14 ⟨rfl, hb⟩; refine ⟨_, rfl, ?_⟩; replace BK115 := yB hb BK115; replace BK116 := yB hb BK116; replace HB := yP w hb; clear hb; have hcz15_0 := zC BK115.out 0 (.string a0_0); have hcz15_1 := zC BK115.out 1 (.slice A0_1 l0_1.length c0_1); have hfz15_0 := bF BK115.out 0; have hfz15_1 := bF BK115.out 1) | (refine yC (some 21) Tryz.func124 #[.slice A0_1 l0_1.length c0_1, .int .i64 a1, .int .i64 a2] ?_; (with_reducible refine (runs_Slice.calls k _ _ l0_1 a1 a2 t118 t119 _ ?side1 ?side2 A6.out).mono ?_); (case side1 => exact yR HR0_1); (case side2 => exact HC0_1.out); rintro e w16 ⟨v120, rfl, ho0, hb⟩; refine ⟨_, rfl, ?_⟩; have HO121 := aM (rL ho0 (bZ (yH))); replace BK115 := yB hb BK115; replace BK116 := yB hb BK116; replace HB := yP w hb; clear hb; (try clear ho0); have hcz17_0 := zC BK115.out 0 (.string a0_0); have hcz17_1 := zC BK115.out 1 (.slice A0_1 l0_1.length c0_1); have hfz17_0 := bF BK115.out 0; have hfz17_1 := bF BK115.out 1; obtain ⟨Ao18, co18, eo18⟩ := Kd.R_slice HO121.out; subst eo18; have hcz19_0 := zC BK116.out 0 (.string (⟨#[]⟩ : ByteArray)); have hcz19_1 := zC BK116.out 1 (.slice none 0 0); have hfz19_0 := bF BK116.out 0; have hfz19_1 := bF BK116.out 1))
     refine bodyPost_ret (results_ct rfl _ _ gb116 24 #[.string (a0_0.extract (a1 : Int).toNat (a2 : Int).toNat), .slice Ao18 t118.length co18] (0, 0) _ rfl (by (with_reducible repeat (first | apply qn | apply qd | apply qa)); refine bU (cs := #[.string (a0_0.extract (a1 : Int).toNat (a2 : Int).toNat), .slice none 0 0]) ?_ 1 _ rfl; (with_reducible repeat (first | apply qn | apply qd | apply qa)); refine bU (cs := #[.string (⟨#[]⟩ : ByteArray), .slice none 0 0]) ?_ 0 _ rfl; exact qy BK116.out) Tryz.underlying24 rfl (by kernel_rfl)) rfl ?_
     exact ⟨_, ye, by (with_reducible repeat (first | apply ra | apply rn | apply rd_)); exact rM (rF (p := ⟨gb116, 1, none⟩) (rF (p := ⟨gb116, 0, none⟩) (rT HO121.out BK116.out (by decide)) (fun _ hk => hk.2) (.string (a0_0.extract (a1 : Int).toNat (a2 : Int).toNat))) (fun _ hk => hk.2) (.slice Ao18 t118.length co18)) (fun _ hk => trivial), yH⟩
    ·rw [if_neg c9] at H
     exact absurd H (by simp)
   ·rw [if_neg c8] at H
    exact absurd H (by simp)
  ·rw [if_neg c7] at H
   exact absurd H (by simp)
 ·replace c5 := Bool.eq_false_iff.mpr c5
  subst c5
  rw [if_neg (show ¬ (false = true) by decide)] at H
  simp only [Option.some.injEq, Prod.mk.injEq] at H
  obtain ⟨rfl, rfl, rfl⟩ := H
  go_enter Tryz.func74, Tryz.ntmps74
  go_wp2_with (first | (refine yX 3 #[.string a0_0, .slice A0_1 l0_1.length c0_1] 24 (fun gb115 hg w20 hbox hb => ?_); have BK115 := hbox; have GW115 := yG w hg; have GE115 := GW115; replace HB := yP w hb; clear hb hbox hg) | (refine yX 6 #[.string (⟨#[]⟩ : ByteArray), .slice none 0 0] 24 (fun gb116 hg w21 hbox hb => ?_); have BK116 := hbox; have GW116 := yG w hg; have GE116 := GW116; have NB115_116 := yN hg BK115; have NB116_115 := yM hg BK115; replace BK115 := yB hb BK115; replace HB := yP w hb; clear hb hbox hg; have hnb22 := NB115_116.out; have hnc22 := NB116_115.out; have hcz23_0 := zC BK115.out 0 (.string a0_0); have hcz23_1 := zC BK115.out 1 (.slice A0_1 l0_1.length c0_1); have hfz23_0 := bF BK115.out 0; have hfz23_1 := bF BK115.out 1) | (refine yC (some 13) Tryz.func123 #[.agg #[.string a0_0, .slice A0_1 l0_1.length c0_1], .int .i64 a1, .int .i64 a2] ?_; (with_reducible refine (strip_within.calls k a0_0 _ _ l0_1 a1 a2 false _ ?side1 ?side2 A4.out).mono ?_); (case side1 => exact yR HR0_1); (case side2 => exact HC0_1.out); rintro e w24 ⟨rfl, hb⟩; refine ⟨_, rfl, ?_⟩; replace BK115 := yB hb BK115; replace BK116 := yB hb BK116; replace HB := yP w hb; clear hb; have hcz25_0 := zC BK116.out 0 (.string (⟨#[]⟩ : ByteArray)); have hcz25_1 := zC BK116.out 1 (.slice none 0 0); have hfz25_0 := bF BK116.out 0; have hfz25_1 := bF BK116.out 1))
  refine bodyPost_ret (results_ct rfl _ _ gb116 24 #[.string (⟨#[]⟩ : ByteArray), .slice none 0 0] (0, 0) _ rfl (by (with_reducible repeat (first | apply qn | apply qd | apply qa)); refine bU (cs := #[.string (⟨#[]⟩ : ByteArray), .slice none 0 0]) ?_ 1 _ rfl; (with_reducible repeat (first | apply qn | apply qd | apply qa)); refine bU (cs := #[.string (⟨#[]⟩ : ByteArray), .slice none 0 0]) ?_ 0 _ rfl; exact qy BK116.out) Tryz.underlying24 rfl (by kernel_rfl)) rfl ?_
  exact ⟨_, ye, yn, yH⟩
def bureauref04_Make.l0 : Nat → ByteArray → Int → List Int → Int → Option (ByteArray × (List (S68)) × Int)
 | 0, _, _, _, _ => none
 | k + 1, x0, x1, x6, x7 => if x7 < (x0.size : Int) then (if x6.length < 17592186044416 then (bureauref04_Make.l0 k x0 x1 (x6 ++ [x1]) (wrap64 (x7 + 1))) else (none)) else ((bureauref03_Pack.f k x6).bind fun t529 => (some (x0, t529, 0)))
def bureauref04_Make.f (k : Nat) (a0 : ByteArray) (a1 : Int) : Option (ByteArray × (List (S68)) × Int) := if (a0.size : Int) > 4096 then (some ((⟨#[]⟩ : ByteArray), ([] : List (S68)), 3)) else (bureauref04_Make.l0 k a0 a1 ([] : List Int) 0)
set_option maxHeartbeats 8000000 in
set_option maxRecDepth 100000 in
theorem bureauref04_Make.calls (k : Nat) (a0 : ByteArray) (a1 : Int) (r1 : ByteArray) (r2 : List (S68)) (r3 : Int) (w : World) (h : bureauref04_Make.f k a0 a1 = some (r1, r2, r3)) :
  Calls Tryz.prog 112 #[.string a0, .int .u64 a1] w fun e w' => ∃ v1_ : Value, e = .returned (.tuple #[.agg #[.string r1, v1_], .int .i64 r3]) ∧ Kd.R k68 68 w' w.heap.size (fun _ => True) v1_ r2 ∧ Below w.heap.size w w' := by
 have hu24 := Tryz.underlying24
 have HB := aM (Below.refl w.heap.size w)
 have H : (if (a0.size : Int) > 4096 then (some ((⟨#[]⟩ : ByteArray), ([] : List (S68)), 3)) else (bureauref04_Make.l0 k a0 a1 ([] : List Int) 0)) = some (r1, r2, r3) := h
 clear h
 by_cases c3 : (a0.size : Int) > 4096
 ·rw [if_pos c3] at H
  have c3b0 : decide (4096 < (a0.size : Int)) = true := decide_eq_true c3
  have c3b1 : decide (4096 < a0.size) = true := decide_eq_true (by omega)
  clear c3
  simp only [Option.some.injEq, Prod.mk.injEq] at H
  obtain ⟨rfl, rfl, rfl⟩ := H
  go_enter Tryz.func112, Tryz.ntmps112
  go_wp2_with (first | (refine yX 4 #[.string (⟨#[]⟩ : ByteArray), .slice none 0 0] 24 (fun gb525 hg w4 hbox hb => ?_); have BK525 := hbox; have GW525 := yG w hg; have GE525 := GW525; replace HB := yP w hb; clear hb hbox hg; have hcz5_0 := zC BK525.out 0 (.string (⟨#[]⟩ : ByteArray)); have hcz5_1 := zC BK525.out 1 (.slice none 0 0); have hfz5_0 := bF BK525.out 0; have hfz5_1 := bF BK525.out 1))
  refine bodyPost_ret (results_ct rfl _ _ gb525 24 #[.string (⟨#[]⟩ : ByteArray), .slice none 0 0] (0, 0) _ rfl (by (with_reducible repeat (first | apply qn | apply qd | apply qa)); refine bU (cs := #[.string (⟨#[]⟩ : ByteArray), .slice none 0 0]) ?_ 1 _ rfl; (with_reducible repeat (first | apply qn | apply qd | apply qa)); refine bU (cs := #[.string (⟨#[]⟩ : ByteArray), .slice none 0 0]) ?_ 0 _ rfl; exact qy BK525.out) Tryz.underlying24 rfl (by kernel_rfl)) rfl ?_
  exact ⟨_, ye, yn, yH⟩
 ·rw [if_neg c3] at H
  have c3b0 : decide (4096 < (a0.size : Int)) = false := decide_eq_false c3
  have c3b1 : decide (4096 < a0.size) = false := decide_eq_false (by omega)
  clear c3
  have H' := aM H
  clear H
  go_enter Tryz.func112, Tryz.ntmps112
  go_wp2_with (first | (refine yX 4 #[.string (⟨#[]⟩ : ByteArray), .slice none 0 0] 24 (fun gb525 hg w6 hbox hb => ?_); have BK525 := hbox; have GW525 := yG w hg; have GE525 := GW525; replace HB := yP w hb; clear hb hbox hg))
  go_loopg [6, 7] k (fun kq v6 v7 w' => ∃ (x6_1 : List Int) (x7_1 : Int), v7 = .int .i64 x7_1 ∧ Aside0 (bureauref04_Make.l0 kq a0 a1 x6_1 x7_1 = some (r1, r2, r3)) ∧ Aside0 (kq ≤ k) ∧ Aside0 (Kd.R (Kd.int .u64) 26 w' w.heap.size (fun _ => True) v6 x6_1) ∧ Aside0 (w'.heap[gb525]? = some (.cells #[.string (⟨#[]⟩ : ByteArray), (.slice none 0 0)] 24 (0, 0))) ∧ Aside0 (Below w.heap.size w w'))
  case atStart => exact ⟨(([] : List Int)), (0), (by first | rfl | (simp; done) | (simp [*]; done)), H', ⟨Nat.le_refl _⟩, ⟨yn⟩, ⟨by exact qy BK525.out⟩, ⟨yH⟩⟩
  case round =>
   clear H'
   try clear c1
   try clear p2
   try clear c3
   try clear c3b0
   try clear c3b1
   try clear hcz5_0
   try clear hcz5_1
   try clear hfz5_0
   try clear hfz5_1
   obtain ⟨x6_1, x7_1, rfl, HA, HK1, HO_6, BK525, HB⟩ := hrel
   cases gk with
   | zero => exact absurd HA.out (by simp [bureauref04_Make.l0])
   | succ k1 =>
    have H := HA.out
    clear HA
    simp only [bureauref04_Make.l0] at H
    by_cases c7 : x7_1 < (a0.size : Int)
    ·rw [if_pos c7] at H
     have c7b0 : decide (x7_1 < (a0.size : Int)) = true := decide_eq_true c7
     clear c7
     by_cases c8 : x6_1.length < 17592186044416
     ·rw [if_pos c8] at H
      have LMc8 := aM c8
      clear c8
      obtain ⟨y526, hy526⟩ : ∃ y_ : List Int, y_ = (x6_1 ++ [a1]) := ⟨_, rfl⟩
      replace H : (bureauref04_Make.l0 k1 a0 a1 y526 (wrap64 (x7_1 + 1))) = some (r1, r2, r3) := by first | (rw [hy526]; with_reducible exact H) | (have H2_ := (Option.bind_some _ _).symm.trans H; rw [hy526]; with_reducible exact H2_) | (have H2_ := (Option.bind_some _ _).symm.trans H; with_reducible exact H2_) | with_reducible exact H | (rw [hy526]; exact H) | exact H
      have Ny526 := aM hy526
      clear hy526
      have H' := aM H
      clear H
      go_wp2_with (first | ((with_reducible refine gate_builtin (b := .append) (xs := #[.tmp 18, .tmp 20]) rfl ?_); at_builtin; refine Kd.R_append (Kd.int .u64) (w0 := w) w.heap.size rfl (.tmp 18) (.tmp 20) 109 26 (.int .u64 0) 8 rfl Tryz.underlying109 info26 rfl (by decide) (by omega) u6 x6_1 a1 [.int .u64 a1] (fun _ => True) (fun _ => False) rfl rfl ?aP (fun _ hk => hk.elim) ?aF ?aO ?aB ?aS ?aL ?_; (case aP => exact rfl); (case aB => exact (yH)); (case aF => exact (fun _ _ => trivial)); (case aO => exact (ry HO_6.out)); (case aS => exact (bZ (yH))); (case aL => have := LMc8.out; omega); intro v527 w9 ho hb hg hat; rw [← Ny526.out] at ho; have HO528 := aM (ho); replace BK525 := aM (blk_grown (g := gb525) (qy BK525.out) hg (Kd.R_ne HO_6.out BK525.out (by decide))); replace HB := aM (hb); clear HO_6; clear ho hb hg hat))
      go_roundg k1
      case measure => have := HK1.out; omega
      case rel => exact ⟨(y526), (wrap64 (x7_1 + 1)), (by first | rfl | (simp; done) | (simp [*]; done)), H', ⟨by have := HK1.out; omega⟩, ⟨by exact ry HO528.out⟩, ⟨by exact qy BK525.out⟩, ⟨yH⟩⟩
     ·rw [if_neg c8] at H
      exact absurd H (by simp)
    ·rw [if_neg c7] at H
     have c7b0 : decide (x7_1 < (a0.size : Int)) = false := decide_eq_false c7
     clear c7
     replace H := Option.bind_eq_some_iff.mp H
     obtain ⟨t529, A100, H⟩ := H
     replace H : (some (a0, t529, 0)) = some (r1, r2, r3) := H
     have A10 := aM A100
     clear A100
     simp only [Option.some.injEq, Prod.mk.injEq] at H
     obtain ⟨rfl, rfl, rfl⟩ := H
     obtain ⟨Ao11, co11, eo11⟩ := Kd.R_slice HO_6.out
     subst eo11
     go_wp2_with (first | (refine yC (some 24) Tryz.func120 #[.slice Ao11 x6_1.length co11] ?_; (with_reducible refine (bureauref03_Pack.calls k1 _ _ x6_1 t529 _ ?side1 ?side2 A10.out).mono ?_); (case side1 => repeat (first | exact (rR HO_6.out).2.2 | (with_reducible refine Kd.C_alloc ?_ _) | (with_reducible refine Kd.C_drewN ?_ _) | (with_reducible refine Kd.C_drew ?_))); (case side2 => exact (rR HO_6.out).2.1); rintro e w12 ⟨v530, rfl, ho0, hb⟩; refine ⟨_, rfl, ?_⟩; have HO531 := aM (rL ho0 (bZ (yH))); replace HO_6 := aM (Kd.R_below (ry HO_6.out) hb); replace BK525 := yB hb BK525; replace HB := yP w hb; clear hb; (try clear ho0); obtain ⟨Ao13, co13, eo13⟩ := Kd.R_slice HO531.out; subst eo13; have hcz14_0 := zC BK525.out 0 (.string (⟨#[]⟩ : ByteArray)); have hcz14_1 := zC BK525.out 1 (.slice none 0 0); have hfz14_0 := bF BK525.out 0; have hfz14_1 := bF BK525.out 1))
     refine bodyPost_ret (results_ct rfl _ _ gb525 24 #[.string a0, .slice Ao13 t529.length co13] (0, 0) _ rfl (by (with_reducible repeat (first | apply qn | apply qd | apply qa)); refine bU (cs := #[.string a0, .slice none 0 0]) ?_ 1 _ rfl; (with_reducible repeat (first | apply qn | apply qd | apply qa)); refine bU (cs := #[.string (⟨#[]⟩ : ByteArray), .slice none 0 0]) ?_ 0 _ rfl; exact qy BK525.out) Tryz.underlying24 rfl (by kernel_rfl)) rfl ?_
     exact ⟨_, ye, by (with_reducible repeat (first | apply ra | apply rn | apply rd_)); exact rM (rF (p := ⟨gb525, 1, none⟩) (rF (p := ⟨gb525, 0, none⟩) (rT HO531.out BK525.out (by decide)) (fun _ hk => hk.2) (.string a0)) (fun _ hk => hk.2) (.slice Ao13 t529.length co13)) (fun _ hk => trivial), yH⟩
def bureauref04_Same.f (k : Nat) (a0_0 : ByteArray) (l0_1 : List (S68)) (a1_0 : ByteArray) (l1_1 : List (S68)) : Option (Bool) := if a0_0.toList = a1_0.toList then ((bureauref03_Same.f k l0_1 l1_1).bind fun t339 => (some t339)) else (some false)
set_option maxHeartbeats 8000000 in
set_option maxRecDepth 100000 in
theorem bureauref04_Same.calls (k : Nat) (a0_0 : ByteArray) (A0_1 : Option Addr) (c0_1 : Nat) (l0_1 : List (S68)) (a1_0 : ByteArray) (A1_1 : Option Addr) (c1_1 : Nat) (l1_1 : List (S68)) (r : Bool) (w : World) (hr0_1 : Kd.C k68 w A0_1 l0_1.length l0_1) (hc0_1 : l0_1.length ≤ c0_1) (hr1_1 : Kd.C k68 w A1_1 l1_1.length l1_1) (hc1_1 : l1_1.length ≤ c1_1) (h : bureauref04_Same.f k a0_0 l0_1 a1_0 l1_1 = some r) :
  Calls Tryz.prog 24 #[.agg #[.string a0_0, .slice A0_1 l0_1.length c0_1], .agg #[.string a1_0, .slice A1_1 l1_1.length c1_1]] w fun e w' => e = .returned (.bool r) ∧ Below w.heap.size w w' := by
 have hu24 := Tryz.underlying24
 have HR0_1 := aM hr0_1
 have HC0_1 := aM hc0_1
 clear hr0_1 hc0_1
 have HR1_1 := aM hr1_1
 have HC1_1 := aM hc1_1
 clear hr1_1 hc1_1
 have HB := aM (Below.refl w.heap.size w)
 have H : (if a0_0.toList = a1_0.toList then ((bureauref03_Same.f k l0_1 l1_1).bind fun t339 => (some t339)) else (some false)) = some r := h
 clear h
 by_cases c3 : a0_0.toList = a1_0.toList
 ·rw [if_pos c3] at H
  have c3b0 : (a0_0.toList == a1_0.toList) = true := beq_iff_eq.mpr c3
  have c3b1 : (a0_0.toList != a1_0.toList) = false := bne_eq_false_iff_eq.mpr c3
  clear c3
  replace H := Option.bind_eq_some_iff.mp H
  obtain ⟨t339, A40, H⟩ := H
  replace H : (some t339) = some r := H
  have A4 := aM A40
  clear A40
  obtain rfl := Option.some.inj H
  go_enter Tryz.func24, Tryz.ntmps24
  go_wp2_with (first | (refine yX 2 #[.string a0_0, .slice A0_1 l0_1.length c0_1] 24 (fun gb337 hg w5 hbox hb => ?_); have BK337 := hbox; have GW337 := yG w hg; have GE337 := GW337; replace HB := yP w hb; clear hb hbox hg) | (refine yX 3 #[.string a1_0, .slice A1_1 l1_1.length c1_1] 24 (fun gb338 hg w6 hbox hb => ?_); have BK338 := hbox; have GW338 := yG w hg; have GE338 := GW338; have NB337_338 := yN hg BK337; have NB338_337 := yM hg BK337; replace BK337 := yB hb BK337; replace HB := yP w hb; clear hb hbox hg; have hnb7 := NB337_338.out; have hnc7 := NB338_337.out; have hcz8_0 := zC BK337.out 0 (.string a0_0); have hcz8_1 := zC BK337.out 1 (.slice A0_1 l0_1.length c0_1); have hfz8_0 := bF BK337.out 0; have hfz8_1 := bF BK337.out 1; have hcz9_0 := zC BK338.out 0 (.string a1_0); have hcz9_1 := zC BK338.out 1 (.slice A1_1 l1_1.length c1_1); have hfz9_0 := bF BK338.out 0; have hfz9_1 := bF BK338.out 1) | (go_at_call 67; (with_reducible refine (bureauref03_Same.calls k _ _ l0_1 _ _ l1_1 t339 _ ?side1 ?side2 ?side3 ?side4 A4.out).mono ?_); (case side1 => exact yR HR0_1); (case side2 => exact HC0_1.out); (case side3 => exact yR HR1_1); (case side4 => exact HC1_1.out); rintro e w' ⟨rfl, ⟨nd, rfl⟩⟩))
  go_ret
  exact ⟨ye, yH⟩
 ·rw [if_neg c3] at H
  have c3b0 : (a0_0.toList == a1_0.toList) = false := beq_eq_false_iff_ne.mpr c3
  have c3b1 : (a0_0.toList != a1_0.toList) = true := bne_iff_ne.mpr c3
  obtain rfl := Option.some.inj H
  go_enter Tryz.func24, Tryz.ntmps24
  go_wp2_with (first | (refine yX 2 #[.string a0_0, .slice A0_1 l0_1.length c0_1] 24 (fun gb337 hg w10 hbox hb => ?_); have BK337 := hbox; have GW337 := yG w hg; have GE337 := GW337; replace HB := yP w hb; clear hb hbox hg) | (refine yX 3 #[.string a1_0, .slice A1_1 l1_1.length c1_1] 24 (fun gb338 hg w11 hbox hb => ?_); have BK338 := hbox; have GW338 := yG w hg; have GE338 := GW338; have NB337_338 := yN hg BK337; have NB338_337 := yM hg BK337; replace BK337 := yB hb BK337; replace HB := yP w hb; clear hb hbox hg; have hnb12 := NB337_338.out; have hnc12 := NB338_337.out; have hcz13_0 := zC BK337.out 0 (.string a0_0); have hcz13_1 := zC BK337.out 1 (.slice A0_1 l0_1.length c0_1); have hfz13_0 := bF BK337.out 0; have hfz13_1 := bF BK337.out 1; have hcz14_0 := zC BK338.out 0 (.string a1_0); have hcz14_1 := zC BK338.out 1 (.slice A1_1 l1_1.length c1_1); have hfz14_0 := bF BK338.out 0; have hfz14_1 := bF BK338.out 1))
  go_ret
  exact ⟨ye, yH⟩
def bureauref04_Good.f (k : Nat) (a0_0 : ByteArray) (l0_1 : List (S68)) : Option (Bool) := (bureauref03_Good.f k l0_1).bind fun t311 => (if t311 = true then ((bureauref03_Total.f k l0_1).bind fun t312 => (some (t312 == (a0_0.size : Int)))) else (some false))
def bureauref04_Good.T1 : Bool × List (List Nat × List Nat) := (true, [([], []), ([0], [0]), ([1], [1]), ([2, 2], [2]), ([3], [3]), ([4, 3], [3, 4]), ([5, 3, 3], [3, 5]), ([3], [3]), ([7, 3], [3, 7]), ([8, 3], [3, 8]), ([6, 9, 3], [3, 6, 9]), ([3, 10], [3, 10]), ([11, 6, 0, 1, 2, 3, 4, 5, 6, 7, 8, 9, 10, 11], [11])])
def bureauref04_Good.B1 : List Nat := [0, 1, 3, 7, 15, 31, 63, 15, 143, 399, 1023, 2047, 4095]
theorem bureauref04_Good.tab1 : rtab .any (opsOf Tryz.f62 1) = bureauref04_Good.T1 := by kernel_rfl
theorem bureauref04_Good.bits1 : waitsOk bureauref04_Good.T1.2 bureauref04_Good.B1 = true := by kernel_rfl
set_option maxHeartbeats 8000000 in
set_option maxRecDepth 100000 in
theorem bureauref04_Good.calls (k : Nat) (a0_0 : ByteArray) (A0_1 : Option Addr) (c0_1 : Nat) (l0_1 : List (S68)) (r : Bool) (w : World) (hr0_1 : Kd.C k68 w A0_1 l0_1.length l0_1) (hc0_1 : l0_1.length ≤ c0_1) (h : bureauref04_Good.f k a0_0 l0_1 = some r) :
  Calls Tryz.prog 62 #[.agg #[.string a0_0, .slice A0_1 l0_1.length c0_1]] w fun e w' => e = .returned (.bool r) ∧ Below w.heap.size w w' := by
 have hu24 := Tryz.underlying24
 have HR0_1 := aM hr0_1
 have HC0_1 := aM hc0_1
 clear hr0_1 hc0_1
 have HB := aM (Below.refl w.heap.size w)
 have H : ((bureauref03_Good.f k l0_1).bind fun t311 => (if t311 = true then ((bureauref03_Total.f k l0_1).bind fun t312 => (some (t312 == (a0_0.size : Int)))) else (some false))) = some r := h
 clear h
 replace H := Option.bind_eq_some_iff.mp H
 obtain ⟨t311, A20, H⟩ := H
 replace H : (if t311 = true then ((bureauref03_Total.f k l0_1).bind fun t312 => (some (t312 == (a0_0.size : Int)))) else (some false)) = some r := H
 have A2 := aM A20
 clear A20
 by_cases c3 : t311 = true
 ·subst c3
  rw [if_pos rfl] at H
  replace H := Option.bind_eq_some_iff.mp H
  obtain ⟨t312, A40, H⟩ := H
  replace H : (some (t312 == (a0_0.size : Int))) = some r := H
  have A4 := aM A40
  clear A40
  obtain rfl := Option.some.inj H
  go_enter Tryz.func62, Tryz.ntmps62
  try go_wp2_with (first | ((with_reducible refine gate_dst (N := 1) rfl ?_); (try (refine gate_guard (by rfl) ?_; dsimp only)); refine box_event ?hg (N := 1) ?hd (cs := #[.string a0_0, .slice A0_1 l0_1.length c0_1]) (t := 24) ?hr ?_; (case hd | hg => rfl); (case hr => first | (go_simp; done) | (go_simp; rfl)); intro gb310 hg w5 hbox hb; have BK310 := aM (hbox); have GW310 := yG w hg; have GE310 := GW310; replace HB := yP w hb; clear hb hbox hg))
  have n0_ := aM (blk_drew BK310.out)
  have n1_ := aM (below_drew1 HB.out)
  clear BK310
  clear HB
  have BK310 := n0_
  have HB := n1_
  clear n0_ n1_
  refine start_ (n := 13) (S := fun w' => w'.cell? ⟨gb310, 0, none⟩ = some (.string a0_0) ∧ w'.cell? ⟨gb310, 1, none⟩ = some (.slice A0_1 l0_1.length c0_1)) (ds := []) b0_ (by kernel_rfl) rfl rfl ⟨(bC BK310.out 0).trans rfl, (bC BK310.out 1).trans rfl⟩ (fun hHeld => ?_); refine with_tabW bureauref04_Good.tab1 bureauref04_Good.bits1 (fun HT_ HW_ => ?_)
  generalize w5.drew = w6 at BK310 HB hHeld ⊢
  refine pure_ (i := 0) (N := some 3) (v := ?_) (a' := ?_) b1_ rfl rfl (any_of HT_.out (by kernel_rfl)) (fun _ _ _ h => h) (Or.inl ⟨by rfl, ?_⟩) ?_ ?_
  rotate_left
  ·intro w'
   go_simp
   with_reducible rfl
  rotate_left
  ·simp only [Act.put, sA, sZ, sS, i64_w, i32_w]
   rfl
  refine take_ (i := 1) (N := some 4) (v := ?_) (a' := ?_) b2_ rfl rfl (take_ofW HT_.out HW_.out (by kernel_rfl)) (fun _ _ _ h => h) (Or.inl ⟨by rfl, ?_⟩) hHeld ?_ ?_
  rotate_left
  ·rintro w' ⟨s0, s1⟩
   go_simp
   with_reducible rfl
  rotate_left
  ·simp only [Act.put, sA, sZ, sS, i64_w, i32_w]
   rfl
  refine one_ (i := 2) (N := some 5) b3_ rfl rfl (one_of HT_.out (by kernel_rfl)) (by decide) (fun K hK => ?_)
  refine goes_ Tryz.func116 (by kernel_rfl) rfl #[.slice A0_1 l0_1.length c0_1] (by rfl) rfl rfl (by (try simp only [mT, mC, mN]); first | done | rfl | (simp only [lD, lT]; rfl)) ?_
  with_reducible refine (bureauref03_Good.calls k _ _ l0_1 true _ ?side1 ?side2 A2.out).mono ?_
  (case side1 => exact yR HR0_1)
  (case side2 => exact HC0_1.out)
  rintro e w7 ⟨rfl, hb⟩
  refine ⟨_, rfl, ?_⟩
  have n0_ := yB hb BK310
  have n1_ := yP w hb
  clear BK310
  clear HB
  have BK310 := n0_
  have HB := n1_
  clear n0_ n1_
  (try clear hb)
  (try clear hb2)
  (try clear hk)
  (try clear hi)
  refine hK.out _ _ ⟨(bC BK310.out 0).trans rfl, (bC BK310.out 1).trans rfl⟩ (fun hHeld => ?_)
  clear hK K
  refine norm_ (a' := ?_) ?_ ?_
  rotate_left
  ·show Act.put _ (some 5) _ = _
   simp only [Act.put, sA, sZ, sS, i64_w, i32_w]
   rfl
  refine pure_ (i := 3) (N := some 6) (v := ?_) (a' := ?_) b4_ rfl rfl (any_of HT_.out (by kernel_rfl)) (fun _ _ _ h => h) (Or.inl ⟨by rfl, ?_⟩) ?_ ?_
  rotate_left
  ·intro w'
   go_simp
   with_reducible rfl
  rotate_left
  ·simp only [Act.put, sA, sZ, sS, i64_w, i32_w]
   rfl
  refine pure_ (i := 4) (N := some 7) (v := ?_) (a' := ?_) b5_ rfl rfl (any_of HT_.out (by kernel_rfl)) (fun _ _ _ h => h) (Or.inl ⟨by rfl, ?_⟩) ?_ ?_
  rotate_left
  ·intro w'
   go_simp
   with_reducible rfl
  rotate_left
  ·simp only [Act.put, sA, sZ, sS, i64_w, i32_w]
   rfl
  refine pure_ (i := 7) (N := some 10) (v := ?_) (a' := ?_) b6_ rfl rfl (any_of HT_.out (by kernel_rfl)) (fun _ _ _ h => h) (Or.inl ⟨by rfl, ?_⟩) ?_ ?_
  rotate_left
  ·intro w'
   go_simp
   with_reducible rfl
  rotate_left
  ·simp only [Act.put, sA, sZ, sS, i64_w, i32_w]
   rfl
  refine take_ (i := 5) (N := some 8) (v := ?_) (a' := ?_) b7_ rfl rfl (take_ofW HT_.out HW_.out (by kernel_rfl)) (fun _ _ _ h => h) (Or.inl ⟨by rfl, ?_⟩) hHeld ?_ ?_
  rotate_left
  ·rintro w' ⟨s0, s1⟩
   go_simp
   with_reducible rfl
  rotate_left
  ·simp only [Act.put, sA, sZ, sS, i64_w, i32_w]
   rfl
  refine take_ (i := 8) (N := some 11) (v := ?_) (a' := ?_) b8_ rfl rfl (take_ofW HT_.out HW_.out (by kernel_rfl)) (fun _ _ _ h => h) (Or.inl ⟨by rfl, ?_⟩) hHeld ?_ ?_
  rotate_left
  ·rintro w' ⟨s0, s1⟩
   go_simp
   with_reducible rfl
  rotate_left
  ·simp only [Act.put, sA, sZ, sS, i64_w, i32_w]
   rfl
  refine pure_ (i := 9) (N := some 12) (v := ?_) (a' := ?_) b9_ rfl rfl (any_of HT_.out (by kernel_rfl)) (fun _ _ _ h => h) (Or.inl ⟨by rfl, ?_⟩) ?_ ?_
  rotate_left
  ·intro w'
   go_simp
   with_reducible rfl
  rotate_left
  ·simp only [Act.put, sA, sZ, sS, i64_w, i32_w]
   rfl
  refine one_ (i := 6) (N := some 9) b10_ rfl rfl (one_of HT_.out (by kernel_rfl)) (by decide) (fun K hK => ?_)
  refine goes_ Tryz.func117 (by kernel_rfl) rfl #[.slice A0_1 l0_1.length c0_1] (by rfl) rfl rfl (by (try simp only [mT, mC, mN]); first | done | rfl | (simp only [lD, lT]; rfl)) ?_
  with_reducible refine (bureauref03_Total.calls k _ _ l0_1 t312 _ ?side1 ?side2 A4.out).mono ?_
  (case side1 => exact yR HR0_1)
  (case side2 => exact HC0_1.out)
  rintro e w' ⟨rfl, ⟨nd, rfl⟩⟩
  refine ⟨_, rfl, ?_⟩
  refine hK.out _ _ ⟨(bC BK310.out 0).trans rfl, (bC BK310.out 1).trans rfl⟩ (fun hHeld => ?_)
  clear hK K
  refine norm_ (a' := ?_) ?_ ?_
  rotate_left
  ·show Act.put _ (some 9) _ = _
   simp only [Act.put, sA, sZ, sS, i64_w, i32_w]
   rfl
  refine pure_ (i := 10) (N := some 13) (v := ?_) (a' := ?_) b11_ rfl rfl (any_of HT_.out (by kernel_rfl)) (fun _ _ _ h => h) (Or.inl ⟨by rfl, ?_⟩) ?_ ?_
  rotate_left
  ·intro w'
   go_simp
   with_reducible rfl
  rotate_left
  ·simp only [Act.put, sA, sZ, sS, i64_w, i32_w]
   rfl
  refine pure_ (i := 11) (N := some 14) (v := ?_) (a' := ?_) b12_ rfl rfl (any_of HT_.out (by kernel_rfl)) (fun _ _ _ h => h) (Or.inl ⟨by rfl, ?_⟩) ?_ ?_
  rotate_left
  ·intro w'
   go_simp
   with_reducible rfl
  rotate_left
  ·simp only [Act.put, sA, sZ, sS, i64_w, i32_w]
   rfl
  refine pure_ (i := 12) (N := some 2) (v := ?_) (a' := ?_) b13_ rfl rfl (any_of HT_.out (by kernel_rfl)) (fun _ _ _ h => h) (Or.inl ⟨by rfl, ?_⟩) ?_ ?_
  rotate_left
  ·intro w'
   go_simp
   with_reducible rfl
  rotate_left
  ·simp only [Act.put, sA, sZ, sS, i64_w, i32_w]
   rfl
  refine done_ (done_of HT_.out (by kernel_rfl)) ?_
  try go_wp2
  go_ret
  exact ⟨ye, yH⟩
 ·replace c3 := Bool.eq_false_iff.mpr c3
  subst c3
  rw [if_neg (show ¬ (false = true) by decide)] at H
  obtain rfl := Option.some.inj H
  go_enter Tryz.func62, Tryz.ntmps62
  try go_wp2_with (first | ((with_reducible refine gate_dst (N := 1) rfl ?_); (try (refine gate_guard (by rfl) ?_; dsimp only)); refine box_event ?hg (N := 1) ?hd (cs := #[.string a0_0, .slice A0_1 l0_1.length c0_1]) (t := 24) ?hr ?_; (case hd | hg => rfl); (case hr => first | (go_simp; done) | (go_simp; rfl)); intro gb310 hg w8 hbox hb; have BK310 := aM (hbox); have GW310 := yG w hg; have GE310 := GW310; replace HB := yP w hb; clear hb hbox hg))
  have n0_ := aM (blk_drew BK310.out)
  have n1_ := aM (below_drew1 HB.out)
  clear BK310
  clear HB
  have BK310 := n0_
  have HB := n1_
  clear n0_ n1_
  refine start_ (n := 13) (S := fun w' => w'.cell? ⟨gb310, 0, none⟩ = some (.string a0_0) ∧ w'.cell? ⟨gb310, 1, none⟩ = some (.slice A0_1 l0_1.length c0_1)) (ds := []) b0_ (by kernel_rfl) rfl rfl ⟨(bC BK310.out 0).trans rfl, (bC BK310.out 1).trans rfl⟩ (fun hHeld => ?_); refine with_tabW bureauref04_Good.tab1 bureauref04_Good.bits1 (fun HT_ HW_ => ?_)
  generalize w8.drew = w9 at BK310 HB hHeld ⊢
  refine pure_ (i := 0) (N := some 3) (v := ?_) (a' := ?_) b1_ rfl rfl (any_of HT_.out (by kernel_rfl)) (fun _ _ _ h => h) (Or.inl ⟨by rfl, ?_⟩) ?_ ?_
  rotate_left
  ·intro w'
   go_simp
   with_reducible rfl
  rotate_left
  ·simp only [Act.put, sA, sZ, sS, i64_w, i32_w]
   rfl
  refine take_ (i := 1) (N := some 4) (v := ?_) (a' := ?_) b2_ rfl rfl (take_ofW HT_.out HW_.out (by kernel_rfl)) (fun _ _ _ h => h) (Or.inl ⟨by rfl, ?_⟩) hHeld ?_ ?_
  rotate_left
  ·rintro w' ⟨s0, s1⟩
   go_simp
   with_reducible rfl
  rotate_left
  ·simp only [Act.put, sA, sZ, sS, i64_w, i32_w]
   rfl
  refine one_ (i := 2) (N := some 5) b3_ rfl rfl (one_of HT_.out (by kernel_rfl)) (by decide) (fun K hK => ?_)
  refine goes_ Tryz.func116 (by kernel_rfl) rfl #[.slice A0_1 l0_1.length c0_1] (by rfl) rfl rfl (by (try simp only [mT, mC, mN]); first | done | rfl | (simp only [lD, lT]; rfl)) ?_
  with_reducible refine (bureauref03_Good.calls k _ _ l0_1 false _ ?side1 ?side2 A2.out).mono ?_
  (case side1 => exact yR HR0_1)
  (case side2 => exact HC0_1.out)
  rintro e w10 ⟨rfl, hb⟩
  refine ⟨_, rfl, ?_⟩
  have n0_ := yB hb BK310
  have n1_ := yP w hb
  clear BK310
  clear HB
  have BK310 := n0_
  have HB := n1_
  clear n0_ n1_
  (try clear hb)
  (try clear hb2)
  (try clear hk)
  (try clear hi)
  refine hK.out _ _ ⟨(bC BK310.out 0).trans rfl, (bC BK310.out 1).trans rfl⟩ (fun hHeld => ?_)
  clear hK K
  refine norm_ (a' := ?_) ?_ ?_
  rotate_left
  ·show Act.put _ (some 5) _ = _
   simp only [Act.put, sA, sZ, sS, i64_w, i32_w]
   rfl
  refine pure_ (i := 3) (N := some 6) (v := ?_) (a' := ?_) b4_ rfl rfl (any_of HT_.out (by kernel_rfl)) (fun _ _ _ h => h) (Or.inl ⟨by rfl, ?_⟩) ?_ ?_
  rotate_left
  ·intro w'
   go_simp
   with_reducible rfl
  rotate_left
  ·simp only [Act.put, sA, sZ, sS, i64_w, i32_w]
   rfl
  refine pure_ (i := 4) (N := some 7) (v := undef) (a' := ?_) b5_ rfl rfl (any_of HT_.out (by kernel_rfl)) (fun _ _ _ h => h) (Or.inr ⟨by rfl, rfl⟩) ?_ ?_
  rotate_left
  ·simp only [Act.put, sA, sZ, sS, i64_w, i32_w]
   rfl
  refine pure_ (i := 5) (N := some 8) (v := undef) (a' := ?_) b14_ rfl rfl (any_of HT_.out (by kernel_rfl)) (fun _ _ _ h => h) (Or.inr ⟨by rfl, rfl⟩) ?_ ?_
  rotate_left
  ·simp only [Act.put, sA, sZ, sS, i64_w, i32_w]
   rfl
  refine pure_ (i := 6) (N := some 9) (v := undef) (a' := ?_) b15_ rfl rfl (any_of HT_.out (by kernel_rfl)) (fun _ _ _ h => h) (Or.inr ⟨by rfl, rfl⟩) ?_ ?_
  rotate_left
  ·simp only [Act.put, sA, sZ, sS, i64_w, i32_w]
   rfl
  refine pure_ (i := 7) (N := some 10) (v := undef) (a' := ?_) b16_ rfl rfl (any_of HT_.out (by kernel_rfl)) (fun _ _ _ h => h) (Or.inr ⟨by rfl, rfl⟩) ?_ ?_
  rotate_left
  ·simp only [Act.put, sA, sZ, sS, i64_w, i32_w]
   rfl
  refine pure_ (i := 8) (N := some 11) (v := undef) (a' := ?_) b17_ rfl rfl (any_of HT_.out (by kernel_rfl)) (fun _ _ _ h => h) (Or.inr ⟨by rfl, rfl⟩) ?_ ?_
  rotate_left
  ·simp only [Act.put, sA, sZ, sS, i64_w, i32_w]
   rfl
  refine pure_ (i := 9) (N := some 12) (v := undef) (a' := ?_) b10_ rfl rfl (any_of HT_.out (by kernel_rfl)) (fun _ _ _ h => h) (Or.inr ⟨by rfl, rfl⟩) ?_ ?_
  rotate_left
  ·simp only [Act.put, sA, sZ, sS, i64_w, i32_w]
   rfl
  refine pure_ (i := 10) (N := some 13) (v := undef) (a' := ?_) b11_ rfl rfl (any_of HT_.out (by kernel_rfl)) (fun _ _ _ h => h) (Or.inr ⟨by rfl, rfl⟩) ?_ ?_
  rotate_left
  ·simp only [Act.put, sA, sZ, sS, i64_w, i32_w]
   rfl
  refine pure_ (i := 11) (N := some 14) (v := ?_) (a' := ?_) b12_ rfl rfl (any_of HT_.out (by kernel_rfl)) (fun _ _ _ h => h) (Or.inl ⟨by rfl, ?_⟩) ?_ ?_
  rotate_left
  ·intro w'
   go_simp
   with_reducible rfl
  rotate_left
  ·simp only [Act.put, sA, sZ, sS, i64_w, i32_w]
   rfl
  refine pure_ (i := 12) (N := some 2) (v := ?_) (a' := ?_) b13_ rfl rfl (any_of HT_.out (by kernel_rfl)) (fun _ _ _ h => h) (Or.inl ⟨by rfl, ?_⟩) ?_ ?_
  rotate_left
  ·intro w'
   go_simp
   with_reducible rfl
  rotate_left
  ·simp only [Act.put, sA, sZ, sS, i64_w, i32_w]
   rfl
  refine done_ (done_of HT_.out (by kernel_rfl)) ?_
  try go_wp2
  go_ret
  exact ⟨ye, yH⟩
def bureauref04_Within.f (k : Nat) (a0_0 : ByteArray) (l0_1 : List (S68)) (a1 : Int) (a2 : Int) : Option (Bool) := (bureauref04_Good.f k a0_0 l0_1).bind fun t341 => (if t341 = true then (if a1 ≥ 0 then (if a1 ≤ a2 then (some (decide (a2 ≤ (a0_0.size : Int)))) else (some false)) else (some false)) else (some false))
set_option maxHeartbeats 8000000 in
set_option maxRecDepth 100000 in
theorem bureauref04_Within.calls (k : Nat) (a0_0 : ByteArray) (A0_1 : Option Addr) (c0_1 : Nat) (l0_1 : List (S68)) (a1 : Int) (a2 : Int) (r : Bool) (w : World) (hr0_1 : Kd.C k68 w A0_1 l0_1.length l0_1) (hc0_1 : l0_1.length ≤ c0_1) (h : bureauref04_Within.f k a0_0 l0_1 a1 a2 = some r) :
  Calls Tryz.prog 119 #[.agg #[.string a0_0, .slice A0_1 l0_1.length c0_1], .int .i64 a1, .int .i64 a2] w fun e w' => e = .returned (.bool r) ∧ Below w.heap.size w w' := by
 have hu24 := Tryz.underlying24
 have HR0_1 := aM hr0_1
 have HC0_1 := aM hc0_1
 clear hr0_1 hc0_1
 have HB := aM (Below.refl w.heap.size w)
 have H : ((bureauref04_Good.f k a0_0 l0_1).bind fun t341 => (if t341 = true then (if a1 ≥ 0 then (if a1 ≤ a2 then (some (decide (a2 ≤ (a0_0.size : Int)))) else (some false)) else (some false)) else (some false))) = some r := h
 clear h
 replace H := Option.bind_eq_some_iff.mp H
 obtain ⟨t341, A40, H⟩ := H
 replace H : (if t341 = true then (if a1 ≥ 0 then (if a1 ≤ a2 then (some (decide (a2 ≤ (a0_0.size : Int)))) else (some false)) else (some false)) else (some false)) = some r := H
 have A4 := aM A40
 clear A40
 by_cases c5 : t341 = true
 ·subst c5
  rw [if_pos rfl] at H
  by_cases c6 : a1 ≥ 0
  ·rw [if_pos c6] at H
   have c6b0 : decide (0 ≤ a1) = true := decide_eq_true c6
   clear c6
   by_cases c7 : a1 ≤ a2
   ·rw [if_pos c7] at H
    have c7b0 : decide (a1 ≤ a2) = true := decide_eq_true c7
    clear c7
    obtain rfl := Option.some.inj H
    go_enter Tryz.func119, Tryz.ntmps119
    go_wp2_with (first | ((with_reducible refine gate_dst (N := 3) rfl ?_); (try (refine gate_guard (by rfl) ?_; dsimp only)); refine box_event ?hg (N := 3) ?hd (cs := #[.string a0_0, .slice A0_1 l0_1.length c0_1]) (t := 24) ?hr ?_; (case hd | hg => rfl); (case hr => first | (go_simp; done) | (go_simp; rfl)); intro gb340 hg w8 hbox hb; have BK340 := aM (hbox); have GW340 := yG w hg; have GE340 := GW340; replace HB := yP w hb; clear hb hbox hg; have hcz9_0 := zC BK340.out 0 (.string a0_0); have hcz9_1 := zC BK340.out 1 (.slice A0_1 l0_1.length c0_1); have hfz9_0 := bF BK340.out 0; have hfz9_1 := bF BK340.out 1) | (refine yC (some 8) Tryz.func62 #[.agg #[.string a0_0, .slice A0_1 l0_1.length c0_1]] ?_; (with_reducible refine (bureauref04_Good.calls k a0_0 _ _ l0_1 true _ ?side1 ?side2 A4.out).mono ?_); (case side1 => exact yR HR0_1); (case side2 => exact HC0_1.out); rintro e w10 ⟨rfl, hb⟩; refine ⟨_, rfl, ?_⟩; replace BK340 := yB hb BK340; replace HB := yP w hb; clear hb; have hcz11_0 := zC BK340.out 0 (.string a0_0); have hcz11_1 := zC BK340.out 1 (.slice A0_1 l0_1.length c0_1); have hfz11_0 := bF BK340.out 0; have hfz11_1 := bF BK340.out 1))
    go_ret
    exact ⟨ye, yH⟩
   ·rw [if_neg c7] at H
    have c7b0 : decide (a1 ≤ a2) = false := decide_eq_false c7
    clear c7
    obtain rfl := Option.some.inj H
    go_enter Tryz.func119, Tryz.ntmps119
    go_wp2_with (first | ((with_reducible refine gate_dst (N := 3) rfl ?_); (try (refine gate_guard (by rfl) ?_; dsimp only)); refine box_event ?hg (N := 3) ?hd (cs := #[.string a0_0, .slice A0_1 l0_1.length c0_1]) (t := 24) ?hr ?_; (case hd | hg => rfl); (case hr => first | (go_simp; done) | (go_simp; rfl)); intro gb340 hg w12 hbox hb; have BK340 := aM (hbox); have GW340 := yG w hg; have GE340 := GW340; replace HB := yP w hb; clear hb hbox hg; have hcz13_0 := zC BK340.out 0 (.string a0_0); have hcz13_1 := zC BK340.out 1 (.slice A0_1 l0_1.length c0_1); have hfz13_0 := bF BK340.out 0; have hfz13_1 := bF BK340.out 1) | (refine yC (some 8) Tryz.func62 #[.agg #[.string a0_0, .slice A0_1 l0_1.length c0_1]] ?_; (with_reducible refine (bureauref04_Good.calls k a0_0 _ _ l0_1 true _ ?side1 ?side2 A4.out).mono ?_); (case side1 => exact yR HR0_1); (case side2 => exact HC0_1.out); rintro e w14 ⟨rfl, hb⟩; refine ⟨_, rfl, ?_⟩; replace BK340 := yB hb BK340; replace HB := yP w hb; clear hb))
    go_ret
    exact ⟨ye, yH⟩
  ·rw [if_neg c6] at H
   have c6b0 : decide (0 ≤ a1) = false := decide_eq_false c6
   clear c6
   obtain rfl := Option.some.inj H
   go_enter Tryz.func119, Tryz.ntmps119
   go_wp2_with (first | ((with_reducible refine gate_dst (N := 3) rfl ?_); (try (refine gate_guard (by rfl) ?_; dsimp only)); refine box_event ?hg (N := 3) ?hd (cs := #[.string a0_0, .slice A0_1 l0_1.length c0_1]) (t := 24) ?hr ?_; (case hd | hg => rfl); (case hr => first | (go_simp; done) | (go_simp; rfl)); intro gb340 hg w15 hbox hb; have BK340 := aM (hbox); have GW340 := yG w hg; have GE340 := GW340; replace HB := yP w hb; clear hb hbox hg; have hcz16_0 := zC BK340.out 0 (.string a0_0); have hcz16_1 := zC BK340.out 1 (.slice A0_1 l0_1.length c0_1); have hfz16_0 := bF BK340.out 0; have hfz16_1 := bF BK340.out 1) | (refine yC (some 8) Tryz.func62 #[.agg #[.string a0_0, .slice A0_1 l0_1.length c0_1]] ?_; (with_reducible refine (bureauref04_Good.calls k a0_0 _ _ l0_1 true _ ?side1 ?side2 A4.out).mono ?_); (case side1 => exact yR HR0_1); (case side2 => exact HC0_1.out); rintro e w17 ⟨rfl, hb⟩; refine ⟨_, rfl, ?_⟩; replace BK340 := yB hb BK340; replace HB := yP w hb; clear hb))
   go_ret
   exact ⟨ye, yH⟩
 ·replace c5 := Bool.eq_false_iff.mpr c5
  subst c5
  rw [if_neg (show ¬ (false = true) by decide)] at H
  obtain rfl := Option.some.inj H
  go_enter Tryz.func119, Tryz.ntmps119
  go_wp2_with (first | ((with_reducible refine gate_dst (N := 3) rfl ?_); (try (refine gate_guard (by rfl) ?_; dsimp only)); refine box_event ?hg (N := 3) ?hd (cs := #[.string a0_0, .slice A0_1 l0_1.length c0_1]) (t := 24) ?hr ?_; (case hd | hg => rfl); (case hr => first | (go_simp; done) | (go_simp; rfl)); intro gb340 hg w18 hbox hb; have BK340 := aM (hbox); have GW340 := yG w hg; have GE340 := GW340; replace HB := yP w hb; clear hb hbox hg; have hcz19_0 := zC BK340.out 0 (.string a0_0); have hcz19_1 := zC BK340.out 1 (.slice A0_1 l0_1.length c0_1); have hfz19_0 := bF BK340.out 0; have hfz19_1 := bF BK340.out 1) | (refine yC (some 8) Tryz.func62 #[.agg #[.string a0_0, .slice A0_1 l0_1.length c0_1]] ?_; (with_reducible refine (bureauref04_Good.calls k a0_0 _ _ l0_1 false _ ?side1 ?side2 A4.out).mono ?_); (case side1 => exact yR HR0_1); (case side2 => exact HC0_1.out); rintro e w20 ⟨rfl, hb⟩; refine ⟨_, rfl, ?_⟩; replace BK340 := yB hb BK340; replace HB := yP w hb; clear hb))
  go_ret
  exact ⟨ye, yH⟩
def bureauref04_Cut.f (k : Nat) (a0_0 : ByteArray) (l0_1 : List (S68)) (a1 : Int) (a2 : Int) : Option (ByteArray × (List (S68)) × Int) := (bureauref04_Within.f k a0_0 l0_1 a1 a2).bind fun t344 => (if t344 = true then ((bureauref03_Bytes.f k l0_1).bind fun t345 => (if 0 ≤ a1 then (if a1 ≤ a2 then (if a2 ≤ (a0_0.size : Int) then (if a2 ≤ (t345.length : Int) then ((bureauref03_Pack.f k ((t345.take (a2 : Int).toNat).drop (a1 : Int).toNat)).bind fun t352 => (some (a0_0.extract (a1 : Int).toNat (a2 : Int).toNat, t352, 0))) else (none)) else (none)) else (none)) else (none))) else (some ((⟨#[]⟩ : ByteArray), ([] : List (S68)), 2)))
def bureauref04_Cut.T4 : Bool × List (List Nat × List Nat) := (true, [([], []), ([0], [0]), ([], []), ([], []), ([1, 2, 3], [1, 2, 3]), ([], []), ([], []), ([], []), ([5, 6, 7], [5, 6, 7]), ([8], [8]), ([4, 9], [4, 9]), ([10, 9, 0, 1, 2, 3, 4, 5, 6, 7, 8, 9, 10], [10]), ([11, 0, 1, 2, 3, 4, 5, 6, 7, 8, 9, 10, 11], [])])
def bureauref04_Cut.B4 : List Nat := [0, 1, 0, 0, 15, 0, 0, 0, 224, 480, 1023, 2047, 4095]
theorem bureauref04_Cut.tab4 : rtab .any (opsOf Tryz.f83 4) = bureauref04_Cut.T4 := by kernel_rfl
theorem bureauref04_Cut.bits4 : waitsOk bureauref04_Cut.T4.2 bureauref04_Cut.B4 = true := by kernel_rfl
set_option maxHeartbeats 8000000 in
set_option maxRecDepth 100000 in
theorem bureauref04_Cut.calls (k : Nat) (a0_0 : ByteArray) (A0_1 : Option Addr) (c0_1 : Nat) (l0_1 : List (S68)) (a1 : Int) (a2 : Int) (r1 : ByteArray) (r2 : List (S68)) (r3 : Int) (w : World) (hr0_1 : Kd.C k68 w A0_1 l0_1.length l0_1) (hc0_1 : l0_1.length ≤ c0_1) (h : bureauref04_Cut.f k a0_0 l0_1 a1 a2 = some (r1, r2, r3)) :
  Calls Tryz.prog 83 #[.agg #[.string a0_0, .slice A0_1 l0_1.length c0_1], .int .i64 a1, .int .i64 a2] w fun e w' => ∃ v1_ : Value, e = .returned (.tuple #[.agg #[.string r1, v1_], .int .i64 r3]) ∧ Kd.R k68 68 w' w.heap.size (fun _ => True) v1_ r2 ∧ Below w.heap.size w w' := by
 have hu24 := Tryz.underlying24
 have HR0_1 := aM hr0_1
 have HC0_1 := aM hc0_1
 clear hr0_1 hc0_1
 have HB := aM (Below.refl w.heap.size w)
 have H : ((bureauref04_Within.f k a0_0 l0_1 a1 a2).bind fun t344 => (if t344 = true then ((bureauref03_Bytes.f k l0_1).bind fun t345 => (if 0 ≤ a1 then (if a1 ≤ a2 then (if a2 ≤ (a0_0.size : Int) then (if a2 ≤ (t345.length : Int) then ((bureauref03_Pack.f k ((t345.take (a2 : Int).toNat).drop (a1 : Int).toNat)).bind fun t352 => (some (a0_0.extract (a1 : Int).toNat (a2 : Int).toNat, t352, 0))) else (none)) else (none)) else (none)) else (none))) else (some ((⟨#[]⟩ : ByteArray), ([] : List (S68)), 2)))) = some (r1, r2, r3) := h
 clear h
 replace H := Option.bind_eq_some_iff.mp H
 obtain ⟨t344, A40, H⟩ := H
 replace H : (if t344 = true then ((bureauref03_Bytes.f k l0_1).bind fun t345 => (if 0 ≤ a1 then (if a1 ≤ a2 then (if a2 ≤ (a0_0.size : Int) then (if a2 ≤ (t345.length : Int) then ((bureauref03_Pack.f k ((t345.take (a2 : Int).toNat).drop (a1 : Int).toNat)).bind fun t352 => (some (a0_0.extract (a1 : Int).toNat (a2 : Int).toNat, t352, 0))) else (none)) else (none)) else (none)) else (none))) else (some ((⟨#[]⟩ : ByteArray), ([] : List (S68)), 2))) = some (r1, r2, r3) := H
 have A4 := aM A40
 clear A40
 by_cases c5 : t344 = true
 ·subst c5
  rw [if_pos rfl] at H
  replace H := Option.bind_eq_some_iff.mp H
  obtain ⟨t345, A60, H⟩ := H
  replace H : (if 0 ≤ a1 then (if a1 ≤ a2 then (if a2 ≤ (a0_0.size : Int) then (if a2 ≤ (t345.length : Int) then ((bureauref03_Pack.f k ((t345.take (a2 : Int).toNat).drop (a1 : Int).toNat)).bind fun t352 => (some (a0_0.extract (a1 : Int).toNat (a2 : Int).toNat, t352, 0))) else (none)) else (none)) else (none)) else (none)) = some (r1, r2, r3) := H
  have A6 := aM A60
  clear A60
  by_cases c7 : 0 ≤ a1
  ·rw [if_pos c7] at H
   have c7b0 := eq_true c7
   have c7b1 : decide (0 ≤ a1) = true := decide_eq_true c7
   clear c7
   by_cases c8 : a1 ≤ a2
   ·rw [if_pos c8] at H
    have c8b0 := eq_true c8
    have c8b1 : decide (a1 ≤ a2) = true := decide_eq_true c8
    clear c8
    by_cases c9 : a2 ≤ (a0_0.size : Int)
    ·rw [if_pos c9] at H
     have c9b0 := eq_true c9
     have c9b1 : decide (a2 ≤ (a0_0.size : Int)) = true := decide_eq_true c9
     clear c9
     have c10b0 := eq_true (of_decide_eq_true (by first | (with_reducible assumption) | assumption) : 0 ≤ a1)
     have c11b0 := eq_true (of_decide_eq_true (by first | (with_reducible assumption) | assumption) : a1 ≤ a2)
     by_cases c12 : a2 ≤ (t345.length : Int)
     ·rw [if_pos c12] at H
      have c12b0 := eq_true c12
      have c12b1 : decide (a2 ≤ (t345.length : Int)) = true := decide_eq_true c12
      clear c12
      obtain ⟨y348, hy348⟩ : ∃ y_ : List Int, y_ = ((t345.take (a2 : Int).toNat).drop (a1 : Int).toNat) := ⟨_, rfl⟩
      replace H : ((bureauref03_Pack.f k y348).bind fun t352 => (some (a0_0.extract (a1 : Int).toNat (a2 : Int).toNat, t352, 0))) = some (r1, r2, r3) := by first | (rw [hy348]; with_reducible exact H) | (have H2_ := (Option.bind_some _ _).symm.trans H; rw [hy348]; with_reducible exact H2_) | (have H2_ := (Option.bind_some _ _).symm.trans H; with_reducible exact H2_) | with_reducible exact H | (rw [hy348]; exact H) | exact H
      have Ny348 := aM hy348
      clear hy348
      replace H := Option.bind_eq_some_iff.mp H
      obtain ⟨t352, A130, H⟩ := H
      replace H : (some (a0_0.extract (a1 : Int).toNat (a2 : Int).toNat, t352, 0)) = some (r1, r2, r3) := H
      have A13 := aM A130
      clear A130
      simp only [Option.some.injEq, Prod.mk.injEq] at H
      obtain ⟨rfl, rfl, rfl⟩ := H
      go_enter Tryz.func83, Tryz.ntmps83
      try go_wp2_with (first | (refine yX 3 #[.string a0_0, .slice A0_1 l0_1.length c0_1] 24 (fun gb342 hg w14 hbox hb => ?_); have BK342 := hbox; have GW342 := yG w hg; have GE342 := GW342; replace HB := yP w hb; clear hb hbox hg) | (refine yX 6 #[.string (⟨#[]⟩ : ByteArray), .slice none 0 0] 24 (fun gb343 hg w15 hbox hb => ?_); have BK343 := hbox; have GW343 := yG w hg; have GE343 := GW343; have NB342_343 := yN hg BK342; have NB343_342 := yM hg BK342; replace BK342 := yB hb BK342; replace HB := yP w hb; clear hb hbox hg; have hnb16 := NB342_343.out; have hnc16 := NB343_342.out; have hcz17_0 := zC BK342.out 0 (.string a0_0); have hcz17_1 := zC BK342.out 1 (.slice A0_1 l0_1.length c0_1); have hfz17_0 := bF BK342.out 0; have hfz17_1 := bF BK342.out 1) | (refine yC (some 12) Tryz.func119 #[.agg #[.string a0_0, .slice A0_1 l0_1.length c0_1], .int .i64 a1, .int .i64 a2] ?_; (with_reducible refine (bureauref04_Within.calls k a0_0 _ _ l0_1 a1 a2 true _ ?side1 ?side2 A4.out).mono ?_); (case side1 => exact yR HR0_1); (case side2 => exact HC0_1.out); rintro e w18 ⟨rfl, hb⟩; refine ⟨_, rfl, ?_⟩; replace BK342 := yB hb BK342; replace BK343 := yB hb BK343; replace HB := yP w hb; clear hb; have hcz19_0 := zC BK342.out 0 (.string a0_0); have hcz19_1 := zC BK342.out 1 (.slice A0_1 l0_1.length c0_1); have hfz19_0 := bF BK342.out 0; have hfz19_1 := bF BK342.out 1) | (refine yC (some 17) Tryz.func68 #[.slice A0_1 l0_1.length c0_1] ?_; (with_reducible refine (bureauref03_Bytes.calls k _ _ l0_1 t345 _ ?side1 ?side2 A6.out).mono ?_); (case side1 => exact yR HR0_1); (case side2 => exact HC0_1.out); rintro e w20 ⟨v346, rfl, ho0, hb⟩; refine ⟨_, rfl, ?_⟩; have HO347 := aM (rL ho0 (bZ (yH))); replace BK342 := yB hb BK342; replace BK343 := yB hb BK343; replace HB := yP w hb; clear hb; (try clear ho0)))
      have n0_ := aM (Kd.R_drew HO347.out)
      have n1_ := aM (blk_drew BK342.out)
      have n2_ := aM (blk_drew BK343.out)
      have n3_ := aM (below_drew1 HB.out)
      clear HO347
      clear BK342
      clear BK343
      clear HB
      have HO347 := n0_
      have BK342 := n1_
      have BK343 := n2_
      have HB := n3_
      clear n0_ n1_ n2_ n3_
      obtain ⟨Ao23, co23, eo23⟩ := Kd.R_slice HO347.out
      (first | subst eo23 | (injection eo23 with f1_ f2_ f3_; have f4_ := f1_.symm; have f5_ := f3_.symm; clear f1_ f2_ f3_; subst f4_; subst f5_))
      have q22 : (a2 : Int) ≤ ((t345.length : Int) : Int) := of_decide_eq_true (by first | (with_reducible assumption) | assumption)
      obtain ⟨i022, hi022, _, hsz22, _⟩ := info_parts info26
      have hroom22 : t345.length ≤ co23 := (rR HO347.out).2.1
      have hC22 : Kd.C (Kd.int .u64) _ Ao23 t345.length t345 := (rR HO347.out).2.2
      have ql22 : (a1 : Int) ≤ (a2 : Int) := of_decide_eq_true (by first | (with_reducible assumption) | assumption)
      have q022 : (0 : Int) ≤ (a1 : Int) := of_decide_eq_true (by first | (with_reducible assumption) | assumption)
      have hcut22 := cut_mid (P := Tryz.prog) 109 26 .i64 .i64 Tryz.underlying109 hi022 1 hsz22 Ao23 t345.length co23 a1 a2 q022 ql22 q22 hroom22
      have hr22 := Kd.C_mid (lo := (a1 : Int).toNat) (hi := (a2 : Int).toNat) (c := co23) hC22 (by omega) (by omega) hroom22
      obtain ⟨A22, hA22⟩ : ∃ A1, A1 = (if co23 = (a1 : Int).toNat then Ao23 else (Ao23 : Option Addr).map (·.add ((a1 : Int).toNat * 1))) := ⟨_, rfl⟩
      obtain ⟨c22, hc22⟩ : ∃ c1, c1 = co23 - (a1 : Int).toNat := ⟨_, rfl⟩
      have hy22 : y348.length = (a2 : Int).toNat - (a1 : Int).toNat := (by rw [Ny348.out, lD, lT] <;> omega)
      rw [show ((t345).take (a2 : Int).toNat).drop (a1 : Int).toNat = y348 from Ny348.out.symm] at hr22
      replace hr22 : Kd.C (Kd.int .u64) _ A22 y348.length y348 := (by rw [hA22]; exact hr22)
      rw [← hy22, ← hA22, ← hc22] at hcut22
      have HR351 := aM hr22
      have HC351 := aM (show y348.length ≤ c22 from by rw [hy22, hc22]; exact Nat.sub_le_sub_right (Nat.le_trans (by omega) hroom22) _)
      clear hr22 hC22 hroom22 hi022 hsz22 hc22
      have KY22 := aM hy22
      have KA22 := aM hA22
      clear hy22 hA22
      have KL22 := aM (show (a2 : Int).toNat ≤ t345.length from by omega)
      have KM22 := aM (show (a1 : Int).toNat ≤ (a2 : Int).toNat from by omega)
      replace q22 := eq_true q22
      refine start_ (n := 13) (S := fun w' => w'.cell? ⟨gb342, 0, none⟩ = some (.string a0_0) ∧ w'.cell? ⟨gb342, 1, none⟩ = some (.slice A0_1 l0_1.length c0_1)) (ds := []) b0_ (by kernel_rfl) rfl rfl ⟨(bC BK342.out 0).trans rfl, (bC BK342.out 1).trans rfl⟩ (fun hHeld => ?_); refine with_tabW bureauref04_Cut.tab4 bureauref04_Cut.bits4 (fun HT_ HW_ => ?_)
      generalize w20.drew = w21 at HO347 BK342 BK343 HB HR351 hHeld ⊢
      refine pure_ (i := 0) (N := some 18) (v := ?_) (a' := ?_) b1_ rfl rfl (any_of HT_.out (by kernel_rfl)) (fun _ _ _ h => h) (Or.inl ⟨by rfl, ?_⟩) ?_ ?_
      rotate_left
      ·intro w'
       go_simp
       with_reducible rfl
      rotate_left
      ·simp only [Act.put, sA, sZ, sS, i64_w, i32_w]
       rfl
      refine pure_ (i := 2) (N := some 20) (v := ?_) (a' := ?_) b35_ rfl rfl (any_of HT_.out (by kernel_rfl)) (fun _ _ _ h => h) (Or.inl ⟨by rfl, ?_⟩) ?_ ?_
      rotate_left
      ·intro w'
       go_simp
       with_reducible rfl
      rotate_left
      ·simp only [Act.put, sA, sZ, sS, i64_w, i32_w]
       rfl
      refine pure_ (i := 3) (N := some 21) (v := ?_) (a' := ?_) b36_ rfl rfl (any_of HT_.out (by kernel_rfl)) (fun _ _ _ h => h) (Or.inl ⟨by rfl, ?_⟩) ?_ ?_
      rotate_left
      ·intro w'
       go_simp
       with_reducible rfl
      rotate_left
      ·simp only [Act.put, sA, sZ, sS, i64_w, i32_w]
       rfl
      refine pure_ (i := 5) (N := some 23) (v := ?_) (a' := ?_) b37_ rfl rfl (any_of HT_.out (by kernel_rfl)) (fun _ _ _ h => h) (Or.inl ⟨by rfl, ?_⟩) ?_ ?_
      rotate_left
      ·intro w'
       go_simp
       with_reducible rfl
      rotate_left
      ·simp only [Act.put, sA, sZ, sS, i64_w, i32_w]
       rfl
      refine pure_ (i := 6) (N := some 24) (v := ?_) (a' := ?_) b38_ rfl rfl (any_of HT_.out (by kernel_rfl)) (fun _ _ _ h => h) (Or.inl ⟨by rfl, ?_⟩) ?_ ?_
      rotate_left
      ·intro w'
       go_simp
       with_reducible rfl
      rotate_left
      ·simp only [Act.put, sA, sZ, sS, i64_w, i32_w]
       rfl
      refine pure_ (i := 7) (N := some 25) (v := ?_) (a' := ?_) b39_ rfl rfl (any_of HT_.out (by kernel_rfl)) (fun _ _ _ h => h) (Or.inl ⟨by rfl, ?_⟩) ?_ ?_
      rotate_left
      ·intro w'
       go_simp
       with_reducible rfl
      rotate_left
      ·simp only [Act.put, sA, sZ, sS, i64_w, i32_w]
       rfl
      refine pure_ (i := 8) (N := some 26) (v := ?_) (a' := ?_) b40_ rfl rfl (any_of HT_.out (by kernel_rfl)) (fun _ _ _ h => h) (Or.inl ⟨by rfl, ?_⟩) ?_ ?_
      rotate_left
      ·intro w'
       go_simp
       with_reducible rfl
      rotate_left
      ·simp only [Act.put, sA, sZ, sS, i64_w, i32_w]
       rfl
      refine take_ (i := 1) (N := some 19) (v := ?_) (a' := ?_) b41_ rfl rfl (take_ofW HT_.out HW_.out (by kernel_rfl)) (fun _ _ _ h => h) (Or.inl ⟨by rfl, ?_⟩) hHeld ?_ ?_
      rotate_left
      ·rintro w' ⟨s0, s1⟩
       go_simp
       with_reducible rfl
      rotate_left
      ·simp only [Act.put, sA, sZ, sS, i64_w, i32_w]
       rfl
      refine pure_ (i := 4) (N := some 22) (v := ?_) (a' := ?_) b17_ rfl rfl (any_of HT_.out (by kernel_rfl)) (fun _ _ _ h => h) (Or.inl ⟨by rfl, ?_⟩) ?_ ?_
      rotate_left
      ·intro w'
       go_simp
       with_reducible rfl
      rotate_left
      ·simp only [Act.put, sA, sZ, sS, i64_w, i32_w]
       rfl
      refine one_ (i := 9) (N := some 27) b10_ rfl rfl (one_of HT_.out (by kernel_rfl)) (by decide) (fun K hK => ?_)
      refine goes_ Tryz.func120 (by kernel_rfl) rfl #[.slice A22 y348.length c22] (by rfl) rfl rfl (by (try simp only [mT, mC, mN]); first | done | rfl | (simp only [lD, lT]; rfl)) ?_
      with_reducible refine (bureauref03_Pack.calls k _ _ y348 t352 _ ?side1 ?side2 A13.out).mono ?_
      (case side1 => repeat (first | exact (by repeat (first | (with_reducible exact HR351.out) | (with_reducible refine Kd.C_alloc ?_ _) | (with_reducible refine Kd.C_drewN ?_ _) | (with_reducible refine Kd.C_drew ?_) | exact HR351.out)) | (with_reducible refine Kd.C_alloc ?_ _) | (with_reducible refine Kd.C_drewN ?_ _) | (with_reducible refine Kd.C_drew ?_)))
      (case side2 => exact HC351.out)
      rintro e w24 ⟨v353, rfl, ho0, hb⟩
      refine ⟨_, rfl, ?_⟩
      have n0_ := aM (Kd.R_below (ry HO347.out) hb)
      have n1_ := aM (rL ho0 (bZ (yH)))
      have n2_ := yB hb BK342
      have n3_ := yB hb BK343
      have n4_ := aM (cB_ (by repeat (first | (with_reducible exact HR351.out) | (with_reducible refine Kd.C_alloc ?_ _) | (with_reducible refine Kd.C_drewN ?_ _) | (with_reducible refine Kd.C_drew ?_) | exact HR351.out)) hb)
      have n5_ := yP w hb
      clear HO347
      clear BK342
      clear BK343
      clear HR351
      clear HB
      have HO347 := n0_
      have HO354 := n1_
      have BK342 := n2_
      have BK343 := n3_
      have HR351 := n4_
      have HB := n5_
      clear n0_ n1_ n2_ n3_ n4_ n5_
      (try clear hb)
      (try clear hb2)
      (try clear hk)
      (try clear hi)
      (try clear ho0)
      obtain ⟨Ao25, co25, eo25⟩ := Kd.R_slice HO354.out
      (first | subst eo25 | (injection eo25 with f1_ f2_ f3_; have f4_ := f1_.symm; have f5_ := f3_.symm; clear f1_ f2_ f3_; subst f4_; subst f5_))
      refine hK.out _ _ ⟨(bC BK342.out 0).trans rfl, (bC BK342.out 1).trans rfl⟩ (fun hHeld => ?_)
      clear hK K
      refine norm_ (a' := ?_) ?_ ?_
      rotate_left
      ·show Act.put _ (some 27) _ = _
       simp only [Act.put, sA, sZ, sS, i64_w, i32_w]
       rfl
      refine pure_ (i := 10) (N := some 28) (v := ?_) (a' := ?_) b11_ rfl rfl (any_of HT_.out (by kernel_rfl)) (fun _ _ _ h => h) (Or.inl ⟨by rfl, ?_⟩) ?_ ?_
      rotate_left
      ·intro w'
       go_simp
       with_reducible rfl
      rotate_left
      ·simp only [Act.put, sA, sZ, sS, i64_w, i32_w]
       rfl
      refine one_ (i := 11) (N := none) b12_ rfl rfl (one_of HT_.out (by kernel_rfl)) (by decide) (fun K hK => ?_)
      have hs26 : w24.cell? ⟨gb343, 0, none⟩ = some (.string (⟨#[]⟩ : ByteArray)) := (bC BK343.out 0).trans rfl
      have hfs26 := bF BK343.out 0
      have hns26_0 := NB342_343.out
      have hms26_0 := NB343_342.out
      have hs27 : w24.cell? ⟨gb343, 1, none⟩ = some (.slice none 0 0) := (bC BK343.out 1).trans rfl
      have hfs27 := bF BK343.out 1
      have hns27_0 := NB342_343.out
      have hms27_0 := NB343_342.out
      refine skip_ (w1 := ?_) (by rfl) rfl ?_ ?_
      rotate_left
      ·go_simp
       rfl
      refine hK.out _ _ ⟨((cell_far (p := ⟨gb343, _, none⟩) NB342_343.out _).trans (((cell_far (p := ⟨gb343, _, none⟩) NB342_343.out _).trans (hHeld.1)))), ((cell_far (p := ⟨gb343, _, none⟩) NB342_343.out _).trans (((cell_far (p := ⟨gb343, _, none⟩) NB342_343.out _).trans (hHeld.2))))⟩ (fun hHeld => ?_)
      clear hK K
      refine pure_ (i := 12) (N := some 7) (v := ?_) (a' := ?_) b13_ rfl rfl (any_of HT_.out (by kernel_rfl)) (fun _ _ _ h => h) (Or.inl ⟨by rfl, ?_⟩) ?_ ?_
      rotate_left
      ·intro w'
       go_simp
       with_reducible rfl
      rotate_left
      ·simp only [Act.put, sA, sZ, sS, i64_w, i32_w]
       rfl
      refine done_ (done_of HT_.out (by kernel_rfl)) ?_
      try go_wp2
      refine bodyPost_ret (results_ct rfl _ _ gb343 24 #[.string (a0_0.extract (a1 : Int).toNat (a2 : Int).toNat), .slice Ao25 t352.length co25] (0, 0) _ rfl (by (with_reducible repeat (first | apply qn | apply qd | apply qa)); refine bU (cs := #[.string (a0_0.extract (a1 : Int).toNat (a2 : Int).toNat), .slice none 0 0]) ?_ 1 _ rfl; (with_reducible repeat (first | apply qn | apply qd | apply qa)); refine bU (cs := #[.string (⟨#[]⟩ : ByteArray), .slice none 0 0]) ?_ 0 _ rfl; exact qy BK343.out) Tryz.underlying24 rfl (by kernel_rfl)) rfl ?_
      exact ⟨_, ye, by (with_reducible repeat (first | apply ra | apply rn | apply rd_)); exact rM (rF (p := ⟨gb343, 1, none⟩) (rF (p := ⟨gb343, 0, none⟩) (rT HO354.out BK343.out (by decide)) (fun _ hk => hk.2) (.string (a0_0.extract (a1 : Int).toNat (a2 : Int).toNat))) (fun _ hk => hk.2) (.slice Ao25 t352.length co25)) (fun _ hk => trivial), yH⟩
     ·rw [if_neg c12] at H
      exact absurd H (by simp)
    ·rw [if_neg c9] at H
     exact absurd H (by simp)
   ·rw [if_neg c8] at H
    exact absurd H (by simp)
  ·rw [if_neg c7] at H
   exact absurd H (by simp)
 ·replace c5 := Bool.eq_false_iff.mpr c5
  subst c5
  rw [if_neg (show ¬ (false = true) by decide)] at H
  simp only [Option.some.injEq, Prod.mk.injEq] at H
  obtain ⟨rfl, rfl, rfl⟩ := H
  go_enter Tryz.func83, Tryz.ntmps83
  go_wp2_with (first | (refine yX 3 #[.string a0_0, .slice A0_1 l0_1.length c0_1] 24 (fun gb342 hg w28 hbox hb => ?_); have BK342 := hbox; have GW342 := yG w hg; have GE342 := GW342; replace HB := yP w hb; clear hb hbox hg) | (refine yX 6 #[.string (⟨#[]⟩ : ByteArray), .slice none 0 0] 24 (fun gb343 hg w29 hbox hb => ?_); have BK343 := hbox; have GW343 := yG w hg; have GE343 := GW343; have NB342_343 := yN hg BK342; have NB343_342 := yM hg BK342; replace BK342 := yB hb BK342; replace HB := yP w hb; clear hb hbox hg; have hnb30 := NB342_343.out; have hnc30 := NB343_342.out; have hcz31_0 := zC BK342.out 0 (.string a0_0); have hcz31_1 := zC BK342.out 1 (.slice A0_1 l0_1.length c0_1); have hfz31_0 := bF BK342.out 0; have hfz31_1 := bF BK342.out 1) | (refine yC (some 12) Tryz.func119 #[.agg #[.string a0_0, .slice A0_1 l0_1.length c0_1], .int .i64 a1, .int .i64 a2] ?_; (with_reducible refine (bureauref04_Within.calls k a0_0 _ _ l0_1 a1 a2 false _ ?side1 ?side2 A4.out).mono ?_); (case side1 => exact yR HR0_1); (case side2 => exact HC0_1.out); rintro e w32 ⟨rfl, hb⟩; refine ⟨_, rfl, ?_⟩; replace BK342 := yB hb BK342; replace BK343 := yB hb BK343; replace HB := yP w hb; clear hb; have hcz33_0 := zC BK343.out 0 (.string (⟨#[]⟩ : ByteArray)); have hcz33_1 := zC BK343.out 1 (.slice none 0 0); have hfz33_0 := bF BK343.out 0; have hfz33_1 := bF BK343.out 1))
  refine bodyPost_ret (results_ct rfl _ _ gb343 24 #[.string (⟨#[]⟩ : ByteArray), .slice none 0 0] (0, 0) _ rfl (by (with_reducible repeat (first | apply qn | apply qd | apply qa)); refine bU (cs := #[.string (⟨#[]⟩ : ByteArray), .slice none 0 0]) ?_ 1 _ rfl; (with_reducible repeat (first | apply qn | apply qd | apply qa)); refine bU (cs := #[.string (⟨#[]⟩ : ByteArray), .slice none 0 0]) ?_ 0 _ rfl; exact qy BK343.out) Tryz.underlying24 rfl (by kernel_rfl)) rfl ?_
  exact ⟨_, ye, yn, yH⟩
mutual
def bureauref04_Splice.j0 : Nat → Int → Int → Bool → ByteArray → List (S68) → ByteArray → List (S68) → Option (ByteArray × (List (S68)) × Int)
 | 0, _, _, _, _, _, _, _ => none
 | k + 1, x1, x2, x25, x370000, x370001, x371000, x371001 => if x25 = true then (some ((⟨#[]⟩ : ByteArray), ([] : List (S68)), 2)) else (if (wrap64 ((wrap64 ((x370000.size : Int) - (wrap64 (x2 - x1)))) + (x371000.size : Int))) > 4096 then (some ((⟨#[]⟩ : ByteArray), ([] : List (S68)), 3)) else ((bureauref03_Bytes.f k x370001).bind fun t374 => ((bureauref03_Bytes.f k x371001).bind fun t377 => (bureauref04_Splice.l0 k x1 x2 t374 t377 ([] : List Int) 0 x370000 x370001 x371000 x371001))))
def bureauref04_Splice.l0 : Nat → Int → Int → List Int → List Int → List Int → Int → ByteArray → List (S68) → ByteArray → List (S68) → Option (ByteArray × (List (S68)) × Int)
 | 0, _, _, _, _, _, _, _, _, _, _ => none
 | k + 1, x1, x2, x10, x11, x12, x13, x370000, x370001, x371000, x371001 => if x13 < x1 then (if 0 ≤ x13 then (if x13 < (x10.length : Int) then (if x12.length < 17592186044416 then (bureauref04_Splice.l0 k x1 x2 x10 x11 (x12 ++ [rd x10 x13]) (wrap64 (x13 + 1)) x370000 x370001 x371000 x371001) else (none)) else (none)) else (none)) else (bureauref04_Splice.l1 k x1 x2 x10 x11 x12 0 x370000 x370001 x371000 x371001)
def bureauref04_Splice.l1 : Nat → Int → Int → List Int → List Int → List Int → Int → ByteArray → List (S68) → ByteArray → List (S68) → Option (ByteArray × (List (S68)) × Int)
 | 0, _, _, _, _, _, _, _, _, _, _ => none
 | k + 1, x1, x2, x10, x11, x12, x14, x370000, x370001, x371000, x371001 => if x14 < (x11.length : Int) then (if 0 ≤ x14 then (if x12.length < 17592186044416 then (bureauref04_Splice.l1 k x1 x2 x10 x11 (x12 ++ [rd x11 x14]) (wrap64 (x14 + 1)) x370000 x370001 x371000 x371001) else (none)) else (none)) else (bureauref04_Splice.l2 k x1 x2 x10 x12 x2 x370000 x370001 x371000 x371001)
def bureauref04_Splice.l2 : Nat → Int → Int → List Int → List Int → Int → ByteArray → List (S68) → ByteArray → List (S68) → Option (ByteArray × (List (S68)) × Int)
 | 0, _, _, _, _, _, _, _, _, _ => none
 | k + 1, x1, x2, x10, x12, x15, x370000, x370001, x371000, x371001 => if x15 < (x10.length : Int) then (if 0 ≤ x15 then (if x12.length < 17592186044416 then (bureauref04_Splice.l2 k x1 x2 x10 (x12 ++ [rd x10 x15]) (wrap64 (x15 + 1)) x370000 x370001 x371000 x371001) else (none)) else (none)) else (if 0 ≤ x1 then (if x1 ≤ (x370000.size : Int) then (if (x370000.extract 0 (x1 : Int).toNat).size + x371000.size ≤ 9223372036854775807 then (if 0 ≤ x2 then (if x2 ≤ (x370000.size : Int) then (if ((x370000.extract 0 (x1 : Int).toNat) ++ x371000).size + (x370000.extract (x2 : Int).toNat x370000.size).size ≤ 9223372036854775807 then ((bureauref03_Pack.f k x12).bind fun t392 => (some (((x370000.extract 0 (x1 : Int).toNat) ++ x371000) ++ (x370000.extract (x2 : Int).toNat x370000.size), t392, 0))) else (none)) else (none)) else (none)) else (none)) else (none)) else (none))
end
def bureauref04_Splice.f (k : Nat) (a0_0 : ByteArray) (l0_1 : List (S68)) (a1 : Int) (a2 : Int) (a3_0 : ByteArray) (l3_1 : List (S68)) : Option (ByteArray × (List (S68)) × Int) := (bureauref04_Within.f k a0_0 l0_1 a1 a2).bind fun t372 => (if t372 = true then ((bureauref04_Good.f k a3_0 l3_1).bind fun t373 => (bureauref04_Splice.j0 k a1 a2 (!t373) a0_0 l0_1 a3_0 l3_1)) else (bureauref04_Splice.j0 k a1 a2 true a0_0 l0_1 a3_0 l3_1))
def bureauref04_Splice.T20 : Bool × List (List Nat × List Nat) := (true, [([], []), ([0], [0]), ([], []), ([1, 2], [1, 2]), ([], []), ([4], [4]), ([3, 5], [3, 5]), ([], []), ([7], [7]), ([], []), ([8, 9], [8, 9]), ([6, 10], [6, 10]), ([], []), ([12], [12]), ([11, 13], [11, 13]), ([14, 13, 0, 1, 2, 3, 4, 5, 6, 7, 8, 9, 10, 11, 12, 13, 14], [14]), ([15, 0, 1, 2, 3, 4, 5, 6, 7, 8, 9, 10, 11, 12, 13, 14, 15], [])])
def bureauref04_Splice.B20 : List Nat := [0, 1, 0, 7, 0, 16, 63, 0, 128, 0, 896, 2047, 0, 4096, 16383, 32767, 65535]
theorem bureauref04_Splice.tab20 : rtab .any (opsOf Tryz.f66 20) = bureauref04_Splice.T20 := by kernel_rfl
theorem bureauref04_Splice.bits20 : waitsOk bureauref04_Splice.T20.2 bureauref04_Splice.B20 = true := by kernel_rfl
set_option maxHeartbeats 8000000 in
set_option maxRecDepth 100000 in
theorem bureauref04_Splice.calls (k : Nat) (a0_0 : ByteArray) (A0_1 : Option Addr) (c0_1 : Nat) (l0_1 : List (S68)) (a1 : Int) (a2 : Int) (a3_0 : ByteArray) (A3_1 : Option Addr) (c3_1 : Nat) (l3_1 : List (S68)) (r1 : ByteArray) (r2 : List (S68)) (r3 : Int) (w : World) (hr0_1 : Kd.C k68 w A0_1 l0_1.length l0_1) (hc0_1 : l0_1.length ≤ c0_1) (hr3_1 : Kd.C k68 w A3_1 l3_1.length l3_1) (hc3_1 : l3_1.length ≤ c3_1) (h : bureauref04_Splice.f k a0_0 l0_1 a1 a2 a3_0 l3_1 = some (r1, r2, r3)) :
  Calls Tryz.prog 66 #[.agg #[.string a0_0, .slice A0_1 l0_1.length c0_1], .int .i64 a1, .int .i64 a2, .agg #[.string a3_0, .slice A3_1 l3_1.length c3_1]] w fun e w' => ∃ v1_ : Value, e = .returned (.tuple #[.agg #[.string r1, v1_], .int .i64 r3]) ∧ Kd.R k68 68 w' w.heap.size (fun _ => True) v1_ r2 ∧ Below w.heap.size w w' := by
 have hu24 := Tryz.underlying24
 have HR0_1 := aM hr0_1
 have HC0_1 := aM hc0_1
 clear hr0_1 hc0_1
 have HR3_1 := aM hr3_1
 have HC3_1 := aM hc3_1
 clear hr3_1 hc3_1
 have HB := aM (Below.refl w.heap.size w)
 have H : ((bureauref04_Within.f k a0_0 l0_1 a1 a2).bind fun t372 => (if t372 = true then ((bureauref04_Good.f k a3_0 l3_1).bind fun t373 => (bureauref04_Splice.j0 k a1 a2 (!t373) a0_0 l0_1 a3_0 l3_1)) else (bureauref04_Splice.j0 k a1 a2 true a0_0 l0_1 a3_0 l3_1))) = some (r1, r2, r3) := h
 clear h
 have HC5 := aM H
 clear H
 go_enter Tryz.func66, Tryz.ntmps66
 go_upto_region 1 with (first | (refine yX 4 #[.string a0_0, .slice A0_1 l0_1.length c0_1] 24 (fun gb369 hg w6 hbox hb => ?_); have BK369 := hbox; have GW369 := yG w hg; have GE369 := GW369; replace HB := yP w hb; clear hb hbox hg) | (refine yX 7 #[.string a3_0, .slice A3_1 l3_1.length c3_1] 24 (fun gb370 hg w7 hbox hb => ?_); have BK370 := hbox; have GW370 := yG w hg; have GE370 := GW370; have NB369_370 := yN hg BK369; have NB370_369 := yM hg BK369; replace BK369 := yB hb BK369; replace HB := yP w hb; clear hb hbox hg) | (refine yX 8 #[.string (⟨#[]⟩ : ByteArray), .slice none 0 0] 24 (fun gb371 hg w8 hbox hb => ?_); have BK371 := hbox; have GW371 := yG w hg; have GE371 := GW371; have NB369_371 := yN hg BK369; have NB371_369 := yM hg BK369; have NB370_371 := yN hg BK370; have NB371_370 := yM hg BK370; replace BK369 := yB hb BK369; replace BK370 := yB hb BK370; replace HB := yP w hb; clear hb hbox hg))
 (try simp only [Act.put, sA, sZ, sS])
 go_cut [25] (fun v25 wc => ∃ (kq : Nat) (x25_4 : Bool), v25 = .bool x25_4 ∧ Aside0 (bureauref04_Splice.j0 kq a1 a2 x25_4 a0_0 l0_1 a3_0 l3_1 = some (r1, r2, r3)) ∧ Aside0 (kq ≤ k) ∧ Aside0 (wc.heap[gb369]? = some (.cells #[.string a0_0, (.slice A0_1 l0_1.length c0_1)] 24 (0, 0))) ∧ Aside0 (wc.heap[gb370]? = some (.cells #[.string a3_0, (.slice A3_1 l3_1.length c3_1)] 24 (0, 0))) ∧ Aside0 (wc.heap[gb371]? = some (.cells #[.string (⟨#[]⟩ : ByteArray), (.slice none 0 0)] 24 (0, 0))) ∧ Aside0 (Below w.heap.size w wc))
 case first =>
  have H := HC5.out
  clear HC5
  replace H := Option.bind_eq_some_iff.mp H
  obtain ⟨t372, A90, H⟩ := H
  replace H : (if t372 = true then ((bureauref04_Good.f k a3_0 l3_1).bind fun t373 => (bureauref04_Splice.j0 k a1 a2 (!t373) a0_0 l0_1 a3_0 l3_1)) else (bureauref04_Splice.j0 k a1 a2 true a0_0 l0_1 a3_0 l3_1)) = some (r1, r2, r3) := H
  have A9 := aM A90
  clear A90
  by_cases c10 : t372 = true
  ·subst c10
   rw [if_pos rfl] at H
   replace H := Option.bind_eq_some_iff.mp H
   obtain ⟨t373, A110, H⟩ := H
   replace H : (bureauref04_Splice.j0 k a1 a2 (!t373) a0_0 l0_1 a3_0 l3_1) = some (r1, r2, r3) := H
   have A11 := aM A110
   clear A110
   have H' := aM H
   clear H
   have hnb12 := NB369_370.out
   have hnc12 := NB370_369.out
   have hnb13 := NB369_371.out
   have hnc13 := NB371_369.out
   have hcz14_0 := zC BK369.out 0 (.string a0_0)
   have hcz14_1 := zC BK369.out 1 (.slice A0_1 l0_1.length c0_1)
   have hfz14_0 := bF BK369.out 0
   have hfz14_1 := bF BK369.out 1
   go_wp2_with (first | (refine yC (some 19) Tryz.func119 #[.agg #[.string a0_0, .slice A0_1 l0_1.length c0_1], .int .i64 a1, .int .i64 a2] ?_; (with_reducible refine (bureauref04_Within.calls k a0_0 _ _ l0_1 a1 a2 true _ ?side1 ?side2 A9.out).mono ?_); (case side1 => exact yR HR0_1); (case side2 => exact HC0_1.out); rintro e w15 ⟨rfl, hb⟩; refine ⟨_, rfl, ?_⟩; replace BK369 := yB hb BK369; replace BK370 := yB hb BK370; replace BK371 := yB hb BK371; replace HB := yP w hb; clear hb; have hnb16 := NB370_371.out; have hnc16 := NB371_370.out; have hcz17_0 := zC BK370.out 0 (.string a3_0); have hcz17_1 := zC BK370.out 1 (.slice A3_1 l3_1.length c3_1); have hfz17_0 := bF BK370.out 0; have hfz17_1 := bF BK370.out 1) | (go_at_call 62; (with_reducible refine (bureauref04_Good.calls k a3_0 _ _ l3_1 t373 _ ?side1 ?side2 A11.out).mono ?_); (case side1 => exact yR HR3_1); (case side2 => exact HC3_1.out); rintro e w18 ⟨rfl, hb⟩; replace BK369 := yB hb BK369; replace BK370 := yB hb BK370; replace BK371 := yB hb BK371; replace HB := yP w hb; clear hb))
   go_meet
   case rel => exact ⟨_, (!t373), (by first | rfl | (simp; done) | (simp [*]; done)), H', ⟨by first | omega | exact Nat.le_refl _⟩, ⟨by exact qy BK369.out⟩, ⟨by exact qy BK370.out⟩, ⟨by exact qy BK371.out⟩, ⟨yH⟩⟩
  ·replace c10 := Bool.eq_false_iff.mpr c10
   subst c10
   rw [if_neg (show ¬ (false = true) by decide)] at H
   have H' := aM H
   clear H
   have hnb19 := NB369_370.out
   have hnc19 := NB370_369.out
   have hnb20 := NB369_371.out
   have hnc20 := NB371_369.out
   have hcz21_0 := zC BK369.out 0 (.string a0_0)
   have hcz21_1 := zC BK369.out 1 (.slice A0_1 l0_1.length c0_1)
   have hfz21_0 := bF BK369.out 0
   have hfz21_1 := bF BK369.out 1
   go_wp2_with (first | (refine yC (some 19) Tryz.func119 #[.agg #[.string a0_0, .slice A0_1 l0_1.length c0_1], .int .i64 a1, .int .i64 a2] ?_; (with_reducible refine (bureauref04_Within.calls k a0_0 _ _ l0_1 a1 a2 false _ ?side1 ?side2 A9.out).mono ?_); (case side1 => exact yR HR0_1); (case side2 => exact HC0_1.out); rintro e w22 ⟨rfl, hb⟩; refine ⟨_, rfl, ?_⟩; replace BK369 := yB hb BK369; replace BK370 := yB hb BK370; replace BK371 := yB hb BK371; replace HB := yP w hb; clear hb))
   go_meet
   case rel => exact ⟨_, (true), (by first | rfl | (simp; done) | (simp [*]; done)), H', ⟨by first | omega | exact Nat.le_refl _⟩, ⟨by exact qy BK369.out⟩, ⟨by exact qy BK370.out⟩, ⟨by exact qy BK371.out⟩, ⟨yH⟩⟩
 case rest =>
  clear HC5
  try clear c1
  try clear c2
  try clear p2
  try clear c3
  try clear c6
  try clear c10
  try clear c11
  try clear c12
  try clear c13
  try clear c16
  try clear c19
  try clear c20
  try clear hcz14_0
  try clear hcz14_1
  try clear hcz17_0
  try clear hcz17_1
  try clear hcz21_0
  try clear hcz21_1
  try clear hfz14_0
  try clear hfz14_1
  try clear hfz17_0
  try clear hfz17_1
  try clear hfz21_0
  try clear hfz21_1
  obtain ⟨kq, x25_4, rfl, HA, HJ4, BK369, BK370, BK371, HB⟩ := hcut
  cases kq with
  | zero => exact absurd HA.out (by simp [bureauref04_Splice.j0])
  | succ kj4 =>
   have H := HA.out
   clear HA
   simp only [bureauref04_Splice.j0] at H
   by_cases c23 : x25_4 = true
   ·subst c23
    rw [if_pos rfl] at H
    simp only [Option.some.injEq, Prod.mk.injEq] at H
    obtain ⟨rfl, rfl, rfl⟩ := H
    have hnb24 := NB371_369.out
    have hnc24 := NB369_371.out
    have hnb25 := NB371_370.out
    have hnc25 := NB370_371.out
    have hcz26_0 := zC BK371.out 0 (.string (⟨#[]⟩ : ByteArray))
    have hcz26_1 := zC BK371.out 1 (.slice none 0 0)
    have hfz26_0 := bF BK371.out 0
    have hfz26_1 := bF BK371.out 1
    go_wp2
    refine bodyPost_ret (results_ct rfl _ _ gb371 24 #[.string (⟨#[]⟩ : ByteArray), .slice none 0 0] (0, 0) _ rfl (by (with_reducible repeat (first | apply qn | apply qd | apply qa)); refine bU (cs := #[.string (⟨#[]⟩ : ByteArray), .slice none 0 0]) ?_ 1 _ rfl; (with_reducible repeat (first | apply qn | apply qd | apply qa)); refine bU (cs := #[.string (⟨#[]⟩ : ByteArray), .slice none 0 0]) ?_ 0 _ rfl; exact qy BK371.out) Tryz.underlying24 rfl (by kernel_rfl)) rfl ?_
    exact ⟨_, ye, yn, yH⟩
   ·replace c23 := Bool.eq_false_iff.mpr c23
    subst c23
    rw [if_neg (show ¬ (false = true) by decide)] at H
    by_cases c27 : (wrap64 ((wrap64 ((a0_0.size : Int) - (wrap64 (a2 - a1)))) + (a3_0.size : Int))) > 4096
    ·rw [if_pos c27] at H
     have c27b0 : decide (4096 < (wrap64 ((wrap64 ((a0_0.size : Int) - (wrap64 (a2 - a1)))) + (a3_0.size : Int)))) = true := decide_eq_true c27
     clear c27
     simp only [Option.some.injEq, Prod.mk.injEq] at H
     obtain ⟨rfl, rfl, rfl⟩ := H
     have hnb28 := NB369_370.out
     have hnc28 := NB370_369.out
     have hnb29 := NB369_371.out
     have hnc29 := NB371_369.out
     have hcz30_0 := zC BK369.out 0 (.string a0_0)
     have hcz30_1 := zC BK369.out 1 (.slice A0_1 l0_1.length c0_1)
     have hfz30_0 := bF BK369.out 0
     have hfz30_1 := bF BK369.out 1
     have hnb31 := NB370_371.out
     have hnc31 := NB371_370.out
     have hcz32_0 := zC BK370.out 0 (.string a3_0)
     have hcz32_1 := zC BK370.out 1 (.slice A3_1 l3_1.length c3_1)
     have hfz32_0 := bF BK370.out 0
     have hfz32_1 := bF BK370.out 1
     have hcz33_0 := zC BK371.out 0 (.string (⟨#[]⟩ : ByteArray))
     have hcz33_1 := zC BK371.out 1 (.slice none 0 0)
     have hfz33_0 := bF BK371.out 0
     have hfz33_1 := bF BK371.out 1
     go_wp2
     refine bodyPost_ret (results_ct rfl _ _ gb371 24 #[.string (⟨#[]⟩ : ByteArray), .slice none 0 0] (0, 0) _ rfl (by (with_reducible repeat (first | apply qn | apply qd | apply qa)); refine bU (cs := #[.string (⟨#[]⟩ : ByteArray), .slice none 0 0]) ?_ 1 _ rfl; (with_reducible repeat (first | apply qn | apply qd | apply qa)); refine bU (cs := #[.string (⟨#[]⟩ : ByteArray), .slice none 0 0]) ?_ 0 _ rfl; exact qy BK371.out) Tryz.underlying24 rfl (by kernel_rfl)) rfl ?_
     exact ⟨_, ye, yn, yH⟩
    ·rw [if_neg c27] at H
     have c27b0 : decide (4096 < (wrap64 ((wrap64 ((a0_0.size : Int) - (wrap64 (a2 - a1)))) + (a3_0.size : Int)))) = false := decide_eq_false c27
     clear c27
     replace H := Option.bind_eq_some_iff.mp H
     obtain ⟨t374, A340, H⟩ := H
     replace H : ((bureauref03_Bytes.f kj4 l3_1).bind fun t377 => (bureauref04_Splice.l0 kj4 a1 a2 t374 t377 ([] : List Int) 0 a0_0 l0_1 a3_0 l3_1)) = some (r1, r2, r3) := H
     have A34 := aM A340
     clear A340
     replace H := Option.bind_eq_some_iff.mp H
     obtain ⟨t377, A350, H⟩ := H
     replace H : (bureauref04_Splice.l0 kj4 a1 a2 t374 t377 ([] : List Int) 0 a0_0 l0_1 a3_0 l3_1) = some (r1, r2, r3) := H
     have A35 := aM A350
     clear A350
     have H' := aM H
     clear H
     have hnb36 := NB369_370.out
     have hnc36 := NB370_369.out
     have hnb37 := NB369_371.out
     have hnc37 := NB371_369.out
     have hcz38_0 := zC BK369.out 0 (.string a0_0)
     have hcz38_1 := zC BK369.out 1 (.slice A0_1 l0_1.length c0_1)
     have hfz38_0 := bF BK369.out 0
     have hfz38_1 := bF BK369.out 1
     have hnb39 := NB370_371.out
     have hnc39 := NB371_370.out
     have hcz40_0 := zC BK370.out 0 (.string a3_0)
     have hcz40_1 := zC BK370.out 1 (.slice A3_1 l3_1.length c3_1)
     have hfz40_0 := bF BK370.out 0
     have hfz40_1 := bF BK370.out 1
     go_wp2_with (first | (refine yC (some 42) Tryz.func68 #[.slice A0_1 l0_1.length c0_1] ?_; (with_reducible refine (bureauref03_Bytes.calls kj4 _ _ l0_1 t374 _ ?side1 ?side2 A34.out).mono ?_); (case side1 => exact yR HR0_1); (case side2 => exact HC0_1.out); rintro e w41 ⟨v375, rfl, ho0, hb⟩; refine ⟨_, rfl, ?_⟩; have HO376 := aM (rL ho0 (bZ (yH))); replace BK369 := yB hb BK369; replace BK370 := yB hb BK370; replace BK371 := yB hb BK371; replace HB := yP w hb; clear hb; (try clear ho0); have hcz42_0 := zC BK370.out 0 (.string a3_0); have hcz42_1 := zC BK370.out 1 (.slice A3_1 l3_1.length c3_1); have hfz42_0 := bF BK370.out 0; have hfz42_1 := bF BK370.out 1) | (refine yC (some 45) Tryz.func68 #[.slice A3_1 l3_1.length c3_1] ?_; (with_reducible refine (bureauref03_Bytes.calls kj4 _ _ l3_1 t377 _ ?side1 ?side2 A35.out).mono ?_); (case side1 => exact yR HR3_1); (case side2 => exact HC3_1.out); rintro e w43 ⟨v378, rfl, ho0, hb⟩; refine ⟨_, rfl, ?_⟩; have HO379 := aM (rL (Kd.R_new' ho0 (Kd.R_lt (ry HO376.out))) (bZ (yH))); replace HO376 := aM (rE (ry HO376.out) (Kd.R_base ho0) hb); replace BK369 := yB hb BK369; replace BK370 := yB hb BK370; replace BK371 := yB hb BK371; replace HB := yP w hb; clear hb; (try clear ho0)))
     go_loopg [12, 13] kj4 (fun kq v12 v13 w' => ∃ (x12_2 : List Int) (x13_2 : Int), v13 = .int .i64 x13_2 ∧ Aside0 (bureauref04_Splice.l0 kq a1 a2 t374 t377 x12_2 x13_2 a0_0 l0_1 a3_0 l3_1 = some (r1, r2, r3)) ∧ Aside0 (kq ≤ kj4) ∧ Aside0 (Kd.R (Kd.int .u64) 26 w' w.heap.size (fun k_ => some k_ ≠ (v378 : Value).ownBlock ∧ some k_ ≠ (v12 : Value).ownBlock) v375 t374) ∧ Aside0 (Kd.R (Kd.int .u64) 26 w' w.heap.size (fun k_ => some k_ ≠ (v375 : Value).ownBlock ∧ some k_ ≠ (v12 : Value).ownBlock) v378 t377) ∧ Aside0 (Kd.R (Kd.int .u64) 26 w' w.heap.size (fun k_ => some k_ ≠ (v375 : Value).ownBlock ∧ some k_ ≠ (v378 : Value).ownBlock) v12 x12_2) ∧ Aside0 (w'.heap[gb369]? = some (.cells #[.string a0_0, (.slice A0_1 l0_1.length c0_1)] 24 (0, 0))) ∧ Aside0 (w'.heap[gb370]? = some (.cells #[.string a3_0, (.slice A3_1 l3_1.length c3_1)] 24 (0, 0))) ∧ Aside0 (w'.heap[gb371]? = some (.cells #[.string (⟨#[]⟩ : ByteArray), (.slice none 0 0)] 24 (0, 0))) ∧ Aside0 (Below w.heap.size w w'))
     case atStart => exact ⟨(([] : List Int)), (0), (by first | rfl | (simp; done) | (simp [*]; done)), H', ⟨Nat.le_refl _⟩, ⟨by (with_reducible repeat (first | apply ra | apply rn | apply rd_)); exact rM HO376.out (fun _ hk => ⟨hk.2, (by simp [Value.ownBlock])⟩)⟩, ⟨by (with_reducible repeat (first | apply ra | apply rn | apply rd_)); exact rM HO379.out (fun _ hk => ⟨hk.2, (by simp [Value.ownBlock])⟩)⟩, ⟨yn⟩, ⟨by exact qy BK369.out⟩, ⟨by exact qy BK370.out⟩, ⟨by exact qy BK371.out⟩, ⟨yH⟩⟩
     case round =>
      clear H'
      try clear c1
      try clear c2
      try clear p2
      try clear c3
      try clear c6
      try clear p6
      try clear c10
      try clear c11
      try clear c12
      try clear c13
      try clear c16
      try clear c19
      try clear c20
      try clear c23
      try clear c24
      try clear c25
      try clear c27
      try clear c27b0
      try clear c28
      try clear c29
      try clear c31
      try clear c36
      try clear c37
      try clear c39
      try clear hcz14_0
      try clear hcz14_1
      try clear hcz17_0
      try clear hcz17_1
      try clear hcz21_0
      try clear hcz21_1
      try clear hcz26_0
      try clear hcz26_1
      try clear hcz30_0
      try clear hcz30_1
      try clear hcz32_0
      try clear hcz32_1
      try clear hcz33_0
      try clear hcz33_1
      try clear hcz38_0
      try clear hcz38_1
      try clear hcz40_0
      try clear hcz40_1
      try clear hcz42_0
      try clear hcz42_1
      try clear hfz14_0
      try clear hfz14_1
      try clear hfz17_0
      try clear hfz17_1
      try clear hfz21_0
      try clear hfz21_1
      try clear hfz26_0
      try clear hfz26_1
      try clear hfz30_0
      try clear hfz30_1
      try clear hfz32_0
      try clear hfz32_1
      try clear hfz33_0
      try clear hfz33_1
      try clear hfz38_0
      try clear hfz38_1
      try clear hfz40_0
      try clear hfz40_1
      try clear hfz42_0
      try clear hfz42_1
      try clear p2
      obtain ⟨x12_2, x13_2, rfl, HA, HK2, HO_10, HO_11, HO_12, BK369, BK370, BK371, HB⟩ := hrel
      cases gk with
      | zero => exact absurd HA.out (by simp [bureauref04_Splice.l0])
      | succ k2 =>
       have H := HA.out
       clear HA
       simp only [bureauref04_Splice.l0] at H
       by_cases c44 : x13_2 < a1
       ·rw [if_pos c44] at H
        have c44b0 : decide (x13_2 < a1) = true := decide_eq_true c44
        clear c44
        by_cases c45 : 0 ≤ x13_2
        ·rw [if_pos c45] at H
         have c45b0 : decide (0 ≤ x13_2) = true := decide_eq_true c45
         clear c45
         by_cases c46 : x13_2 < (t374.length : Int)
         ·rw [if_pos c46] at H
          have c46b0 : decide (x13_2 < (t374.length : Int)) = true := decide_eq_true c46
          clear c46
          by_cases c47 : x12_2.length < 17592186044416
          ·rw [if_pos c47] at H
           have LMc47 := aM c47
           clear c47
           obtain ⟨y381, hy381⟩ : ∃ y_ : List Int, y_ = (x12_2 ++ [rd t374 x13_2]) := ⟨_, rfl⟩
           replace H : (bureauref04_Splice.l0 k2 a1 a2 t374 t377 y381 (wrap64 (x13_2 + 1)) a0_0 l0_1 a3_0 l3_1) = some (r1, r2, r3) := by first | (rw [hy381]; with_reducible exact H) | (have H2_ := (Option.bind_some _ _).symm.trans H; rw [hy381]; with_reducible exact H2_) | (have H2_ := (Option.bind_some _ _).symm.trans H; with_reducible exact H2_) | with_reducible exact H | (rw [hy381]; exact H) | exact H
           have Ny381 := aM hy381
           clear hy381
           have H' := aM H
           clear H
           obtain ⟨Ao48, co48, eo48⟩ := Kd.R_slice HO_10.out
           subst eo48
           have p380 : 0 ≤ (x13_2 : Int) := of_decide_eq_true (by first | (with_reducible assumption) | assumption)
           have q380 : x13_2 < (t374.length : Int) := of_decide_eq_true (by first | (with_reducible assumption) | assumption)
           obtain ⟨ad380, e380, hx380_0⟩ := Kd.at_int (rR HO_10.out).2.2 x13_2 p380 q380
           cases e380
           replace p380 := eq_true p380
           replace q380 := eq_true q380
           go_wp2_with (first | ((with_reducible refine gate_builtin (b := .append) (xs := #[.tmp 51, .tmp 56]) rfl ?_); at_builtin; refine Kd.R_append (Kd.int .u64) (w0 := w) w.heap.size rfl (.tmp 51) (.tmp 56) 109 26 (.int .u64 0) 8 rfl Tryz.underlying109 info26 rfl (by decide) (by omega) u12 x12_2 (rd t374 x13_2) [.int .u64 (rd t374 x13_2)] (fun k_ => some k_ ≠ (.slice (some ad380) t374.length co48 : Value).ownBlock ∧ some k_ ≠ (v378 : Value).ownBlock) (fun _ => False) rfl rfl ?aP (fun _ hk => hk.elim) ?aF ?aO ?aB ?aS ?aL ?_; (case aP => exact rfl); (case aB => exact (yH)); (case aF => exact (fun k_ hk => ⟨Kd.fresh' (Kd.R_lt (ry HO_10.out)) k_ hk, Kd.fresh' (Kd.R_lt (ry HO_11.out)) k_ hk⟩)); (case aO => exact (ry HO_12.out)); (case aS => exact (bZ (yH))); (case aL => have := LMc47.out; omega); intro v382 w49 ho hb hg hat; rw [← Ny381.out] at ho; have HO383 := aM (ho); replace HO_10 := aM (Kd.R_after (ok := (fun k_ => some k_ ≠ (v378 : Value).ownBlock)) (ry HO_10.out) hg hat); replace HO_11 := aM (Kd.R_after (ok := (fun k_ => some k_ ≠ (.slice (some ad380) t374.length co48 : Value).ownBlock)) (ry HO_11.out) hg hat); replace BK369 := aM (blk_grown (g := gb369) (qy BK369.out) hg (Kd.R_ne HO_12.out BK369.out (by decide))); replace BK370 := aM (blk_grown (g := gb370) (qy BK370.out) hg (Kd.R_ne HO_12.out BK370.out (by decide))); replace BK371 := aM (blk_grown (g := gb371) (qy BK371.out) hg (Kd.R_ne HO_12.out BK371.out (by decide))); replace HB := aM (hb); clear HO_12; clear ho hb hg hat))
           go_roundg k2
           case measure => have := HJ4.out; have := HK2.out; omega
           case rel => exact ⟨(y381), (wrap64 (x13_2 + 1)), (by first | rfl | (simp; done) | (simp [*]; done)), H', ⟨by have := HJ4.out; have := HK2.out; omega⟩, ⟨by exact ry HO_10.out⟩, ⟨by exact ry HO_11.out⟩, ⟨by exact ry HO383.out⟩, ⟨by exact qy BK369.out⟩, ⟨by exact qy BK370.out⟩, ⟨by exact qy BK371.out⟩, ⟨yH⟩⟩
          ·rw [if_neg c47] at H
           exact absurd H (by simp)
         ·rw [if_neg c46] at H
          exact absurd H (by simp)
        ·rw [if_neg c45] at H
         exact absurd H (by simp)
       ·rw [if_neg c44] at H
        have c44b0 : decide (x13_2 < a1) = false := decide_eq_false c44
        clear c44
        have H' := aM H
        clear H
        go_wp2
        go_loopg [12, 14] k2 (fun kq v12 v14 w' => ∃ (x12_3 : List Int) (x14_3 : Int), v14 = .int .i64 x14_3 ∧ Aside0 (bureauref04_Splice.l1 kq a1 a2 t374 t377 x12_3 x14_3 a0_0 l0_1 a3_0 l3_1 = some (r1, r2, r3)) ∧ Aside0 (kq ≤ k2) ∧ Aside0 (Kd.R (Kd.int .u64) 26 w' w.heap.size (fun k_ => some k_ ≠ (v378 : Value).ownBlock ∧ some k_ ≠ (v12 : Value).ownBlock) v375 t374) ∧ Aside0 (Kd.R (Kd.int .u64) 26 w' w.heap.size (fun k_ => some k_ ≠ (v375 : Value).ownBlock ∧ some k_ ≠ (v12 : Value).ownBlock) v378 t377) ∧ Aside0 (Kd.R (Kd.int .u64) 26 w' w.heap.size (fun k_ => some k_ ≠ (v375 : Value).ownBlock ∧ some k_ ≠ (v378 : Value).ownBlock) v12 x12_3) ∧ Aside0 (w'.heap[gb369]? = some (.cells #[.string a0_0, (.slice A0_1 l0_1.length c0_1)] 24 (0, 0))) ∧ Aside0 (w'.heap[gb370]? = some (.cells #[.string a3_0, (.slice A3_1 l3_1.length c3_1)] 24 (0, 0))) ∧ Aside0 (w'.heap[gb371]? = some (.cells #[.string (⟨#[]⟩ : ByteArray), (.slice none 0 0)] 24 (0, 0))) ∧ Aside0 (Below w.heap.size w w'))
        case atStart => exact ⟨(x12_2), (0), (by first | rfl | (simp; done) | (simp [*]; done)), H', ⟨Nat.le_refl _⟩, ⟨by exact ry HO_10.out⟩, ⟨by exact ry HO_11.out⟩, ⟨by exact ry HO_12.out⟩, ⟨by exact qy BK369.out⟩, ⟨by exact qy BK370.out⟩, ⟨by exact qy BK371.out⟩, ⟨yH⟩⟩
        case round =>
         clear H'
         try clear c1
         try clear c2
         try clear p2
         try clear c3
         try clear p3
         try clear q3
         try clear hx3
         try clear c4
         try clear c6
         try clear p6
         try clear c10
         try clear c11
         try clear c12
         try clear c13
         try clear c16
         try clear c19
         try clear c20
         try clear c23
         try clear c24
         try clear c25
         try clear c27
         try clear c27b0
         try clear c28
         try clear c29
         try clear c31
         try clear c36
         try clear c37
         try clear p38
         try clear q38
         try clear hx38
         try clear c39
         try clear c44
         try clear c44b0
         try clear c45
         try clear c45b0
         try clear c46
         try clear c46b0
         try clear c47
         try clear hcz14_0
         try clear hcz14_1
         try clear hcz17_0
         try clear hcz17_1
         try clear hcz21_0
         try clear hcz21_1
         try clear hcz26_0
         try clear hcz26_1
         try clear hcz30_0
         try clear hcz30_1
         try clear hcz32_0
         try clear hcz32_1
         try clear hcz33_0
         try clear hcz33_1
         try clear hcz38_0
         try clear hcz38_1
         try clear hcz40_0
         try clear hcz40_1
         try clear hcz42_0
         try clear hcz42_1
         try clear hfz14_0
         try clear hfz14_1
         try clear hfz17_0
         try clear hfz17_1
         try clear hfz21_0
         try clear hfz21_1
         try clear hfz26_0
         try clear hfz26_1
         try clear hfz30_0
         try clear hfz30_1
         try clear hfz32_0
         try clear hfz32_1
         try clear hfz33_0
         try clear hfz33_1
         try clear hfz38_0
         try clear hfz38_1
         try clear hfz40_0
         try clear hfz40_1
         try clear hfz42_0
         try clear hfz42_1
         try clear hx380_0
         try clear p2
         try clear p380
         try clear p6
         try clear q380
         obtain ⟨x12_3, x14_3, rfl, HA, HK3, HO_10, HO_11, HO_12, BK369, BK370, BK371, HB⟩ := hrel
         cases gk with
         | zero => exact absurd HA.out (by simp [bureauref04_Splice.l1])
         | succ k3 =>
          have H := HA.out
          clear HA
          simp only [bureauref04_Splice.l1] at H
          by_cases c50 : x14_3 < (t377.length : Int)
          ·rw [if_pos c50] at H
           have c50b0 : decide (x14_3 < (t377.length : Int)) = true := decide_eq_true c50
           clear c50
           by_cases c51 : 0 ≤ x14_3
           ·rw [if_pos c51] at H
            have c51b0 : decide (0 ≤ x14_3) = true := decide_eq_true c51
            clear c51
            by_cases c52 : x12_3.length < 17592186044416
            ·rw [if_pos c52] at H
             have LMc52 := aM c52
             clear c52
             obtain ⟨y385, hy385⟩ : ∃ y_ : List Int, y_ = (x12_3 ++ [rd t377 x14_3]) := ⟨_, rfl⟩
             replace H : (bureauref04_Splice.l1 k3 a1 a2 t374 t377 y385 (wrap64 (x14_3 + 1)) a0_0 l0_1 a3_0 l3_1) = some (r1, r2, r3) := by first | (rw [hy385]; with_reducible exact H) | (have H2_ := (Option.bind_some _ _).symm.trans H; rw [hy385]; with_reducible exact H2_) | (have H2_ := (Option.bind_some _ _).symm.trans H; with_reducible exact H2_) | with_reducible exact H | (rw [hy385]; exact H) | exact H
             have Ny385 := aM hy385
             clear hy385
             have H' := aM H
             clear H
             obtain ⟨Ao53, co53, eo53⟩ := Kd.R_slice HO_11.out
             subst eo53
             have p384 : 0 ≤ (x14_3 : Int) := of_decide_eq_true (by first | (with_reducible assumption) | assumption)
             have q384 : x14_3 < (t377.length : Int) := of_decide_eq_true (by first | (with_reducible assumption) | assumption)
             obtain ⟨ad384, e384, hx384_0⟩ := Kd.at_int (rR HO_11.out).2.2 x14_3 p384 q384
             cases e384
             replace p384 := eq_true p384
             replace q384 := eq_true q384
             go_wp2_with (first | ((with_reducible refine gate_builtin (b := .append) (xs := #[.tmp 64, .tmp 69]) rfl ?_); at_builtin; refine Kd.R_append (Kd.int .u64) (w0 := w) w.heap.size rfl (.tmp 64) (.tmp 69) 109 26 (.int .u64 0) 8 rfl Tryz.underlying109 info26 rfl (by decide) (by omega) u12 x12_3 (rd t377 x14_3) [.int .u64 (rd t377 x14_3)] (fun k_ => some k_ ≠ (v375 : Value).ownBlock ∧ some k_ ≠ (.slice (some ad384) t377.length co53 : Value).ownBlock) (fun _ => False) rfl rfl ?aP (fun _ hk => hk.elim) ?aF ?aO ?aB ?aS ?aL ?_; (case aP => exact rfl); (case aB => exact (yH)); (case aF => exact (fun k_ hk => ⟨Kd.fresh' (Kd.R_lt (ry HO_10.out)) k_ hk, Kd.fresh' (Kd.R_lt (ry HO_11.out)) k_ hk⟩)); (case aO => exact (ry HO_12.out)); (case aS => exact (bZ (yH))); (case aL => have := LMc52.out; omega); intro v386 w54 ho hb hg hat; rw [← Ny385.out] at ho; have HO387 := aM (ho); replace HO_10 := aM (Kd.R_after (ok := (fun k_ => some k_ ≠ (.slice (some ad384) t377.length co53 : Value).ownBlock)) (ry HO_10.out) hg hat); replace HO_11 := aM (Kd.R_after (ok := (fun k_ => some k_ ≠ (v375 : Value).ownBlock)) (ry HO_11.out) hg hat); replace BK369 := aM (blk_grown (g := gb369) (qy BK369.out) hg (Kd.R_ne HO_12.out BK369.out (by decide))); replace BK370 := aM (blk_grown (g := gb370) (qy BK370.out) hg (Kd.R_ne HO_12.out BK370.out (by decide))); replace BK371 := aM (blk_grown (g := gb371) (qy BK371.out) hg (Kd.R_ne HO_12.out BK371.out (by decide))); replace HB := aM (hb); clear HO_12; clear ho hb hg hat))
             go_roundg k3
             case measure => have := HJ4.out; have := HK2.out; have := HK3.out; omega
             case rel => exact ⟨(y385), (wrap64 (x14_3 + 1)), (by first | rfl | (simp; done) | (simp [*]; done)), H', ⟨by have := HJ4.out; have := HK2.out; have := HK3.out; omega⟩, ⟨by exact ry HO_10.out⟩, ⟨by exact ry HO_11.out⟩, ⟨by exact ry HO387.out⟩, ⟨by exact qy BK369.out⟩, ⟨by exact qy BK370.out⟩, ⟨by exact qy BK371.out⟩, ⟨yH⟩⟩
            ·rw [if_neg c52] at H
             exact absurd H (by simp)
           ·rw [if_neg c51] at H
            exact absurd H (by simp)
          ·rw [if_neg c50] at H
           have c50b0 : decide (x14_3 < (t377.length : Int)) = false := decide_eq_false c50
           clear c50
           have H' := aM H
           clear H
           obtain ⟨Ao55, co55, eo55⟩ := Kd.R_slice HO_11.out
           subst eo55
           go_wp2
           go_loopg [12, 15] k3 (fun kq v12 v15 w' => ∃ (x12_4 : List Int) (x15_4 : Int), v15 = .int .i64 x15_4 ∧ Aside0 (bureauref04_Splice.l2 kq a1 a2 t374 x12_4 x15_4 a0_0 l0_1 a3_0 l3_1 = some (r1, r2, r3)) ∧ Aside0 (kq ≤ k3) ∧ Aside0 (Kd.R (Kd.int .u64) 26 w' w.heap.size (fun k_ => some k_ ≠ (v12 : Value).ownBlock) v375 t374) ∧ Aside0 (Kd.R (Kd.int .u64) 26 w' w.heap.size (fun k_ => some k_ ≠ (v375 : Value).ownBlock) v12 x12_4) ∧ Aside0 (w'.heap[gb369]? = some (.cells #[.string a0_0, (.slice A0_1 l0_1.length c0_1)] 24 (0, 0))) ∧ Aside0 (w'.heap[gb370]? = some (.cells #[.string a3_0, (.slice A3_1 l3_1.length c3_1)] 24 (0, 0))) ∧ Aside0 (w'.heap[gb371]? = some (.cells #[.string (⟨#[]⟩ : ByteArray), (.slice none 0 0)] 24 (0, 0))) ∧ Aside0 (Below w.heap.size w w'))
           case atStart => exact ⟨(x12_3), (a2), (by first | rfl | (simp; done) | (simp [*]; done)), H', ⟨Nat.le_refl _⟩, ⟨by (with_reducible repeat (first | apply ra | apply rn | apply rd_)); exact rM HO_10.out (fun _ hk => hk.2)⟩, ⟨by (with_reducible repeat (first | apply ra | apply rn | apply rd_)); exact rM HO_12.out (fun _ hk => hk.1)⟩, ⟨by exact qy BK369.out⟩, ⟨by exact qy BK370.out⟩, ⟨by exact qy BK371.out⟩, ⟨yH⟩⟩
           case round =>
            clear H'
            try clear c1
            try clear c2
            try clear p2
            try clear c3
            try clear p3
            try clear q3
            try clear hx3
            try clear c4
            try clear c5
            try clear c6
            try clear p6
            try clear c10
            try clear c11
            try clear c12
            try clear c13
            try clear c16
            try clear c19
            try clear c20
            try clear c23
            try clear c24
            try clear c25
            try clear c27
            try clear c27b0
            try clear c28
            try clear c29
            try clear c31
            try clear c36
            try clear c37
            try clear p38
            try clear q38
            try clear hx38
            try clear c39
            try clear c44
            try clear c44b0
            try clear c45
            try clear c45b0
            try clear c46
            try clear c46b0
            try clear c47
            try clear c50
            try clear c50b0
            try clear c51
            try clear c51b0
            try clear c52
            try clear hcz14_0
            try clear hcz14_1
            try clear hcz17_0
            try clear hcz17_1
            try clear hcz21_0
            try clear hcz21_1
            try clear hcz26_0
            try clear hcz26_1
            try clear hcz30_0
            try clear hcz30_1
            try clear hcz32_0
            try clear hcz32_1
            try clear hcz33_0
            try clear hcz33_1
            try clear hcz38_0
            try clear hcz38_1
            try clear hcz40_0
            try clear hcz40_1
            try clear hcz42_0
            try clear hcz42_1
            try clear hfz14_0
            try clear hfz14_1
            try clear hfz17_0
            try clear hfz17_1
            try clear hfz21_0
            try clear hfz21_1
            try clear hfz26_0
            try clear hfz26_1
            try clear hfz30_0
            try clear hfz30_1
            try clear hfz32_0
            try clear hfz32_1
            try clear hfz33_0
            try clear hfz33_1
            try clear hfz38_0
            try clear hfz38_1
            try clear hfz40_0
            try clear hfz40_1
            try clear hfz42_0
            try clear hfz42_1
            try clear hx380_0
            try clear hx384_0
            try clear p2
            try clear p3
            try clear p38
            try clear p380
            try clear p384
            try clear p6
            try clear q3
            try clear q38
            try clear q380
            try clear q384
            obtain ⟨x12_4, x15_4, rfl, HA, HK4, HO_10, HO_12, BK369, BK370, BK371, HB⟩ := hrel
            cases gk with
            | zero => exact absurd HA.out (by simp [bureauref04_Splice.l2])
            | succ k4 =>
             have H := HA.out
             clear HA
             simp only [bureauref04_Splice.l2] at H
             by_cases c56 : x15_4 < (t374.length : Int)
             ·rw [if_pos c56] at H
              have c56b0 : decide (x15_4 < (t374.length : Int)) = true := decide_eq_true c56
              clear c56
              by_cases c57 : 0 ≤ x15_4
              ·rw [if_pos c57] at H
               have c57b0 : decide (0 ≤ x15_4) = true := decide_eq_true c57
               clear c57
               by_cases c58 : x12_4.length < 17592186044416
               ·rw [if_pos c58] at H
                have LMc58 := aM c58
                clear c58
                obtain ⟨y389, hy389⟩ : ∃ y_ : List Int, y_ = (x12_4 ++ [rd t374 x15_4]) := ⟨_, rfl⟩
                replace H : (bureauref04_Splice.l2 k4 a1 a2 t374 y389 (wrap64 (x15_4 + 1)) a0_0 l0_1 a3_0 l3_1) = some (r1, r2, r3) := by first | (rw [hy389]; with_reducible exact H) | (have H2_ := (Option.bind_some _ _).symm.trans H; rw [hy389]; with_reducible exact H2_) | (have H2_ := (Option.bind_some _ _).symm.trans H; with_reducible exact H2_) | with_reducible exact H | (rw [hy389]; exact H) | exact H
                have Ny389 := aM hy389
                clear hy389
                have H' := aM H
                clear H
                obtain ⟨Ao59, co59, eo59⟩ := Kd.R_slice HO_10.out
                subst eo59
                have p388 : 0 ≤ (x15_4 : Int) := of_decide_eq_true (by first | (with_reducible assumption) | assumption)
                have q388 : x15_4 < (t374.length : Int) := of_decide_eq_true (by first | (with_reducible assumption) | assumption)
                obtain ⟨ad388, e388, hx388_0⟩ := Kd.at_int (rR HO_10.out).2.2 x15_4 p388 q388
                cases e388
                replace p388 := eq_true p388
                replace q388 := eq_true q388
                go_wp2_with (first | ((with_reducible refine gate_builtin (b := .append) (xs := #[.tmp 78, .tmp 83]) rfl ?_); at_builtin; refine Kd.R_append (Kd.int .u64) (w0 := w) w.heap.size rfl (.tmp 78) (.tmp 83) 109 26 (.int .u64 0) 8 rfl Tryz.underlying109 info26 rfl (by decide) (by omega) u12 x12_4 (rd t374 x15_4) [.int .u64 (rd t374 x15_4)] (fun k_ => some k_ ≠ (.slice (some ad388) t374.length co59 : Value).ownBlock) (fun _ => False) rfl rfl ?aP (fun _ hk => hk.elim) ?aF ?aO ?aB ?aS ?aL ?_; (case aP => exact rfl); (case aB => exact (yH)); (case aF => exact (fun k_ hk => Kd.fresh' (Kd.R_lt (ry HO_10.out)) k_ hk)); (case aO => exact (ry HO_12.out)); (case aS => exact (bZ (yH))); (case aL => have := LMc58.out; omega); intro v390 w60 ho hb hg hat; rw [← Ny389.out] at ho; have HO391 := aM (ho); replace HO_10 := aM (Kd.R_after (ok := (fun _ => True)) (by (with_reducible repeat (first | apply ra | apply rn | apply rd_)); exact rM HO_10.out (fun _ hk => ⟨trivial, hk⟩)) hg hat); replace BK369 := aM (blk_grown (g := gb369) (qy BK369.out) hg (Kd.R_ne HO_12.out BK369.out (by decide))); replace BK370 := aM (blk_grown (g := gb370) (qy BK370.out) hg (Kd.R_ne HO_12.out BK370.out (by decide))); replace BK371 := aM (blk_grown (g := gb371) (qy BK371.out) hg (Kd.R_ne HO_12.out BK371.out (by decide))); replace HB := aM (hb); clear HO_12; clear ho hb hg hat))
                go_roundg k4
                case measure => have := HJ4.out; have := HK2.out; have := HK3.out; have := HK4.out; omega
                case rel => exact ⟨(y389), (wrap64 (x15_4 + 1)), (by first | rfl | (simp; done) | (simp [*]; done)), H', ⟨by have := HJ4.out; have := HK2.out; have := HK3.out; have := HK4.out; omega⟩, ⟨by (with_reducible repeat (first | apply ra | apply rn | apply rd_)); exact rM HO_10.out (fun _ hk => hk.2)⟩, ⟨by exact ry HO391.out⟩, ⟨by exact qy BK369.out⟩, ⟨by exact qy BK370.out⟩, ⟨by exact qy BK371.out⟩, ⟨yH⟩⟩
               ·rw [if_neg c58] at H
                exact absurd H (by simp)
              ·rw [if_neg c57] at H
               exact absurd H (by simp)
             ·rw [if_neg c56] at H
              have c56b0 : decide (x15_4 < (t374.length : Int)) = false := decide_eq_false c56
              clear c56
              by_cases c61 : 0 ≤ a1
              ·rw [if_pos c61] at H
               have c61b0 := eq_true c61
               have c61b1 : decide (0 ≤ a1) = true := decide_eq_true c61
               clear c61
               by_cases c62 : a1 ≤ (a0_0.size : Int)
               ·rw [if_pos c62] at H
                have c62b0 := eq_true c62
                have c62b1 : decide (a1 ≤ (a0_0.size : Int)) = true := decide_eq_true c62
                clear c62
                by_cases c63 : (a0_0.extract 0 (a1 : Int).toNat).size + a3_0.size ≤ 9223372036854775807
                ·rw [if_pos c63] at H
                 have c63b0 := eq_true c63
                 have c63b1 : decide ((a0_0.extract 0 (a1 : Int).toNat).size + a3_0.size ≤ 9223372036854775807) = true := decide_eq_true c63
                 try have c63b2 : (9223372036854775807 < (a0_0.extract 0 (a1 : Int).toNat).size + a3_0.size) = False := eq_false (Nat.not_lt.2 c63)
                 try (have c63e_ := Nat.not_lt.2 c63; simp only [ByteArray.size_append] at c63e_; have c63f_ := eq_false c63e_; clear c63e_)
                 try (have c63c_ := c63; simp [go_sem, c61b0, c62b0] at c63c_; have c63d_ := eq_false (Nat.not_lt.2 c63c_); clear c63c_)
                 by_cases c64 : 0 ≤ a2
                 ·rw [if_pos c64] at H
                  have c64b0 := eq_true c64
                  have c64b1 : decide (0 ≤ a2) = true := decide_eq_true c64
                  clear c64
                  by_cases c65 : a2 ≤ (a0_0.size : Int)
                  ·rw [if_pos c65] at H
                   have c65b0 := eq_true c65
                   have c65b1 : decide (a2 ≤ (a0_0.size : Int)) = true := decide_eq_true c65
                   clear c65
                   by_cases c66 : ((a0_0.extract 0 (a1 : Int).toNat) ++ a3_0).size + (a0_0.extract (a2 : Int).toNat a0_0.size).size ≤ 9223372036854775807
                   ·rw [if_pos c66] at H
                    have c66b0 := eq_true c66
                    have c66b1 : decide (((a0_0.extract 0 (a1 : Int).toNat) ++ a3_0).size + (a0_0.extract (a2 : Int).toNat a0_0.size).size ≤ 9223372036854775807) = true := decide_eq_true c66
                    try have c66b2 : (9223372036854775807 < ((a0_0.extract 0 (a1 : Int).toNat) ++ a3_0).size + (a0_0.extract (a2 : Int).toNat a0_0.size).size) = False := eq_false (Nat.not_lt.2 c66)
                    try (have c66e_ := Nat.not_lt.2 c66; simp only [ByteArray.size_append] at c66e_; have c66f_ := eq_false c66e_; clear c66e_)
                    try (have c66c_ := c66; simp [go_sem, c61b0, c62b0, c63b0, c64b0, c65b0] at c66c_; have c66d_ := eq_false (Nat.not_lt.2 c66c_); clear c66c_)
                    replace H := Option.bind_eq_some_iff.mp H
                    obtain ⟨t392, A670, H⟩ := H
                    replace H : (some (((a0_0.extract 0 (a1 : Int).toNat) ++ a3_0) ++ (a0_0.extract (a2 : Int).toNat a0_0.size), t392, 0)) = some (r1, r2, r3) := H
                    have A67 := aM A670
                    clear A670
                    simp only [Option.some.injEq, Prod.mk.injEq] at H
                    obtain ⟨rfl, rfl, rfl⟩ := H
                    obtain ⟨Ao68, co68, eo68⟩ := Kd.R_slice HO_10.out
                    subst eo68
                    try go_wp2
                    have n0_ := aM (Kd.R_drew HO_10.out)
                    have n1_ := aM (Kd.R_drew HO_12.out)
                    have n2_ := aM (blk_drew BK369.out)
                    have n3_ := aM (blk_drew BK370.out)
                    have n4_ := aM (blk_drew BK371.out)
                    have n5_ := aM (below_drew1 HB.out)
                    clear HO_10
                    clear HO_12
                    clear BK369
                    clear BK370
                    clear BK371
                    clear HB
                    have HO_10 := n0_
                    have HO_12 := n1_
                    have BK369 := n2_
                    have BK370 := n3_
                    have BK371 := n4_
                    have HB := n5_
                    clear n0_ n1_ n2_ n3_ n4_ n5_
                    obtain ⟨Ao70, co70, eo70⟩ := Kd.R_slice HO_12.out
                    (first | subst eo70 | (injection eo70 with f1_ f2_ f3_; have f4_ := f1_.symm; have f5_ := f3_.symm; clear f1_ f2_ f3_; subst f4_; subst f5_))
                    refine start_ (n := 17) (S := fun w' => w'.cell? ⟨gb369, 0, none⟩ = some (.string a0_0) ∧ w'.cell? ⟨gb369, 1, none⟩ = some (.slice A0_1 l0_1.length c0_1) ∧ w'.cell? ⟨gb370, 0, none⟩ = some (.string a3_0) ∧ w'.cell? ⟨gb370, 1, none⟩ = some (.slice A3_1 l3_1.length c3_1)) (ds := []) b42_ (by kernel_rfl) rfl rfl ⟨(bC BK369.out 0).trans rfl, (bC BK369.out 1).trans rfl, (bC BK370.out 0).trans rfl, (bC BK370.out 1).trans rfl⟩ (fun hHeld => ?_); refine with_tabW bureauref04_Splice.tab20 bureauref04_Splice.bits20 (fun HT_ HW_ => ?_)
                    generalize wr.drew = w69 at HO_10 HO_12 BK369 BK370 BK371 HB hHeld ⊢
                    refine pure_ (i := 0) (N := some 85) (v := ?_) (a' := ?_) b43_ rfl rfl (any_of HT_.out (by kernel_rfl)) (fun _ _ _ h => h) (Or.inl ⟨by rfl, ?_⟩) ?_ ?_
                    rotate_left
                    ·intro w'
                     go_simp
                     with_reducible rfl
                    rotate_left
                    ·simp only [Act.put, sA, sZ, sS, i64_w, i32_w]
                     rfl
                    refine pure_ (i := 2) (N := some 87) (v := ?_) (a' := ?_) b44_ rfl rfl (any_of HT_.out (by kernel_rfl)) (fun _ _ _ h => h) (Or.inl ⟨by rfl, ?_⟩) ?_ ?_
                    rotate_left
                    ·intro w'
                     go_simp
                     with_reducible rfl
                    rotate_left
                    ·simp only [Act.put, sA, sZ, sS, i64_w, i32_w]
                     rfl
                    refine pure_ (i := 4) (N := some 89) (v := ?_) (a' := ?_) b45_ rfl rfl (any_of HT_.out (by kernel_rfl)) (fun _ _ _ h => h) (Or.inl ⟨by rfl, ?_⟩) ?_ ?_
                    rotate_left
                    ·intro w'
                     go_simp
                     with_reducible rfl
                    rotate_left
                    ·simp only [Act.put, sA, sZ, sS, i64_w, i32_w]
                     rfl
                    refine pure_ (i := 7) (N := some 92) (v := ?_) (a' := ?_) b46_ rfl rfl (any_of HT_.out (by kernel_rfl)) (fun _ _ _ h => h) (Or.inl ⟨by rfl, ?_⟩) ?_ ?_
                    rotate_left
                    ·intro w'
                     go_simp
                     with_reducible rfl
                    rotate_left
                    ·simp only [Act.put, sA, sZ, sS, i64_w, i32_w]
                     rfl
                    refine pure_ (i := 9) (N := some 94) (v := ?_) (a' := ?_) b47_ rfl rfl (any_of HT_.out (by kernel_rfl)) (fun _ _ _ h => h) (Or.inl ⟨by rfl, ?_⟩) ?_ ?_
                    rotate_left
                    ·intro w'
                     go_simp
                     with_reducible rfl
                    rotate_left
                    ·simp only [Act.put, sA, sZ, sS, i64_w, i32_w]
                     rfl
                    refine pure_ (i := 12) (N := some 97) (v := ?_) (a' := ?_) b48_ rfl rfl (any_of HT_.out (by kernel_rfl)) (fun _ _ _ h => h) (Or.inl ⟨by rfl, ?_⟩) ?_ ?_
                    rotate_left
                    ·intro w'
                     go_simp
                     with_reducible rfl
                    rotate_left
                    ·simp only [Act.put, sA, sZ, sS, i64_w, i32_w]
                     rfl
                    refine take_ (i := 1) (N := some 86) (v := ?_) (a' := ?_) b49_ rfl rfl (take_ofW HT_.out HW_.out (by kernel_rfl)) (fun _ _ _ h => h) (Or.inl ⟨by rfl, ?_⟩) hHeld ?_ ?_
                    rotate_left
                    ·rintro w' ⟨s0, s1, s2, s3⟩
                     go_simp
                     with_reducible rfl
                    rotate_left
                    ·simp only [Act.put, sA, sZ, sS, i64_w, i32_w]
                     rfl
                    refine pure_ (i := 3) (N := some 88) (v := ?_) (a' := ?_) b50_ rfl rfl (any_of HT_.out (by kernel_rfl)) (fun _ _ _ h => h) (Or.inl ⟨by rfl, ?_⟩) ?_ ?_
                    rotate_left
                    ·intro w'
                     go_simp
                     with_reducible rfl
                    rotate_left
                    ·simp only [Act.put, sA, sZ, sS, i64_w, i32_w]
                     rfl
                    refine take_ (i := 5) (N := some 90) (v := ?_) (a' := ?_) b51_ rfl rfl (take_ofW HT_.out HW_.out (by kernel_rfl)) (fun _ _ _ h => h) (Or.inl ⟨by rfl, ?_⟩) hHeld ?_ ?_
                    rotate_left
                    ·rintro w' ⟨s0, s1, s2, s3⟩
                     go_simp
                     with_reducible rfl
                    rotate_left
                    ·simp only [Act.put, sA, sZ, sS, i64_w, i32_w]
                     rfl
                    refine pure_ (i := 6) (N := some 91) (v := ?_) (a' := ?_) b52_ rfl rfl (any_of HT_.out (by kernel_rfl)) (fun _ _ _ h => h) (Or.inl ⟨by rfl, ?_⟩) ?_ ?_
                    rotate_left
                    ·intro w'
                     go_simp
                     with_reducible rfl
                    rotate_left
                    ·simp only [Act.put, sA, sZ, sS, i64_w, i32_w]
                     rfl
                    refine take_ (i := 8) (N := some 93) (v := ?_) (a' := ?_) b53_ rfl rfl (take_ofW HT_.out HW_.out (by kernel_rfl)) (fun _ _ _ h => h) (Or.inl ⟨by rfl, ?_⟩) hHeld ?_ ?_
                    rotate_left
                    ·rintro w' ⟨s0, s1, s2, s3⟩
                     go_simp
                     with_reducible rfl
                    rotate_left
                    ·simp only [Act.put, sA, sZ, sS, i64_w, i32_w]
                     rfl
                    refine pure_ (i := 10) (N := some 95) (v := ?_) (a' := ?_) b54_ rfl rfl (any_of HT_.out (by kernel_rfl)) (fun _ _ _ h => h) (Or.inl ⟨by rfl, ?_⟩) ?_ ?_
                    rotate_left
                    ·intro w'
                     go_simp
                     with_reducible rfl
                    rotate_left
                    ·simp only [Act.put, sA, sZ, sS, i64_w, i32_w]
                     rfl
                    refine pure_ (i := 11) (N := some 96) (v := ?_) (a' := ?_) b55_ rfl rfl (any_of HT_.out (by kernel_rfl)) (fun _ _ _ h => h) (Or.inl ⟨by rfl, ?_⟩) ?_ ?_
                    rotate_left
                    ·intro w'
                     go_simp
                     with_reducible rfl
                    rotate_left
                    ·simp only [Act.put, sA, sZ, sS, i64_w, i32_w]
                     rfl
                    refine one_ (i := 13) (N := some 98) b56_ rfl rfl (one_of HT_.out (by kernel_rfl)) (by decide) (fun K hK => ?_)
                    refine goes_ Tryz.func120 (by kernel_rfl) rfl #[.slice Ao70 x12_4.length co70] (by rfl) rfl rfl (by (try simp only [mT, mC, mN]); first | done | rfl | (simp only [lD, lT]; rfl)) ?_
                    with_reducible refine (bureauref03_Pack.calls k4 _ _ x12_4 t392 _ ?side1 ?side2 A67.out).mono ?_
                    (case side1 => repeat (first | exact (rR HO_12.out).2.2 | (with_reducible refine Kd.C_alloc ?_ _) | (with_reducible refine Kd.C_drewN ?_ _) | (with_reducible refine Kd.C_drew ?_)))
                    (case side2 => exact (rR HO_12.out).2.1)
                    rintro e w71 ⟨v393, rfl, ho0, hb⟩
                    refine ⟨_, rfl, ?_⟩
                    have n0_ := aM (Kd.R_below (ry HO_10.out) hb)
                    have n1_ := aM (Kd.R_below (ry HO_12.out) hb)
                    have n2_ := aM (rL ho0 (bZ (yH)))
                    have n3_ := yB hb BK369
                    have n4_ := yB hb BK370
                    have n5_ := yB hb BK371
                    have n6_ := yP w hb
                    clear HO_10
                    clear HO_12
                    clear BK369
                    clear BK370
                    clear BK371
                    clear HB
                    have HO_10 := n0_
                    have HO_12 := n1_
                    have HO394 := n2_
                    have BK369 := n3_
                    have BK370 := n4_
                    have BK371 := n5_
                    have HB := n6_
                    clear n0_ n1_ n2_ n3_ n4_ n5_ n6_
                    (try clear hb)
                    (try clear hb2)
                    (try clear hk)
                    (try clear hi)
                    (try clear ho0)
                    obtain ⟨Ao72, co72, eo72⟩ := Kd.R_slice HO394.out
                    (first | subst eo72 | (injection eo72 with f1_ f2_ f3_; have f4_ := f1_.symm; have f5_ := f3_.symm; clear f1_ f2_ f3_; subst f4_; subst f5_))
                    refine hK.out _ _ ⟨(bC BK369.out 0).trans rfl, (bC BK369.out 1).trans rfl, (bC BK370.out 0).trans rfl, (bC BK370.out 1).trans rfl⟩ (fun hHeld => ?_)
                    clear hK K
                    refine norm_ (a' := ?_) ?_ ?_
                    rotate_left
                    ·show Act.put _ (some 98) _ = _
                     simp only [Act.put, sA, sZ, sS, i64_w, i32_w]
                     rfl
                    refine pure_ (i := 14) (N := some 99) (v := ?_) (a' := ?_) b57_ rfl rfl (any_of HT_.out (by kernel_rfl)) (fun _ _ _ h => h) (Or.inl ⟨by rfl, ?_⟩) ?_ ?_
                    rotate_left
                    ·intro w'
                     go_simp
                     with_reducible rfl
                    rotate_left
                    ·simp only [Act.put, sA, sZ, sS, i64_w, i32_w]
                     rfl
                    refine one_ (i := 15) (N := none) b58_ rfl rfl (one_of HT_.out (by kernel_rfl)) (by decide) (fun K hK => ?_)
                    have hs73 : w71.cell? ⟨gb371, 0, none⟩ = some (.string (⟨#[]⟩ : ByteArray)) := (bC BK371.out 0).trans rfl
                    have hfs73 := bF BK371.out 0
                    have hns73_0 := NB369_371.out
                    have hns73_1 := NB370_371.out
                    have hms73_0 := NB371_369.out
                    have hms73_1 := NB371_370.out
                    have hs74 : w71.cell? ⟨gb371, 1, none⟩ = some (.slice none 0 0) := (bC BK371.out 1).trans rfl
                    have hfs74 := bF BK371.out 1
                    have hns74_0 := NB369_371.out
                    have hns74_1 := NB370_371.out
                    have hms74_0 := NB371_369.out
                    have hms74_1 := NB371_370.out
                    refine skip_ (w1 := ?_) (by rfl) rfl ?_ ?_
                    rotate_left
                    ·go_simp
                     rfl
                    refine hK.out _ _ ⟨((cell_far (p := ⟨gb371, _, none⟩) NB369_371.out _).trans (((cell_far (p := ⟨gb371, _, none⟩) NB369_371.out _).trans (hHeld.1)))), ((cell_far (p := ⟨gb371, _, none⟩) NB369_371.out _).trans (((cell_far (p := ⟨gb371, _, none⟩) NB369_371.out _).trans (hHeld.2.1)))), ((cell_far (p := ⟨gb371, _, none⟩) NB370_371.out _).trans (((cell_far (p := ⟨gb371, _, none⟩) NB370_371.out _).trans (hHeld.2.2.1)))), ((cell_far (p := ⟨gb371, _, none⟩) NB370_371.out _).trans (((cell_far (p := ⟨gb371, _, none⟩) NB370_371.out _).trans (hHeld.2.2.2))))⟩ (fun hHeld => ?_)
                    clear hK K
                    refine pure_ (i := 16) (N := some 9) (v := ?_) (a' := ?_) b59_ rfl rfl (any_of HT_.out (by kernel_rfl)) (fun _ _ _ h => h) (Or.inl ⟨by rfl, ?_⟩) ?_ ?_
                    rotate_left
                    ·intro w'
                     go_simp
                     with_reducible rfl
                    rotate_left
                    ·simp only [Act.put, sA, sZ, sS, i64_w, i32_w]
                     rfl
                    refine done_ (done_of HT_.out (by kernel_rfl)) ?_
                    try go_wp2
                    refine bodyPost_ret (results_ct rfl _ _ gb371 24 #[.string (((a0_0.extract 0 (a1 : Int).toNat) ++ a3_0) ++ (a0_0.extract (a2 : Int).toNat a0_0.size)), .slice Ao72 t392.length co72] (0, 0) _ rfl (by (with_reducible repeat (first | apply qn | apply qd | apply qa)); refine bU (cs := #[.string (((a0_0.extract 0 (a1 : Int).toNat) ++ a3_0) ++ (a0_0.extract (a2 : Int).toNat a0_0.size)), .slice none 0 0]) ?_ 1 _ rfl; (with_reducible repeat (first | apply qn | apply qd | apply qa)); refine bU (cs := #[.string (⟨#[]⟩ : ByteArray), .slice none 0 0]) ?_ 0 _ rfl; exact qy BK371.out) Tryz.underlying24 rfl (by kernel_rfl)) rfl ?_
                    exact ⟨_, ye, by (with_reducible repeat (first | apply ra | apply rn | apply rd_)); exact rM (rF (p := ⟨gb371, 1, none⟩) (rF (p := ⟨gb371, 0, none⟩) (rT HO394.out BK371.out (by decide)) (fun _ hk => hk.2) (.string (((a0_0.extract 0 (a1 : Int).toNat) ++ a3_0) ++ (a0_0.extract (a2 : Int).toNat a0_0.size)))) (fun _ hk => hk.2) (.slice Ao72 t392.length co72)) (fun _ hk => trivial), yH⟩
                   ·rw [if_neg c66] at H
                    exact absurd H (by simp)
                  ·rw [if_neg c65] at H
                   exact absurd H (by simp)
                 ·rw [if_neg c64] at H
                  exact absurd H (by simp)
                ·rw [if_neg c63] at H
                 exact absurd H (by simp)
               ·rw [if_neg c62] at H
                exact absurd H (by simp)
              ·rw [if_neg c61] at H
               exact absurd H (by simp)
end Go.Proofs.YtjkfkiebhgkolaaGreatDoor.PB
end

section
namespace Go.Proofs.YtjkfkiebhgkolaaGreatDoor.PB
open Go.RowKit Go.Proofs.YtjkfkiebhgkolaaGreatDoorW.PrintWords
set_option linter.unusedVariables false
theorem run_ev (a b : List S68) (hl : a.length ≤ big) : Ev (fun k => api_Run.f k a b) (decide (a = b)) := by
 unfold big at hl
 unfold api_Run.f
 by_cases hab : a.length = b.length
 ·refine Ev.pos (by omega) ?_
  have loop : ∀ (d i : Nat), i + d = a.length → Ev (fun k => api_Run.l0 k a b (a.length : Int) (i : Int)) (decide (a.drop i = b.drop i)) := by
   intro d
   induction d with
   | zero =>
    intro i hi
    refine Ev.step (fun k => by simp only [api_Run.l0]; rfl) ?_
    refine Ev.neg (by omega) ?_
    rw [List.drop_eq_nil_of_le (by omega), List.drop_eq_nil_of_le (by omega)]
    exact Ev.now _
   | succ d ih =>
    intro i hi
    have hlt : i < a.length := by omega
    refine Ev.step (fun k => by simp only [api_Run.l0]; rfl) ?_
    refine Ev.pos (by omega) (Ev.pos (by omega) (Ev.pos (by omega) (Ev.pos (by omega) ?_)))
    rw [dropT hlt, dropT (show i < b.length by omega), rdT, rdT, w1 hlt (by omega)]
    by_cases he : a.getD i z68 = b.getD i z68
    ·rw [he]
     refine Ev.neg (by simp) ?_
     exact ev_val (ih (i + 1) (by omega)) (by simp)
    ·refine Ev.pos ?_ ?_
     ·have : ¬ ((a.getD i z68).f0 = (b.getD i z68).f0 ∧ (a.getD i z68).f1 = (b.getD i z68).f1) := fun h => he (by
       cases hx : a.getD i z68; cases hy : b.getD i z68; rw [hx, hy] at h; simp at h; rw [h.1, h.2])
      simp only [Bool.or_eq_true, Bool.not_eq_true', beq_eq_false_iff_ne]
      by_cases h1 : (a.getD i z68).f0 = (b.getD i z68).f0
      ·exact .inr (fun h2 => this ⟨h1, h2⟩)
      ·exact .inl h1
     ·exact ev_val (Ev.now _) (by simp; intro h; exact absurd h he)
  exact loop a.length 0 (by omega)
 ·refine Ev.neg (by omega) ?_
  exact ev_val (Ev.now _) (by simp; intro h; exact hab (by rw [h]))
def goodT (s : ByteArray) (l : List S68) : Bool := good l && decide (tot l = (s.size : Int))
theorem goodT_iff {s : ByteArray} {l : List S68} : goodT s l = true ↔ good l = true ∧ tot l = (s.size : Int) := by simp [goodT]
theorem goodT_facts {s : ByteArray} {l : List S68} (h : goodT s l = true) : good l = true ∧ nrm l ∧ (bytes l).length = s.size ∧ s.size ≤ 4096 ∧ tot l = (s.size : Int) := by
 obtain ⟨h1, h2⟩ := goodT_iff.1 h
 obtain ⟨h3, h4, h5⟩ := good_facts h1
 exact ⟨h1, h3, by omega, by omega, h2⟩
theorem goodT_ev (s : ByteArray) (l : List S68) (hl : l.length ≤ big) : Ev (fun k => strip_Good.f k s l) (goodT s l) := by
 unfold strip_Good.f
 refine Ev.bind (good_ev l hl) ?_
 by_cases hg : good l = true
 ·rw [hg]
  exact Ev.pos rfl (Ev.bind (total_ev l hl) (ev_val (Ev.now _) (by rw [Bool.eq_iff_iff]; simp [goodT, hg])))
 ·exact Ev.neg hg (ev_val (Ev.now _) (by simp [goodT, hg]))
theorem rgoodT_ev (s : ByteArray) (l : List S68) (hl : l.length ≤ big) : Ev (fun k => bureauref04_Good.f k s l) (goodT s l) := by
 unfold bureauref04_Good.f
 refine Ev.bind (rgood_ev l hl) ?_
 by_cases hg : good l = true
 ·rw [hg]
  exact Ev.pos rfl (Ev.bind (rtotal_ev l hl) (ev_val (Ev.now _) (by rw [Bool.eq_iff_iff]; simp [goodT, hg])))
 ·exact Ev.neg hg (ev_val (Ev.now _) (by simp [goodT, hg]))
def withinT (s : ByteArray) (l : List S68) (a b : Int) : Bool := goodT s l && (decide (0 ≤ a) && (decide (a ≤ b) && decide (b ≤ (s.size : Int))))
theorem withinT_iff {s : ByteArray} {l : List S68} {a b : Int} : withinT s l a b = true ↔ goodT s l = true ∧ 0 ≤ a ∧ a ≤ b ∧ b ≤ (s.size : Int) := by simp [withinT]
theorem withinT_ev (s : ByteArray) (l : List S68) (hl : l.length ≤ big) (a b : Int) : Ev (fun k => strip_within.f k s l a b) (withinT s l a b) := by
 unfold strip_within.f
 refine Ev.bind (goodT_ev s l hl) ?_
 by_cases hg : goodT s l = true
 ·refine Ev.pos hg ?_
  by_cases h0 : 0 ≤ a
  ·refine Ev.pos h0 ?_
   by_cases h1 : a ≤ b
   ·exact Ev.pos h1 (ev_val (Ev.now _) (by simp [withinT, hg, h0, h1]))
   ·exact Ev.neg h1 (ev_val (Ev.now _) (by simp [withinT, h1]))
  ·exact Ev.neg h0 (ev_val (Ev.now _) (by simp [withinT, h0]))
 ·exact Ev.neg hg (ev_val (Ev.now _) (by simp [withinT, hg]))
theorem rwithinT_ev (s : ByteArray) (l : List S68) (hl : l.length ≤ big) (a b : Int) : Ev (fun k => bureauref04_Within.f k s l a b) (withinT s l a b) := by
 unfold bureauref04_Within.f
 refine Ev.bind (rgoodT_ev s l hl) ?_
 by_cases hg : goodT s l = true
 ·refine Ev.pos hg ?_
  by_cases h0 : 0 ≤ a
  ·refine Ev.pos h0 ?_
   by_cases h1 : a ≤ b
   ·exact Ev.pos h1 (ev_val (Ev.now _) (by simp [withinT, hg, h0, h1]))
   ·exact Ev.neg h1 (ev_val (Ev.now _) (by simp [withinT, h1]))
  ·exact Ev.neg h0 (ev_val (Ev.now _) (by simp [withinT, h0]))
 ·exact Ev.neg hg (ev_val (Ev.now _) (by simp [withinT, hg]))
theorem withinT_facts {s : ByteArray} {l : List S68} {a b : Int} (h : withinT s l a b = true) : ∃ i j : Nat, a = i ∧ b = j ∧ i ≤ j ∧ j ≤ s.size ∧ goodT s l = true ∧ withinB l a b = true := by
 obtain ⟨h1, h2, h3, h4⟩ := withinT_iff.1 h
 obtain ⟨g1, g2, g3, g4, g5⟩ := goodT_facts h1
 obtain ⟨i, rfl⟩ := Int.eq_ofNat_of_zero_le h2
 obtain ⟨j, rfl⟩ := Int.eq_ofNat_of_zero_le (show 0 ≤ b by omega)
 exact ⟨i, j, rfl, rfl, by omega, by omega, h1, withinB_iff.2 ⟨g1, by omega, by omega, by omega⟩⟩
abbrev TX := ByteArray × List S68 × Int
def makeS (s : ByteArray) (y : Int) : TX := if (s.size : Int) > 4096 then (⟨#[]⟩, [], 3) else (s, pack (List.replicate s.size y), 0)
theorem normal_one (y : Int) (n : Nat) : normalS [⟨y, (n : Int)⟩] = if (n : Int) > 4096 then ([], 3) else (pack (List.replicate n y), 0) := by
 unfold normalS
 rw [if_neg (fun ⟨j, hj, hh⟩ => by
  have : j = 0 := by simpa using hj
  subst this
  have : ((n : Nat) : Int) < 0 := hh
  omega)]
 have ht : tot [(⟨y, (n : Int)⟩ : S68)] = if (n : Int) > 4096 then 4097 else (n : Int) := by
  simp only [tot, totF]
  by_cases h : (n : Int) > 4096
  ·rw [if_pos h, if_pos (by omega)]
  ·rw [if_neg h, if_neg (by omega), if_neg (by omega)]; omega
 rw [ht]
 by_cases h : (n : Int) > 4096
 ·rw [if_pos h, if_pos h, if_pos (by omega)]
 ·rw [if_neg h, if_neg h, if_neg h]
  simp [bytes]
theorem make_ev (s : ByteArray) (y : Int) : Ev (fun k => strip_Make.f k s y) (makeS s y) := by
 unfold strip_Make.f makeS
 refine Ev.bind (normal_ev _ (by simp [big])) ?_
 rw [normal_one]
 by_cases h : (s.size : Int) > 4096
 ·rw [if_pos h, if_pos h]
  exact Ev.neg (by decide) (Ev.now _)
 ·rw [if_neg h, if_neg h]
  exact Ev.pos rfl (Ev.now _)
theorem rmake_ev (s : ByteArray) (y : Int) : Ev (fun k => bureauref04_Make.f k s y) (makeS s y) := by
 unfold bureauref04_Make.f makeS
 refine Ev.ite (fun _ => Ev.now _) (fun h => ?_)
 have loop : ∀ (d i : Nat), i + d = s.size → Ev (fun k => bureauref04_Make.l0 k s y (List.replicate i y) (i : Int)) (s, pack (List.replicate s.size y), 0) := by
  intro d
  induction d with
  | zero =>
   intro i hi
   refine Ev.step (fun k => by simp only [bureauref04_Make.l0]; rfl) ?_
   refine Ev.neg (by omega) ?_
   obtain rfl : i = s.size := by omega
   exact Ev.bind (pack_ev _ (by rw [List.length_replicate]; omega)) (Ev.now _)
  | succ d ih =>
   intro i hi
   refine Ev.step (fun k => by simp only [bureauref04_Make.l0]; rfl) ?_
   refine Ev.pos (by omega) (Ev.pos (by rw [List.length_replicate]; omega) ?_)
   rw [show List.replicate i y ++ [y] = List.replicate (i + 1) y from List.replicate_succ'.symm, w1 (n := s.size) (by omega) (by omega)]
   exact ih (i + 1) (by omega)
 exact loop s.size 0 (by omega)
def sameT (s : ByteArray) (l : List S68) (t : ByteArray) (m : List S68) : Bool := if s.toList = t.toList then decide (l = m) else false
theorem sameT_self (s : ByteArray) (l : List S68) : sameT s l s l = true := by simp [sameT]
theorem same4_ev (s : ByteArray) (l : List S68) (t : ByteArray) (m : List S68) (hl : l.length ≤ big) : Ev (fun k => strip_Same.f k s l t m) (sameT s l t m) := by
 unfold strip_Same.f sameT
 exact Ev.ite (fun _ => Ev.bind (run_ev l m hl) (Ev.now _)) (fun _ => Ev.now _)
theorem rsame4_ev (s : ByteArray) (l : List S68) (t : ByteArray) (m : List S68) (hl : l.length ≤ big) : Ev (fun k => bureauref04_Same.f k s l t m) (sameT s l t m) := by
 unfold bureauref04_Same.f sameT
 exact Ev.ite (fun _ => Ev.bind (same_ev l m hl) (Ev.now _)) (fun _ => Ev.now _)
def cutS (s : ByteArray) (l : List S68) (a b : Int) : TX := if withinT s l a b = true then (s.extract a.toNat b.toNat, pack (((bytes l).take b.toNat).drop a.toNat), 0) else (⟨#[]⟩, [], 2)
theorem cut_ev (s : ByteArray) (l : List S68) (hl : l.length ≤ big) (a b : Int) : Ev (fun k => strip_Cut.f k s l a b) (cutS s l a b) := by
 unfold strip_Cut.f cutS
 refine Ev.bind (withinT_ev s l hl a b) ?_
 refine Ev.ite (fun hw => ?_) (fun _ => Ev.now _)
 obtain ⟨h1, h2, h3, h4⟩ := withinT_iff.1 hw
 obtain ⟨i, j, rfl, rfl, hij, hj, hg, hwb⟩ := withinT_facts hw
 refine Ev.bind (slice_ev l hl _ _) (Ev.pos h2 (Ev.pos h3 (Ev.pos h4 (ev_val (Ev.now _) ?_))))
 unfold sliceS
 rw [if_pos hwb]
theorem rcut_ev (s : ByteArray) (l : List S68) (hl : l.length ≤ big) (a b : Int) : Ev (fun k => bureauref04_Cut.f k s l a b) (cutS s l a b) := by
 unfold bureauref04_Cut.f cutS
 refine Ev.bind (rwithinT_ev s l hl a b) ?_
 refine Ev.ite (fun hw => ?_) (fun _ => Ev.now _)
 obtain ⟨h1, h2, h3, h4⟩ := withinT_iff.1 hw
 obtain ⟨g1, g2, g3, g4, g5⟩ := goodT_facts h1
 refine Ev.bind (bytes_ev l hl (by omega)) (Ev.pos h2 (Ev.pos h3 (Ev.pos h4 (Ev.pos (by omega) (Ev.bind (pack_ev _ ?_) (Ev.now _))))))
 rw [List.length_drop, List.length_take]
 omega
def spliceT (s : ByteArray) (l : List S68) (a b : Int) (x : ByteArray) (m : List S68) : TX :=
 if withinT s l a b = true then (if goodT x m = true then (if (s.size : Int) - (b - a) + (x.size : Int) > 4096 then (⟨#[]⟩, [], 3) else
  (s.extract 0 a.toNat ++ x ++ s.extract b.toNat s.size, pack ((bytes l).take a.toNat ++ bytes m ++ (bytes l).drop b.toNat), 0)) else (⟨#[]⟩, [], 2)) else (⟨#[]⟩, [], 2)
theorem ext_size (s : ByteArray) (i j : Nat) : (s.extract i j).size ≤ s.size := by rw [ByteArray.size_extract]; omega
theorem splice4_ev (s : ByteArray) (l : List S68) (hl : l.length ≤ big) (a b : Int) (x : ByteArray) (m : List S68) (hm : m.length ≤ big) : Ev (fun k => strip_Splice.f k s l a b x m) (spliceT s l a b x m) := by
 unfold strip_Splice.f spliceT
 refine Ev.bind (withinT_ev s l hl a b) ?_
 have bad : Ev (fun k => strip_Splice.j0 k a b true s l x m) (⟨#[]⟩, [], 2) := by
  refine Ev.step (fun k => by simp only [strip_Splice.j0]; rfl) ?_
  exact Ev.pos (by simp) (Ev.now _)
 refine Ev.ite (fun hw => ?_) (fun _ => bad)
 refine Ev.bind (goodT_ev x m hm) ?_
 by_cases hg : goodT x m = true
 ·rw [if_pos hg, hg]
  refine Ev.step (fun k => by simp only [strip_Splice.j0]; rfl) ?_
  refine Ev.neg (by simp) (Ev.bind (splice_ev l hl a b m hm) ?_)
  obtain ⟨h1, h2, h3, h4⟩ := withinT_iff.1 hw
  obtain ⟨i, j, rfl, rfl, hij, hj, hgl, hwb⟩ := withinT_facts hw
  obtain ⟨g1, g2, g3, g4, g5⟩ := goodT_facts hgl
  obtain ⟨q1, q2, q3, q4, q5⟩ := goodT_facts hg
  have he : spliceS l (i : Int) (j : Int) m = if (s.size : Int) - ((j : Int) - (i : Int)) + (x.size : Int) > 4096 then ([], 3) else (pack ((bytes l).take (i : Int).toNat ++ bytes m ++ (bytes l).drop (j : Int).toNat), 0) := by
   unfold spliceS
   rw [if_pos hwb, if_pos q1, g5, q5]
  rw [he]
  by_cases hb : (s.size : Int) - ((j : Int) - (i : Int)) + (x.size : Int) > 4096
  ·rw [if_pos hb, if_pos hb]
   exact Ev.neg (by decide) (Ev.now _)
  ·rw [if_neg hb, if_neg hb]
   have e1 := ext_size s 0 (i : Int).toNat
   have e2 := ext_size s (j : Int).toNat s.size
   refine Ev.pos rfl (Ev.pos h2 (Ev.pos (by omega) (Ev.pos (by omega) (Ev.pos (by omega) (Ev.pos h4 (Ev.pos ?_ (Ev.now _)))))))
   rw [ByteArray.size_append]
   omega
 ·rw [if_neg hg, show goodT x m = false by simpa using hg]
  exact bad
theorem rsplice4_ev (s : ByteArray) (l : List S68) (hl : l.length ≤ big) (a b : Int) (x : ByteArray) (m : List S68) (hm : m.length ≤ big) : Ev (fun k => bureauref04_Splice.f k s l a b x m) (spliceT s l a b x m) := by
 unfold bureauref04_Splice.f spliceT
 refine Ev.bind (rwithinT_ev s l hl a b) ?_
 have bad : Ev (fun k => bureauref04_Splice.j0 k a b true s l x m) (⟨#[]⟩, [], 2) := by
  refine Ev.step (fun k => by simp only [bureauref04_Splice.j0]; rfl) ?_
  exact Ev.pos (by simp) (Ev.now _)
 refine Ev.ite (fun hw => ?_) (fun _ => bad)
 refine Ev.bind (rgoodT_ev x m hm) ?_
 by_cases hg : goodT x m = true
 ·rw [if_pos hg, hg]
  refine Ev.step (fun k => by simp only [bureauref04_Splice.j0]; rfl) ?_
  refine Ev.neg (by simp) ?_
  obtain ⟨h1, h2, h3, h4⟩ := withinT_iff.1 hw
  obtain ⟨i, j, rfl, rfl, hij, hj, hgl, hwb⟩ := withinT_facts hw
  obtain ⟨g1, g2, g3, g4, g5⟩ := goodT_facts hgl
  obtain ⟨q1, q2, q3, q4, q5⟩ := goodT_facts hg
  rw [show wrap64 (wrap64 ((s.size : Int) - wrap64 ((j : Int) - (i : Int))) + (x.size : Int)) = (s.size : Int) - ((j : Int) - (i : Int)) + (x.size : Int) by unfold wrap64; omega]
  refine Ev.ite (fun _ => Ev.now _) (fun hb => ?_)
  refine Ev.bind (bytes_ev l hl (by omega)) (Ev.bind (bytes_ev m hm (by omega)) ?_)
  generalize hB : bytes l = B at *
  generalize hM : bytes m = M at *
  have hrd : ∀ (L : List Int) (q : Nat), rd L (q : Int) = L.getD q 0 := fun L q => by unfold rd; rw [Int.toNat_natCast]
  have l2 : ∀ (d q : Nat) (acc : List Int), q + d = B.length → acc.length ≤ 8192 + q → Ev (fun k => bureauref04_Splice.l2 k (i : Int) (j : Int) B acc (q : Int) s l x m)
    (s.extract 0 (i : Int).toNat ++ x ++ s.extract (j : Int).toNat s.size, pack (acc ++ B.drop q), 0) := by
   intro d
   induction d with
   | zero =>
    intro q acc hq ha
    refine Ev.step (fun k => by simp only [bureauref04_Splice.l2]; rfl) ?_
    have e1 := ext_size s 0 (i : Int).toNat
    have e2 := ext_size s (j : Int).toNat s.size
    refine Ev.neg (by omega) (Ev.pos h2 (Ev.pos (by omega) (Ev.pos (by omega) (Ev.pos (by omega) (Ev.pos h4 (Ev.pos ?_ ?_))))))
    ·rw [ByteArray.size_append]; omega
    ·rw [List.drop_eq_nil_of_le (by omega), List.append_nil]
     exact Ev.bind (pack_ev _ (by omega)) (Ev.now _)
   | succ d ih =>
    intro q acc hq ha
    have hlt : q < B.length := by omega
    refine Ev.step (fun k => by simp only [bureauref04_Splice.l2]; rfl) ?_
    refine Ev.pos (by omega) (Ev.pos (by omega) (Ev.pos (by omega) ?_))
    rw [w1 hlt (by omega), dropI hlt, hrd]
    exact ev_val (ih (q + 1) _ (by omega) (by simp; omega)) (by rw [List.append_assoc]; rfl)
  have l1 : ∀ (d q : Nat) (acc : List Int), q + d = M.length → acc.length ≤ 4096 + q → Ev (fun k => bureauref04_Splice.l1 k (i : Int) (j : Int) B M acc (q : Int) s l x m)
    (s.extract 0 (i : Int).toNat ++ x ++ s.extract (j : Int).toNat s.size, pack (acc ++ M.drop q ++ B.drop j), 0) := by
   intro d
   induction d with
   | zero =>
    intro q acc hq ha
    refine Ev.step (fun k => by simp only [bureauref04_Splice.l1]; rfl) ?_
    refine Ev.neg (by omega) ?_
    rw [List.drop_eq_nil_of_le (show M.length ≤ q by omega), List.append_nil]
    exact l2 (B.length - j) j acc (by omega) (by omega)
   | succ d ih =>
    intro q acc hq ha
    have hlt : q < M.length := by omega
    refine Ev.step (fun k => by simp only [bureauref04_Splice.l1]; rfl) ?_
    refine Ev.pos (by omega) (Ev.pos (by omega) (Ev.pos (by omega) ?_))
    rw [w1 hlt (by omega), dropI hlt, hrd]
    exact ev_val (ih (q + 1) _ (by omega) (by simp; omega)) (by rw [List.append_assoc acc]; rfl)
  have l0 : ∀ (d q : Nat), q + d = i → Ev (fun k => bureauref04_Splice.l0 k (i : Int) (j : Int) B M (B.take q) (q : Int) s l x m)
    (s.extract 0 (i : Int).toNat ++ x ++ s.extract (j : Int).toNat s.size, pack (B.take i ++ M ++ B.drop j), 0) := by
   intro d
   induction d with
   | zero =>
    intro q hq
    refine Ev.step (fun k => by simp only [bureauref04_Splice.l0]; rfl) ?_
    refine Ev.neg (by omega) ?_
    obtain rfl : q = i := by omega
    exact l1 M.length 0 (B.take q) (by omega) (by rw [List.length_take]; omega)
   | succ d ih =>
    intro q hq
    have hlt : q < B.length := by omega
    refine Ev.step (fun k => by simp only [bureauref04_Splice.l0]; rfl) ?_
    refine Ev.pos (by omega) (Ev.pos (by omega) (Ev.pos (by omega) (Ev.pos (by rw [List.length_take]; omega) ?_)))
    rw [w1 hlt (by omega), hrd]
    have ht : B.take q ++ [B.getD q 0] = B.take (q + 1) := by
     rw [List.take_add_one, List.getD_eq_getElem?_getD, List.getElem?_eq_getElem hlt]; rfl
    rw [ht]
    exact ih (q + 1) (by omega)
  exact l0 i 0 (by omega)
 ·rw [if_neg hg, show goodT x m = false by simpa using hg]
  exact bad
theorem spliceT_len (s : ByteArray) (l : List S68) (a b : Int) (x : ByteArray) (m : List S68) : (spliceT s l a b x m).2.1.length ≤ 20000 := by
 unfold spliceT
 split
 ·rename_i hw
  split
  ·rename_i hg
   split
   ·simp
   ·obtain ⟨i, j, rfl, rfl, hij, hj, hgl, hwb⟩ := withinT_facts hw
    obtain ⟨g1, g2, g3, g4, g5⟩ := goodT_facts hgl
    obtain ⟨q1, q2, q3, q4, q5⟩ := goodT_facts hg
    have := pack_len ((bytes l).take (i : Int).toNat ++ bytes m ++ (bytes l).drop (j : Int).toNat)
    simp only [List.length_append, List.length_take, List.length_drop] at this
    show (pack _).length ≤ 20000
    omega
  ·simp
 ·simp
def catT (s : ByteArray) (l : List S68) (x : ByteArray) (m : List S68) : TX := spliceT s l (s.size : Int) (s.size : Int) x m
theorem cat4_ev (s : ByteArray) (l : List S68) (hl : l.length ≤ big) (x : ByteArray) (m : List S68) (hm : m.length ≤ big) : Ev (fun k => strip_Cat.f k s l x m) (catT s l x m) := by
 unfold strip_Cat.f catT
 exact Ev.bind (splice4_ev s l hl _ _ x m hm) (Ev.now _)
theorem catT_len (s : ByteArray) (l : List S68) (x : ByteArray) (m : List S68) : (catT s l x m).2.1.length ≤ 20000 := spliceT_len _ _ _ _ _ _
theorem cutS_len (s : ByteArray) (l : List S68) (a b : Int) : (cutS s l a b).2.1.length ≤ 20000 := by
 unfold cutS
 split
 ·rename_i hw
  obtain ⟨i, j, rfl, rfl, hij, hj, hgl, hwb⟩ := withinT_facts hw
  obtain ⟨g1, g2, g3, g4, g5⟩ := goodT_facts hgl
  have := pack_len (((bytes l).take (j : Int).toNat).drop (i : Int).toNat)
  rw [List.length_drop, List.length_take] at this
  show (pack _).length ≤ 20000
  omega
 ·simp
theorem makeS_len (s : ByteArray) (y : Int) : (makeS s y).2.1.length ≤ 20000 := by
 unfold makeS
 split
 ·simp
 ·have := pack_len (List.replicate s.size y)
  rw [List.length_replicate] at this
  show (pack _).length ≤ 20000
  omega
theorem toList_loop (a : ByteArray) : ∀ (n i : Nat) (r : List UInt8), i + n = a.size → ByteArray.toList.loop a i r = r.reverse ++ a.data.toList.drop i
 | 0, i, r, h => by
  unfold ByteArray.toList.loop
  rw [if_neg (by omega), List.drop_eq_nil_of_le (by rw [Array.length_toList]; show a.size ≤ i; omega), List.append_nil]
 | n + 1, i, r, h => by
  unfold ByteArray.toList.loop
  have hi : i < a.data.toList.length := by rw [Array.length_toList]; show i < a.size; omega
  rw [if_pos (by omega), toList_loop a n (i + 1) _ (by omega), List.reverse_cons, List.append_assoc, List.drop_eq_getElem_cons hi]
  congr 1
  show [a.get! i] ++ _ = _
  rw [List.singleton_append]
  congr 1
  show a.data[i]! = _
  rw [getElem!_pos a.data i (by rw [Array.length_toList] at hi; exact hi)]
  simp
theorem toList_data (a : ByteArray) : a.toList = a.data.toList := by
 unfold ByteArray.toList
 rw [toList_loop a a.size 0 [] (by omega)]
 rfl
theorem toList_inj {a b : ByteArray} (h : a.toList = b.toList) : a = b := by
 rw [toList_data, toList_data] at h
 exact ByteArray.ext (Array.toList_inj.1 h)
end Go.Proofs.YtjkfkiebhgkolaaGreatDoor.PB
end

section
namespace Go.Proofs.YtjkfkiebhgkolaaGreatDoor.PB
open Go.RowKit Go.Proofs.YtjkfkiebhgkolaaGreatDoorW.PrintWords Go.Proofs.YtjkfkiebhgkolaaGreatDoorW.PrintLast Go.Proofs.YtjkfkiebhgkolaaGreatDoorW.PrintMore
attribute [local go_sem] max2_int min2_int max_two min_two max_three min_three max_four min_four   
set_option linter.unusedVariables false
set_option linter.unusedSimpArgs false
def label_Below.f (a0 : Int) (a1 : Int) : Option (Bool) := some ((Go.bits .andNot .u64 a0 a1) == 0)
set_option maxHeartbeats 8000000 in
set_option maxRecDepth 100000 in
theorem label_Below.calls (a0 : Int) (a1 : Int) (r : Bool) (w : World) (h : label_Below.f a0 a1 = some r) :
  Calls Tryz.prog 122 #[.int .u64 a0, .int .u64 a1] w fun e w' => e = .returned (.bool r) ∧ Drawn0 w w' := by
 have H : (some ((Go.bits .andNot .u64 a0 a1) == 0)) = some r := h
 clear h
 obtain rfl := Option.some.inj H
 go_enter Tryz.func122, Tryz.ntmps122
 go_wp2
 go_ret
 exact ⟨by first | rfl | (simp; done) | (simp [*]; done), by repeat (first | exact Drawn0.refl _ | apply Drawn0.step)⟩
end Go.Proofs.YtjkfkiebhgkolaaGreatDoor.PB
end

section
namespace Go.Proofs.YtjkfkiebhgkolaaGreatDoor.PB
open Go.RowKit Go.Proofs.YtjkfkiebhgkolaaGreatDoorW.PrintWords Go.Proofs.YtjkfkiebhgkolaaGreatDoorW.PrintLast Go.Proofs.YtjkfkiebhgkolaaGreatDoorW.PrintMore
set_option linter.unusedVariables false
set_option linter.unusedSimpArgs false
def BRow (w : World) (g : Nat) (b : List Int) : Prop := ∃ cs t fr, w.heap[g]? = some (.cells cs t fr) ∧ b.length ≤ fr.1 ∧ ∀ i, i < b.length → cs[i]? = some (.int .u8 (b.getD i 0))
theorem BRow.lt {w : World} {g : Nat} {b : List Int} (h : BRow w g b) : g < w.heap.size := by obtain ⟨cs, t, fr, hc, _⟩ := h; exact blk_lt hc
theorem BRow.cell {w : World} {g : Nat} {b : List Int} (h : BRow w g b) {i : Nat} (hi : i < b.length) : w.cell? ⟨g, i, none⟩ = some (.int .u8 (b.getD i 0)) := by
 obtain ⟨cs, t, fr, hc, _, hb⟩ := h
 exact (cell_of_row w g i cs t fr hc).trans (hb i hi)
theorem BRow.frozen {w : World} {g : Nat} {b : List Int} (h : BRow w g b) {i : Nat} (hi : i < b.length) : w.frozen? ⟨g, i, none⟩ = false := by
 obtain ⟨cs, t, ⟨f1, f2⟩, hc, hf, hb⟩ := h
 simp only at hf
 simp [World.frozen?, hc]
 omega
theorem BRow.of {w w' : World} {g : Nat} {b : List Int} (h : BRow w g b) (he : w'.heap[g]? = w.heap[g]?) : BRow w' g b := by
 obtain ⟨cs, t, fr, hc, hr⟩ := h
 exact ⟨cs, t, fr, he.trans hc, hr⟩
theorem BRow.alloc {w : World} {g : Nat} {b : List Int} (h : BRow w g b) (o : Obj) : BRow (w.alloc o) g b := h.of (Below.heap_alloc _ _ _ h.lt)
theorem BRow.drewN {w : World} {g : Nat} {b : List Int} (h : BRow w g b) (n : Nat) : BRow (w.drewN n) g b := h.of rfl
theorem BRow.set {w : World} {g : Nat} {b : List Int} (h : BRow w g b) {i : Nat} (hi : i < b.length) (x : Int) : BRow (w.setCell ⟨g, i, none⟩ (.int .u8 x)) g (b.set i x) := by
 obtain ⟨cs, t, fr, hc, hf, hb⟩ := h
 refine ⟨cs.setIfInBounds i (.int .u8 x), t, fr, by simp [World.setCell, Array.getElem?_modify, hc], by rw [List.length_set]; exact hf, fun j hj => ?_⟩
 rw [List.length_set] at hj
 have h1 := hb j hj
 obtain ⟨hlt, _⟩ := Array.getElem?_eq_some_iff.1 h1
 by_cases he : i = j
 ·subst he
  rw [List.getD_eq_getElem?_getD, List.getElem?_set_self hj, Array.getElem?_setIfInBounds]
  simp [hlt]
 ·rw [List.getD_eq_getElem?_getD, List.getElem?_set_ne he, ← List.getD_eq_getElem?_getD, Array.getElem?_setIfInBounds, if_neg he]
  exact h1
theorem BRow.reads {w : World} {g : Nat} {b : List Int} (h : BRow w g b) (hn : b.length ≤ 9223372036854775807) : ReadsInt w .u8 (some ⟨g, 0, none⟩) b.length b :=
 ⟨rfl, hn, fun _ => ⟨_, rfl, fun j hj => by
  have := h.cell hj
  by_cases h0 : j = 0
  ·subst h0; simpa [Addr.add] using this
  ·simpa [Addr.add, h0] using this⟩⟩
theorem bytesOf_len (s : ByteArray) : (bytesOf s).length = s.size := by unfold bytesOf; rw [List.length_map, Array.length_toList]; rfl
theorem bytesOf_getD (s : ByteArray) (i : Nat) (hi : i < s.size) : (bytesOf s).getD i 0 = ((s.data.toList.getD i 0).toNat : Int) := by
 have hd : i < s.data.toList.length := by rw [Array.length_toList]; exact hi
 unfold bytesOf
 rw [List.getD_eq_getElem?_getD, List.getElem?_map, List.getD_eq_getElem?_getD, List.getElem?_eq_getElem hd]
 rfl
theorem BRow.new (w : World) (e : TypeId) (s : ByteArray) : BRow (Lib.bytesWorld w e s) w.heap.size (bytesOf s) := by
 refine ⟨_, _, _, Lib.bytesWorld_at_new w e s, ?_, fun i hi => ?_⟩
 ·show (bytesOf s).length ≤ (Lib.bytesCells w e s).size
  rw [bytesOf_len]
  unfold Lib.bytesCells
  rw [Array.size_append, Array.size_map]
  exact Nat.le_add_right _ _
 ·rw [bytesOf_len] at hi
  have h1 := Lib.bytesWorld_cell w e s i hi
  rw [cell_of_row _ _ _ _ _ _ (Lib.bytesWorld_at_new w e s)] at h1
  rw [h1, bytesOf_getD _ _ hi]
theorem below_bytesWorld {w0 w : World} {B : Nat} (h : Below B w0 w) (hB : B ≤ w.heap.size) (e : TypeId) (s : ByteArray) : Below B w0 (Lib.bytesWorld w e s) :=
 h.trans ⟨rfl, rfl, rfl, by rw [Lib.bytesWorld_size]; omega, fun k hk => Lib.bytesWorld_at_old w e s k (by omega)⟩
def paintN : Nat → Nat → List Int → List Int
 | _, 0, b => b
 | p, n + 1, b => paintN (p + 1) n (b.set p 35)
def viewTo (y : Int) : List S68 → Nat → List Int → List Int
 | [], _, b => b
 | r :: l, p, b => viewTo y l (p + r.f1.toNat) (if (Go.bits .andNot .u64 r.f0 y == 0) = true then b else paintN p r.f1.toNat b)
def strip_View.f (k : Nat) (a0_0 : ByteArray) (l0_1 : List S68) (a1 : Int) : Option (ByteArray × Int) :=
 (strip_Good.f k a0_0 l0_1).bind fun t => if t = true then (if (∀ r ∈ l0_1, 0 ≤ r.f1) ∧ (bytes l0_1).length ≤ a0_0.size ∧ a0_0.size ≤ 1000000 then some (strOfNums (viewTo a1 l0_1 0 (bytesOf a0_0)), 0) else none) else some ((⟨#[]⟩ : ByteArray), 2)
set_option maxHeartbeats 4000000 in
set_option maxRecDepth 100000 in
theorem strip_View.calls (k : Nat) (a0_0 : ByteArray) (A0_1 : Option Addr) (c0_1 : Nat) (l0_1 : List S68) (a1 : Int) (r1 : ByteArray) (r2 : Int) (w : World) (hr0_1 : Kd.C k68 w A0_1 l0_1.length l0_1) (hc0_1 : l0_1.length ≤ c0_1) (h : strip_View.f k a0_0 l0_1 a1 = some (r1, r2)) :
  Calls Tryz.prog 71 #[.agg #[.string a0_0, .slice A0_1 l0_1.length c0_1], .int .u64 a1] w fun e w' => e = .returned (.tuple #[.string r1, .int .i64 r2]) ∧ Below w.heap.size w w' := by
 have hu51 := Tryz.underlying24
 have hu100 := Tryz.underlying68
 unfold strip_View.f at h
 obtain ⟨t, ht, h⟩ := Option.bind_eq_some_iff.1 h
 have HC := aM (fun W (hw : Below w.heap.size w W) => strip_Good.calls k a0_0 A0_1 c0_1 l0_1 t W (cB_ hr0_1 hw) hc0_1 ht)
 have HR := aM hr0_1
 clear hr0_1 ht
 cases t with
 | false =>
  simp only [Bool.false_eq_true, if_false, Option.some.injEq, Prod.mk.injEq] at h
  obtain ⟨rfl, rfl⟩ := h
  go_enter Tryz.func71, Tryz.ntmps71
  go_wp2_with fail
  refine (HC.out _ ((Below.refl _ _).alloc (Nat.le_refl _) _)).mono ?_
  rintro e w1 ⟨rfl, hb⟩
  have HB := aM hb
  clear hb
  go_wp2
  go_ret2
  exact ⟨rfl, ((Below.refl _ _).alloc (Nat.le_refl _) _).trans (HB.out.mono (by simp))⟩
 | true =>
  simp only [if_true] at h
  by_cases hg : (∀ r ∈ l0_1, 0 ≤ r.f1) ∧ (bytes l0_1).length ≤ a0_0.size ∧ a0_0.size ≤ 1000000
  case neg => rw [if_neg hg] at h; cases h
  rw [if_pos hg] at h
  simp only [Option.some.injEq, Prod.mk.injEq] at h
  obtain ⟨rfl, rfl⟩ := h
  have HG := aM hg
  clear hg
  have hmax : l0_1.length ≤ 9223372036854775807 := HR.out.2.1
  go_enter Tryz.func71, Tryz.ntmps71
  go_wp2_with fail
  refine (HC.out _ ((Below.refl _ _).alloc (Nat.le_refl _) _)).mono ?_
  rintro e w1 ⟨rfl, hb⟩
  have hbx := bB (blk_new w (.cells #[.string a0_0, .slice A0_1 l0_1.length c0_1] 24)) hb
  have hlt := blk_lt hbx
  have hc0 : w1.cell? ⟨w.heap.size, 0, none⟩ = some (.string a0_0) := (bC hbx 0).trans rfl
  have hc1 : (Lib.bytesWorld w1 5 a0_0).cell? ⟨w.heap.size, 1, none⟩ = some (.slice A0_1 l0_1.length c0_1) := (Lib.bytesWorld_old w1 5 a0_0 _ hlt).trans ((bC hbx 1).trans rfl)
  have HB := aM (below_bytesWorld (((Below.refl w.heap.size w).alloc (Nat.le_refl _) _).trans (hb.mono (by simp))) (by omega) 5 a0_0)
  have hcv := Lib.run_convert_string_bytes (P := Tryz.prog) w1 9 111 5 a0_0 Tryz.underlying9 Tryz.underlying111 Tryz.underlying5
  have HN := aM (BRow.new w1 5 a0_0)
  have hg0 : w.heap.size < w1.heap.size := hlt
  generalize grownCap w1 a0_0.size 0 5 = cap at hcv
  generalize Lib.bytesWorld w1 5 a0_0 = w2 at hc1 HB hcv HN
  generalize w1.heap.size = g at hcv HN hg0
  have HBL := aM (bytesOf_len a0_0)
  have hsz : a0_0.size ≤ 1000000 := HG.out.2.2
  clear hb hbx h hlt
  go_wp2
  go_loopw [7, 20] (fun p i wr => ∃ (k : Nat) (pz : Nat) (b : List Int), k ≤ l0_1.length ∧ i = .int .i64 k ∧ p = .int .i64 pz ∧ Aside0 (BRow wr g b) ∧ Aside0 (b.length = a0_0.size) ∧ Aside0 (Below w.heap.size w wr) ∧ Aside0 (g < wr.heap.size) ∧ Aside0 (pz + (bytes (l0_1.drop k)).length ≤ a0_0.size) ∧ Aside0 (viewTo a1 (l0_1.drop k) pz b = viewTo a1 l0_1 0 (bytesOf a0_0))) (fun _ i _ => l0_1.length - (intOf i).toNat)
  case atStart => exact ⟨0, 0, bytesOf a0_0, Nat.zero_le _, rfl, rfl, HN, HBL, HB, ⟨HN.out.lt⟩, ⟨by have := HG.out.2.1; simpa using this⟩, ⟨rfl⟩⟩
  case round =>
   obtain ⟨k, pz, b, hk, rfl, rfl, HN, HLN, HB, HGL, HP, HE⟩ := hrel
   by_cases hlt : k < l0_1.length
   ·obtain ⟨ad, rfl, hx0, hx1⟩ := at_T68 HR.out (k : Int) (by omega) (by omega)
    replace hx0 := (HB.out.cell (World.block_lt_of_cell? w _ hx0)).trans hx0
    replace hx1 := (HB.out.cell (World.block_lt_of_cell? w _ hx1)).trans hx1
    simp only [Int.toNat_natCast] at hx0 hx1
    have hdr : l0_1.drop k = rd_T68 l0_1 (k : Int) :: l0_1.drop (k + 1) := by
     rw [List.drop_eq_getElem_cons hlt]; unfold rd_T68; rw [Int.toNat_natCast, List.getD_eq_getElem?_getD, List.getElem?_eq_getElem hlt]; rfl
    have hnn : 0 ≤ (rd_T68 l0_1 (k : Int)).f1 := HG.out.1 _ (List.mem_of_mem_drop (by rw [hdr]; exact List.mem_cons_self))
    have hp1 := HP.out
    have he1 := HE.out
    rw [hdr] at hp1 he1
    rw [bytes_cons, List.length_append, List.length_replicate] at hp1
    simp only [viewTo] at he1
    generalize (rd_T68 l0_1 (k : Int)).f0 = e0 at *
    generalize (rd_T68 l0_1 (k : Int)).f1 = e1 at *
    obtain ⟨n, rfl⟩ := Int.eq_ofNat_of_zero_le hnn
    rw [Int.toNat_natCast] at hp1 he1
    rw [← Nat.add_assoc] at hp1
    obtain ⟨m, hm⟩ : ∃ m, pz + n = m := ⟨_, rfl⟩
    rw [hm] at hp1 he1
    have hwr : wrap64 ((pz : Int) + (n : Int)) = (m : Int) := by unfold wrap64; omega
    have HBEL := aM (fun W => label_Below.calls e0 a1 (Go.bits .andNot .u64 e0 a1 == 0) W rfl)
    have HP1 := aM hp1
    have HM := aM hm
    clear hp1 hm hdr hnn HP HE
    by_cases hbel : (Go.bits .andNot .u64 e0 a1 == 0) = true
    ·rw [if_pos hbel] at he1
     have HE1 := aM he1
     clear he1
     go_wp2_with ((with_reducible refine (HBEL.out _).mono ?_); rintro e w3 ⟨rfl, hd⟩; obtain ⟨⟨nq, rfl⟩⟩ := hd)
     go_roundw
     case rel => exact ⟨k + 1, m, b, by omega, by go_num, by first | rfl | (rw [hwr]), ⟨(HN.out.alloc _).drewN nq⟩, HLN, ⟨pw_below_drewN (HB.out.alloc HB.out.size _) nq⟩, ⟨by have := HGL.out; show g < (wr.alloc _).heap.size; simp; omega⟩, HP1, HE1⟩
     case measure => simp [intOf]; omega
    ·have hbel' : (Go.bits .andNot .u64 e0 a1 == 0) = false := by simpa using hbel
     rw [if_neg hbel] at he1
     have HE1 := aM he1
     clear he1 hbel
     go_wp2_with ((with_reducible refine (HBEL.out _).mono ?_); rintro e w3 ⟨rfl, hd⟩; obtain ⟨⟨nq, rfl⟩⟩ := hd)
     have hcb : ((wr.alloc (.cells #[.int .u64 e0, .int .i64 (n : Int)] 68)).drewN nq).cell? ⟨wr.heap.size, 1, none⟩ = some (.int .i64 (n : Int)) := bC (blk_drewN (blk_new wr (.cells #[.int .u64 e0, .int .i64 (n : Int)] 68)) nq) 1
     have HCB := aM hcb
     have HN2 := aM ((HN.out.alloc (.cells #[.int .u64 e0, .int .i64 (n : Int)] 68)).drewN nq)
     have HB2 := aM (pw_below_drewN (HB.out.alloc HB.out.size (.cells #[.int .u64 e0, .int .i64 (n : Int)] 68)) nq)
     have HS2 := aM (show wr.heap.size < ((wr.alloc (.cells #[.int .u64 e0, .int .i64 (n : Int)] 68)).drewN nq).heap.size by show wr.heap.size < (wr.alloc _).heap.size; simp)
     have hgb : ¬ g = wr.heap.size := by have := HGL.out; omega
     generalize (wr.alloc (.cells #[.int .u64 e0, .int .i64 (n : Int)] 68)).drewN nq = w4 at HCB HN2 HB2 HS2 ⊢
     clear hcb
     generalize wr.heap.size = gb at HCB HS2 hgb ⊢
     go_loopw [10] (fun i wi => ∃ (q : Nat) (b' : List Int), q ≤ m ∧ i = .int .i64 q ∧ Aside0 (pz ≤ q) ∧ Aside0 (BRow wi g b') ∧ Aside0 (b'.length = a0_0.size) ∧ Aside0 (Below w.heap.size w wi) ∧ Aside0 (gb < wi.heap.size) ∧ Aside0 (wi.cell? ⟨gb, 1, none⟩ = some (.int .i64 (n : Int))) ∧ Aside0 (paintN q (m - q) b' = paintN pz n b)) (fun i _ => m - (intOf i).toNat)
     case atStart => exact ⟨pz, b, by have := HM.out; omega, rfl, ⟨Nat.le_refl _⟩, HN2, HLN, HB2, HS2, HCB, ⟨by have := HM.out; rw [show m - pz = n by omega]⟩⟩
     case round =>
      obtain ⟨q, b', hq, rfl, HQ, HN3, HLN3, HB3, HS3, HCB3, HE3⟩ := hrel
      have hcb3 := HCB3.out
      by_cases hqm : q < m
      ·have hqs : q < b'.length := by have := HLN3.out; have := HP1.out; omega
       have hcq := HN3.out.cell hqs
       have hfq := HN3.out.frozen hqs
       have hqa : q < a0_0.size := by have := HLN3.out; omega
       have HNS := aM (HN3.out.set hqs 35)
       have HLS := aM (show (b'.set q 35).length = a0_0.size by rw [List.length_set]; exact HLN3.out)
       have HBS := aM (HB3.out.setCell (p := ⟨g, q, none⟩) (Nat.le_of_lt hg0) (.int .u8 35))
       have hce := cell_far (W := wr) (p := ⟨g, q, none⟩) (a := ⟨gb, 1, none⟩) (fun e => hgb (Eq.symm e)) (.int .u8 35)
       have HCS := aM (hce.trans HCB3.out)
       have HES := aM (show paintN (q + 1) (m - (q + 1)) (b'.set q 35) = paintN pz n b by
        have := HE3.out; rw [show m - q = (m - (q + 1)) + 1 by omega] at this; simpa only [paintN] using this)
       clear hce
       clear hqs
       go_wp2
       go_roundw
       case rel => exact ⟨q + 1, _, by omega, by go_num, ⟨by have := HQ.out; omega⟩, HNS, HLS, HBS, ⟨by have := HS3.out; simpa [World.setCell] using this⟩, HCS, HES⟩
       case measure => simp [intOf]; omega
      ·have hqe : q = m := by omega
       subst hqe
       go_wp2
       go_roundw
       case rel => exact ⟨k + 1, q, b', by omega, by go_num, by first | rfl | (rw [hwr]), HN3, HLN3, HB3, ⟨HN3.out.lt⟩, HP1, ⟨by have := HE3.out; rw [Nat.sub_self] at this; simp only [paintN] at this; rw [this]; exact HE1.out⟩⟩
       case measure => simp [intOf]; omega
   ·have hkl : k = l0_1.length := by omega
    subst hkl
    have he1 := HE.out
    rw [List.drop_length] at he1
    simp only [viewTo] at he1
    subst he1
    have hcs := string_of_reads (P := Tryz.prog) (src := 111) (dst := 9) (e := 5) (c := cap) Tryz.underlying111 Tryz.underlying5 Tryz.underlying9 (HN.out.reads (by have := HLN.out; omega))
    rw [HLN.out] at hcs
    go_wp2
    go_ret2
    exact ⟨rfl, HB.out⟩
end Go.Proofs.YtjkfkiebhgkolaaGreatDoor.PB
end
