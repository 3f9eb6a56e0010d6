/- Within, Slice, At, All, Splice, Cat, Raise of runs and of bureauref03, and the laws on them. Plain Lean. -/
import Derived.Test.YthpjagblnddjaaaPuRuns2
import Derived.Test.YthpjagblnddjaaaPAllx6
namespace Go.Proofs.Ythpjagblnddjaaa.PAll
open Go.RowKit Go.Proofs.YthpjagblnddjaaaW.PrintWords
set_option linter.unusedVariables false

def withinB (l : List S100) (a b : Int) : Bool := good l && (decide (0 ≤ a) && (decide (a ≤ b) && decide (b ≤ tot l)))
theorem withinB_iff {l : List S100} {a b : Int} : withinB l a b = true ↔ good l = true ∧ 0 ≤ a ∧ a ≤ b ∧ b ≤ tot l := by simp [withinB]
theorem within_ev (l : List S100) (hl : l.length ≤ big) (a b : Int) : Ev (fun k => runs_within.f k l a b) (withinB l a b) := by
  unfold runs_within.f
  refine Ev.bind (good_ev l hl) ?_
  by_cases hg : good l = true
  · refine Ev.pos hg ?_
    by_cases h0 : a ≥ 0
    · refine Ev.pos h0 ?_
      by_cases h1 : a ≤ b
      · refine Ev.pos h1 (Ev.bind (total_ev l hl) (ev_val (Ev.now _) ?_))
        simp [withinB, hg, h1, show 0 ≤ a from h0]
      · exact Ev.neg h1 (ev_val (Ev.now _) (by simp [withinB, h1]))
    · exact Ev.neg h0 (ev_val (Ev.now _) (by simp [withinB]; intro _ h; omega))
  · exact Ev.neg hg (ev_val (Ev.now _) (by simp [withinB, hg]))
theorem rwithin_ev (l : List S100) (hl : l.length ≤ big) (a b : Int) : Ev (fun k => bureauref03_within.f k l a b) (withinB l a b) := by
  unfold bureauref03_within.f
  refine Ev.bind (rgood_ev l hl) ?_
  by_cases hg : good l = true
  · refine Ev.pos hg ?_
    by_cases h0 : a ≥ 0
    · refine Ev.pos h0 ?_
      by_cases h1 : a ≤ b
      · refine Ev.pos h1 (Ev.bind (rtotal_ev l hl) (ev_val (Ev.now _) ?_))
        simp [withinB, hg, h1, show 0 ≤ a from h0]
      · exact Ev.neg h1 (ev_val (Ev.now _) (by simp [withinB, h1]))
    · exact Ev.neg h0 (ev_val (Ev.now _) (by simp [withinB]; intro _ h; omega))
  · exact Ev.neg hg (ev_val (Ev.now _) (by simp [withinB, hg]))
/-- What within tells. -/
theorem within_facts {l : List S100} {a b : Int} (h : withinB l a b = true) : ∃ i j : Nat, a = i ∧ b = j ∧ i ≤ j ∧ j ≤ (bytes l).length ∧ (bytes l).length ≤ 4096 ∧ nrm l ∧ tot l = (bytes l).length := by
  obtain ⟨hg, h0, h1, h2⟩ := withinB_iff.1 h
  obtain ⟨hn, ht⟩ := good_nrm hg
  have hb := tot_bytes ht
  obtain ⟨i, rfl⟩ := Int.eq_ofNat_of_zero_le h0
  obtain ⟨j, rfl⟩ := Int.eq_ofNat_of_zero_le (show 0 ≤ b by omega)
  exact ⟨i, j, rfl, rfl, by omega, by omega, by omega, hn, hb⟩

def sliceS (l : List S100) (a b : Int) : List S100 × Int := if withinB l a b = true then (pack (((bytes l).take b.toNat).drop a.toNat), 0) else ([], 2)
theorem slice_ev (l : List S100) (hl : l.length ≤ big) (a b : Int) : Ev (fun k => runs_Slice.f k l a b) (sliceS l a b) := by
  unfold runs_Slice.f sliceS
  refine Ev.bind (within_ev l hl a b) ?_
  refine Ev.ite (fun hw => ?_) (fun _ => Ev.now _)
  obtain ⟨i, j, rfl, rfl, hij, hj, h4, hn, _⟩ := within_facts hw
  unfold big at hl
  refine Ev.pos (by omega) (ev_val (Ev.now _) ?_)
  rw [gather0 i j l (nrm_nonneg hn) (by omega) (by omega) (by omega)]
  rfl
theorem rslice_ev (l : List S100) (hl : l.length ≤ big) (a b : Int) : Ev (fun k => bureauref03_Slice.f k l a b) (sliceS l a b) := by
  unfold bureauref03_Slice.f sliceS
  refine Ev.bind (rwithin_ev l hl a b) ?_
  refine Ev.ite (fun hw => ?_) (fun _ => Ev.now _)
  obtain ⟨i, j, rfl, rfl, hij, hj, h4, hn, _⟩ := within_facts hw
  refine Ev.bind (bytes_ev l hl (by omega)) (Ev.pos (by omega) (Ev.pos (by omega) (Ev.pos (by omega) ?_)))
  refine Ev.bind (pack_ev _ (by rw [List.length_drop, List.length_take]; omega)) (Ev.now _)
theorem sliceS_len (l : List S100) (a b : Int) : (sliceS l a b).1.length ≤ 4096 := by
  unfold sliceS
  split
  · rename_i hw
    obtain ⟨i, j, rfl, rfl, hij, hj, h4, hn, _⟩ := within_facts hw
    have := pack_len (((bytes l).take (j : Int).toNat).drop (i : Int).toNat)
    rw [List.length_drop, List.length_take] at this
    show (pack _).length ≤ 4096
    omega
  · simp

theorem RunsSlices_pure (l : List S100) (a b : Int) (w : l.length * 16 ≤ 140737488351232 ∧ ∀ x_ ∈ l, wf100 x_) (wa : (Lit.int .i64 a).wf = true) (wb : (Lit.int .i64 b).wf = true) : ∃ k, bureaulaw03_RunsSlices.f k l a b = some true := by
  refine Ev.rounds (g := fun k => bureaulaw03_RunsSlices.f k l a b) ?_
  unfold bureaulaw03_RunsSlices.f
  refine Ev.bind alive3_ev (Ev.pos rfl ?_)
  by_cases h5 : (l.length : Int) > 5000
  · exact Ev.pos h5 (Ev.now _)
  · refine Ev.neg h5 ?_
    have hl : l.length ≤ big := by unfold big; omega
    refine Ev.bind (slice_ev l hl a b) (Ev.bind (rslice_ev l hl a b) (Ev.bind (same_ev _ _ ?_) (Ev.pos (by simp) (ev_val (Ev.now _) (by simp)))))
    have := sliceS_len l a b; unfold big; omega

/-! ### Asks -/
theorem rat_ev (l : List S100) (hl : l.length ≤ big) (a : Int) : Ev (fun k => bureauref03_At.f k l a) (atS l a) := by
  unfold bureauref03_At.f
  refine Ev.bind (rgood_ev l hl) ?_
  have out : ∀ (h : ¬ (good l = true ∧ 0 ≤ a ∧ a < tot l)), atS l a = (0, false) := fun h => by unfold atS; rw [if_neg h]
  by_cases hg : good l = true
  · refine Ev.pos hg ?_
    obtain ⟨hn, ht⟩ := good_nrm hg
    have hb := tot_bytes ht
    by_cases h0 : a < 0
    · exact Ev.pos h0 (ev_val (Ev.now _) (out (fun h => by omega)).symm)
    · refine Ev.neg h0 (Ev.bind (rtotal_ev l hl) ?_)
      by_cases h1 : a ≥ tot l
      · exact Ev.pos h1 (ev_val (Ev.now _) (out (fun h => by omega)).symm)
      · refine Ev.neg h1 (Ev.bind (bytes_ev l hl (by omega)) (Ev.pos (by omega) (Ev.pos (by omega) (ev_val (Ev.now _) ?_))))
        unfold atS rd
        rw [if_pos ⟨hg, by omega, by omega⟩]
  · exact Ev.neg hg (ev_val (Ev.now _) (out (fun h => hg h.1)).symm)

def pos1 (l : List S100) : List Int := (l.filter (fun r => decide (r.f1 > 0))).map (·.f0)
theorem pos1_cons (r : S100) (l : List S100) : pos1 (r :: l) = if r.f1 > 0 then r.f0 :: pos1 l else pos1 l := by
  unfold pos1
  rw [List.filter_cons]
  by_cases h : r.f1 > 0 <;> simp [h]
theorem all_ev (l : List S100) (hl : l.length ≤ big) : Ev (fun k => runs_All.f k l) (orAllI (pos1 l)) := by
  unfold big at hl
  have loop : ∀ (d i : Nat) (n : Int), i + d = l.length → Ev (fun k => runs_All.l0 k n l (l.length : Int) (i : Int)) ((pos1 (l.drop i)).foldl (fun a x => Go.bits .or .u64 a x) n) := by
    intro d
    induction d with
    | zero =>
      intro i n hi
      refine Ev.step (fun k => by simp only [runs_All.l0]; rfl) ?_
      refine Ev.neg (by omega) ?_
      rw [List.drop_eq_nil_of_le (by omega)]
      exact Ev.now _
    | succ d ih =>
      intro i n hi
      have hlt : i < l.length := by omega
      refine Ev.step (fun k => by simp only [runs_All.l0]; rfl) ?_
      refine Ev.pos (by omega) (Ev.pos (by omega) (Ev.pos (by omega) ?_))
      rw [rdT, w1 hlt (by omega), dropT hlt, pos1_cons]
      by_cases hp : (l.getD i z100).f1 > 0
      · refine Ev.pos hp ?_
        rw [if_pos hp]
        unfold label_Join.f
        refine Ev.bind (Ev.now _) ?_
        exact ih (i + 1) _ (by omega)
      · refine Ev.neg hp ?_
        rw [if_neg hp]
        exact ih (i + 1) _ (by omega)
  exact loop l.length 0 0 (by omega)
theorem rall_ev (l : List S100) (hl : l.length ≤ big) (hw : ∀ r ∈ l, 0 ≤ r.f0 ∧ r.f0 < 18446744073709551616) : Ev (fun k => bureauref03_All.f k l) (orAllI (pos1 l)) := by
  unfold big at hl
  have loop : ∀ (d i : Nat) (acc : List Int), i + d = l.length → acc.length ≤ i → (∀ x ∈ acc, 0 ≤ x ∧ x < 18446744073709551616) → Ev (fun k => bureauref03_All.l0 k l acc (i : Int)) (orAllI (acc ++ pos1 (l.drop i))) := by
    intro d
    induction d with
    | zero =>
      intro i acc hi ha hwa
      refine Ev.step (fun k => by simp only [bureauref03_All.l0]; rfl) ?_
      refine Ev.neg (by omega) ?_
      rw [List.drop_eq_nil_of_le (by omega)]
      unfold bureauref01_JoinAll.f
      rw [if_pos hwa]
      exact Ev.bind (Ev.now _) (ev_val (Ev.now _) (by simp [pos1]))
    | succ d ih =>
      intro i acc hi ha hwa
      have hlt : i < l.length := by omega
      refine Ev.step (fun k => by simp only [bureauref03_All.l0]; rfl) ?_
      refine Ev.pos (by omega) (Ev.pos (by omega) ?_)
      rw [rdT, w1 hlt (by omega), dropT hlt, pos1_cons]
      by_cases hp : (l.getD i z100).f1 > 0
      · refine Ev.pos hp (Ev.pos (by omega) ?_)
        rw [if_pos hp]
        refine ev_val (ih (i + 1) _ (by omega) (by simp; omega) ?_) (by rw [List.append_assoc]; rfl)
        intro x hx
        rcases List.mem_append.1 hx with hx | hx
        · exact hwa x hx
        · obtain rfl := List.mem_singleton.1 hx
          exact hw _ (by rw [List.getD_eq_getElem?_getD, List.getElem?_eq_getElem hlt]; exact List.getElem_mem hlt)
      · refine Ev.neg hp ?_
        rw [if_neg hp]
        exact ih (i + 1) _ (by omega) (by omega) hwa
  exact ev_val (loop l.length 0 [] (by omega) (by simp) (by intro x hx; cases hx)) (by simp)

theorem wf_u64 {n : Int} (h : (Lit.int .u64 n).wf = true) : 0 ≤ n ∧ n < 18446744073709551616 := by
  have hmin : IntKind.u64.min = 0 := rfl
  have hmax : IntKind.u64.max = 18446744073709551615 := rfl
  simp only [Lit.wf, Bool.and_eq_true, decide_eq_true_eq, hmin, hmax] at h
  omega
theorem wf_i64 {n : Int} (h : (Lit.int .i64 n).wf = true) : -9223372036854775808 ≤ n ∧ n ≤ 9223372036854775807 := by
  have hmin : IntKind.i64.min = -9223372036854775808 := rfl
  have hmax : IntKind.i64.max = 9223372036854775807 := rfl
  simp only [Lit.wf, Bool.and_eq_true, decide_eq_true_eq, hmin, hmax] at h
  omega
theorem wf_labels {l : List S100} (h : ∀ x ∈ l, wf100 x) : ∀ r ∈ l, 0 ≤ r.f0 ∧ r.f0 < 18446744073709551616 := fun r hr => wf_u64 (h r hr).1

theorem RunsAsks_pure (l : List S100) (a : Int) (w : l.length * 16 ≤ 140737488351232 ∧ ∀ x_ ∈ l, wf100 x_) (wa : (Lit.int .i64 a).wf = true) : ∃ k, bureaulaw03_RunsAsks.f k l a = some true := by
  refine Ev.rounds (g := fun k => bureaulaw03_RunsAsks.f k l a) ?_
  unfold bureaulaw03_RunsAsks.f
  refine Ev.bind alive3_ev (Ev.pos rfl ?_)
  by_cases h5 : (l.length : Int) > 5000
  · exact Ev.pos h5 (Ev.now _)
  · refine Ev.neg h5 ?_
    have hl : l.length ≤ big := by unfold big; omega
    refine Ev.bind (at_ev l hl a (wf_i64 wa).2) (Ev.bind (rat_ev l hl a) (Ev.pos rfl (Ev.pos (by simp) ?_)))
    exact Ev.bind (all_ev l hl) (Ev.bind (rall_ev l hl (wf_labels w.2)) (ev_val (Ev.now _) (by simp)))

/-! ### Splice, Cat -/
def spliceS (l : List S100) (a b : Int) (m : List S100) : List S100 × Int :=
  if withinB l a b = true then (if good m = true then (if tot l - (b - a) + tot m > 4096 then ([], 3) else (pack ((bytes l).take a.toNat ++ bytes m ++ (bytes l).drop b.toNat), 0)) else ([], 2)) else ([], 2)
theorem good_facts {m : List S100} (h : good m = true) : nrm m ∧ (bytes m).length ≤ 4096 ∧ tot m = (bytes m).length := by
  obtain ⟨hn, ht⟩ := good_nrm h
  have hb := tot_bytes ht
  exact ⟨hn, by omega, hb⟩
theorem spliceRuns_pack (l m : List S100) (i j : Nat) (hi : i ≤ 4096) (hj : j ≤ 4096) (hl : (bytes l).length ≤ 4096) (hm : (bytes m).length ≤ 4096) (hn : nrm l) (hnm : nrm m) :
    spliceRuns l i j m = pack ((bytes l).take i ++ bytes m ++ (bytes l).drop j) := by
  unfold spliceRuns
  have e1 := someTo_pack 0 i l 0 [] 0 (nrm_nonneg hn) capped_nil (by omega) (by omega) (by omega) (by omega) (by omega)
  rw [show ((0 : Nat) : Int) = 0 from rfl, Nat.sub_zero, Nat.sub_zero, List.drop_zero] at e1
  rw [e1]
  have c1 := packTo_capped ((bytes l).take i) (capped_nil) (show (0 : Int) ≤ 0 by omega)
  have hlen1 : ((bytes l).take i).length ≤ 4096 := by rw [List.length_take]; omega
  have e2 := someTo_pack 0 4096 m 0 _ _ (nrm_nonneg hnm) c1 (by omega) (by omega) (by omega) (by omega) (by omega)
  rw [show ((0 : Nat) : Int) = 0 from rfl, show ((4096 : Nat) : Int) = 4096 from rfl, Nat.sub_zero, Nat.sub_zero, List.drop_zero, List.take_of_length_le hm] at e2
  rw [e2]
  have c2 := packTo_capped (bytes m) c1 (by omega)
  have e3 := someTo_pack j 4096 l 0 _ _ (nrm_nonneg hn) c2 (by omega) (by omega) (by omega) (by omega) (by omega)
  rw [show ((0 : Nat) : Int) = 0 from rfl, show ((4096 : Nat) : Int) = 4096 from rfl, Nat.sub_zero, Nat.sub_zero, List.take_of_length_le hl] at e3
  rw [e3]
  unfold pack
  rw [packTo_append, packTo_append]
theorem splice_ev (l : List S100) (hl : l.length ≤ big) (a b : Int) (m : List S100) (hm : m.length ≤ big) : Ev (fun k => runs_Splice.f k l a b m) (spliceS l a b m) := by
  unfold runs_Splice.f spliceS
  refine Ev.bind (within_ev l hl a b) ?_
  refine Ev.ite (fun hw => ?_) (fun _ => Ev.now _)
  refine Ev.bind (good_ev m hm) ?_
  refine Ev.ite (fun hg => ?_) (fun _ => Ev.now _)
  refine Ev.bind (total_ev l hl) (Ev.bind (total_ev m hm) ?_)
  obtain ⟨i, j, rfl, rfl, hij, hj, h4, hn, ht⟩ := within_facts hw
  obtain ⟨hnm, h4m, htm⟩ := good_facts hg
  rw [show wrap64 (wrap64 (tot l - wrap64 ((j : Int) - (i : Int))) + tot m) = tot l - ((j : Int) - (i : Int)) + tot m by unfold wrap64; omega]
  refine Ev.ite (fun _ => Ev.now _) (fun _ => ?_)
  unfold big at hl hm
  refine Ev.pos (by omega) (ev_val (Ev.now _) ?_)
  rw [spliceRuns_pack l m i j (by omega) (by omega) h4 h4m hn hnm]
  rfl
theorem joined_ev (a b : List Int) (ha : a.length ≤ big) (hb : b.length ≤ big) : Ev (fun k => bureauref03_joined.f k a b) (a ++ b) := by
  unfold big at ha hb
  have loop2 : ∀ (d i : Nat) (acc : List Int), i + d = b.length → acc.length ≤ a.length + i → Ev (fun k => bureauref03_joined.l1 k b acc (i : Int)) (acc ++ b.drop i) := by
    intro d
    induction d with
    | zero =>
      intro i acc hi hacc
      refine Ev.step (fun k => by simp only [bureauref03_joined.l1]; rfl) ?_
      refine Ev.neg (by omega) ?_
      rw [List.drop_eq_nil_of_le (by omega), List.append_nil]
      exact Ev.now _
    | succ d ih =>
      intro i acc hi hacc
      have hlt : i < b.length := by omega
      refine Ev.step (fun k => by simp only [bureauref03_joined.l1]; rfl) ?_
      refine Ev.pos (by omega) (Ev.pos (by omega) (Ev.pos (by omega) ?_))
      rw [w1 hlt (by omega), dropI hlt]
      have hrd : rd b (i : Int) = b.getD i 0 := by unfold rd; rw [Int.toNat_natCast]
      rw [hrd]
      exact ev_val (ih (i + 1) _ (by omega) (by simp; omega)) (by rw [List.append_assoc]; rfl)
  have loop : ∀ (d i : Nat) (acc : List Int), i + d = a.length → acc.length ≤ i → Ev (fun k => bureauref03_joined.l0 k a b acc (i : Int)) (acc ++ a.drop i ++ b) := by
    intro d
    induction d with
    | zero =>
      intro i acc hi hacc
      refine Ev.step (fun k => by simp only [bureauref03_joined.l0]; rfl) ?_
      refine Ev.neg (by omega) ?_
      rw [List.drop_eq_nil_of_le (by omega), List.append_nil]
      exact loop2 b.length 0 acc (by omega) (by omega)
    | succ d ih =>
      intro i acc hi hacc
      have hlt : i < a.length := by omega
      refine Ev.step (fun k => by simp only [bureauref03_joined.l0]; rfl) ?_
      refine Ev.pos (by omega) (Ev.pos (by omega) (Ev.pos (by omega) ?_))
      rw [w1 hlt (by omega), dropI hlt]
      have hrd : rd a (i : Int) = a.getD i 0 := by unfold rd; rw [Int.toNat_natCast]
      rw [hrd]
      exact ev_val (ih (i + 1) _ (by omega) (by simp; omega)) (by rw [List.append_assoc acc]; rfl)
  exact ev_val (loop a.length 0 [] (by omega) (by simp)) (by simp)
theorem rsplice_ev (l : List S100) (hl : l.length ≤ big) (a b : Int) (m : List S100) (hm : m.length ≤ big) : Ev (fun k => bureauref03_Splice.f k l a b m) (spliceS l a b m) := by
  unfold bureauref03_Splice.f spliceS
  refine Ev.bind (rwithin_ev l hl a b) ?_
  have bad : Ev (fun k => bureauref03_Splice.j0 k l a b m true) ([], 2) := by
    refine Ev.step (fun k => by simp only [bureauref03_Splice.j0]; rfl) ?_
    exact Ev.pos (by simp) (Ev.now _)
  refine Ev.ite (fun hw => ?_) (fun _ => bad)
  refine Ev.bind (rgood_ev m hm) ?_
  by_cases hg : good m = true
  · rw [if_pos hg, hg]
    refine Ev.step (fun k => by simp only [bureauref03_Splice.j0]; rfl) ?_
    refine Ev.neg (by simp) ?_
    refine Ev.bind (rtotal_ev l hl) (Ev.bind (rtotal_ev m hm) ?_)
    obtain ⟨i, j, rfl, rfl, hij, hj, h4, hn, ht⟩ := within_facts hw
    obtain ⟨hnm, h4m, htm⟩ := good_facts hg
    rw [show wrap64 (wrap64 (tot l - wrap64 ((j : Int) - (i : Int))) + tot m) = tot l - ((j : Int) - (i : Int)) + tot m by unfold wrap64; omega]
    refine Ev.ite (fun _ => Ev.now _) (fun _ => ?_)
    refine Ev.bind (bytes_ev l hl (by omega)) (Ev.pos (by omega) (Ev.pos (by omega) ?_))
    refine Ev.bind (bytes_ev m hm (by omega)) (Ev.bind (joined_ev _ _ (by rw [List.length_take]; unfold big; omega) (by unfold big; omega)) ?_)
    refine Ev.pos (by omega) (Ev.pos (by omega) ?_)
    refine Ev.bind (joined_ev _ _ (by rw [List.length_append, List.length_take]; unfold big; omega) (by rw [List.length_drop]; unfold big; omega)) ?_
    exact Ev.bind (pack_ev _ (by simp only [List.length_append, List.length_take, List.length_drop]; omega)) (Ev.now _)
  · rw [if_neg hg, show good m = false by simpa using hg]
    exact bad
theorem spliceS_len (l : List S100) (a b : Int) (m : List S100) : (spliceS l a b m).1.length ≤ 20000 := by
  unfold spliceS
  split
  · rename_i hw
    split
    · rename_i hg
      split
      · simp
      · obtain ⟨i, j, rfl, rfl, hij, hj, h4, hn, _⟩ := within_facts hw
        obtain ⟨hnm, h4m, htm⟩ := good_facts hg
        have := pack_len ((bytes l).take (i : Int).toNat ++ bytes m ++ (bytes l).drop (j : Int).toNat)
        simp only [List.length_append, List.length_take, List.length_drop] at this
        show (pack _).length ≤ 20000
        omega
    · simp
  · simp

def catS (l m : List S100) : List S100 × Int := if good l = true then (if good m = true then spliceS l (tot l) (tot l) m else ([], 2)) else ([], 2)
theorem cat_ev (l m : List S100) (hl : l.length ≤ big) (hm : m.length ≤ big) : Ev (fun k => runs_Cat.f k l m) (catS l m) := by
  unfold runs_Cat.f catS
  refine Ev.bind (good_ev l hl) ?_
  have bad : Ev (fun k => runs_Cat.j0 k l m true) ([], 2) := by
    refine Ev.step (fun k => by simp only [runs_Cat.j0]; rfl) ?_
    exact Ev.pos (by simp) (Ev.now _)
  refine Ev.ite (fun hg => ?_) (fun _ => bad)
  refine Ev.bind (good_ev m hm) ?_
  by_cases hgm : good m = true
  · rw [if_pos hgm, hgm]
    refine Ev.step (fun k => by simp only [runs_Cat.j0]; rfl) ?_
    refine Ev.neg (by simp) ?_
    exact Ev.bind (total_ev l hl) (Ev.bind (total_ev l hl) (Ev.bind (splice_ev l hl _ _ m hm) (Ev.now _)))
  · rw [if_neg hgm, show good m = false by simpa using hgm]
    exact bad
theorem rcat_ev (l m : List S100) (hl : l.length ≤ big) (hm : m.length ≤ big) : Ev (fun k => bureauref03_Cat.f k l m) (catS l m) := by
  unfold bureauref03_Cat.f catS
  refine Ev.bind (rgood_ev l hl) ?_
  have bad : Ev (fun k => bureauref03_Cat.j0 k l m true) ([], 2) := by
    refine Ev.step (fun k => by simp only [bureauref03_Cat.j0]; rfl) ?_
    exact Ev.pos (by simp) (Ev.now _)
  refine Ev.ite (fun hg => ?_) (fun _ => bad)
  refine Ev.bind (rgood_ev m hm) ?_
  by_cases hgm : good m = true
  · rw [if_pos hgm, hgm]
    refine Ev.step (fun k => by simp only [bureauref03_Cat.j0]; rfl) ?_
    refine Ev.neg (by simp) ?_
    refine Ev.bind (rtotal_ev l hl) (Ev.bind (rtotal_ev m hm) ?_)
    obtain ⟨hn, h4, ht⟩ := good_facts hg
    obtain ⟨hnm, h4m, htm⟩ := good_facts hgm
    have hw : withinB l (tot l) (tot l) = true := withinB_iff.2 ⟨hg, by omega, by omega, by omega⟩
    unfold spliceS
    rw [if_pos hw, if_pos hgm, show wrap64 (tot l + tot m) = tot l + tot m by unfold wrap64; omega, show tot l - (tot l - tot l) + tot m = tot l + tot m by omega]
    refine Ev.ite (fun _ => Ev.now _) (fun _ => ?_)
    refine Ev.bind (bytes_ev l hl (by omega)) (Ev.bind (bytes_ev m hm (by omega)) (Ev.bind (joined_ev _ _ (by unfold big; omega) (by unfold big; omega)) ?_))
    refine Ev.bind (pack_ev _ (by rw [List.length_append]; omega)) (ev_val (Ev.now _) ?_)
    rw [List.take_of_length_le (by omega), List.drop_eq_nil_of_le (by omega), List.append_nil]
  · rw [if_neg hgm, show good m = false by simpa using hgm]
    exact bad
theorem catS_len (l m : List S100) : (catS l m).1.length ≤ 20000 := by
  unfold catS
  split
  · split
    · exact spliceS_len _ _ _ _
    · simp
  · simp

theorem RunsCats_pure (l m : List S100) (w : l.length * 16 ≤ 140737488351232 ∧ ∀ x_ ∈ l, wf100 x_) (wm : m.length * 16 ≤ 140737488351232 ∧ ∀ x_ ∈ m, wf100 x_) : ∃ k, bureaulaw03_RunsCats.f k l m = some true := by
  refine Ev.rounds (g := fun k => bureaulaw03_RunsCats.f k l m) ?_
  unfold bureaulaw03_RunsCats.f
  refine Ev.bind alive3_ev (Ev.pos rfl ?_)
  have out : Ev (fun k => bureaulaw03_RunsCats.j0 k l m true) true := by
    refine Ev.step (fun k => by simp only [bureaulaw03_RunsCats.j0]; rfl) ?_
    exact Ev.pos (by simp) (Ev.now _)
  by_cases h5 : (l.length : Int) > 5000
  · exact Ev.pos h5 out
  · refine Ev.neg h5 ?_
    by_cases h6 : (m.length : Int) > 5000
    · rw [show decide ((m.length : Int) > 5000) = true by simpa using h6]
      exact out
    · rw [show decide ((m.length : Int) > 5000) = false by simpa using h6]
      have hl : l.length ≤ big := by unfold big; omega
      have hm : m.length ≤ big := by unfold big; omega
      refine Ev.step (fun k => by simp only [bureaulaw03_RunsCats.j0]; rfl) ?_
      refine Ev.neg (by simp) ?_
      refine Ev.bind (cat_ev l m hl hm) (Ev.bind (rcat_ev l m hl hm) (Ev.bind (same_ev _ _ ?_) (Ev.pos (by simp) (ev_val (Ev.now _) (by simp)))))
      have := catS_len l m; unfold big; omega

theorem good_pack {b : List Int} (h : b.length ≤ 4096) : good (pack b) = true ∧ tot (pack b) = b.length := by
  have hn := pack_nrm b
  have ht : tot (pack b) = b.length := by
    rw [tot_of_bytes (nrm_nonneg hn) (by rw [pack_bytes]; exact h), pack_bytes]
  exact ⟨by unfold good; rw [Bool.and_eq_true, decide_eq_true_iff, decide_eq_true_iff]; exact ⟨hn, by omega⟩, ht⟩

theorem cat_pack (X Y : List Int) (h : X.length + Y.length ≤ 4096) : catS (pack X) (pack Y) = (pack (X ++ Y), 0) := by
  obtain ⟨g1, t1⟩ := good_pack (show X.length ≤ 4096 by omega)
  obtain ⟨g2, t2⟩ := good_pack (show Y.length ≤ 4096 by omega)
  have hw : withinB (pack X) (tot (pack X)) (tot (pack X)) = true := withinB_iff.2 ⟨g1, by omega, by omega, by omega⟩
  unfold catS
  rw [if_pos g1, if_pos g2]
  unfold spliceS
  rw [if_pos hw, if_pos g2, if_neg (by omega), t1, Int.toNat_natCast, pack_bytes, pack_bytes, List.take_length, List.drop_length, List.append_nil]

theorem RunsParts_pure (l : List S100) (a : Int) (w : l.length * 16 ≤ 140737488351232 ∧ ∀ x_ ∈ l, wf100 x_) (wa : (Lit.int .i64 a).wf = true) : ∃ k, bureaulaw03_RunsParts.f k l a = some true := by
  refine Ev.rounds (g := fun k => bureaulaw03_RunsParts.f k l a) ?_
  unfold bureaulaw03_RunsParts.f
  refine Ev.bind alive3_ev (Ev.pos rfl ?_)
  by_cases h5 : (l.length : Int) > 5000
  · exact Ev.pos h5 (Ev.now _)
  refine Ev.neg h5 ?_
  have hl : l.length ≤ big := by unfold big; omega
  refine Ev.bind (slice_ev l hl 0 a) (Ev.bind (total_ev l hl) (Ev.bind (slice_ev l hl a (tot l)) ?_))
  by_cases hok : good l = true ∧ 0 ≤ a ∧ a ≤ tot l
  · obtain ⟨hg, h0, h1⟩ := hok
    obtain ⟨hn, h4, ht⟩ := good_facts hg
    have hw1 : withinB l 0 a = true := withinB_iff.2 ⟨hg, by omega, h0, h1⟩
    have hw2 : withinB l a (tot l) = true := withinB_iff.2 ⟨hg, h0, h1, by omega⟩
    obtain ⟨i, rfl⟩ := Int.eq_ofNat_of_zero_le h0
    have e1 : sliceS l 0 (i : Int) = (pack ((bytes l).take i), 0) := by
      unfold sliceS
      rw [if_pos hw1]
      rfl
    have e2 : sliceS l (i : Int) (tot l) = (pack ((bytes l).drop i), 0) := by
      unfold sliceS
      rw [if_pos hw2, List.take_of_length_le (by omega)]
      rfl
    rw [e1, e2]
    refine Ev.pos rfl ?_
    refine Ev.step (fun k => by simp only [bureaulaw03_RunsParts.j0]; rfl) ?_
    refine Ev.neg (by simp) ?_
    have hlt : ((bytes l).take i).length ≤ 4096 := by rw [List.length_take]; omega
    have hld : ((bytes l).drop i).length ≤ 4096 := by rw [List.length_drop]; omega
    obtain ⟨g1, t1⟩ := good_pack hlt
    obtain ⟨g2, t2⟩ := good_pack hld
    have hp1 := pack_len ((bytes l).take i)
    have hp2 := pack_len ((bytes l).drop i)
    refine Ev.bind (cat_ev _ _ (by unfold big; omega) (by unfold big; omega)) ?_
    have hcat : catS (pack ((bytes l).take i)) (pack ((bytes l).drop i)) = (l, 0) := by
      rw [cat_pack _ _ (by rw [List.length_take, List.length_drop]; omega), List.take_append_drop, pack_of_nrm hn]
    rw [hcat]
    refine Ev.pos rfl (Ev.bind (same_ev _ _ hl) (Ev.pos (by simp) (Ev.bind (total_ev _ (by unfold big; omega)) (ev_val (Ev.now _) ?_))))
    rw [t1, List.length_take, beq_iff_eq]
    omega
  · -- one of the two is refused
    have href : (sliceS l 0 a).2 ≠ 0 ∨ (sliceS l a (tot l)).2 ≠ 0 := by
      left
      unfold sliceS
      rw [if_neg (fun h => hok (by obtain ⟨h1, h2, h3, h4⟩ := withinB_iff.1 h; exact ⟨h1, h3, h4⟩))]
      decide
    have out : Ev (fun k => bureaulaw03_RunsParts.j0 k l a (sliceS l 0 a).1 (sliceS l a (tot l)).1 true) true := by
      refine Ev.step (fun k => by simp only [bureaulaw03_RunsParts.j0]; rfl) ?_
      refine Ev.pos (by simp) (Ev.bind (good_ev l hl) ?_)
      by_cases hg : good l = true
      · refine Ev.pos hg ?_
        by_cases h0 : a < 0
        · exact Ev.pos h0 (Ev.now _)
        · refine Ev.neg h0 (Ev.bind (total_ev l hl) (ev_val (Ev.now _) ?_))
          simp
          exact Int.not_le.1 (fun h => hok ⟨hg, by omega, h⟩)
      · exact Ev.neg hg (Ev.now _)
    by_cases he : (sliceS l 0 a).2 = 0
    · refine Ev.pos he ?_
      rw [show ((sliceS l a (tot l)).2 != 0) = true by rcases href with h | h; exact absurd he h; simpa using h]
      exact out
    · exact Ev.neg he out
end Go.Proofs.Ythpjagblnddjaaa.PAll
