/- The gathered lists are the packed bytes: Normal, Slice, Splice, Cat of runs and of bureauref03 come to the same. -/
import Derived.Test.YthpjagblnddjaaaPuRuns
import Derived.Test.YthpjagblnddjaaaPAllx20
import Derived.Test.YthpjagblnddjaaaOpnS
namespace Go.Proofs.Ythpjagblnddjaaa.PAll
open Go.RowKit Go.Proofs.YthpjagblnddjaaaW.PrintWords
set_option linter.unusedVariables false

theorem capped_nil : capped 0 [] := fun r hr => by cases hr
theorem gather0 (a b : Nat) (l : List S100) (h0 : ∀ r ∈ l, 0 ≤ r.f1) (hl : (bytes l).length ≤ 500000) (ha : a ≤ 500000) (hb : b ≤ 500000) :
    someTo addRun (a : Int) (b : Int) l 0 [] = pack (((bytes l).take b).drop a) := by
  have := someTo_pack a b l 0 [] 0 h0 capped_nil (by omega) (by omega) (by omega) (by omega) (by omega)
  simpa [pack] using this

theorem gather_all (l : List S100) (h0 : ∀ r ∈ l, 0 ≤ r.f1) (hl : (bytes l).length ≤ 4096) : someTo addRun 0 4096 l 0 [] = pack (bytes l) := by
  have := gather0 0 4096 l h0 (by omega) (by omega) (by omega)
  rw [List.take_of_length_le (by omega), List.drop_zero] at this
  exact this
theorem getD_app_l {a b : List Int} {i : Nat} (h : i < a.length) : (a ++ b).getD i 0 = a.getD i 0 := by
  rw [List.getD_eq_getElem?_getD, List.getD_eq_getElem?_getD, List.getElem?_append_left h]
theorem getD_app_r {a b : List Int} {i : Nat} (h : a.length ≤ i) : (a ++ b).getD i 0 = b.getD (i - a.length) 0 := by
  rw [List.getD_eq_getElem?_getD, List.getD_eq_getElem?_getD, List.getElem?_append_right h]
theorem getD_rep {n i : Nat} (x : Int) (h : i < n) : (List.replicate n x).getD i 0 = x := by
  rw [List.getD_eq_getElem?_getD, List.getElem?_replicate, if_pos h]; rfl

def normalS (l : List S100) : List S100 × Int :=
  if (∃ j : Nat, j < l.length ∧ (rd_T100 l (j : Int)).f1 < 0) then ([], 2) else if tot l > 4096 then ([], 3) else (pack (bytes l), 0)
theorem notneg {l : List S100} (h : ¬ ∃ j : Nat, j < l.length ∧ (rd_T100 l (j : Int)).f1 < 0) : ∀ r ∈ l, 0 ≤ r.f1 := fun r hr => by
  obtain ⟨j, hj, rfl⟩ := List.mem_iff_getElem.1 hr
  have hh : ¬ (rd_T100 l (j : Int)).f1 < 0 := fun hn => h ⟨j, hj, hn⟩
  rw [rdT, List.getD_eq_getElem?_getD, List.getElem?_eq_getElem hj] at hh
  simp at hh
  exact hh

theorem normal_ev (l : List S100) (hl : l.length ≤ big) : Ev (fun k => runs_Normal.f k l) (normalS l) := by
  unfold runs_Normal.f normalS
  refine Ev.ite (fun _ => Ev.now _) (fun hn => ?_)
  refine Ev.bind (total_ev l hl) ?_
  refine Ev.ite (fun _ => Ev.now _) (fun ht => ?_)
  unfold big at hl
  refine Ev.pos (by omega) (ev_val (Ev.now _) ?_)
  have hb := tot_bytes (l := l) (by omega)
  rw [gather_all l (notneg hn) (by omega)]

theorem rnormal_ev (l : List S100) (hl : l.length ≤ big) : Ev (fun k => bureauref03_Normal.f k l) (normalS l) := by
  have ht := rtotal_ev l hl
  have hbv := fun h => bytes_ev l hl h
  unfold big at hl
  have loop : ∀ (d i : Nat), i + d = l.length → (∀ j : Nat, j < i → ¬ (rd_T100 l (j : Int)).f1 < 0) → Ev (fun k => bureauref03_Normal.l0 k l (i : Int)) (normalS l) := by
    intro d
    induction d with
    | zero =>
      intro i hi hn
      refine Ev.step (fun k => by simp only [bureauref03_Normal.l0]; rfl) ?_
      refine Ev.neg (by omega) ?_
      unfold normalS
      rw [if_neg (fun ⟨j, hj, hh⟩ => hn j (by omega) hh)]
      refine Ev.bind ht ?_
      refine Ev.ite (fun _ => Ev.now _) (fun h4 => ?_)
      have hb := tot_bytes (l := l) (by omega)
      exact Ev.bind (hbv (by omega)) (Ev.bind (pack_ev _ (by omega)) (Ev.now _))
    | succ d ih =>
      intro i hi hn
      have hlt : i < l.length := by omega
      refine Ev.step (fun k => by simp only [bureauref03_Normal.l0]; rfl) ?_
      refine Ev.pos (by omega) (Ev.pos (by omega) ?_)
      by_cases hc : (rd_T100 l (i : Int)).f1 < 0
      · refine Ev.pos hc (ev_val (Ev.now _) ?_)
        unfold normalS
        rw [if_pos ⟨i, hlt, hc⟩]
      · refine Ev.neg hc ?_
        rw [w1 hlt (by omega)]
        refine ih (i + 1) (by omega) (fun j hj => ?_)
        rcases Nat.lt_or_ge j i with h | h
        · exact hn j h
        · obtain rfl : j = i := by omega
          exact hc
  exact loop l.length 0 (by omega) (by intro j hj; omega)

/-! ### At -/
def atS (l : List S100) (a : Int) : Int × Bool := if good l = true ∧ 0 ≤ a ∧ a < tot l then ((bytes l).getD a.toNat 0, true) else (0, false)
theorem good_nrm {l : List S100} (h : good l = true) : nrm l ∧ tot l ≤ 4096 := by
  unfold good at h
  simpa using h
theorem nrm_nonneg {l : List S100} (h : nrm l) : ∀ r ∈ l, 0 ≤ r.f1 := fun r hr => by have := nrm_pos h r hr; omega

theorem at_ev (l : List S100) (hl : l.length ≤ big) (a : Int) (ha : a ≤ 9223372036854775807) : Ev (fun k => runs_At.f k l a) (atS l a) := by
  unfold runs_At.f
  refine Ev.bind (good_ev l hl) ?_
  unfold big at hl
  have out : ∀ (h : ¬ (good l = true ∧ 0 ≤ a ∧ a < tot l)), atS l a = (0, false) := fun h => by unfold atS; rw [if_neg h]
  by_cases hg : good l = true
  · refine Ev.pos hg ?_
    refine Ev.step (fun k => by simp only [runs_At.j0]; rfl) ?_
    by_cases h0 : a < 0
    · exact Ev.pos (by simpa using h0) (ev_val (Ev.now _) (out (fun h => by omega)).symm)
    · refine Ev.neg (by simpa using h0) ?_
      obtain ⟨hn, ht⟩ := good_nrm hg
      have hb := tot_bytes ht
      have loop : ∀ (d i : Nat) (b : Nat), i + d = l.length → (b ≤ (bytes (l.drop i)).length ∨ True) → b ≤ 9223372036854775807 → Ev (fun k => runs_At.l0 k (b : Int) l (l.length : Int) (i : Int)) (if b < (bytes (l.drop i)).length then ((bytes (l.drop i)).getD b 0, true) else (0, false)) := by
        intro d
        induction d with
        | zero =>
          intro i b hi _ _
          refine Ev.step (fun k => by simp only [runs_At.l0]; rfl) ?_
          refine Ev.neg (by omega) (ev_val (Ev.now _) ?_)
          rw [List.drop_eq_nil_of_le (by omega), if_neg (by simp [bytes])]
        | succ d ih =>
          intro i b hi _ hbm
          have hlt : i < l.length := by omega
          have hr := nrm_pos hn (l.getD i z100) (by rw [List.getD_eq_getElem?_getD, List.getElem?_eq_getElem hlt]; exact List.getElem_mem hlt)
          refine Ev.step (fun k => by simp only [runs_At.l0]; rfl) ?_
          refine Ev.pos (by omega) (Ev.pos (by omega) (Ev.pos (by omega) ?_))
          rw [rdT, w1 hlt (by omega), dropT hlt, bytes_cons]
          obtain ⟨n, hnn⟩ : ∃ n : Nat, (l.getD i z100).f1 = (n : Int) := ⟨(l.getD i z100).f1.toNat, by omega⟩
          rw [hnn, Int.toNat_natCast]
          by_cases hc : b < n
          · refine Ev.pos (by omega) (ev_val (Ev.now _) ?_)
            rw [if_pos (by rw [List.length_append, List.length_replicate]; omega), getD_app_l (by rw [List.length_replicate]; exact hc), getD_rep _ hc]
          · refine Ev.neg (by omega) ?_
            rw [show wrap64 ((b : Int) - (n : Int)) = ((b - n : Nat) : Int) by unfold wrap64; omega]
            refine ev_val (ih (i + 1) (b - n) (by omega) (.inr trivial) (by omega)) ?_
            rw [List.length_append, List.length_replicate]
            by_cases h2 : b - n < (bytes (l.drop (i + 1))).length
            · rw [if_pos h2, if_pos (by omega), getD_app_r (by rw [List.length_replicate]; omega), List.length_replicate]
            · rw [if_neg h2, if_neg (by omega)]
      obtain ⟨b, rfl⟩ := Int.eq_ofNat_of_zero_le (show 0 ≤ a by omega)
      refine ev_val (loop l.length 0 b (by omega) (.inr trivial) (by omega)) ?_
      rw [List.drop_zero]
      unfold atS
      by_cases hc : b < (bytes l).length
      · rw [if_pos hc, if_pos ⟨hg, by omega, by omega⟩, Int.toNat_natCast]
      · rw [if_neg hc, if_neg (fun h => by omega)]
  · refine Ev.neg hg ?_
    refine Ev.step (fun k => by simp only [runs_At.j0]; rfl) ?_
    exact Ev.pos (by simp) (ev_val (Ev.now _) (out (fun h => hg h.1)).symm)

theorem step1_len (acc : List S100) (x : Int) : (step1 acc x).length ≤ acc.length + 1 := by
  unfold step1
  split
  · simp
  · simp
theorem packTo_len (b : List Int) : ∀ acc : List S100, (packTo acc b).length ≤ acc.length + b.length := by
  induction b with
  | nil => intro acc; simp [packTo]
  | cons x b ih => intro acc; have h1 := ih (step1 acc x); have h2 := step1_len acc x; show (packTo (step1 acc x) b).length ≤ _; rw [List.length_cons]; omega
theorem pack_len (b : List Int) : (pack b).length ≤ b.length := by have := packTo_len b []; simpa [pack] using this
theorem normalS_len (l : List S100) : (normalS l).1.length ≤ 4096 := by
  unfold normalS
  split
  · simp
  · split
    · simp
    · have := pack_len (bytes l); have := tot_bytes (l := l) (by omega); show (pack (bytes l)).length ≤ 4096; omega

theorem alive3 : bureaulaw03_alive.f 60 = some true := by decide +kernel
theorem alive3_ev : Ev (fun k => bureaulaw03_alive.f k) true := Ev.of (bureaulaw03_alive.mono) alive3

theorem RunsNormals_pure (l : List S100) (w : l.length * 16 ≤ 140737488351232 ∧ ∀ x_ ∈ l, wf100 x_) : ∃ k, bureaulaw03_RunsNormals.f k l = some true := by
  refine Ev.rounds (g := fun k => bureaulaw03_RunsNormals.f k l) ?_
  unfold bureaulaw03_RunsNormals.f
  refine Ev.bind alive3_ev (Ev.pos rfl ?_)
  by_cases h5 : (l.length : Int) > 5000
  · exact Ev.pos h5 (Ev.now _)
  · refine Ev.neg h5 ?_
    have hl : l.length ≤ big := by unfold big; omega
    refine Ev.bind (normal_ev l hl) (Ev.bind (rnormal_ev l hl) (Ev.bind (same_ev _ _ ?_) (Ev.pos (by simp) (Ev.pos rfl ?_))))
    · have := normalS_len l; unfold big; omega
    · refine Ev.bind (good_ev l hl) (Ev.bind (rgood_ev l hl) (Ev.pos (by simp) (Ev.bind (total_ev l hl) (Ev.bind (rtotal_ev l hl) ?_))))
      exact ev_val (Ev.now _) (by simp)
end Go.Proofs.Ythpjagblnddjaaa.PAll
