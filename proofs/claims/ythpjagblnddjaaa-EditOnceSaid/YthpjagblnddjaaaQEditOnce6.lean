/- The row of a law out of its contract and its pure theorem. No condition. -/
import Derived.OpenShut
import Derived.ChangeArms
import Derived.Deep.Slices
import Derived.SizedLaws
import Derived.Test.YthpjagblnddjaaaRows
import Derived.ProofKit
import Derived.OpenShut
import Derived.ShutString
import Derived.ChangeOld
import Derived.SizedLaws
import Derived.Carry
import Derived.Test.YthpjagblnddjaaaQEditOnce5
section
namespace Go.Proofs.Ythpjagblnddjaaa.PB
open Go.RowKit Go.Proofs.YthpjagblnddjaaaW.PrintWords
set_option linter.unusedVariables false
instance : DecidableEq S100 := fun a b => decidable_of_iff (a.f0 = b.f0 ∧ a.f1 = b.f1) (by cases a; cases b; simp)
theorem rdT (l : List S100) (i : Nat) : rd_T100 l (i : Int) = l.getD i z100 := by unfold rd_T100; rw [Int.toNat_natCast]
theorem dropT {l : List S100} {i : Nat} (h : i < l.length) : l.drop i = l.getD i z100 :: l.drop (i + 1) := by
  rw [List.drop_eq_getElem_cons h, List.getD_eq_getElem?_getD, List.getElem?_eq_getElem h]; rfl
theorem w1 {i n : Nat} (h : i < n) (hn : n ≤ 1000000000000000) : wrap64 ((i : Int) + 1) = ((i + 1 : Nat) : Int) := by unfold wrap64; omega
abbrev big : Nat := 1000000000000
theorem total_ev (l : List S100) (hl : l.length ≤ big) : Ev (fun k => runs_Total.f k l) (tot l) := by
  unfold big at hl
  have loop : ∀ (d i : Nat) (n : Int), i + d = l.length → 0 ≤ n → n ≤ 4096 → Ev (fun k => runs_Total.l0 k n l (l.length : Int) (i : Int)) (totF (l.drop i) n) := by
    intro d
    induction d with
    | zero =>
      intro i n hi h0 h1
      refine Ev.step (fun k => by simp only [runs_Total.l0]; rfl) ?_
      refine Ev.neg (by omega) ?_
      rw [List.drop_eq_nil_of_le (by omega)]
      exact Ev.now _
    | succ d ih =>
      intro i n hi h0 h1
      have hlt : i < l.length := by omega
      refine Ev.step (fun k => by simp only [runs_Total.l0]; rfl) ?_
      refine Ev.pos (by omega) (Ev.pos (by omega) (Ev.pos (by omega) ?_))
      rw [dropT hlt, rdT]
      simp only [totF]
      rw [show wrap64 (4096 - n) = 4096 - n by unfold wrap64; omega]
      refine Ev.ite (fun _ => Ev.now _) (fun hc => ?_)
      have hm : wrap64 (n + mx (l.getD i z100).f1 0) = n + (if (l.getD i z100).f1 < 0 then 0 else (l.getD i z100).f1) := by
        unfold mx wrap64
        split <;> omega
      rw [hm, w1 hlt (by omega)]
      exact ih (i + 1) _ (by omega) (by split <;> omega) (by split <;> omega)
  exact loop l.length 0 0 (by omega) (by omega) (by omega)
theorem same_ev (a b : List S100) (hl : a.length ≤ big) : Ev (fun k => bureauref03_Same.f k a b) (decide (a = b)) := by
  unfold big at hl
  unfold bureauref03_Same.f
  by_cases hab : a.length = b.length
  · refine Ev.pos (by omega) ?_
    have loop : ∀ (d i : Nat), i + d = a.length → Ev (fun k => bureauref03_Same.l0 k a b (i : Int)) (decide (a.drop i = b.drop i)) := by
      intro d
      induction d with
      | zero =>
        intro i hi
        refine Ev.step (fun k => by simp only [bureauref03_Same.l0]; rfl) ?_
        refine Ev.neg (by omega) ?_
        rw [List.drop_eq_nil_of_le (by omega), List.drop_eq_nil_of_le (by omega)]
        exact Ev.now _
      | succ d ih =>
        intro i hi
        have hlt : i < a.length := by omega
        refine Ev.step (fun k => by simp only [bureauref03_Same.l0]; rfl) ?_
        refine Ev.pos (by omega) (Ev.pos (by omega) (Ev.pos (by omega) ?_))
        rw [dropT hlt, dropT (show i < b.length by omega), rdT, rdT, w1 hlt (by omega)]
        by_cases he : a.getD i z100 = b.getD i z100
        · rw [he]
          refine Ev.neg (by simp) ?_
          exact ev_val (ih (i + 1) (by omega)) (by simp)
        · refine Ev.pos ?_ ?_
          · have : ¬ ((a.getD i z100).f0 = (b.getD i z100).f0 ∧ (a.getD i z100).f1 = (b.getD i z100).f1) := fun h => he (by
              cases hx : a.getD i z100; cases hy : b.getD i z100; rw [hx, hy] at h; simp at h; rw [h.1, h.2])
            simp only [Bool.or_eq_true, Bool.not_eq_true', beq_eq_false_iff_ne]
            by_cases h1 : (a.getD i z100).f0 = (b.getD i z100).f0
            · exact .inr (fun h2 => this ⟨h1, h2⟩)
            · exact .inl h1
          · exact ev_val (Ev.now _) (by simp; intro h; exact absurd h he)
    exact loop a.length 0 (by omega)
  · refine Ev.neg (by omega) ?_
    exact ev_val (Ev.now _) (by simp; intro h; exact hab (by rw [h]))
theorem good_ev (l : List S100) (hl : l.length ≤ big) : Ev (fun k => runs_Good.f k l) (good l) := by
  have ht := total_ev l hl
  unfold big at hl
  have loop : ∀ (d i : Nat), i + d = l.length → ∀ b : Bool, (b = true ↔ ((0 < i → i < l.length → (l.getD (i - 1) z100).f0 ≠ (l.getD i z100).f0) ∧ nrm (l.drop i) ∧ tot l ≤ 4096)) → Ev (fun k => runs_Good.l0 k l l (l.length : Int) (i : Int)) b := by
    intro d
    induction d with
    | zero =>
      intro i hi b hb
      refine Ev.step (fun k => by simp only [runs_Good.l0]; rfl) ?_
      refine Ev.neg (by omega) ?_
      rw [List.drop_eq_nil_of_le (by omega)] at hb
      refine Ev.bind ht (ev_val (Ev.now _) ?_)
      rw [Bool.eq_iff_iff, hb, decide_eq_true_iff]
      exact ⟨fun h => ⟨fun _ h2 => absurd h2 (by omega), trivial, h⟩, fun h => h.2.2⟩
    | succ d ih =>
      intro i hi b hb
      have hlt : i < l.length := by omega
      have hn : nrm (l.drop i) ↔ 1 ≤ (l.getD i z100).f1 ∧ (i + 1 < l.length → (l.getD i z100).f0 ≠ (l.getD (i + 1) z100).f0) ∧ nrm (l.drop (i + 1)) := by
        rw [dropT hlt]
        by_cases h2 : i + 1 < l.length
        · rw [dropT h2]
          exact ⟨fun h => ⟨h.1, fun _ => h.2.1, h.2.2⟩, fun h => ⟨h.1, h.2.1 h2, h.2.2⟩⟩
        · rw [List.drop_eq_nil_of_le (show l.length ≤ i + 1 by omega)]
          exact ⟨fun h => ⟨h, fun h3 => absurd h3 h2, trivial⟩, fun h => h.1⟩
      refine Ev.step (fun k => by simp only [runs_Good.l0]; rfl) ?_
      refine Ev.pos (by omega) (Ev.pos (by omega) (Ev.pos (by omega) ?_))
      rw [rdT, w1 hlt (by omega)]
      by_cases h1 : (l.getD i z100).f1 < 1
      · refine Ev.pos h1 (ev_val (Ev.now _) ?_)
        rw [Bool.eq_iff_iff, hb, hn]
        exact ⟨fun h => (by cases h), fun h => (by have := h.2.1.1; omega)⟩
      · refine Ev.neg h1 ?_
        have hrest : ∀ b' : Bool, (b' = true ↔ (nrm (l.drop i) ∧ tot l ≤ 4096)) → Ev (fun k => runs_Good.l0 k l l (l.length : Int) ((i + 1 : Nat) : Int)) b' := fun b' hb' => ih (i + 1) (by omega) b' (by
          rw [hb', hn, show i + 1 - 1 = i by omega]
          exact ⟨fun h => ⟨fun _ => h.1.2.1, h.1.2.2, h.2⟩, fun h => ⟨⟨by omega, h.1 (by omega), h.2.1⟩, h.2.2⟩⟩)
        by_cases h0 : 0 < i
        · refine Ev.pos (by omega) ?_
          rw [show wrap64 ((i : Int) - 1) = ((i - 1 : Nat) : Int) by unfold wrap64; omega]
          refine Ev.pos (by omega) (Ev.pos (by omega) ?_)
          rw [rdT]
          by_cases he : (l.getD (i - 1) z100).f0 = (l.getD i z100).f0
          · refine Ev.pos he (ev_val (Ev.now _) ?_)
            rw [Bool.eq_iff_iff, hb]
            exact ⟨fun h => (by cases h), fun h => absurd he (h.1 h0 hlt)⟩
          · refine Ev.neg he (hrest b ?_)
            rw [hb]
            exact ⟨fun h => h.2, fun h => ⟨fun _ _ => he, h⟩⟩
        · refine Ev.neg (by omega) (hrest b ?_)
          rw [hb]
          exact ⟨fun h => h.2, fun h => ⟨fun h3 => absurd h3 h0, h⟩⟩
  refine loop l.length 0 (by omega) (good l) ?_
  simp [good]
end Go.Proofs.Ythpjagblnddjaaa.PB
end

section
namespace Go.Proofs.Ythpjagblnddjaaa.Opn
open Go.ChangeShapes Go.WideShapes Go.Deep Go.Proofs.YthpjagblnddjaaaW.PrintWords
set_option linter.unusedVariables false
def Opn {α : Type} (P : Program) (w : World) (t : TypeId) (d : Kd α) (wf : α → Prop) : Prop :=
  ∀ (H : Type) (enc : TypeId × Value → H) (base : Nat) (spare : Nat → Bool) (held : Bool) (fuel : Nat) (cs : List Value) (x : DataW H × List MemPlace),
    DataW.trod enc P w base spare held fuel t cs = some x → (∀ n ∈ x.1.weights P t, n ≤ reachBytes) → ∃ a : α, d.K w a cs ∧ wf a
section
variable {P : Program} {w : World}
theorem int {t : TypeId} {k : IntKind} (hu : P.underlying t = some (.int k)) : Opn P w t (Kd.int k) (fun n => (Lit.int k n).wf = true) := by
  intro H enc base spare held fuel cs x h _
  obtain ⟨n, rfl, _, hw⟩ := DataW.trod_int hu h
  exact ⟨n, rfl, hw⟩
theorem bool {t : TypeId} (hu : P.underlying t = some .bool) : Opn P w t Kd.bool (fun _ => True) := by
  intro H enc base spare held fuel cs x h _
  obtain ⟨b, rfl, _⟩ := DataW.trod_bool hu h
  exact ⟨b, rfl, trivial⟩
theorem string {t : TypeId} (hu : P.underlying t = some .string) : Opn P w t Kd.string (fun s => s.size ≤ 140737488351232) := by
  intro H enc base spare held fuel cs x h hz
  obtain ⟨s, rfl, rfl, _⟩ := DataW.trod_string hu h
  refine ⟨s, rfl, ?_⟩
  have := hz s.data.toList.length (by simp [DataW.weights])
  rw [data_length] at this
  exact this
theorem weightsAll_mem {H : Type} {e : TypeId} : ∀ {ds : List (DataW H)} {d : DataW H}, d ∈ ds → ∀ n ∈ d.weights P e, n ∈ DataW.weightsAll P e ds
  | d0 :: ds, d, hd, n, hn => by
    simp only [DataW.weightsAll, List.mem_append]
    rcases List.mem_cons.1 hd with rfl | hd
    · exact .inl hn
    · exact .inr (weightsAll_mem hd n hn)
theorem slice {α : Type} {t e : TypeId} {d : Kd α} {wf : α → Prop} (hu : P.underlying t = some (.slice e)) (hc : P.cellsOf e = d.sz) {B : Nat} (hB : P.bytesOf e = B) (ho : Opn P w e d wf) :
    Opn P w t (Kd.slice e d) (fun xs => xs.length * B ≤ 140737488351232 ∧ ∀ x ∈ xs, wf x) := by
  intro H enc base spare held fuel cs x h hz
  rcases open_slice hu h with ⟨rfl, rfl⟩ | ⟨a, len, cap, m, n, D, Pl, rfl, hb, hl, hm, hmm, rfl, hel⟩
  · exact ⟨[], ⟨none, 0, rfl, Nat.le_refl _, Kd.C_nil _ _⟩, by simp, by intro x hx; cases hx⟩
  · simp only [DataW.weights, hu, List.mem_cons, List.mem_append] at hz
    have hlm : len ≤ m := by rw [hmm]; split <;> omega
    have hall : ∀ i, i < len → ∃ a' : α, (∃ cs', w.cells? base (a.add (i * P.cellsOf e)) (P.cellsOf e) = some cs' ∧ d.K w a' cs') ∧ wf a' := fun i hi => by
      obtain ⟨cs', h1, h2⟩ := hel i (by omega)
      obtain ⟨a', h3, h4⟩ := ho H enc base spare held n cs' _ h2 (fun q hq => hz q (.inr (.inl (weightsAll_mem (List.mem_map.2 ⟨i, List.mem_range.2 hi, rfl⟩) q hq))))
      exact ⟨a', ⟨cs', h1, h3⟩, h4⟩
    obtain ⟨xs, hxs, hx⟩ : ∃ xs : List α, xs.length = len ∧ ∀ i, ∀ h : i < xs.length, (∃ cs', w.cells? base (a.add (i * P.cellsOf e)) (P.cellsOf e) = some cs' ∧ d.K w xs[i] cs') ∧ wf xs[i] := by
      clear hz hel hlm hmm hm hl h
      induction len with
      | zero => exact ⟨[], rfl, fun i h => absurd h (by simp)⟩
      | succ q ih =>
        obtain ⟨xs, h1, h2⟩ := ih (fun i hi => hall i (by omega))
        obtain ⟨a', h3⟩ := hall q (by omega)
        refine ⟨xs ++ [a'], by simp [h1], fun i h => ?_⟩
        by_cases hi : i < xs.length
        · rw [List.getElem_append_left hi]; exact h2 i hi
        · have : i = q := by simp at h; omega
          subst this
          rw [List.getElem_append_right (by omega)]
          simpa using h3
    refine ⟨xs, ⟨some a, cap, by rw [hxs], by omega, rfl, by have : cap ≤ 9223372036854775807 := hm; omega, fun hp => ⟨a, rfl, fun i p hp => ?_⟩⟩, ?_, ?_⟩
    · have hi : i < xs.length := (List.getElem?_eq_some_iff.1 hp).1
      have hpe : p = xs[i] := by rw [List.getElem?_eq_getElem hi] at hp; exact (Option.some.inj hp).symm
      obtain ⟨⟨cs', h1, h2⟩, _⟩ := hx i hi
      rw [hc] at h1
      obtain ⟨_, hcl, hat⟩ := World.cells?_some h1
      refine ⟨cs', by rw [hcl], by rw [hpe]; exact h2, fun j u hu => ?_⟩
      have hj : j < d.sz := by have := (List.getElem?_eq_some_iff.1 hu).1; omega
      have := hat j hj
      rw [← Go.Deep.add_add, this, hu]
    · have := hz _ (.inl rfl)
      rw [hB] at this
      simp only [List.length_map, List.length_range] at this
      rw [hxs]
      exact Nat.le_trans (Nat.mul_le_mul_right _ (by omega)) this
    · intro x hxm
      obtain ⟨i, hi, rfl⟩ := List.mem_iff_getElem.1 hxm
      exact (hx i hi).2
end
end Go.Proofs.Ythpjagblnddjaaa.Opn
end

section
namespace Go.Proofs.Ythpjagblnddjaaa.PB
open Go.ChangeShapes Go.WideShapes Go.Proofs.Ythpjagblnddjaaa Go.Proofs.YthpjagblnddjaaaW.PrintWords
set_option linter.unusedVariables false
def wf100 (x : S100) : Prop := ((Lit.int .u64 x.f0).wf = true) ∧ ((Lit.int .i64 x.f1).wf = true)
theorem opn100 {w : World} : Opn.Opn Try.prog w 100 k100 wf100 := by
  intro H enc base spare held fuel cs x h hz
  obtain ⟨xs, n, _, rfl, hlen, hyl, hf⟩ := DataW.trod_struct Try.underlying100 h
  have hcl : cs.length = 2 := hlen.trans (by kernel_rfl)
  obtain ⟨y0, y1, rfl⟩ : ∃ y0 y1, xs = [y0, y1] := by
    clear h hz hf hlen hcl; have hyl' : xs.length = 2 := hyl; clear hyl
    match xs, hyl' with | [y0, y1], _ => exact ⟨y0, y1, rfl⟩
  obtain ⟨c0, c1, rfl⟩ : ∃ c0 c1, cs = [c0, c1] := by
    clear h hz hf hlen hyl
    match cs, hcl with | [c0, c1], _ => exact ⟨c0, c1, rfl⟩
  simp only [DataW.weights, Try.underlying100] at hz
  have h0 : DataW.trod enc Try.prog w base spare held n 36 [c0] = some y0 := by have z := hf 0 _ rfl; rwa [show Try.prog.cellsOf _ = 1 from by kernel_rfl] at z
  obtain ⟨a0, k0_, w0⟩ := (Opn.int Try.underlying36) H enc base spare held n _ _ h0 (fun q hq => hz q (by simp [DataW.weightsEach, hq]))
  have h1 : DataW.trod enc Try.prog w base spare held n 3 [c1] = some y1 := by have z := hf 1 _ rfl; rwa [show Try.prog.cellsOf _ = 1 from by kernel_rfl] at z
  obtain ⟨a1, k1_, w1⟩ := (Opn.int Try.underlying3) H enc base spare held n _ _ h1 (fun q hq => hz q (by simp [DataW.weightsEach, hq]))
  exact ⟨⟨a0, a1⟩, ⟨_, _, rfl, k0_, k1_⟩, w0, w1⟩
def wf51 (x : S51) : Prop := (x.f0.size ≤ 140737488351232) ∧ (x.f1.length * 16 ≤ 140737488351232 ∧ ∀ x_ ∈ x.f1, wf100 x_)
theorem opn51 {w : World} : Opn.Opn Try.prog w 51 k51 wf51 := by
  intro H enc base spare held fuel cs x h hz
  obtain ⟨xs, n, _, rfl, hlen, hyl, hf⟩ := DataW.trod_struct Try.underlying51 h
  have hcl : cs.length = 2 := hlen.trans (by kernel_rfl)
  obtain ⟨y0, y1, rfl⟩ : ∃ y0 y1, xs = [y0, y1] := by
    clear h hz hf hlen hcl; have hyl' : xs.length = 2 := hyl; clear hyl
    match xs, hyl' with | [y0, y1], _ => exact ⟨y0, y1, rfl⟩
  obtain ⟨c0, c1, rfl⟩ : ∃ c0 c1, cs = [c0, c1] := by
    clear h hz hf hlen hyl
    match cs, hcl with | [c0, c1], _ => exact ⟨c0, c1, rfl⟩
  simp only [DataW.weights, Try.underlying51] at hz
  have h0 : DataW.trod enc Try.prog w base spare held n 9 [c0] = some y0 := by have z := hf 0 _ rfl; rwa [show Try.prog.cellsOf _ = 1 from by kernel_rfl] at z
  obtain ⟨a0, k0_, w0⟩ := (Opn.string Try.underlying9) H enc base spare held n _ _ h0 (fun q hq => hz q (by simp [DataW.weightsEach, hq]))
  have h1 : DataW.trod enc Try.prog w base spare held n 22 [c1] = some y1 := by have z := hf 1 _ rfl; rwa [show Try.prog.cellsOf _ = 1 from by kernel_rfl] at z
  obtain ⟨a1, k1_, w1⟩ := (Opn.slice Try.underlying22 (by kernel_rfl) (by kernel_rfl : Try.prog.bytesOf 100 = 16) opn100) H enc base spare held n _ _ h1 (fun q hq => hz q (by simp [DataW.weightsEach, hq]))
  exact ⟨⟨a0, a1⟩, ⟨_, _, rfl, k0_, k1_⟩, w0, w1⟩
structure S64 where
  f0 : Int
  f1 : S51
  f2 : S51
def k64 : Kd S64 := Kd.iso (Kd.pair (Kd.int .i64) (Kd.pair k51 k51)) (fun x : S64 => (x.f0, x.f1, x.f2))
theorem k64_open {w : World} {x : S64} {cs : List Value} (h : k64.K w x cs) : ∃ A2 c2 A4 c4, cs = [.int .i64 x.f0, .string x.f1.f0, .slice A2 x.f1.f1.length c2, .string x.f2.f0, .slice A4 x.f2.f1.length c4] ∧ x.f1.f1.length ≤ c2 ∧ k100.C w A2 x.f1.f1.length x.f1.f1 ∧ x.f2.f1.length ≤ c4 ∧ k100.C w A4 x.f2.f1.length x.f2.f1 := by
  obtain ⟨_, _, rfl, rfl, ⟨_, _, rfl, s1, s3⟩⟩ := h
  obtain ⟨A2, c2, rfl, l2, g2⟩ := k51_open s1
  obtain ⟨A4, c4, rfl, l4, g4⟩ := k51_open s3
  exact ⟨A2, c2, A4, c4, rfl, l2, g2, l4, g4⟩
def wf64 (x : S64) : Prop := ((Lit.int .i64 x.f0).wf = true) ∧ (wf51 x.f1) ∧ (wf51 x.f2)
theorem opn64 {w : World} : Opn.Opn Try.prog w 64 k64 wf64 := by
  intro H enc base spare held fuel cs x h hz
  obtain ⟨xs, n, _, rfl, hlen, hyl, hf⟩ := DataW.trod_struct Try.underlying64 h
  have hcl : cs.length = 5 := hlen.trans (by kernel_rfl)
  obtain ⟨y0, y1, y2, rfl⟩ : ∃ y0 y1 y2, xs = [y0, y1, y2] := by
    clear h hz hf hlen hcl; have hyl' : xs.length = 3 := hyl; clear hyl
    match xs, hyl' with | [y0, y1, y2], _ => exact ⟨y0, y1, y2, rfl⟩
  obtain ⟨c0, c1, c2, c3, c4, rfl⟩ : ∃ c0 c1 c2 c3 c4, cs = [c0, c1, c2, c3, c4] := by
    clear h hz hf hlen hyl
    match cs, hcl with | [c0, c1, c2, c3, c4], _ => exact ⟨c0, c1, c2, c3, c4, rfl⟩
  simp only [DataW.weights, Try.underlying64] at hz
  have h0 : DataW.trod enc Try.prog w base spare held n 3 [c0] = some y0 := by have z := hf 0 _ rfl; rwa [show Try.prog.cellsOf _ = 1 from by kernel_rfl] at z
  obtain ⟨a0, k0_, w0⟩ := (Opn.int Try.underlying3) H enc base spare held n _ _ h0 (fun q hq => hz q (by simp [DataW.weightsEach, hq]))
  have h1 : DataW.trod enc Try.prog w base spare held n 51 [c1, c2] = some y1 := by have z := hf 1 _ rfl; rwa [show Try.prog.cellsOf _ = 2 from by kernel_rfl] at z
  obtain ⟨a1, k1_, w1⟩ := opn51 H enc base spare held n _ _ h1 (fun q hq => hz q (by simp [DataW.weightsEach, hq]))
  have h2 : DataW.trod enc Try.prog w base spare held n 51 [c3, c4] = some y2 := by have z := hf 2 _ rfl; rwa [show Try.prog.cellsOf _ = 2 from by kernel_rfl] at z
  obtain ⟨a2, k2_, w2⟩ := opn51 H enc base spare held n _ _ h2 (fun q hq => hz q (by simp [DataW.weightsEach, hq]))
  exact ⟨⟨a0, a1, a2⟩, ⟨_, _, rfl, k0_, ⟨_, _, rfl, k1_, k2_⟩⟩, w0, w1, w2⟩
end Go.Proofs.Ythpjagblnddjaaa.PB
end

section
namespace Go.Proofs.Ythpjagblnddjaaa.PB
open Go.RowKit Go.Proofs.YthpjagblnddjaaaW.PrintWords
set_option linter.unusedVariables false
theorem capped_nil : capped 0 [] := fun r hr => by cases hr
theorem gather0 (a b : Nat) (l : List S100) (h0 : ∀ r ∈ l, 0 ≤ r.f1) (hl : (bytes l).length ≤ 500000) (ha : a ≤ 500000) (hb : b ≤ 500000) :
    someTo addRun (a : Int) (b : Int) l 0 [] = pack (((bytes l).take b).drop a) := by
  have := someTo_pack a b l 0 [] 0 h0 capped_nil (by omega) (by omega) (by omega) (by omega) (by omega)
  simpa [pack] using this
theorem good_nrm {l : List S100} (h : good l = true) : nrm l ∧ tot l ≤ 4096 := by
  unfold good at h
  simpa using h
theorem nrm_nonneg {l : List S100} (h : nrm l) : ∀ r ∈ l, 0 ≤ r.f1 := fun r hr => by have := nrm_pos h r hr; omega
theorem step1_len (acc : List S100) (x : Int) : (step1 acc x).length ≤ acc.length + 1 := by
  unfold step1
  split
  · simp
  · simp
theorem packTo_len (b : List Int) : ∀ acc : List S100, (packTo acc b).length ≤ acc.length + b.length := by
  induction b with
  | nil => intro acc; simp [packTo]
  | cons x b ih => intro acc; have h1 := ih (step1 acc x); have h2 := step1_len acc x; show (packTo (step1 acc x) b).length ≤ _; rw [List.length_cons]; omega
theorem pack_len (b : List Int) : (pack b).length ≤ b.length := by have := packTo_len b []; simpa [pack] using this
end Go.Proofs.Ythpjagblnddjaaa.PB
end

section
namespace Go.Proofs.Ythpjagblnddjaaa.PB
open Go.RowKit Go.Proofs.YthpjagblnddjaaaW.PrintWords
set_option linter.unusedVariables false
def withinB (l : List S100) (a b : Int) : Bool := good l && (decide (0 ≤ a) && (decide (a ≤ b) && decide (b ≤ tot l)))
theorem withinB_iff {l : List S100} {a b : Int} : withinB l a b = true ↔ good l = true ∧ 0 ≤ a ∧ a ≤ b ∧ b ≤ tot l := by simp [withinB]
theorem within_ev (l : List S100) (hl : l.length ≤ big) (a b : Int) : Ev (fun k => runs_within.f k l a b) (withinB l a b) := by
  unfold runs_within.f
  refine Ev.bind (good_ev l hl) ?_
  by_cases hg : good l = true
  · refine Ev.pos hg ?_
    by_cases h0 : a ≥ 0
    · refine Ev.pos h0 ?_
      by_cases h1 : a ≤ b
      · refine Ev.pos h1 (Ev.bind (total_ev l hl) (ev_val (Ev.now _) ?_))
        simp [withinB, hg, h1, show 0 ≤ a from h0]
      · exact Ev.neg h1 (ev_val (Ev.now _) (by simp [withinB, h1]))
    · exact Ev.neg h0 (ev_val (Ev.now _) (by simp [withinB]; intro _ h; omega))
  · exact Ev.neg hg (ev_val (Ev.now _) (by simp [withinB, hg]))
theorem within_facts {l : List S100} {a b : Int} (h : withinB l a b = true) : ∃ i j : Nat, a = i ∧ b = j ∧ i ≤ j ∧ j ≤ (bytes l).length ∧ (bytes l).length ≤ 4096 ∧ nrm l ∧ tot l = (bytes l).length := by
  obtain ⟨hg, h0, h1, h2⟩ := withinB_iff.1 h
  obtain ⟨hn, ht⟩ := good_nrm hg
  have hb := tot_bytes ht
  obtain ⟨i, rfl⟩ := Int.eq_ofNat_of_zero_le h0
  obtain ⟨j, rfl⟩ := Int.eq_ofNat_of_zero_le (show 0 ≤ b by omega)
  exact ⟨i, j, rfl, rfl, by omega, by omega, by omega, hn, hb⟩
def sliceS (l : List S100) (a b : Int) : List S100 × Int := if withinB l a b = true then (pack (((bytes l).take b.toNat).drop a.toNat), 0) else ([], 2)
theorem slice_ev (l : List S100) (hl : l.length ≤ big) (a b : Int) : Ev (fun k => runs_Slice.f k l a b) (sliceS l a b) := by
  unfold runs_Slice.f sliceS
  refine Ev.bind (within_ev l hl a b) ?_
  refine Ev.ite (fun hw => ?_) (fun _ => Ev.now _)
  obtain ⟨i, j, rfl, rfl, hij, hj, h4, hn, _⟩ := within_facts hw
  unfold big at hl
  refine Ev.pos (by omega) (ev_val (Ev.now _) ?_)
  rw [gather0 i j l (nrm_nonneg hn) (by omega) (by omega) (by omega)]
  rfl
def spliceS (l : List S100) (a b : Int) (m : List S100) : List S100 × Int :=
  if withinB l a b = true then (if good m = true then (if tot l - (b - a) + tot m > 4096 then ([], 3) else (pack ((bytes l).take a.toNat ++ bytes m ++ (bytes l).drop b.toNat), 0)) else ([], 2)) else ([], 2)
theorem good_facts {m : List S100} (h : good m = true) : nrm m ∧ (bytes m).length ≤ 4096 ∧ tot m = (bytes m).length := by
  obtain ⟨hn, ht⟩ := good_nrm h
  have hb := tot_bytes ht
  exact ⟨hn, by omega, hb⟩
theorem spliceRuns_pack (l m : List S100) (i j : Nat) (hi : i ≤ 4096) (hj : j ≤ 4096) (hl : (bytes l).length ≤ 4096) (hm : (bytes m).length ≤ 4096) (hn : nrm l) (hnm : nrm m) :
    spliceRuns l i j m = pack ((bytes l).take i ++ bytes m ++ (bytes l).drop j) := by
  unfold spliceRuns
  have e1 := someTo_pack 0 i l 0 [] 0 (nrm_nonneg hn) capped_nil (by omega) (by omega) (by omega) (by omega) (by omega)
  rw [show ((0 : Nat) : Int) = 0 from rfl, Nat.sub_zero, Nat.sub_zero, List.drop_zero] at e1
  rw [e1]
  have c1 := packTo_capped ((bytes l).take i) (capped_nil) (show (0 : Int) ≤ 0 by omega)
  have hlen1 : ((bytes l).take i).length ≤ 4096 := by rw [List.length_take]; omega
  have e2 := someTo_pack 0 4096 m 0 _ _ (nrm_nonneg hnm) c1 (by omega) (by omega) (by omega) (by omega) (by omega)
  rw [show ((0 : Nat) : Int) = 0 from rfl, show ((4096 : Nat) : Int) = 4096 from rfl, Nat.sub_zero, Nat.sub_zero, List.drop_zero, List.take_of_length_le hm] at e2
  rw [e2]
  have c2 := packTo_capped (bytes m) c1 (by omega)
  have e3 := someTo_pack j 4096 l 0 _ _ (nrm_nonneg hn) c2 (by omega) (by omega) (by omega) (by omega) (by omega)
  rw [show ((0 : Nat) : Int) = 0 from rfl, show ((4096 : Nat) : Int) = 4096 from rfl, Nat.sub_zero, Nat.sub_zero, List.take_of_length_le hl] at e3
  rw [e3]
  unfold pack
  rw [packTo_append, packTo_append]
theorem splice_ev (l : List S100) (hl : l.length ≤ big) (a b : Int) (m : List S100) (hm : m.length ≤ big) : Ev (fun k => runs_Splice.f k l a b m) (spliceS l a b m) := by
  unfold runs_Splice.f spliceS
  refine Ev.bind (within_ev l hl a b) ?_
  refine Ev.ite (fun hw => ?_) (fun _ => Ev.now _)
  refine Ev.bind (good_ev m hm) ?_
  refine Ev.ite (fun hg => ?_) (fun _ => Ev.now _)
  refine Ev.bind (total_ev l hl) (Ev.bind (total_ev m hm) ?_)
  obtain ⟨i, j, rfl, rfl, hij, hj, h4, hn, ht⟩ := within_facts hw
  obtain ⟨hnm, h4m, htm⟩ := good_facts hg
  rw [show wrap64 (wrap64 (tot l - wrap64 ((j : Int) - (i : Int))) + tot m) = tot l - ((j : Int) - (i : Int)) + tot m by unfold wrap64; omega]
  refine Ev.ite (fun _ => Ev.now _) (fun _ => ?_)
  unfold big at hl hm
  refine Ev.pos (by omega) (ev_val (Ev.now _) ?_)
  rw [spliceRuns_pack l m i j (by omega) (by omega) h4 h4m hn hnm]
  rfl
theorem good_pack {b : List Int} (h : b.length ≤ 4096) : good (pack b) = true ∧ tot (pack b) = b.length := by
  have hn := pack_nrm b
  have ht : tot (pack b) = b.length := by
    rw [tot_of_bytes (nrm_nonneg hn) (by rw [pack_bytes]; exact h), pack_bytes]
  exact ⟨by unfold good; rw [Bool.and_eq_true, decide_eq_true_iff, decide_eq_true_iff]; exact ⟨hn, by omega⟩, ht⟩
end Go.Proofs.Ythpjagblnddjaaa.PB
end

section
namespace Go.Proofs.Ythpjagblnddjaaa.PB
open Go.RowKit Go.Proofs.YthpjagblnddjaaaW.PrintWords
set_option linter.unusedVariables false
theorem run_ev (a b : List S100) (hl : a.length ≤ big) : Ev (fun k => api_Run.f k a b) (decide (a = b)) := by
  unfold big at hl
  unfold api_Run.f
  by_cases hab : a.length = b.length
  · refine Ev.pos (by omega) ?_
    have loop : ∀ (d i : Nat), i + d = a.length → Ev (fun k => api_Run.l0 k a b (a.length : Int) (i : Int)) (decide (a.drop i = b.drop i)) := by
      intro d
      induction d with
      | zero =>
        intro i hi
        refine Ev.step (fun k => by simp only [api_Run.l0]; rfl) ?_
        refine Ev.neg (by omega) ?_
        rw [List.drop_eq_nil_of_le (by omega), List.drop_eq_nil_of_le (by omega)]
        exact Ev.now _
      | succ d ih =>
        intro i hi
        have hlt : i < a.length := by omega
        refine Ev.step (fun k => by simp only [api_Run.l0]; rfl) ?_
        refine Ev.pos (by omega) (Ev.pos (by omega) (Ev.pos (by omega) (Ev.pos (by omega) ?_)))
        rw [dropT hlt, dropT (show i < b.length by omega), rdT, rdT, w1 hlt (by omega)]
        by_cases he : a.getD i z100 = b.getD i z100
        · rw [he]
          refine Ev.neg (by simp) ?_
          exact ev_val (ih (i + 1) (by omega)) (by simp)
        · refine Ev.pos ?_ ?_
          · have : ¬ ((a.getD i z100).f0 = (b.getD i z100).f0 ∧ (a.getD i z100).f1 = (b.getD i z100).f1) := fun h => he (by
              cases hx : a.getD i z100; cases hy : b.getD i z100; rw [hx, hy] at h; simp at h; rw [h.1, h.2])
            simp only [Bool.or_eq_true, Bool.not_eq_true', beq_eq_false_iff_ne]
            by_cases h1 : (a.getD i z100).f0 = (b.getD i z100).f0
            · exact .inr (fun h2 => this ⟨h1, h2⟩)
            · exact .inl h1
          · exact ev_val (Ev.now _) (by simp; intro h; exact absurd h he)
    exact loop a.length 0 (by omega)
  · refine Ev.neg (by omega) ?_
    exact ev_val (Ev.now _) (by simp; intro h; exact hab (by rw [h]))
def goodT (s : ByteArray) (l : List S100) : Bool := good l && decide (tot l = (s.size : Int))
theorem goodT_iff {s : ByteArray} {l : List S100} : goodT s l = true ↔ good l = true ∧ tot l = (s.size : Int) := by simp [goodT]
theorem goodT_facts {s : ByteArray} {l : List S100} (h : goodT s l = true) : good l = true ∧ nrm l ∧ (bytes l).length = s.size ∧ s.size ≤ 4096 ∧ tot l = (s.size : Int) := by
  obtain ⟨h1, h2⟩ := goodT_iff.1 h
  obtain ⟨h3, h4, h5⟩ := good_facts h1
  exact ⟨h1, h3, by omega, by omega, h2⟩
theorem goodT_ev (s : ByteArray) (l : List S100) (hl : l.length ≤ big) : Ev (fun k => strip_Good.f k s l) (goodT s l) := by
  unfold strip_Good.f
  refine Ev.bind (good_ev l hl) ?_
  by_cases hg : good l = true
  · rw [hg]
    exact Ev.pos rfl (Ev.bind (total_ev l hl) (ev_val (Ev.now _) (by rw [Bool.eq_iff_iff]; simp [goodT, hg])))
  · exact Ev.neg hg (ev_val (Ev.now _) (by simp [goodT, hg]))
def withinT (s : ByteArray) (l : List S100) (a b : Int) : Bool := goodT s l && (decide (0 ≤ a) && (decide (a ≤ b) && decide (b ≤ (s.size : Int))))
theorem withinT_iff {s : ByteArray} {l : List S100} {a b : Int} : withinT s l a b = true ↔ goodT s l = true ∧ 0 ≤ a ∧ a ≤ b ∧ b ≤ (s.size : Int) := by simp [withinT]
theorem withinT_ev (s : ByteArray) (l : List S100) (hl : l.length ≤ big) (a b : Int) : Ev (fun k => strip_within.f k s l a b) (withinT s l a b) := by
  unfold strip_within.f
  refine Ev.bind (goodT_ev s l hl) ?_
  by_cases hg : goodT s l = true
  · refine Ev.pos hg ?_
    by_cases h0 : 0 ≤ a
    · refine Ev.pos h0 ?_
      by_cases h1 : a ≤ b
      · exact Ev.pos h1 (ev_val (Ev.now _) (by simp [withinT, hg, h0, h1]))
      · exact Ev.neg h1 (ev_val (Ev.now _) (by simp [withinT, h1]))
    · exact Ev.neg h0 (ev_val (Ev.now _) (by simp [withinT, h0]))
  · exact Ev.neg hg (ev_val (Ev.now _) (by simp [withinT, hg]))
theorem withinT_facts {s : ByteArray} {l : List S100} {a b : Int} (h : withinT s l a b = true) : ∃ i j : Nat, a = i ∧ b = j ∧ i ≤ j ∧ j ≤ s.size ∧ goodT s l = true ∧ withinB l a b = true := by
  obtain ⟨h1, h2, h3, h4⟩ := withinT_iff.1 h
  obtain ⟨g1, g2, g3, g4, g5⟩ := goodT_facts h1
  obtain ⟨i, rfl⟩ := Int.eq_ofNat_of_zero_le h2
  obtain ⟨j, rfl⟩ := Int.eq_ofNat_of_zero_le (show 0 ≤ b by omega)
  exact ⟨i, j, rfl, rfl, by omega, by omega, h1, withinB_iff.2 ⟨g1, by omega, by omega, by omega⟩⟩
abbrev TX := ByteArray × List S100 × Int
def sameT (s : ByteArray) (l : List S100) (t : ByteArray) (m : List S100) : Bool := if s.toList = t.toList then decide (l = m) else false
theorem sameT_self (s : ByteArray) (l : List S100) : sameT s l s l = true := by simp [sameT]
theorem same4_ev (s : ByteArray) (l : List S100) (t : ByteArray) (m : List S100) (hl : l.length ≤ big) : Ev (fun k => strip_Same.f k s l t m) (sameT s l t m) := by
  unfold strip_Same.f sameT
  exact Ev.ite (fun _ => Ev.bind (run_ev l m hl) (Ev.now _)) (fun _ => Ev.now _)
theorem rsame4_ev (s : ByteArray) (l : List S100) (t : ByteArray) (m : List S100) (hl : l.length ≤ big) : Ev (fun k => bureauref04_Same.f k s l t m) (sameT s l t m) := by
  unfold bureauref04_Same.f sameT
  exact Ev.ite (fun _ => Ev.bind (same_ev l m hl) (Ev.now _)) (fun _ => Ev.now _)
def cutS (s : ByteArray) (l : List S100) (a b : Int) : TX := if withinT s l a b = true then (s.extract a.toNat b.toNat, pack (((bytes l).take b.toNat).drop a.toNat), 0) else (⟨#[]⟩, [], 2)
theorem cut_ev (s : ByteArray) (l : List S100) (hl : l.length ≤ big) (a b : Int) : Ev (fun k => strip_Cut.f k s l a b) (cutS s l a b) := by
  unfold strip_Cut.f cutS
  refine Ev.bind (withinT_ev s l hl a b) ?_
  refine Ev.ite (fun hw => ?_) (fun _ => Ev.now _)
  obtain ⟨h1, h2, h3, h4⟩ := withinT_iff.1 hw
  obtain ⟨i, j, rfl, rfl, hij, hj, hg, hwb⟩ := withinT_facts hw
  refine Ev.bind (slice_ev l hl _ _) (Ev.pos h2 (Ev.pos h3 (Ev.pos h4 (ev_val (Ev.now _) ?_))))
  unfold sliceS
  rw [if_pos hwb]
def spliceT (s : ByteArray) (l : List S100) (a b : Int) (x : ByteArray) (m : List S100) : TX :=
  if withinT s l a b = true then (if goodT x m = true then (if (s.size : Int) - (b - a) + (x.size : Int) > 4096 then (⟨#[]⟩, [], 3) else
    (s.extract 0 a.toNat ++ x ++ s.extract b.toNat s.size, pack ((bytes l).take a.toNat ++ bytes m ++ (bytes l).drop b.toNat), 0)) else (⟨#[]⟩, [], 2)) else (⟨#[]⟩, [], 2)
theorem ext_size (s : ByteArray) (i j : Nat) : (s.extract i j).size ≤ s.size := by rw [ByteArray.size_extract]; omega
theorem splice4_ev (s : ByteArray) (l : List S100) (hl : l.length ≤ big) (a b : Int) (x : ByteArray) (m : List S100) (hm : m.length ≤ big) : Ev (fun k => strip_Splice.f k s l a b x m) (spliceT s l a b x m) := by
  unfold strip_Splice.f spliceT
  refine Ev.bind (withinT_ev s l hl a b) ?_
  have bad : Ev (fun k => strip_Splice.j0 k a b true s l x m) (⟨#[]⟩, [], 2) := by
    refine Ev.step (fun k => by simp only [strip_Splice.j0]; rfl) ?_
    exact Ev.pos (by simp) (Ev.now _)
  refine Ev.ite (fun hw => ?_) (fun _ => bad)
  refine Ev.bind (goodT_ev x m hm) ?_
  by_cases hg : goodT x m = true
  · rw [if_pos hg, hg]
    refine Ev.step (fun k => by simp only [strip_Splice.j0]; rfl) ?_
    refine Ev.neg (by simp) (Ev.bind (splice_ev l hl a b m hm) ?_)
    obtain ⟨h1, h2, h3, h4⟩ := withinT_iff.1 hw
    obtain ⟨i, j, rfl, rfl, hij, hj, hgl, hwb⟩ := withinT_facts hw
    obtain ⟨g1, g2, g3, g4, g5⟩ := goodT_facts hgl
    obtain ⟨q1, q2, q3, q4, q5⟩ := goodT_facts hg
    have he : spliceS l (i : Int) (j : Int) m = if (s.size : Int) - ((j : Int) - (i : Int)) + (x.size : Int) > 4096 then ([], 3) else (pack ((bytes l).take (i : Int).toNat ++ bytes m ++ (bytes l).drop (j : Int).toNat), 0) := by
      unfold spliceS
      rw [if_pos hwb, if_pos q1, g5, q5]
    rw [he]
    by_cases hb : (s.size : Int) - ((j : Int) - (i : Int)) + (x.size : Int) > 4096
    · rw [if_pos hb, if_pos hb]
      exact Ev.neg (by decide) (Ev.now _)
    · rw [if_neg hb, if_neg hb]
      have e1 := ext_size s 0 (i : Int).toNat
      have e2 := ext_size s (j : Int).toNat s.size
      refine Ev.pos rfl (Ev.pos h2 (Ev.pos (by omega) (Ev.pos (by omega) (Ev.pos (by omega) (Ev.pos h4 (Ev.pos ?_ (Ev.now _)))))))
      rw [ByteArray.size_append]
      omega
  · rw [if_neg hg, show goodT x m = false by simpa using hg]
    exact bad
theorem spliceT_len (s : ByteArray) (l : List S100) (a b : Int) (x : ByteArray) (m : List S100) : (spliceT s l a b x m).2.1.length ≤ 20000 := by
  unfold spliceT
  split
  · rename_i hw
    split
    · rename_i hg
      split
      · simp
      · obtain ⟨i, j, rfl, rfl, hij, hj, hgl, hwb⟩ := withinT_facts hw
        obtain ⟨g1, g2, g3, g4, g5⟩ := goodT_facts hgl
        obtain ⟨q1, q2, q3, q4, q5⟩ := goodT_facts hg
        have := pack_len ((bytes l).take (i : Int).toNat ++ bytes m ++ (bytes l).drop (j : Int).toNat)
        simp only [List.length_append, List.length_take, List.length_drop] at this
        show (pack _).length ≤ 20000
        omega
    · simp
  · simp
theorem cutS_len (s : ByteArray) (l : List S100) (a b : Int) : (cutS s l a b).2.1.length ≤ 20000 := by
  unfold cutS
  split
  · rename_i hw
    obtain ⟨i, j, rfl, rfl, hij, hj, hgl, hwb⟩ := withinT_facts hw
    obtain ⟨g1, g2, g3, g4, g5⟩ := goodT_facts hgl
    have := pack_len (((bytes l).take (j : Int).toNat).drop (i : Int).toNat)
    rw [List.length_drop, List.length_take] at this
    show (pack _).length ≤ 20000
    omega
  · simp
theorem toList_loop (a : ByteArray) : ∀ (n i : Nat) (r : List UInt8), i + n = a.size → ByteArray.toList.loop a i r = r.reverse ++ a.data.toList.drop i
  | 0, i, r, h => by
    unfold ByteArray.toList.loop
    rw [if_neg (by omega), List.drop_eq_nil_of_le (by rw [Array.length_toList]; show a.size ≤ i; omega), List.append_nil]
  | n + 1, i, r, h => by
    unfold ByteArray.toList.loop
    have hi : i < a.data.toList.length := by rw [Array.length_toList]; show i < a.size; omega
    rw [if_pos (by omega), toList_loop a n (i + 1) _ (by omega), List.reverse_cons, List.append_assoc, List.drop_eq_getElem_cons hi]
    congr 1
    show [a.get! i] ++ _ = _
    rw [List.singleton_append]
    congr 1
    show a.data[i]! = _
    rw [getElem!_pos a.data i (by rw [Array.length_toList] at hi; exact hi)]
    simp
theorem toList_data (a : ByteArray) : a.toList = a.data.toList := by
  unfold ByteArray.toList
  rw [toList_loop a a.size 0 [] (by omega)]
  rfl
theorem toList_inj {a b : ByteArray} (h : a.toList = b.toList) : a = b := by
  rw [toList_data, toList_data] at h
  exact ByteArray.ext (Array.toList_inj.1 h)
end Go.Proofs.Ythpjagblnddjaaa.PB
end

section
namespace Go.Proofs.Ythpjagblnddjaaa.PB
open Go.RowKit Go.Proofs.YthpjagblnddjaaaW.PrintWords Go.Proofs.YthpjagblnddjaaaW.PrintLast Go.Proofs.YthpjagblnddjaaaW.PrintMore
set_option linter.unusedVariables false
set_option linter.unusedSimpArgs false
def BRow (w : World) (g : Nat) (b : List Int) : Prop := ∃ cs t fr, w.heap[g]? = some (.cells cs t fr) ∧ b.length ≤ fr.1 ∧ ∀ i, i < b.length → cs[i]? = some (.int .u8 (b.getD i 0))
theorem BRow.lt {w : World} {g : Nat} {b : List Int} (h : BRow w g b) : g < w.heap.size := by obtain ⟨cs, t, fr, hc, _⟩ := h; exact blk_lt hc
theorem BRow.cell {w : World} {g : Nat} {b : List Int} (h : BRow w g b) {i : Nat} (hi : i < b.length) : w.cell? ⟨g, i, none⟩ = some (.int .u8 (b.getD i 0)) := by
  obtain ⟨cs, t, fr, hc, _, hb⟩ := h
  exact (cell_of_row w g i cs t fr hc).trans (hb i hi)
theorem BRow.of {w w' : World} {g : Nat} {b : List Int} (h : BRow w g b) (he : w'.heap[g]? = w.heap[g]?) : BRow w' g b := by
  obtain ⟨cs, t, fr, hc, hr⟩ := h
  exact ⟨cs, t, fr, he.trans hc, hr⟩
theorem BRow.alloc {w : World} {g : Nat} {b : List Int} (h : BRow w g b) (o : Obj) : BRow (w.alloc o) g b := h.of (Below.heap_alloc _ _ _ h.lt)
theorem BRow.drewN {w : World} {g : Nat} {b : List Int} (h : BRow w g b) (n : Nat) : BRow (w.drewN n) g b := h.of rfl
theorem BRow.set {w : World} {g : Nat} {b : List Int} (h : BRow w g b) {i : Nat} (hi : i < b.length) (x : Int) : BRow (w.setCell ⟨g, i, none⟩ (.int .u8 x)) g (b.set i x) := by
  obtain ⟨cs, t, fr, hc, hf, hb⟩ := h
  refine ⟨cs.setIfInBounds i (.int .u8 x), t, fr, by simp [World.setCell, Array.getElem?_modify, hc], by rw [List.length_set]; exact hf, fun j hj => ?_⟩
  rw [List.length_set] at hj
  have h1 := hb j hj
  obtain ⟨hlt, _⟩ := Array.getElem?_eq_some_iff.1 h1
  by_cases he : i = j
  · subst he
    rw [List.getD_eq_getElem?_getD, List.getElem?_set_self hj, Array.getElem?_setIfInBounds]
    simp [hlt]
  · rw [List.getD_eq_getElem?_getD, List.getElem?_set_ne he, ← List.getD_eq_getElem?_getD, Array.getElem?_setIfInBounds, if_neg he]
    exact h1
theorem BRow.reads {w : World} {g : Nat} {b : List Int} (h : BRow w g b) (hn : b.length ≤ 9223372036854775807) : ReadsInt w .u8 (some ⟨g, 0, none⟩) b.length b :=
  ⟨rfl, hn, fun _ => ⟨_, rfl, fun j hj => by
    have := h.cell hj
    by_cases h0 : j = 0
    · subst h0; simpa [Addr.add] using this
    · simpa [Addr.add, h0] using this⟩⟩
end Go.Proofs.Ythpjagblnddjaaa.PB
end

section
namespace Go.Proofs.Ythpjagblnddjaaa.PB
open Go.RowKit Go.Proofs.YthpjagblnddjaaaW.PrintWords
set_option linter.unusedVariables false
theorem fits_eq (s : ByteArray) (l : List S100) : bureaulaw04_Fits.f s l = some (decide (s.size ≤ 5000 ∧ l.length ≤ 5000)) := by
  unfold bureaulaw04_Fits.f
  by_cases h : s.size ≤ 5000
  · rw [if_pos (by omega)]
    congr 1
    rw [Bool.eq_iff_iff, decide_eq_true_iff, decide_eq_true_iff]
    omega
  · rw [if_neg (by omega)]
    simp [h]
theorem fits_big {s : ByteArray} {l : List S100} (h : s.size ≤ 5000 ∧ l.length ≤ 5000) : l.length ≤ big := by unfold big; omega
theorem len_big {n : Nat} (h : n ≤ 20000) : n ≤ big := by unfold big; omega
theorem goodT_pack {s : ByteArray} {B : List Int} (h : B.length = s.size) (h4 : s.size ≤ 4096) : goodT s (pack B) = true := by
  obtain ⟨g1, t1⟩ := good_pack (show B.length ≤ 4096 by omega)
  exact goodT_iff.2 ⟨g1, by omega⟩
end Go.Proofs.Ythpjagblnddjaaa.PB
end

section
namespace Go.Proofs.Ythpjagblnddjaaa.PB
open Go.RowKit Go.Proofs.YthpjagblnddjaaaW.PrintWords
set_option linter.unusedVariables false
def goodE (a : Int) (o : ByteArray) (ol : List S100) (n : ByteArray) (nl : List S100) : Bool := goodT o ol && (goodT n nl && (decide (0 ≤ a) && decide (a ≤ 4096)))
theorem goodE_iff {a : Int} {o n : ByteArray} {ol nl : List S100} : goodE a o ol n nl = true ↔ goodT o ol = true ∧ goodT n nl = true ∧ 0 ≤ a ∧ a ≤ 4096 := by simp [goodE]
theorem goodE_ev (a : Int) (o : ByteArray) (ol : List S100) (n : ByteArray) (nl : List S100) (hl : ol.length ≤ big) (hm : nl.length ≤ big) : Ev (fun k => edit_good.f k a o ol n nl) (goodE a o ol n nl) := by
  unfold edit_good.f
  refine Ev.bind (goodT_ev o ol hl) ?_
  by_cases h1 : goodT o ol = true
  · refine Ev.pos h1 (Ev.bind (goodT_ev n nl hm) ?_)
    by_cases h2 : goodT n nl = true
    · refine Ev.pos h2 ?_
      by_cases h3 : 0 ≤ a
      · exact Ev.pos h3 (ev_val (Ev.now _) (by simp [goodE, h1, h2, h3]))
      · exact Ev.neg h3 (ev_val (Ev.now _) (by simp [goodE, h3]))
    · exact Ev.neg h2 (ev_val (Ev.now _) (by simp [goodE, h2]))
  · exact Ev.neg h1 (ev_val (Ev.now _) (by simp [goodE, h1]))
theorem goodE_facts {a : Int} {o n : ByteArray} {ol nl : List S100} (h : goodE a o ol n nl = true) : 0 ≤ a ∧ a ≤ 4096 ∧ o.size ≤ 4096 ∧ n.size ≤ 4096 := by
  obtain ⟨h1, h2, h3, h4⟩ := goodE_iff.1 h
  obtain ⟨_, _, _, g4, _⟩ := goodT_facts h1
  obtain ⟨_, _, _, q4, _⟩ := goodT_facts h2
  exact ⟨h3, h4, g4, q4⟩
def applyT (s : ByteArray) (l : List S100) (a : Int) (o : ByteArray) (ol : List S100) (n : ByteArray) (nl : List S100) : TX :=
  if goodE a o ol n nl = true then (if (cutS s l a (a + (o.size : Int))).2.2 = 0 then (if sameT (cutS s l a (a + (o.size : Int))).1 (cutS s l a (a + (o.size : Int))).2.1 o ol = true then spliceT s l a (a + (o.size : Int)) n nl else (⟨#[]⟩, [], 7)) else (⟨#[]⟩, [], (cutS s l a (a + (o.size : Int))).2.2)) else (⟨#[]⟩, [], 2)
theorem apply_ev (s : ByteArray) (l : List S100) (hls : l.length ≤ big) (a : Int) (o : ByteArray) (ol : List S100) (n : ByteArray) (nl : List S100) (hl : ol.length ≤ big) (hm : nl.length ≤ big) :
    Ev (fun k => edit_Apply.f k s l a o ol n nl) (applyT s l a o ol n nl) := by
  unfold edit_Apply.f applyT
  refine Ev.bind (goodE_ev a o ol n nl hl hm) ?_
  refine Ev.ite (fun hg => ?_) (fun _ => Ev.now _)
  obtain ⟨f1, f2, f3, f4⟩ := goodE_facts hg
  rw [show wrap64 (a + (o.size : Int)) = a + (o.size : Int) by unfold wrap64; omega]
  refine Ev.bind (cut_ev s l hls _ _) ?_
  refine Ev.ite (fun _ => ?_) (fun _ => Ev.now _)
  refine Ev.bind (same4_ev _ _ _ _ (len_big (cutS_len _ _ _ _))) ?_
  exact Ev.ite (fun _ => Ev.bind (splice4_ev s l hls _ _ n nl hm) (Ev.now _)) (fun _ => Ev.now _)
theorem applyT_len (s : ByteArray) (l : List S100) (a : Int) (o : ByteArray) (ol : List S100) (n : ByteArray) (nl : List S100) : (applyT s l a o ol n nl).2.1.length ≤ 20000 := by
  unfold applyT
  split
  · split
    · split
      · exact spliceT_len _ _ _ _ _ _
      · simp
    · simp
  · simp
theorem own_eq (s : ByteArray) (l : List S100) (hl : l.length ≤ big) : edit_own.f s l = some (s, l) := by
  unfold edit_own.f
  unfold big at hl
  rw [if_pos (by omega)]
theorem ext_list (s : ByteArray) (i j : Nat) : (s.extract i j).data.toList = (s.data.toList.take j).drop i := by
  rw [ByteArray.data_extract, Array.toList_extract, List.extract_eq_take_drop, List.drop_take]
theorem size_list (s : ByteArray) : s.data.toList.length = s.size := by rw [Array.length_toList]; rfl
theorem app_list (s t : ByteArray) : (s ++ t).data.toList = s.data.toList ++ t.data.toList := by rw [ByteArray.data_append, Array.toList_append]
theorem data_inj {a b : ByteArray} (h : a.data.toList = b.data.toList) : a = b := ByteArray.ext (Array.toList_inj.1 h)
theorem ext_mid (P o Q : ByteArray) : (P ++ o ++ Q).extract P.size (P.size + o.size) = o := by
  apply data_inj
  rw [ext_list, app_list, app_list, show P.size + o.size = (P.data.toList ++ o.data.toList).length by rw [List.length_append, size_list, size_list], List.take_left, ← size_list P, List.drop_left]
theorem ext_left (P o Q : ByteArray) : (P ++ o ++ Q).extract 0 P.size = P := by
  apply data_inj
  rw [ext_list, app_list, app_list, List.drop_zero, List.append_assoc, ← size_list P, List.take_left]
theorem ext_right (P o Q : ByteArray) : (P ++ o ++ Q).extract (P.size + o.size) (P ++ o ++ Q).size = Q := by
  apply data_inj
  rw [ext_list, ← size_list (P ++ o ++ Q), List.take_length, app_list, app_list, show P.size + o.size = (P.data.toList ++ o.data.toList).length by rw [List.length_append, size_list, size_list], List.drop_left]
theorem ext_split (s : ByteArray) (i j : Nat) (hij : i ≤ j) (hj : j ≤ s.size) : s = s.extract 0 i ++ s.extract i j ++ s.extract j s.size := by
  apply data_inj
  rw [app_list, app_list, ext_list, ext_list, ext_list, List.drop_zero, ← size_list s, List.take_length]
  conv => lhs; rw [← List.take_append_drop j s.data.toList]
  congr 1
  conv => lhs; rw [← List.take_append_drop i (s.data.toList.take j)]
  rw [List.take_take, Nat.min_eq_left hij]
theorem cutS_mid (P o Q : ByteArray) (X O Z : List Int) (hX : X.length = P.size) (hO : O.length = o.size) (hZ : Z.length = Q.size) (h : P.size + o.size + Q.size ≤ 4096) :
    cutS (P ++ o ++ Q) (pack (X ++ O ++ Z)) (P.size : Int) ((P.size : Int) + (o.size : Int)) = (o, pack O, 0) := by
  have hs : (P ++ o ++ Q).size = P.size + o.size + Q.size := by rw [ByteArray.size_append, ByteArray.size_append]
  have hg := goodT_pack (s := P ++ o ++ Q) (B := X ++ O ++ Z) (by rw [hs]; simp only [List.length_append]; omega) (by omega)
  unfold cutS
  rw [if_pos (withinT_iff.2 ⟨hg, by omega, by omega, by omega⟩), pack_bytes, show ((P.size : Int) + (o.size : Int)).toNat = P.size + o.size by omega, Int.toNat_natCast, ext_mid]
  congr 3
  rw [show P.size + o.size = (X ++ O).length by rw [List.length_append]; omega, List.take_left, ← hX, List.drop_left]
theorem spliceT_mid (P o Q n : ByteArray) (X O Z N : List Int) (hX : X.length = P.size) (hO : O.length = o.size) (hZ : Z.length = Q.size) (hN : N.length = n.size) (h : P.size + o.size + Q.size ≤ 4096) (hn : P.size + n.size + Q.size ≤ 4096) :
    spliceT (P ++ o ++ Q) (pack (X ++ O ++ Z)) (P.size : Int) ((P.size : Int) + (o.size : Int)) n (pack N) = (P ++ n ++ Q, pack (X ++ N ++ Z), 0) := by
  have hs : (P ++ o ++ Q).size = P.size + o.size + Q.size := by rw [ByteArray.size_append, ByteArray.size_append]
  have hg := goodT_pack (s := P ++ o ++ Q) (B := X ++ O ++ Z) (by rw [hs]; simp only [List.length_append]; omega) (by omega)
  have hgn := goodT_pack hN (by omega)
  unfold spliceT
  rw [if_pos (withinT_iff.2 ⟨hg, by omega, by omega, by omega⟩), if_pos hgn, if_neg (by omega), pack_bytes, pack_bytes, show ((P.size : Int) + (o.size : Int)).toNat = P.size + o.size by omega, Int.toNat_natCast, ext_left, ext_right]
  congr 3
  rw [show P.size + o.size = (X ++ O).length by rw [List.length_append]; omega, List.drop_left, List.append_assoc X O Z, ← hX, List.take_left]
theorem applyT_mid (P o Q n : ByteArray) (X O Z N : List Int) (hX : X.length = P.size) (hO : O.length = o.size) (hZ : Z.length = Q.size) (hN : N.length = n.size) (h : P.size + o.size + Q.size ≤ 4096) (hn : P.size + n.size + Q.size ≤ 4096) :
    applyT (P ++ o ++ Q) (pack (X ++ O ++ Z)) (P.size : Int) o (pack O) n (pack N) = (P ++ n ++ Q, pack (X ++ N ++ Z), 0) := by
  unfold applyT
  rw [if_pos (goodE_iff.2 ⟨goodT_pack hO (by omega), goodT_pack hN (by omega), by omega, by omega⟩), cutS_mid P o Q X O Z hX hO hZ h, if_pos rfl, if_pos (sameT_self _ _), spliceT_mid P o Q n X O Z N hX hO hZ hN h hn]
theorem good_pack_bytes {s : ByteArray} {l : List S100} (h : goodT s l = true) : l = pack (bytes l) := by
  obtain ⟨_, h2, _⟩ := goodT_facts h
  exact (pack_of_nrm h2).symm
theorem applyT_ok {s : ByteArray} {l : List S100} {a : Int} {o n : ByteArray} {ol nl : List S100} (h : (applyT s l a o ol n nl).2.2 = 0) : ∃ (P Q : ByteArray) (X Z : List Int),
    a = (P.size : Int) ∧ s = P ++ o ++ Q ∧ l = pack (X ++ bytes ol ++ Z) ∧ X.length = P.size ∧ Z.length = Q.size ∧ goodE a o ol n nl = true ∧ P.size + o.size + Q.size ≤ 4096 ∧ P.size + n.size + Q.size ≤ 4096 ∧
      applyT s l a o ol n nl = (P ++ n ++ Q, pack (X ++ bytes nl ++ Z), 0) := by
  by_cases hg : goodE a o ol n nl = true
  case neg => unfold applyT at h; rw [if_neg hg] at h; cases h
  by_cases hw : withinT s l a (a + (o.size : Int)) = true
  case neg =>
    exfalso
    unfold applyT at h
    rw [if_pos hg] at h
    have hc : cutS s l a (a + (o.size : Int)) = (⟨#[]⟩, [], 2) := by unfold cutS; rw [if_neg hw]
    rw [hc] at h
    rw [if_neg (by decide)] at h
    cases h
  obtain ⟨i, j, hi, hj, hij, hjs, hgl, hwb⟩ := withinT_facts hw
  obtain ⟨g1, g2, g3, g4, g5⟩ := goodT_facts hgl
  obtain ⟨e1, e2, e3, e4⟩ := goodE_iff.1 hg
  obtain ⟨o1, o2, o3, o4, o5⟩ := goodT_facts e1
  obtain ⟨n1, n2, n3, n4, n5⟩ := goodT_facts e2
  subst hi
  have hj' : j = i + o.size := by omega
  subst hj'
  have hs := ext_split s i (i + o.size) hij hjs
  have hB : bytes l = (bytes l).take i ++ ((bytes l).take (i + o.size)).drop i ++ (bytes l).drop (i + o.size) := by
    conv => lhs; rw [← List.take_append_drop (i + o.size) (bytes l)]
    congr 1
    conv => lhs; rw [← List.take_append_drop i ((bytes l).take (i + o.size))]
    rw [List.take_take, Nat.min_eq_left hij]
  have z1 : (s.extract 0 i).size = i := by rw [ByteArray.size_extract]; omega
  have z2 : (s.extract i (i + o.size)).size = o.size := by rw [ByteArray.size_extract]; omega
  have z3 : (s.extract (i + o.size) s.size).size = s.size - (i + o.size) := by rw [ByteArray.size_extract]; omega
  have y1 : ((bytes l).take i).length = i := by rw [List.length_take]; omega
  have y2 : (((bytes l).take (i + o.size)).drop i).length = o.size := by rw [List.length_drop, List.length_take]; omega
  have y3 : ((bytes l).drop (i + o.size)).length = s.size - (i + o.size) := by rw [List.length_drop]; omega
  have hcut : cutS s l (i : Int) ((i : Int) + (o.size : Int)) = (s.extract i (i + o.size), pack (((bytes l).take (i + o.size)).drop i), 0) := by
    unfold cutS
    rw [if_pos hw, show ((i : Int) + (o.size : Int)).toNat = i + o.size by omega, Int.toNat_natCast]
  have hsame : s.extract i (i + o.size) = o ∧ pack (((bytes l).take (i + o.size)).drop i) = ol := by
    by_cases hsm : sameT (cutS s l (i : Int) ((i : Int) + (o.size : Int))).1 (cutS s l (i : Int) ((i : Int) + (o.size : Int))).2.1 o ol = true
    · rw [hcut] at hsm
      unfold sameT at hsm
      by_cases ht : (s.extract i (i + o.size)).toList = o.toList
      · rw [if_pos ht] at hsm
        exact ⟨toList_inj ht, of_decide_eq_true hsm⟩
      · rw [if_neg ht] at hsm; cases hsm
    · exfalso
      unfold applyT at h
      rw [if_pos hg, if_pos (by rw [hcut]), if_neg hsm] at h
      cases h
  obtain ⟨hso, hlo⟩ := hsame
  have hO : ((bytes l).take (i + o.size)).drop i = bytes ol := by rw [← hlo, pack_bytes]
  rw [hso] at hs
  rw [hO] at hB
  have hl' : l = pack ((bytes l).take i ++ bytes ol ++ (bytes l).drop (i + o.size)) := by rw [← hB]; exact good_pack_bytes hgl
  have hfit : i + n.size + (s.size - (i + o.size)) ≤ 4096 := by
    unfold applyT at h
    rw [if_pos hg, if_pos (by rw [hcut]), hcut] at h
    have hsm : sameT (s.extract i (i + o.size)) (pack (((bytes l).take (i + o.size)).drop i)) o ol = true := by rw [hso, hlo]; exact sameT_self _ _
    rw [if_pos hsm] at h
    unfold spliceT at h
    rw [if_pos hw, if_pos e2] at h
    by_cases hb : (s.size : Int) - ((i : Int) + (o.size : Int) - (i : Int)) + (n.size : Int) > 4096
    · rw [if_pos hb] at h; cases h
    · omega
  have hmid := applyT_mid (s.extract 0 i) o (s.extract (i + o.size) s.size) n ((bytes l).take i) (bytes ol) ((bytes l).drop (i + o.size)) (bytes nl) (by omega) (by omega) (by omega) (by omega) (by omega) (by omega)
  rw [← hs, ← hl', z1, ← good_pack_bytes e1, ← good_pack_bytes e2] at hmid
  exact ⟨s.extract 0 i, s.extract (i + o.size) s.size, (bytes l).take i, (bytes l).drop (i + o.size), by rw [z1], hs, hl', by omega, by omega, hg, by omega, by omega, hmid⟩
end Go.Proofs.Ythpjagblnddjaaa.PB
end

section
namespace Go.Proofs.Ythpjagblnddjaaa.PB
open Go.RowKit Go.Proofs.YthpjagblnddjaaaW.PrintWords
set_option linter.unusedVariables false
theorem alive7 : bureaulaw07_alive.f 60 = some true := by decide +kernel
theorem alive7_ev : Ev (fun k => bureaulaw07_alive.f k) true := Ev.of (bureaulaw07_alive.mono) alive7
def fitE (o : ByteArray) (ol : List S100) (n : ByteArray) (nl : List S100) : Prop := (o.size ≤ 5000 ∧ ol.length ≤ 5000) ∧ (n.size ≤ 5000 ∧ nl.length ≤ 5000)
instance (o : ByteArray) (ol : List S100) (n : ByteArray) (nl : List S100) : Decidable (fitE o ol n nl) := inferInstanceAs (Decidable (_ ∧ _))
theorem fits7_eq (a : Int) (o : ByteArray) (ol : List S100) (n : ByteArray) (nl : List S100) : bureaulaw07_Fits.f a o ol n nl = some (decide (fitE o ol n nl)) := by
  unfold bureaulaw07_Fits.f
  rw [fits_eq, fits_eq]
  by_cases h : o.size ≤ 5000 ∧ ol.length ≤ 5000
  · rw [decide_eq_true h, Option.bind_some, if_pos rfl, Option.bind_some]
    congr 1
    rw [Bool.eq_iff_iff, decide_eq_true_iff, decide_eq_true_iff]
    exact ⟨fun h2 => ⟨h, h2⟩, fun h2 => h2.2⟩
  · rw [decide_eq_false h, Option.bind_some, if_neg (by simp)]
    rw [decide_eq_false (fun h2 : fitE o ol n nl => h h2.1)]
def joinE (a : Int) (o : ByteArray) (ol : List S100) (n : ByteArray) (nl : List S100) (b : Int) (p : ByteArray) (pl : List S100) (m : ByteArray) (ml : List S100) : Int × ByteArray × List S100 × ByteArray × List S100 × Bool :=
  if goodE a o ol n nl = true ∧ goodE b p pl m ml = true ∧ ¬ b < a then (if (applyT n nl (b - a) p pl m ml).2.2 = 0 then (a, o, ol, (applyT n nl (b - a) p pl m ml).1, (applyT n nl (b - a) p pl m ml).2.1, true) else (0, ⟨#[]⟩, [], ⟨#[]⟩, [], false)) else (0, ⟨#[]⟩, [], ⟨#[]⟩, [], false)
theorem join_ev (a : Int) (o : ByteArray) (ol : List S100) (n : ByteArray) (nl : List S100) (b : Int) (p : ByteArray) (pl : List S100) (m : ByteArray) (ml : List S100) (h1 : ol.length ≤ big) (h2 : nl.length ≤ big) (h3 : pl.length ≤ big) (h4 : ml.length ≤ big) :
    Ev (fun k => edit_Join.f k a o ol n nl b p pl m ml) (joinE a o ol n nl b p pl m ml) := by
  unfold edit_Join.f
  have out : ¬ (goodE a o ol n nl = true ∧ goodE b p pl m ml = true ∧ ¬ b < a) → Ev (fun k => edit_Join.j0 k true a o ol n nl b p pl m ml) (joinE a o ol n nl b p pl m ml) := fun h => by
    refine Ev.step (fun k => by simp only [edit_Join.j0]; rfl) ?_
    refine Ev.pos (by simp) (ev_val (Ev.now _) ?_)
    unfold joinE
    rw [if_neg h]
  refine Ev.bind (goodE_ev a o ol n nl h1 h2) (Ev.ite' (fun hg => ?_) (fun hg => out (fun h => hg h.1)))
  refine Ev.bind (goodE_ev b p pl m ml h3 h4) (Ev.ite' (fun hq => ?_) (fun hq => out (fun h => hq h.2.1)))
  by_cases hb : b < a
  · rw [decide_eq_true hb]
    exact out (fun h => h.2.2 hb)
  · rw [decide_eq_false hb]
    refine Ev.step (fun k => by simp only [edit_Join.j0]; rfl) ?_
    refine Ev.neg (by simp) ?_
    obtain ⟨f1, f2, f3, f4⟩ := goodE_facts hg
    obtain ⟨q1, q2, q3, q4⟩ := goodE_facts hq
    rw [show wrap64 (b - a) = b - a by unfold wrap64; omega]
    unfold joinE
    rw [if_pos (c := goodE a o ol n nl = true ∧ goodE b p pl m ml = true ∧ ¬ b < a) ⟨hg, hq, hb⟩]
    refine Ev.bind (apply_ev n nl h2 _ p pl m ml h3 h4) (Ev.ite (fun _ => ?_) (fun _ => Ev.now _))
    rw [own_eq o ol h1]
    exact Ev.bind (Ev.now _) (Ev.now _)
theorem EditOnce_pure (t : S51) (e f : S64) (wt : wf51 t) (we : wf64 e) (wf_ : wf64 f) : ∃ k, bureaulaw07_EditOnce.f k t.f0 t.f1 e.f0 e.f1.f0 e.f1.f1 e.f2.f0 e.f2.f1 f.f0 f.f1.f0 f.f1.f1 f.f2.f0 f.f2.f1 = some true := by
  refine Ev.rounds (g := fun k => bureaulaw07_EditOnce.f k t.f0 t.f1 e.f0 e.f1.f0 e.f1.f1 e.f2.f0 e.f2.f1 f.f0 f.f1.f0 f.f1.f1 f.f2.f0 f.f2.f1) ?_
  generalize e.f0 = a at *
  generalize e.f1.f0 = o at *
  generalize e.f1.f1 = ol at *
  generalize e.f2.f0 = n at *
  generalize e.f2.f1 = nl at *
  generalize f.f0 = b at *
  generalize f.f1.f0 = p at *
  generalize f.f1.f1 = pl at *
  generalize f.f2.f0 = m at *
  generalize f.f2.f1 = ml at *
  generalize t.f0 = s at *
  generalize t.f1 = l at *
  unfold bureaulaw07_EditOnce.f
  refine Ev.bind alive7_ev (Ev.pos rfl ?_)
  rw [fits7_eq, fits7_eq, fits_eq]
  have out : Ev (fun k => bureaulaw07_EditOnce.j0 k true s l a o ol n nl b p pl m ml) true := by
    refine Ev.step (fun k => by simp only [bureaulaw07_EditOnce.j0]; rfl) ?_
    exact Ev.pos (by simp) (Ev.now _)
  refine Ev.bind (Ev.now _) (Ev.ite' (fun hfs => ?_) (fun _ => out))
  have hls := fits_big (of_decide_eq_true hfs)
  refine Ev.bind (Ev.now _) (Ev.ite' (fun hf => ?_) (fun _ => out))
  have hl := fits_big (of_decide_eq_true hf).1
  have hm := fits_big (of_decide_eq_true hf).2
  refine Ev.bind (Ev.now _) ?_
  by_cases hf2 : fitE p pl m ml
  case neg => rw [decide_eq_false hf2]; exact out
  rw [decide_eq_true hf2]
  have hl2 := fits_big hf2.1
  have hm2 := fits_big hf2.2
  refine Ev.step (fun k => by simp only [bureaulaw07_EditOnce.j0]; rfl) ?_
  refine Ev.neg (by simp) (Ev.bind (join_ev a o ol n nl b p pl m ml hl hm hl2 hm2) (Ev.bind (apply_ev s l hls a o ol n nl hl hm) (Ev.bind (apply_ev _ _ (len_big (applyT_len _ _ _ _ _ _ _)) b p pl m ml hl2 hm2) ?_)))
  have out1 : ∀ x1 x2 x3 x4 x5 x6 x7, Ev (fun k => bureaulaw07_EditOnce.j1 k true s l x1 x2 x3 x4 x5 x6 x7) true := fun x1 x2 x3 x4 x5 x6 x7 => by
    refine Ev.step (fun k => by simp only [bureaulaw07_EditOnce.j1]; rfl) ?_
    exact Ev.pos (by simp) (Ev.now _)
  refine Ev.ite' (fun hj => ?_) (fun _ => out1 _ _ _ _ _ _ _)
  refine Ev.ite' (fun ha => ?_) (fun _ => out1 _ _ _ _ _ _ _)
  by_cases hbk : (applyT (applyT s l a o ol n nl).1 (applyT s l a o ol n nl).2.1 b p pl m ml).2.2 = 0
  case neg => rw [show ((applyT (applyT s l a o ol n nl).1 (applyT s l a o ol n nl).2.1 b p pl m ml).2.2 != 0) = true by simpa using hbk]; exact out1 _ _ _ _ _ _ _
  rw [show ((applyT (applyT s l a o ol n nl).1 (applyT s l a o ol n nl).2.1 b p pl m ml).2.2 != 0) = false by simpa using hbk]
  
  unfold joinE at hj ⊢
  by_cases hc : goodE a o ol n nl = true ∧ goodE b p pl m ml = true ∧ ¬ b < a
  case neg => rw [if_neg hc] at hj; cases hj
  rw [if_pos hc] at hj ⊢
  by_cases hc2 : (applyT n nl (b - a) p pl m ml).2.2 = 0
  case neg => rw [if_neg hc2] at hj; cases hj
  rw [if_pos hc2]
  obtain ⟨hga, hgb, hba⟩ := hc
  obtain ⟨a1, a2, a3, a4⟩ := goodE_iff.1 hga
  obtain ⟨b1, b2, b3, b4⟩ := goodE_iff.1 hgb
  obtain ⟨_, _, o3, o4, _⟩ := goodT_facts a1
  obtain ⟨_, _, n3, n4, _⟩ := goodT_facts a2
  obtain ⟨_, _, p3, p4, _⟩ := goodT_facts b1
  obtain ⟨_, _, m3, m4, _⟩ := goodT_facts b2
  obtain ⟨P, Q, X, Z, rfl, rfl, rfl, hX, hZ, _, h1, h2, he⟩ := applyT_ok ha
  obtain ⟨U, V, Y, W, hbU, hnU, hnlU, hY, hW, _, u1, u2, hu⟩ := applyT_ok hc2
  rw [he] at hbk ⊢
  rw [hu]
  have hbytes : bytes nl = Y ++ bytes pl ++ W := by rw [hnlU, pack_bytes]
  have hsz : n.size = U.size + p.size + V.size := by rw [hnU, ByteArray.size_append, ByteArray.size_append]
  have hbP : b = ((P ++ U).size : Int) := by rw [ByteArray.size_append]; omega
  
  have e2 : P ++ n ++ Q = (P ++ U) ++ p ++ (V ++ Q) := by rw [hnU]; simp only [ByteArray.append_assoc]
  have e3 : X ++ bytes nl ++ Z = (X ++ Y) ++ bytes pl ++ (W ++ Z) := by rw [hbytes]; simp only [List.append_assoc]
  have hfit : (P ++ U).size + m.size + (V ++ Q).size ≤ 4096 := by
    obtain ⟨P', Q', X', Z', q1, q2, q3, q4, q5, _, q6, q7, _⟩ := applyT_ok hbk
    have hsz2 : (P ++ n ++ Q).size = (P' ++ p ++ Q').size := by show ByteArray.size _ = _; rw [← q2]
    simp only [ByteArray.size_append] at hsz2 ⊢ hbP
    omega
  have hmid := applyT_mid (P ++ U) p (V ++ Q) m (X ++ Y) (bytes pl) (W ++ Z) (bytes ml) (by rw [List.length_append, ByteArray.size_append]; omega) p3 (by rw [List.length_append, ByteArray.size_append]; omega) m3 (by simp only [ByteArray.size_append]; omega) hfit
  rw [← e2, ← e3, ← hbP, ← good_pack_bytes b1, ← good_pack_bytes b2] at hmid
  
  have hmid2 := applyT_mid P o Q (U ++ m ++ V) X (bytes ol) Z (Y ++ bytes ml ++ W) hX o3 hZ (by simp only [List.length_append, ByteArray.size_append]; omega) h1 (by simp only [ByteArray.size_append] at hfit ⊢; omega)
  rw [← good_pack_bytes a1] at hmid2
  have hp := pack_len (Y ++ bytes ml ++ W)
  simp only [List.length_append] at hp
  have hp2 := pack_len (X ++ (Y ++ bytes ml ++ W) ++ Z)
  simp only [List.length_append] at hp2
  simp only [ByteArray.size_append] at hfit
  refine Ev.step (fun k => by simp only [bureaulaw07_EditOnce.j1]; rfl) ?_
  refine Ev.neg (by simp) (Ev.bind (apply_ev _ _ hls _ _ _ _ _ hl (len_big (by show (pack _).length ≤ 20000; omega))) ?_)
  show Ev (fun k => if (applyT (P ++ o ++ Q) (pack (X ++ bytes ol ++ Z)) (P.size : Int) o ol (U ++ m ++ V) (pack (Y ++ bytes ml ++ W))).2.2 = 0 then _ else _) true
  rw [hmid2]
  refine Ev.pos rfl ?_
  show Ev (fun k => (bureauref04_Same.f k (applyT (P ++ n ++ Q) (pack (X ++ bytes nl ++ Z)) b p pl m ml).1 (applyT (P ++ n ++ Q) (pack (X ++ bytes nl ++ Z)) b p pl m ml).2.1 _ _).bind fun t844 => some t844) true
  rw [hmid]
  have e4 : (P ++ U) ++ m ++ (V ++ Q) = P ++ (U ++ m ++ V) ++ Q := by simp only [ByteArray.append_assoc]
  have e5 : (X ++ Y) ++ bytes ml ++ (W ++ Z) = X ++ (Y ++ bytes ml ++ W) ++ Z := by simp only [List.append_assoc]
  rw [e4, e5]
  exact Ev.bind (rsame4_ev _ _ _ _ (len_big (by show (pack _).length ≤ 20000; omega))) (ev_val (Ev.now _) (sameT_self _ _))
end Go.Proofs.Ythpjagblnddjaaa.PB
end

section
namespace Go.Proofs.Ythpjagblnddjaaa.PB
open Go.ChangeShapes Go.WideShapes Go.ChangeAt Go.RowKit Go.Proofs.YthpjagblnddjaaaW.PrintWords
open Go.ChangeMaps (open_string shut_string)
set_option linter.unusedVariables false
namespace editOnce
open Go.Proofs.Ythpjagblnddjaaa
theorem own : ownKnob Try.prog.godebug = none := by kernel_rfl
theorem laidOut : laidOutB Try.prog = true := by kernel_rfl
set_option maxRecDepth 100000 in
theorem lifted (os : Os) (started : os.Started) (H : Type) (enc : TypeId × Value → H) :
    ReturnsInHanded {} Try.checked os 19 .any (Rows.editOnceSpec.pre6 enc Try.prog Try.f19 Rows.editOnceRow.domain false) (Rows.editOnceSpec.post enc Try.prog Try.f19 false true false false) := by
  refine returnsInHanded_of_change_sized (C := Try.checked) own started (by kernel_rfl) Try.func19
    (ChangeSpec.witness6 (enc := enc) (C := Try.checked) false ⟨#[], #[.agg #[.string ByteArray.empty, .slice none 0 0], .agg #[.int .i64 0, .string ByteArray.empty, .slice none 0 0, .string ByteArray.empty, .slice none 0 0], .agg #[.int .i64 0, .string ByteArray.empty, .slice none 0 0, .string ByteArray.empty, .slice none 0 0]], []⟩ 8 (by kernel_rfl) (by kernel_rfl) (by kernel_rfl) (by kernel_rfl)) ?_
  intro W base args ds gs before hval0 hW hcnd hsz0 _
  have hsz : (DataW.weightsEach Try.prog (Try.f19.params.toList ++ Rows.editOnceSpec.plain.varTypes Try.prog) (ds ++ gs)).all (· ≤ reachBytes) = true := hsz0
  have hval : ∀ (j : Nat) t v, Try.f19.params[j]? = some t → args[j]? = some v → Value.okWide Try.prog W .any base t v := hval0
  have hW' := hW
  obtain ⟨p, q, hA0, hV, rfl, hfz, hnd⟩ := hW
  have hA : DataW.TrodAll enc Try.prog W 0 (fun _ => true) true Try.f19.params.toList args.toList ds p := hA0
  rw [Try.params19] at hA hval hsz
  obtain ⟨v0, vs0, d0, ds0, p0, q0, hargs, rfl, rfl, h0, r0⟩ := trodAll_cons hA
  obtain ⟨v1, vs1, d1, ds1, p1, q1, rfl, rfl, rfl, h1, r1⟩ := trodAll_cons r0
  obtain ⟨v2, vs2, d2, ds2, p2, q2, rfl, rfl, rfl, h2, r2⟩ := trodAll_cons r1
  obtain ⟨rfl, rfl, rfl⟩ := trodAll_nil r2
  obtain rfl : args = #[v0, v1, v2] := by cases args; simp_all
  obtain ⟨rfl, rfl⟩ := trodVars_none hV
  have hz0 : ∀ n ∈ d0.weights Try.prog 51, n ≤ reachBytes := fun n hn => by have z := List.all_eq_true.1 hsz n (DataW.weights_mem_each (j := 0) rfl rfl n hn); simpa using z
  have kk0 := h0
  have lt0 : ∀ x ∈ p0, x.block < W.heap.size := by obtain ⟨m, hm⟩ := kk0; exact DataW.trod_lt m _ _ _ hm
  obtain ⟨cs0, rfl, cz0⟩ := okWide_struct Try.underlying51 (hval 0 51 v0 rfl rfl)
  obtain ⟨x0, hK0, w0⟩ : ∃ x : S51, k51.K W x cs0.toList ∧ wf51 x := by
    obtain ⟨fuel, hf⟩ := h0
    exact opn51 H enc _ _ _ fuel _ _ hf hz0
  obtain ⟨A0_1, c0_1, hcs0, hc0_1, hr0_1⟩ := k51_open hK0
  obtain rfl : cs0 = #[.string x0.f0, .slice A0_1 x0.f1.length c0_1] := Array.toList_inj.1 hcs0
  have hz1 : ∀ n ∈ d1.weights Try.prog 64, n ≤ reachBytes := fun n hn => by have z := List.all_eq_true.1 hsz n (DataW.weights_mem_each (j := 1) rfl rfl n hn); simpa using z
  have kk1 := h1
  have lt1 : ∀ x ∈ p1, x.block < W.heap.size := by obtain ⟨m, hm⟩ := kk1; exact DataW.trod_lt m _ _ _ hm
  obtain ⟨cs1, rfl, cz1⟩ := okWide_struct Try.underlying64 (hval 1 64 v1 rfl rfl)
  obtain ⟨x1, hK1, w1⟩ : ∃ x : S64, k64.K W x cs1.toList ∧ wf64 x := by
    obtain ⟨fuel, hf⟩ := h1
    exact opn64 H enc _ _ _ fuel _ _ hf hz1
  obtain ⟨A1_2, c1_2, A1_4, c1_4, hcs1, hc1_2, hr1_2, hc1_4, hr1_4⟩ := k64_open hK1
  obtain rfl : cs1 = #[.int .i64 x1.f0, .string x1.f1.f0, .slice A1_2 x1.f1.f1.length c1_2, .string x1.f2.f0, .slice A1_4 x1.f2.f1.length c1_4] := Array.toList_inj.1 hcs1
  have hz2 : ∀ n ∈ d2.weights Try.prog 64, n ≤ reachBytes := fun n hn => by have z := List.all_eq_true.1 hsz n (DataW.weights_mem_each (j := 2) rfl rfl n hn); simpa using z
  have kk2 := h2
  have lt2 : ∀ x ∈ p2, x.block < W.heap.size := by obtain ⟨m, hm⟩ := kk2; exact DataW.trod_lt m _ _ _ hm
  obtain ⟨cs2, rfl, cz2⟩ := okWide_struct Try.underlying64 (hval 2 64 v2 rfl rfl)
  obtain ⟨x2, hK2, w2⟩ : ∃ x : S64, k64.K W x cs2.toList ∧ wf64 x := by
    obtain ⟨fuel, hf⟩ := h2
    exact opn64 H enc _ _ _ fuel _ _ hf hz2
  obtain ⟨A2_2, c2_2, A2_4, c2_4, hcs2, hc2_2, hr2_2, hc2_4, hr2_4⟩ := k64_open hK2
  obtain rfl : cs2 = #[.int .i64 x2.f0, .string x2.f1.f0, .slice A2_2 x2.f1.f1.length c2_2, .string x2.f2.f0, .slice A2_4 x2.f2.f1.length c2_4] := Array.toList_inj.1 hcs2
  clear hA0 hval0 hsz0 hsz
  obtain ⟨k, hk⟩ := EditOnce_pure x0 x1 x2 w0 w1 w2
  refine (bureaulaw07_EditOnce.calls k x0.f0 _ _ x0.f1 x1.f0 x1.f1.f0 _ _ x1.f1.f1 x1.f2.f0 _ _ x1.f2.f1 x2.f0 x2.f1.f0 _ _ x2.f1.f1 x2.f2.f0 _ _ x2.f2.f1 true W hr0_1 hc0_1 hr1_2 hc1_2 hr1_4 hc1_4 hr2_2 hc2_2 hr2_4 hc2_4 hk).mono fun e W' ⟨he, bel⟩ => ?_
  subst he
  exact ⟨_, rfl, _, _, _, [], _, [], hW', trodAll_mk1 (shut_bool Try.underlying4 _), (trodAll_cons_mk (Below.trod laidOut (by kernel_rfl) (of_decide_eq_true (by kernel_rfl)) kk0 bel lt0) (trodAll_cons_mk (Below.trod laidOut (by kernel_rfl) (of_decide_eq_true (by kernel_rfl)) kk1 bel lt1) (trodAll_cons_mk (Below.trod laidOut (by kernel_rfl) (of_decide_eq_true (by kernel_rfl)) kk2 bel lt2) trodAll_mk0))), rfl, bel.frame _, fun h => by cases h⟩
theorem over : Rows.editOnceRow.holds Try.pinned (OpenSpec.ofChange Rows.editOnceSpec) :=
  OpenClaim.holds_of_wide 19 Try.f19 rfl rfl rfl rfl rfl rfl rfl ⟨rfl, rfl, rfl, rfl, rfl⟩ rfl rfl rfl rfl rfl (by kernel_rfl) Try.func19 (by kernel_rfl)
    (of_decide_eq_true (by kernel_rfl)) (by unfold Func.isWrapper; first | (rw [if_pos (by decide +kernel)]; kernel_rfl) | (rw [if_neg (by decide +kernel)]; exact ⟨rfl, rfl⟩))
    (fun os started H enc _ => lifted os started H enc)
theorem proved : Rows.EditOnceSaid := over
end editOnce
end Go.Proofs.Ythpjagblnddjaaa.PB
namespace Go.Proofs.Ythpjagblnddjaaa
theorem editOnce_holds : Rows.EditOnceSaid := PB.editOnce.proved
#print axioms editOnce_holds
end Go.Proofs.Ythpjagblnddjaaa
end
