/- The row of a law out of its contract and its pure theorem. No condition. -/
import Derived.OpenShut
import Derived.ChangeArms
import Derived.Deep.Slices
import Derived.SizedLaws
import Derived.Test.YthpjagblnddjaaaRows
import Derived.ProofKit
import Derived.OpenShut
import Derived.ShutString
import Derived.ChangeOld
import Derived.SizedLaws
import Derived.Carry
import Derived.Test.YthpjagblnddjaaaQEditMakes6
section
namespace Go.Proofs.Ythpjagblnddjaaa.PB
open Go.RowKit Go.Proofs.YthpjagblnddjaaaW.PrintWords
set_option linter.unusedVariables false
instance : DecidableEq S100 := fun a b => decidable_of_iff (a.f0 = b.f0 ∧ a.f1 = b.f1) (by cases a; cases b; simp)
theorem rdT (l : List S100) (i : Nat) : rd_T100 l (i : Int) = l.getD i z100 := by unfold rd_T100; rw [Int.toNat_natCast]
theorem dropT {l : List S100} {i : Nat} (h : i < l.length) : l.drop i = l.getD i z100 :: l.drop (i + 1) := by
  rw [List.drop_eq_getElem_cons h, List.getD_eq_getElem?_getD, List.getElem?_eq_getElem h]; rfl
theorem dropI {l : List Int} {i : Nat} (h : i < l.length) : l.drop i = l.getD i 0 :: l.drop (i + 1) := by
  rw [List.drop_eq_getElem_cons h, List.getD_eq_getElem?_getD, List.getElem?_eq_getElem h]; rfl
theorem w1 {i n : Nat} (h : i < n) (hn : n ≤ 1000000000000000) : wrap64 ((i : Int) + 1) = ((i + 1 : Nat) : Int) := by unfold wrap64; omega
abbrev big : Nat := 1000000000000
theorem total_ev (l : List S100) (hl : l.length ≤ big) : Ev (fun k => runs_Total.f k l) (tot l) := by
  unfold big at hl
  have loop : ∀ (d i : Nat) (n : Int), i + d = l.length → 0 ≤ n → n ≤ 4096 → Ev (fun k => runs_Total.l0 k n l (l.length : Int) (i : Int)) (totF (l.drop i) n) := by
    intro d
    induction d with
    | zero =>
      intro i n hi h0 h1
      refine Ev.step (fun k => by simp only [runs_Total.l0]; rfl) ?_
      refine Ev.neg (by omega) ?_
      rw [List.drop_eq_nil_of_le (by omega)]
      exact Ev.now _
    | succ d ih =>
      intro i n hi h0 h1
      have hlt : i < l.length := by omega
      refine Ev.step (fun k => by simp only [runs_Total.l0]; rfl) ?_
      refine Ev.pos (by omega) (Ev.pos (by omega) (Ev.pos (by omega) ?_))
      rw [dropT hlt, rdT]
      simp only [totF]
      rw [show wrap64 (4096 - n) = 4096 - n by unfold wrap64; omega]
      refine Ev.ite (fun _ => Ev.now _) (fun hc => ?_)
      have hm : wrap64 (n + mx (l.getD i z100).f1 0) = n + (if (l.getD i z100).f1 < 0 then 0 else (l.getD i z100).f1) := by
        unfold mx wrap64
        split <;> omega
      rw [hm, w1 hlt (by omega)]
      exact ih (i + 1) _ (by omega) (by split <;> omega) (by split <;> omega)
  exact loop l.length 0 0 (by omega) (by omega) (by omega)
theorem rtotal_ev (l : List S100) (hl : l.length ≤ big) : Ev (fun k => bureauref03_Total.f k l) (tot l) := by
  unfold big at hl
  have loop : ∀ (d i : Nat) (n : Int), i + d = l.length → 0 ≤ n → n ≤ 4096 → Ev (fun k => bureauref03_Total.l0 k l n (i : Int)) (totF (l.drop i) n) := by
    intro d
    induction d with
    | zero =>
      intro i n hi h0 h1
      refine Ev.step (fun k => by simp only [bureauref03_Total.l0]; rfl) ?_
      refine Ev.neg (by omega) ?_
      rw [List.drop_eq_nil_of_le (by omega)]
      exact Ev.now _
    | succ d ih =>
      intro i n hi h0 h1
      have hlt : i < l.length := by omega
      refine Ev.step (fun k => by simp only [bureauref03_Total.l0]; rfl) ?_
      refine Ev.pos (by omega) (Ev.pos (by omega) ?_)
      rw [dropT hlt, rdT]
      simp only [totF]
      rw [show wrap64 (4096 - n) = 4096 - n by unfold wrap64; omega]
      refine Ev.ite (fun _ => Ev.now _) (fun hc => ?_)
      rw [w1 hlt (by omega)]
      by_cases hp : (l.getD i z100).f1 > 0
      · refine Ev.pos hp ?_
        rw [show wrap64 (n + (l.getD i z100).f1) = n + (if (l.getD i z100).f1 < 0 then 0 else (l.getD i z100).f1) by rw [if_neg (by omega)]; unfold wrap64; omega]
        exact ih (i + 1) _ (by omega) (by split <;> omega) (by split <;> omega)
      · refine Ev.neg hp ?_
        have : n = n + (if (l.getD i z100).f1 < 0 then 0 else (l.getD i z100).f1) := by split <;> omega
        rw [← this]
        exact ih (i + 1) _ (by omega) (by omega) (by omega)
  exact loop l.length 0 0 (by omega) (by omega) (by omega)
theorem same_ev (a b : List S100) (hl : a.length ≤ big) : Ev (fun k => bureauref03_Same.f k a b) (decide (a = b)) := by
  unfold big at hl
  unfold bureauref03_Same.f
  by_cases hab : a.length = b.length
  · refine Ev.pos (by omega) ?_
    have loop : ∀ (d i : Nat), i + d = a.length → Ev (fun k => bureauref03_Same.l0 k a b (i : Int)) (decide (a.drop i = b.drop i)) := by
      intro d
      induction d with
      | zero =>
        intro i hi
        refine Ev.step (fun k => by simp only [bureauref03_Same.l0]; rfl) ?_
        refine Ev.neg (by omega) ?_
        rw [List.drop_eq_nil_of_le (by omega), List.drop_eq_nil_of_le (by omega)]
        exact Ev.now _
      | succ d ih =>
        intro i hi
        have hlt : i < a.length := by omega
        refine Ev.step (fun k => by simp only [bureauref03_Same.l0]; rfl) ?_
        refine Ev.pos (by omega) (Ev.pos (by omega) (Ev.pos (by omega) ?_))
        rw [dropT hlt, dropT (show i < b.length by omega), rdT, rdT, w1 hlt (by omega)]
        by_cases he : a.getD i z100 = b.getD i z100
        · rw [he]
          refine Ev.neg (by simp) ?_
          exact ev_val (ih (i + 1) (by omega)) (by simp)
        · refine Ev.pos ?_ ?_
          · have : ¬ ((a.getD i z100).f0 = (b.getD i z100).f0 ∧ (a.getD i z100).f1 = (b.getD i z100).f1) := fun h => he (by
              cases hx : a.getD i z100; cases hy : b.getD i z100; rw [hx, hy] at h; simp at h; rw [h.1, h.2])
            simp only [Bool.or_eq_true, Bool.not_eq_true', beq_eq_false_iff_ne]
            by_cases h1 : (a.getD i z100).f0 = (b.getD i z100).f0
            · exact .inr (fun h2 => this ⟨h1, h2⟩)
            · exact .inl h1
          · exact ev_val (Ev.now _) (by simp; intro h; exact absurd h he)
    exact loop a.length 0 (by omega)
  · refine Ev.neg (by omega) ?_
    exact ev_val (Ev.now _) (by simp; intro h; exact hab (by rw [h]))
theorem pack_ev (b : List Int) (hb : b.length ≤ 1000000000000) : Ev (fun k => bureauref03_Pack.f k b) (pack b) := by
  have loop : ∀ (d i : Nat) (acc : List S100), i + d = b.length → acc.length ≤ i → (∀ r ∈ acc, r.f1 ≤ i) → (∀ r ∈ acc, 0 ≤ r.f1) → Ev (fun k => bureauref03_Pack.l0 k b acc (i : Int)) (packTo acc (b.drop i)) := by
    intro d
    induction d with
    | zero =>
      intro i acc hi _ _ _
      refine Ev.step (fun k => by simp only [bureauref03_Pack.l0]; rfl) ?_
      refine Ev.neg (by omega) ?_
      rw [List.drop_eq_nil_of_le (by omega)]
      exact Ev.now _
    | succ d ih =>
      intro i acc hi ha hc h0
      have hlt : i < b.length := by omega
      have hstep : step1 acc (b.getD i 0) = step1 acc (b.getD i 0) := rfl
      refine Ev.step (fun k => by simp only [bureauref03_Pack.l0]; rfl) ?_
      refine Ev.pos (by omega) ?_
      have hrd : rd b (i : Int) = b.getD i 0 := by unfold rd; rw [Int.toNat_natCast]
      rw [hrd, dropI hlt, w1 hlt (by omega)]
      have happ : ∀ x : Int, Ev (fun k => if acc.length < 8796093022208 then bureauref03_Pack.l0 k b (acc ++ [(⟨x, 1⟩ : S100)]) ((i + 1 : Nat) : Int) else none) (packTo (acc ++ [⟨x, 1⟩]) (b.drop (i + 1))) := fun x => by
        refine Ev.pos (by omega) (ih (i + 1) _ (by omega) (by simp; omega) ?_ ?_)
        · intro r hr
          rcases List.mem_append.1 hr with hr | hr
          · have := hc r hr; omega
          · obtain rfl := List.mem_singleton.1 hr; show (1 : Int) ≤ ((i + 1 : Nat) : Int); omega
        · intro r hr
          rcases List.mem_append.1 hr with hr | hr
          · exact h0 r hr
          · obtain rfl := List.mem_singleton.1 hr; show (0 : Int) ≤ 1; omega
      show Ev _ (packTo (step1 acc (b.getD i 0)) (b.drop (i + 1)))
      rcases snoc_cases acc with rfl | ⟨pre, q, rfl⟩
      · refine Ev.neg (by simp) (Ev.pos (by omega) ?_)
        rw [step1_nil]
        exact happ _
      · have hlen : (pre ++ [q]).length = pre.length + 1 := by simp
        have hidx : wrap64 (((pre ++ [q]).length : Int) - 1) = ((pre.length : Nat) : Int) := by rw [hlen]; unfold wrap64; omega
        have hget : rd_T100 (pre ++ [q]) ((pre.length : Nat) : Int) = q := by rw [rdT]; simp [List.getD_eq_getElem?_getD]
        refine Ev.pos (by omega) ?_
        rw [hidx, hget]
        refine Ev.pos (by omega) (Ev.pos (by omega) (Ev.pos (by omega) ?_))
        by_cases he : q.f0 = b.getD i 0
        · refine Ev.pos he ?_
          rw [← he, step1_same]
          have hq := hc q (by simp)
          have hq0 := h0 q (by simp)
          rw [Int.toNat_natCast, show (pre ++ [q]).set pre.length (⟨q.f0, wrap64 (q.f1 + 1)⟩ : S100) = pre ++ [⟨q.f0, q.f1 + 1⟩] by
            rw [show wrap64 (q.f1 + 1) = q.f1 + 1 by unfold wrap64; omega]; simp]
          refine ih (i + 1) _ (by omega) (by simp at ha ⊢; omega) ?_ ?_
          · intro r hr
            rcases List.mem_append.1 hr with hr | hr
            · have := hc r (List.mem_append_left _ hr); omega
            · obtain rfl := List.mem_singleton.1 hr; show q.f1 + 1 ≤ ((i + 1 : Nat) : Int); omega
          · intro r hr
            rcases List.mem_append.1 hr with hr | hr
            · exact h0 r (List.mem_append_left _ hr)
            · obtain rfl := List.mem_singleton.1 hr; show 0 ≤ q.f1 + 1; omega
        · refine Ev.neg he ?_
          rw [step1_other _ _ _ he]
          exact happ _
  exact loop b.length 0 [] (by omega) (by simp) (by intro r hr; cases hr) (by intro r hr; cases hr)
theorem bytes_ev (l : List S100) (hl : l.length ≤ big) (hb : (bytes l).length ≤ 1000000000000) : Ev (fun k => bureauref03_Bytes.f k l) (bytes l) := by
  unfold big at hl
  have loop : ∀ (d i : Nat) (acc : List Int), i + d = l.length → acc.length + (bytes (l.drop i)).length ≤ 1000000000000 → Ev (fun k => bureauref03_Bytes.l0 k l acc (i : Int)) (acc ++ bytes (l.drop i)) := by
    intro d
    induction d with
    | zero =>
      intro i acc hi _
      refine Ev.step (fun k => by simp only [bureauref03_Bytes.l0]; rfl) ?_
      refine Ev.neg (by omega) ?_
      rw [List.drop_eq_nil_of_le (by omega)]
      exact ev_val (Ev.now _) (by simp [bytes])
    | succ d ih =>
      intro i acc hi hlen
      have hlt : i < l.length := by omega
      rw [dropT hlt, bytes_cons] at hlen ⊢
      rw [List.length_append, List.length_replicate] at hlen
      refine Ev.step (fun k => by simp only [bureauref03_Bytes.l0]; rfl) ?_
      refine Ev.pos (by omega) ?_
      have inner : ∀ (e j : Nat) (acc' : List Int), j + e = (l.getD i z100).f1.toNat → acc' = acc ++ List.replicate j (l.getD i z100).f0 → Ev (fun k => bureauref03_Bytes.l1 k l acc' (i : Int) (j : Int)) (acc ++ (List.replicate (l.getD i z100).f1.toNat (l.getD i z100).f0 ++ bytes (l.drop (i + 1)))) := by
        intro e
        induction e with
        | zero =>
          intro j acc' hj ha
          refine Ev.step (fun k => by simp only [bureauref03_Bytes.l1]; rfl) ?_
          refine Ev.pos (by omega) (Ev.pos (by omega) ?_)
          rw [rdT, w1 hlt (by omega)]
          refine Ev.neg (by omega) ?_
          have := ih (i + 1) acc' (by omega) (by rw [ha, List.length_append, List.length_replicate]; omega)
          refine ev_val this ?_
          rw [ha, List.append_assoc]
          rw [Nat.add_zero] at hj
          rw [hj]
        | succ e ihe =>
          intro j acc' hj ha
          refine Ev.step (fun k => by simp only [bureauref03_Bytes.l1]; rfl) ?_
          refine Ev.pos (by omega) (Ev.pos (by omega) ?_)
          rw [rdT]
          refine Ev.pos (by omega) (Ev.pos (by have hz := congrArg List.length ha; rw [List.length_append, List.length_replicate] at hz; omega) ?_)
          rw [show wrap64 ((j : Int) + 1) = ((j + 1 : Nat) : Int) by unfold wrap64; omega]
          exact ihe (j + 1) _ (by omega) (by rw [ha, List.replicate_succ', List.append_assoc])
      exact inner (l.getD i z100).f1.toNat 0 acc (by omega) (by simp)
  exact ev_val (loop l.length 0 [] (by omega) (by simpa using hb)) (by simp)
theorem good_ev (l : List S100) (hl : l.length ≤ big) : Ev (fun k => runs_Good.f k l) (good l) := by
  have ht := total_ev l hl
  unfold big at hl
  have loop : ∀ (d i : Nat), i + d = l.length → ∀ b : Bool, (b = true ↔ ((0 < i → i < l.length → (l.getD (i - 1) z100).f0 ≠ (l.getD i z100).f0) ∧ nrm (l.drop i) ∧ tot l ≤ 4096)) → Ev (fun k => runs_Good.l0 k l l (l.length : Int) (i : Int)) b := by
    intro d
    induction d with
    | zero =>
      intro i hi b hb
      refine Ev.step (fun k => by simp only [runs_Good.l0]; rfl) ?_
      refine Ev.neg (by omega) ?_
      rw [List.drop_eq_nil_of_le (by omega)] at hb
      refine Ev.bind ht (ev_val (Ev.now _) ?_)
      rw [Bool.eq_iff_iff, hb, decide_eq_true_iff]
      exact ⟨fun h => ⟨fun _ h2 => absurd h2 (by omega), trivial, h⟩, fun h => h.2.2⟩
    | succ d ih =>
      intro i hi b hb
      have hlt : i < l.length := by omega
      have hn : nrm (l.drop i) ↔ 1 ≤ (l.getD i z100).f1 ∧ (i + 1 < l.length → (l.getD i z100).f0 ≠ (l.getD (i + 1) z100).f0) ∧ nrm (l.drop (i + 1)) := by
        rw [dropT hlt]
        by_cases h2 : i + 1 < l.length
        · rw [dropT h2]
          exact ⟨fun h => ⟨h.1, fun _ => h.2.1, h.2.2⟩, fun h => ⟨h.1, h.2.1 h2, h.2.2⟩⟩
        · rw [List.drop_eq_nil_of_le (show l.length ≤ i + 1 by omega)]
          exact ⟨fun h => ⟨h, fun h3 => absurd h3 h2, trivial⟩, fun h => h.1⟩
      refine Ev.step (fun k => by simp only [runs_Good.l0]; rfl) ?_
      refine Ev.pos (by omega) (Ev.pos (by omega) (Ev.pos (by omega) ?_))
      rw [rdT, w1 hlt (by omega)]
      by_cases h1 : (l.getD i z100).f1 < 1
      · refine Ev.pos h1 (ev_val (Ev.now _) ?_)
        rw [Bool.eq_iff_iff, hb, hn]
        exact ⟨fun h => (by cases h), fun h => (by have := h.2.1.1; omega)⟩
      · refine Ev.neg h1 ?_
        have hrest : ∀ b' : Bool, (b' = true ↔ (nrm (l.drop i) ∧ tot l ≤ 4096)) → Ev (fun k => runs_Good.l0 k l l (l.length : Int) ((i + 1 : Nat) : Int)) b' := fun b' hb' => ih (i + 1) (by omega) b' (by
          rw [hb', hn, show i + 1 - 1 = i by omega]
          exact ⟨fun h => ⟨fun _ => h.1.2.1, h.1.2.2, h.2⟩, fun h => ⟨⟨by omega, h.1 (by omega), h.2.1⟩, h.2.2⟩⟩)
        by_cases h0 : 0 < i
        · refine Ev.pos (by omega) ?_
          rw [show wrap64 ((i : Int) - 1) = ((i - 1 : Nat) : Int) by unfold wrap64; omega]
          refine Ev.pos (by omega) (Ev.pos (by omega) ?_)
          rw [rdT]
          by_cases he : (l.getD (i - 1) z100).f0 = (l.getD i z100).f0
          · refine Ev.pos he (ev_val (Ev.now _) ?_)
            rw [Bool.eq_iff_iff, hb]
            exact ⟨fun h => (by cases h), fun h => absurd he (h.1 h0 hlt)⟩
          · refine Ev.neg he (hrest b ?_)
            rw [hb]
            exact ⟨fun h => h.2, fun h => ⟨fun _ _ => he, h⟩⟩
        · refine Ev.neg (by omega) (hrest b ?_)
          rw [hb]
          exact ⟨fun h => h.2, fun h => ⟨fun h3 => absurd h3 h0, h⟩⟩
  refine loop l.length 0 (by omega) (good l) ?_
  simp [good]
theorem rgood_ev (l : List S100) (hl : l.length ≤ big) : Ev (fun k => bureauref03_Good.f k l) (good l) := by
  unfold bureauref03_Good.f
  refine Ev.bind (rtotal_ev l hl) ?_
  by_cases ht : tot l > 4096
  · exact Ev.pos ht (ev_val (Ev.now _) (by simp [good]; intro _; omega))
  · refine Ev.neg ht ?_
    have hb : (bytes l).length ≤ 4096 := by have := tot_bytes (l := l) (by omega); omega
    refine Ev.bind (bytes_ev l hl (by omega)) (Ev.bind (pack_ev _ (by omega)) (Ev.bind (same_ev _ _ hl) ?_))
    refine ev_val (Ev.now _) ?_
    rw [good, show decide (tot l ≤ 4096) = true by simp; omega, Bool.and_true]
    exact decide_eq_decide.2 nrm_iff.symm
end Go.Proofs.Ythpjagblnddjaaa.PB
end

section
namespace Go.Proofs.Ythpjagblnddjaaa.Opn
open Go.ChangeShapes Go.WideShapes Go.Deep Go.Proofs.YthpjagblnddjaaaW.PrintWords
set_option linter.unusedVariables false
def Opn {α : Type} (P : Program) (w : World) (t : TypeId) (d : Kd α) (wf : α → Prop) : Prop :=
  ∀ (H : Type) (enc : TypeId × Value → H) (base : Nat) (spare : Nat → Bool) (held : Bool) (fuel : Nat) (cs : List Value) (x : DataW H × List MemPlace),
    DataW.trod enc P w base spare held fuel t cs = some x → (∀ n ∈ x.1.weights P t, n ≤ reachBytes) → ∃ a : α, d.K w a cs ∧ wf a
section
variable {P : Program} {w : World}
theorem int {t : TypeId} {k : IntKind} (hu : P.underlying t = some (.int k)) : Opn P w t (Kd.int k) (fun n => (Lit.int k n).wf = true) := by
  intro H enc base spare held fuel cs x h _
  obtain ⟨n, rfl, _, hw⟩ := DataW.trod_int hu h
  exact ⟨n, rfl, hw⟩
theorem bool {t : TypeId} (hu : P.underlying t = some .bool) : Opn P w t Kd.bool (fun _ => True) := by
  intro H enc base spare held fuel cs x h _
  obtain ⟨b, rfl, _⟩ := DataW.trod_bool hu h
  exact ⟨b, rfl, trivial⟩
theorem string {t : TypeId} (hu : P.underlying t = some .string) : Opn P w t Kd.string (fun s => s.size ≤ 140737488351232) := by
  intro H enc base spare held fuel cs x h hz
  obtain ⟨s, rfl, rfl, _⟩ := DataW.trod_string hu h
  refine ⟨s, rfl, ?_⟩
  have := hz s.data.toList.length (by simp [DataW.weights])
  rw [data_length] at this
  exact this
theorem weightsAll_mem {H : Type} {e : TypeId} : ∀ {ds : List (DataW H)} {d : DataW H}, d ∈ ds → ∀ n ∈ d.weights P e, n ∈ DataW.weightsAll P e ds
  | d0 :: ds, d, hd, n, hn => by
    simp only [DataW.weightsAll, List.mem_append]
    rcases List.mem_cons.1 hd with rfl | hd
    · exact .inl hn
    · exact .inr (weightsAll_mem hd n hn)
theorem slice {α : Type} {t e : TypeId} {d : Kd α} {wf : α → Prop} (hu : P.underlying t = some (.slice e)) (hc : P.cellsOf e = d.sz) {B : Nat} (hB : P.bytesOf e = B) (ho : Opn P w e d wf) :
    Opn P w t (Kd.slice e d) (fun xs => xs.length * B ≤ 140737488351232 ∧ ∀ x ∈ xs, wf x) := by
  intro H enc base spare held fuel cs x h hz
  rcases open_slice hu h with ⟨rfl, rfl⟩ | ⟨a, len, cap, m, n, D, Pl, rfl, hb, hl, hm, hmm, rfl, hel⟩
  · exact ⟨[], ⟨none, 0, rfl, Nat.le_refl _, Kd.C_nil _ _⟩, by simp, by intro x hx; cases hx⟩
  · simp only [DataW.weights, hu, List.mem_cons, List.mem_append] at hz
    have hlm : len ≤ m := by rw [hmm]; split <;> omega
    have hall : ∀ i, i < len → ∃ a' : α, (∃ cs', w.cells? base (a.add (i * P.cellsOf e)) (P.cellsOf e) = some cs' ∧ d.K w a' cs') ∧ wf a' := fun i hi => by
      obtain ⟨cs', h1, h2⟩ := hel i (by omega)
      obtain ⟨a', h3, h4⟩ := ho H enc base spare held n cs' _ h2 (fun q hq => hz q (.inr (.inl (weightsAll_mem (List.mem_map.2 ⟨i, List.mem_range.2 hi, rfl⟩) q hq))))
      exact ⟨a', ⟨cs', h1, h3⟩, h4⟩
    obtain ⟨xs, hxs, hx⟩ : ∃ xs : List α, xs.length = len ∧ ∀ i, ∀ h : i < xs.length, (∃ cs', w.cells? base (a.add (i * P.cellsOf e)) (P.cellsOf e) = some cs' ∧ d.K w xs[i] cs') ∧ wf xs[i] := by
      clear hz hel hlm hmm hm hl h
      induction len with
      | zero => exact ⟨[], rfl, fun i h => absurd h (by simp)⟩
      | succ q ih =>
        obtain ⟨xs, h1, h2⟩ := ih (fun i hi => hall i (by omega))
        obtain ⟨a', h3⟩ := hall q (by omega)
        refine ⟨xs ++ [a'], by simp [h1], fun i h => ?_⟩
        by_cases hi : i < xs.length
        · rw [List.getElem_append_left hi]; exact h2 i hi
        · have : i = q := by simp at h; omega
          subst this
          rw [List.getElem_append_right (by omega)]
          simpa using h3
    refine ⟨xs, ⟨some a, cap, by rw [hxs], by omega, rfl, by have : cap ≤ 9223372036854775807 := hm; omega, fun hp => ⟨a, rfl, fun i p hp => ?_⟩⟩, ?_, ?_⟩
    · have hi : i < xs.length := (List.getElem?_eq_some_iff.1 hp).1
      have hpe : p = xs[i] := by rw [List.getElem?_eq_getElem hi] at hp; exact (Option.some.inj hp).symm
      obtain ⟨⟨cs', h1, h2⟩, _⟩ := hx i hi
      rw [hc] at h1
      obtain ⟨_, hcl, hat⟩ := World.cells?_some h1
      refine ⟨cs', by rw [hcl], by rw [hpe]; exact h2, fun j u hu => ?_⟩
      have hj : j < d.sz := by have := (List.getElem?_eq_some_iff.1 hu).1; omega
      have := hat j hj
      rw [← Go.Deep.add_add, this, hu]
    · have := hz _ (.inl rfl)
      rw [hB] at this
      simp only [List.length_map, List.length_range] at this
      rw [hxs]
      exact Nat.le_trans (Nat.mul_le_mul_right _ (by omega)) this
    · intro x hxm
      obtain ⟨i, hi, rfl⟩ := List.mem_iff_getElem.1 hxm
      exact (hx i hi).2
theorem ints_of {k : IntKind} {p : Int → Prop} : ∀ cs : List Value, (∀ i, i < cs.length → ∃ a, cs[i]? = some (.int k a) ∧ p a) → ∃ l : List Int, l.length = cs.length ∧ cs = l.map (fun a => Value.int k a) ∧ ∀ a ∈ l, p a
  | [], _ => ⟨[], rfl, rfl, fun a h => by cases h⟩
  | c :: cs, h => by
    obtain ⟨l, h1, h2, h3⟩ := ints_of cs (fun i hi => by have := h (i + 1) (by simp; omega); simpa using this)
    obtain ⟨a, h4, h5⟩ := h 0 (by simp)
    simp only [List.getElem?_cons_zero, Option.some.injEq] at h4
    refine ⟨a :: l, by simp [h1], by rw [h4, h2, List.map_cons], fun b hb => ?_⟩
    rcases List.mem_cons.1 hb with rfl | hb
    · exact h5
    · exact h3 b hb
theorem arrayI {t e : TypeId} {n : Nat} {k : IntKind} (hu : P.underlying t = some (.array n e)) (he : P.underlying e = some (.int k)) (hc : P.cellsOf t = n) (hce : P.cellsOf e = 1)
    {H : Type} {enc : TypeId × Value → H} {base : Nat} {spare : Nat → Bool} {held : Bool} {fuel : Nat} {cs : List Value} {x : DataW H × List MemPlace} (h : DataW.trod enc P w base spare held fuel t cs = some x) :
    ∃ l : List Int, l.length = n ∧ cs = l.map (fun a => Value.int k a) ∧ ∀ a ∈ l, (Lit.int k a).wf = true := by
  obtain ⟨xs, m, _, _, hlen, hxs, hf⟩ := DataW.trod_array hu h
  rw [hc] at hlen
  obtain ⟨l, h1, h2, h3⟩ := ints_of (k := k) (p := fun a => (Lit.int k a).wf = true) cs (fun i hi => by
    have := hf i (by omega)
    rw [hce, Nat.mul_one] at this
    obtain ⟨y, hy⟩ : ∃ y, xs[i]? = some y := ⟨xs[i]'(by omega), List.getElem?_eq_getElem (by omega)⟩
    rw [hy] at this
    obtain ⟨a, h4, _, h5⟩ := DataW.trod_int he this
    refine ⟨a, ?_, h5⟩
    have h6 := congrArg (fun l => l[0]?) h4
    simpa using h6)
  exact ⟨l, by omega, h2, h3⟩
theorem okWide_array {t : TypeId} {n : Nat} {e : TypeId} {r : Reach} {base : Nat} {v : Value} (ht : P.underlying t = some (.array n e)) (h : Value.okWide P w r base t v) : ∃ cs, v = .agg cs ∧ cs.size = P.cellsOf t := by
  simp only [Value.okWide, ht] at h
  obtain ⟨cs, h1, h2, _⟩ := h
  exact ⟨cs, h1, h2⟩
end
end Go.Proofs.Ythpjagblnddjaaa.Opn
end

section
namespace Go.Proofs.Ythpjagblnddjaaa.PB
open Go.ChangeShapes Go.WideShapes Go.Proofs.Ythpjagblnddjaaa Go.Proofs.YthpjagblnddjaaaW.PrintWords
set_option linter.unusedVariables false
def wf100 (x : S100) : Prop := ((Lit.int .u64 x.f0).wf = true) ∧ ((Lit.int .i64 x.f1).wf = true)
theorem opn100 {w : World} : Opn.Opn Try.prog w 100 k100 wf100 := by
  intro H enc base spare held fuel cs x h hz
  obtain ⟨xs, n, _, rfl, hlen, hyl, hf⟩ := DataW.trod_struct Try.underlying100 h
  have hcl : cs.length = 2 := hlen.trans (by kernel_rfl)
  obtain ⟨y0, y1, rfl⟩ : ∃ y0 y1, xs = [y0, y1] := by
    clear h hz hf hlen hcl; have hyl' : xs.length = 2 := hyl; clear hyl
    match xs, hyl' with | [y0, y1], _ => exact ⟨y0, y1, rfl⟩
  obtain ⟨c0, c1, rfl⟩ : ∃ c0 c1, cs = [c0, c1] := by
    clear h hz hf hlen hyl
    match cs, hcl with | [c0, c1], _ => exact ⟨c0, c1, rfl⟩
  simp only [DataW.weights, Try.underlying100] at hz
  have h0 : DataW.trod enc Try.prog w base spare held n 36 [c0] = some y0 := by have z := hf 0 _ rfl; rwa [show Try.prog.cellsOf _ = 1 from by kernel_rfl] at z
  obtain ⟨a0, k0_, w0⟩ := (Opn.int Try.underlying36) H enc base spare held n _ _ h0 (fun q hq => hz q (by simp [DataW.weightsEach, hq]))
  have h1 : DataW.trod enc Try.prog w base spare held n 3 [c1] = some y1 := by have z := hf 1 _ rfl; rwa [show Try.prog.cellsOf _ = 1 from by kernel_rfl] at z
  obtain ⟨a1, k1_, w1⟩ := (Opn.int Try.underlying3) H enc base spare held n _ _ h1 (fun q hq => hz q (by simp [DataW.weightsEach, hq]))
  exact ⟨⟨a0, a1⟩, ⟨_, _, rfl, k0_, k1_⟩, w0, w1⟩
def wf51 (x : S51) : Prop := (x.f0.size ≤ 140737488351232) ∧ (x.f1.length * 16 ≤ 140737488351232 ∧ ∀ x_ ∈ x.f1, wf100 x_)
theorem opn51 {w : World} : Opn.Opn Try.prog w 51 k51 wf51 := by
  intro H enc base spare held fuel cs x h hz
  obtain ⟨xs, n, _, rfl, hlen, hyl, hf⟩ := DataW.trod_struct Try.underlying51 h
  have hcl : cs.length = 2 := hlen.trans (by kernel_rfl)
  obtain ⟨y0, y1, rfl⟩ : ∃ y0 y1, xs = [y0, y1] := by
    clear h hz hf hlen hcl; have hyl' : xs.length = 2 := hyl; clear hyl
    match xs, hyl' with | [y0, y1], _ => exact ⟨y0, y1, rfl⟩
  obtain ⟨c0, c1, rfl⟩ : ∃ c0 c1, cs = [c0, c1] := by
    clear h hz hf hlen hyl
    match cs, hcl with | [c0, c1], _ => exact ⟨c0, c1, rfl⟩
  simp only [DataW.weights, Try.underlying51] at hz
  have h0 : DataW.trod enc Try.prog w base spare held n 9 [c0] = some y0 := by have z := hf 0 _ rfl; rwa [show Try.prog.cellsOf _ = 1 from by kernel_rfl] at z
  obtain ⟨a0, k0_, w0⟩ := (Opn.string Try.underlying9) H enc base spare held n _ _ h0 (fun q hq => hz q (by simp [DataW.weightsEach, hq]))
  have h1 : DataW.trod enc Try.prog w base spare held n 22 [c1] = some y1 := by have z := hf 1 _ rfl; rwa [show Try.prog.cellsOf _ = 1 from by kernel_rfl] at z
  obtain ⟨a1, k1_, w1⟩ := (Opn.slice Try.underlying22 (by kernel_rfl) (by kernel_rfl : Try.prog.bytesOf 100 = 16) opn100) H enc base spare held n _ _ h1 (fun q hq => hz q (by simp [DataW.weightsEach, hq]))
  exact ⟨⟨a0, a1⟩, ⟨_, _, rfl, k0_, k1_⟩, w0, w1⟩
structure S64 where
  f0 : Int
  f1 : S51
  f2 : S51
structure S77 where
  f0 : S51
  f1 : S51
  f2 : ByteArray
  f3 : Int
  f4 : Int
  f5 : Int
end Go.Proofs.Ythpjagblnddjaaa.PB
end

section
namespace Go.Proofs.Ythpjagblnddjaaa.PB
open Go.RowKit Go.Proofs.YthpjagblnddjaaaW.PrintWords
set_option linter.unusedVariables false
theorem capped_nil : capped 0 [] := fun r hr => by cases hr
theorem gather0 (a b : Nat) (l : List S100) (h0 : ∀ r ∈ l, 0 ≤ r.f1) (hl : (bytes l).length ≤ 500000) (ha : a ≤ 500000) (hb : b ≤ 500000) :
    someTo addRun (a : Int) (b : Int) l 0 [] = pack (((bytes l).take b).drop a) := by
  have := someTo_pack a b l 0 [] 0 h0 capped_nil (by omega) (by omega) (by omega) (by omega) (by omega)
  simpa [pack] using this
theorem good_nrm {l : List S100} (h : good l = true) : nrm l ∧ tot l ≤ 4096 := by
  unfold good at h
  simpa using h
theorem nrm_nonneg {l : List S100} (h : nrm l) : ∀ r ∈ l, 0 ≤ r.f1 := fun r hr => by have := nrm_pos h r hr; omega
theorem step1_len (acc : List S100) (x : Int) : (step1 acc x).length ≤ acc.length + 1 := by
  unfold step1
  split
  · simp
  · simp
theorem packTo_len (b : List Int) : ∀ acc : List S100, (packTo acc b).length ≤ acc.length + b.length := by
  induction b with
  | nil => intro acc; simp [packTo]
  | cons x b ih => intro acc; have h1 := ih (step1 acc x); have h2 := step1_len acc x; show (packTo (step1 acc x) b).length ≤ _; rw [List.length_cons]; omega
theorem pack_len (b : List Int) : (pack b).length ≤ b.length := by have := packTo_len b []; simpa [pack] using this
end Go.Proofs.Ythpjagblnddjaaa.PB
end

section
namespace Go.Proofs.Ythpjagblnddjaaa.PB
open Go.RowKit Go.Proofs.YthpjagblnddjaaaW.PrintWords
set_option linter.unusedVariables false
def withinB (l : List S100) (a b : Int) : Bool := good l && (decide (0 ≤ a) && (decide (a ≤ b) && decide (b ≤ tot l)))
theorem withinB_iff {l : List S100} {a b : Int} : withinB l a b = true ↔ good l = true ∧ 0 ≤ a ∧ a ≤ b ∧ b ≤ tot l := by simp [withinB]
theorem within_ev (l : List S100) (hl : l.length ≤ big) (a b : Int) : Ev (fun k => runs_within.f k l a b) (withinB l a b) := by
  unfold runs_within.f
  refine Ev.bind (good_ev l hl) ?_
  by_cases hg : good l = true
  · refine Ev.pos hg ?_
    by_cases h0 : a ≥ 0
    · refine Ev.pos h0 ?_
      by_cases h1 : a ≤ b
      · refine Ev.pos h1 (Ev.bind (total_ev l hl) (ev_val (Ev.now _) ?_))
        simp [withinB, hg, h1, show 0 ≤ a from h0]
      · exact Ev.neg h1 (ev_val (Ev.now _) (by simp [withinB, h1]))
    · exact Ev.neg h0 (ev_val (Ev.now _) (by simp [withinB]; intro _ h; omega))
  · exact Ev.neg hg (ev_val (Ev.now _) (by simp [withinB, hg]))
theorem within_facts {l : List S100} {a b : Int} (h : withinB l a b = true) : ∃ i j : Nat, a = i ∧ b = j ∧ i ≤ j ∧ j ≤ (bytes l).length ∧ (bytes l).length ≤ 4096 ∧ nrm l ∧ tot l = (bytes l).length := by
  obtain ⟨hg, h0, h1, h2⟩ := withinB_iff.1 h
  obtain ⟨hn, ht⟩ := good_nrm hg
  have hb := tot_bytes ht
  obtain ⟨i, rfl⟩ := Int.eq_ofNat_of_zero_le h0
  obtain ⟨j, rfl⟩ := Int.eq_ofNat_of_zero_le (show 0 ≤ b by omega)
  exact ⟨i, j, rfl, rfl, by omega, by omega, by omega, hn, hb⟩
def sliceS (l : List S100) (a b : Int) : List S100 × Int := if withinB l a b = true then (pack (((bytes l).take b.toNat).drop a.toNat), 0) else ([], 2)
theorem slice_ev (l : List S100) (hl : l.length ≤ big) (a b : Int) : Ev (fun k => runs_Slice.f k l a b) (sliceS l a b) := by
  unfold runs_Slice.f sliceS
  refine Ev.bind (within_ev l hl a b) ?_
  refine Ev.ite (fun hw => ?_) (fun _ => Ev.now _)
  obtain ⟨i, j, rfl, rfl, hij, hj, h4, hn, _⟩ := within_facts hw
  unfold big at hl
  refine Ev.pos (by omega) (ev_val (Ev.now _) ?_)
  rw [gather0 i j l (nrm_nonneg hn) (by omega) (by omega) (by omega)]
  rfl
def spliceS (l : List S100) (a b : Int) (m : List S100) : List S100 × Int :=
  if withinB l a b = true then (if good m = true then (if tot l - (b - a) + tot m > 4096 then ([], 3) else (pack ((bytes l).take a.toNat ++ bytes m ++ (bytes l).drop b.toNat), 0)) else ([], 2)) else ([], 2)
theorem good_facts {m : List S100} (h : good m = true) : nrm m ∧ (bytes m).length ≤ 4096 ∧ tot m = (bytes m).length := by
  obtain ⟨hn, ht⟩ := good_nrm h
  have hb := tot_bytes ht
  exact ⟨hn, by omega, hb⟩
theorem spliceRuns_pack (l m : List S100) (i j : Nat) (hi : i ≤ 4096) (hj : j ≤ 4096) (hl : (bytes l).length ≤ 4096) (hm : (bytes m).length ≤ 4096) (hn : nrm l) (hnm : nrm m) :
    spliceRuns l i j m = pack ((bytes l).take i ++ bytes m ++ (bytes l).drop j) := by
  unfold spliceRuns
  have e1 := someTo_pack 0 i l 0 [] 0 (nrm_nonneg hn) capped_nil (by omega) (by omega) (by omega) (by omega) (by omega)
  rw [show ((0 : Nat) : Int) = 0 from rfl, Nat.sub_zero, Nat.sub_zero, List.drop_zero] at e1
  rw [e1]
  have c1 := packTo_capped ((bytes l).take i) (capped_nil) (show (0 : Int) ≤ 0 by omega)
  have hlen1 : ((bytes l).take i).length ≤ 4096 := by rw [List.length_take]; omega
  have e2 := someTo_pack 0 4096 m 0 _ _ (nrm_nonneg hnm) c1 (by omega) (by omega) (by omega) (by omega) (by omega)
  rw [show ((0 : Nat) : Int) = 0 from rfl, show ((4096 : Nat) : Int) = 4096 from rfl, Nat.sub_zero, Nat.sub_zero, List.drop_zero, List.take_of_length_le hm] at e2
  rw [e2]
  have c2 := packTo_capped (bytes m) c1 (by omega)
  have e3 := someTo_pack j 4096 l 0 _ _ (nrm_nonneg hn) c2 (by omega) (by omega) (by omega) (by omega) (by omega)
  rw [show ((0 : Nat) : Int) = 0 from rfl, show ((4096 : Nat) : Int) = 4096 from rfl, Nat.sub_zero, Nat.sub_zero, List.take_of_length_le hl] at e3
  rw [e3]
  unfold pack
  rw [packTo_append, packTo_append]
theorem splice_ev (l : List S100) (hl : l.length ≤ big) (a b : Int) (m : List S100) (hm : m.length ≤ big) : Ev (fun k => runs_Splice.f k l a b m) (spliceS l a b m) := by
  unfold runs_Splice.f spliceS
  refine Ev.bind (within_ev l hl a b) ?_
  refine Ev.ite (fun hw => ?_) (fun _ => Ev.now _)
  refine Ev.bind (good_ev m hm) ?_
  refine Ev.ite (fun hg => ?_) (fun _ => Ev.now _)
  refine Ev.bind (total_ev l hl) (Ev.bind (total_ev m hm) ?_)
  obtain ⟨i, j, rfl, rfl, hij, hj, h4, hn, ht⟩ := within_facts hw
  obtain ⟨hnm, h4m, htm⟩ := good_facts hg
  rw [show wrap64 (wrap64 (tot l - wrap64 ((j : Int) - (i : Int))) + tot m) = tot l - ((j : Int) - (i : Int)) + tot m by unfold wrap64; omega]
  refine Ev.ite (fun _ => Ev.now _) (fun _ => ?_)
  unfold big at hl hm
  refine Ev.pos (by omega) (ev_val (Ev.now _) ?_)
  rw [spliceRuns_pack l m i j (by omega) (by omega) h4 h4m hn hnm]
  rfl
end Go.Proofs.Ythpjagblnddjaaa.PB
end

section
namespace Go.Proofs.Ythpjagblnddjaaa.PB
open Go.RowKit Go.Proofs.YthpjagblnddjaaaW.PrintWords
set_option linter.unusedVariables false
def goodT (s : ByteArray) (l : List S100) : Bool := good l && decide (tot l = (s.size : Int))
theorem goodT_iff {s : ByteArray} {l : List S100} : goodT s l = true ↔ good l = true ∧ tot l = (s.size : Int) := by simp [goodT]
theorem goodT_facts {s : ByteArray} {l : List S100} (h : goodT s l = true) : good l = true ∧ nrm l ∧ (bytes l).length = s.size ∧ s.size ≤ 4096 ∧ tot l = (s.size : Int) := by
  obtain ⟨h1, h2⟩ := goodT_iff.1 h
  obtain ⟨h3, h4, h5⟩ := good_facts h1
  exact ⟨h1, h3, by omega, by omega, h2⟩
theorem goodT_ev (s : ByteArray) (l : List S100) (hl : l.length ≤ big) : Ev (fun k => strip_Good.f k s l) (goodT s l) := by
  unfold strip_Good.f
  refine Ev.bind (good_ev l hl) ?_
  by_cases hg : good l = true
  · rw [hg]
    exact Ev.pos rfl (Ev.bind (total_ev l hl) (ev_val (Ev.now _) (by rw [Bool.eq_iff_iff]; simp [goodT, hg])))
  · exact Ev.neg hg (ev_val (Ev.now _) (by simp [goodT, hg]))
theorem rgoodT_ev (s : ByteArray) (l : List S100) (hl : l.length ≤ big) : Ev (fun k => bureauref04_Good.f k s l) (goodT s l) := by
  unfold bureauref04_Good.f
  refine Ev.bind (rgood_ev l hl) ?_
  by_cases hg : good l = true
  · rw [hg]
    exact Ev.pos rfl (Ev.bind (rtotal_ev l hl) (ev_val (Ev.now _) (by rw [Bool.eq_iff_iff]; simp [goodT, hg])))
  · exact Ev.neg hg (ev_val (Ev.now _) (by simp [goodT, hg]))
def withinT (s : ByteArray) (l : List S100) (a b : Int) : Bool := goodT s l && (decide (0 ≤ a) && (decide (a ≤ b) && decide (b ≤ (s.size : Int))))
theorem withinT_iff {s : ByteArray} {l : List S100} {a b : Int} : withinT s l a b = true ↔ goodT s l = true ∧ 0 ≤ a ∧ a ≤ b ∧ b ≤ (s.size : Int) := by simp [withinT]
theorem withinT_ev (s : ByteArray) (l : List S100) (hl : l.length ≤ big) (a b : Int) : Ev (fun k => strip_within.f k s l a b) (withinT s l a b) := by
  unfold strip_within.f
  refine Ev.bind (goodT_ev s l hl) ?_
  by_cases hg : goodT s l = true
  · refine Ev.pos hg ?_
    by_cases h0 : 0 ≤ a
    · refine Ev.pos h0 ?_
      by_cases h1 : a ≤ b
      · exact Ev.pos h1 (ev_val (Ev.now _) (by simp [withinT, hg, h0, h1]))
      · exact Ev.neg h1 (ev_val (Ev.now _) (by simp [withinT, h1]))
    · exact Ev.neg h0 (ev_val (Ev.now _) (by simp [withinT, h0]))
  · exact Ev.neg hg (ev_val (Ev.now _) (by simp [withinT, hg]))
theorem rwithinT_ev (s : ByteArray) (l : List S100) (hl : l.length ≤ big) (a b : Int) : Ev (fun k => bureauref04_Within.f k s l a b) (withinT s l a b) := by
  unfold bureauref04_Within.f
  refine Ev.bind (rgoodT_ev s l hl) ?_
  by_cases hg : goodT s l = true
  · refine Ev.pos hg ?_
    by_cases h0 : 0 ≤ a
    · refine Ev.pos h0 ?_
      by_cases h1 : a ≤ b
      · exact Ev.pos h1 (ev_val (Ev.now _) (by simp [withinT, hg, h0, h1]))
      · exact Ev.neg h1 (ev_val (Ev.now _) (by simp [withinT, h1]))
    · exact Ev.neg h0 (ev_val (Ev.now _) (by simp [withinT, h0]))
  · exact Ev.neg hg (ev_val (Ev.now _) (by simp [withinT, hg]))
theorem withinT_facts {s : ByteArray} {l : List S100} {a b : Int} (h : withinT s l a b = true) : ∃ i j : Nat, a = i ∧ b = j ∧ i ≤ j ∧ j ≤ s.size ∧ goodT s l = true ∧ withinB l a b = true := by
  obtain ⟨h1, h2, h3, h4⟩ := withinT_iff.1 h
  obtain ⟨g1, g2, g3, g4, g5⟩ := goodT_facts h1
  obtain ⟨i, rfl⟩ := Int.eq_ofNat_of_zero_le h2
  obtain ⟨j, rfl⟩ := Int.eq_ofNat_of_zero_le (show 0 ≤ b by omega)
  exact ⟨i, j, rfl, rfl, by omega, by omega, h1, withinB_iff.2 ⟨g1, by omega, by omega, by omega⟩⟩
abbrev TX := ByteArray × List S100 × Int
def sameT (s : ByteArray) (l : List S100) (t : ByteArray) (m : List S100) : Bool := if s.toList = t.toList then decide (l = m) else false
theorem sameT_self (s : ByteArray) (l : List S100) : sameT s l s l = true := by simp [sameT]
theorem rsame4_ev (s : ByteArray) (l : List S100) (t : ByteArray) (m : List S100) (hl : l.length ≤ big) : Ev (fun k => bureauref04_Same.f k s l t m) (sameT s l t m) := by
  unfold bureauref04_Same.f sameT
  exact Ev.ite (fun _ => Ev.bind (same_ev l m hl) (Ev.now _)) (fun _ => Ev.now _)
def cutS (s : ByteArray) (l : List S100) (a b : Int) : TX := if withinT s l a b = true then (s.extract a.toNat b.toNat, pack (((bytes l).take b.toNat).drop a.toNat), 0) else (⟨#[]⟩, [], 2)
theorem cut_ev (s : ByteArray) (l : List S100) (hl : l.length ≤ big) (a b : Int) : Ev (fun k => strip_Cut.f k s l a b) (cutS s l a b) := by
  unfold strip_Cut.f cutS
  refine Ev.bind (withinT_ev s l hl a b) ?_
  refine Ev.ite (fun hw => ?_) (fun _ => Ev.now _)
  obtain ⟨h1, h2, h3, h4⟩ := withinT_iff.1 hw
  obtain ⟨i, j, rfl, rfl, hij, hj, hg, hwb⟩ := withinT_facts hw
  refine Ev.bind (slice_ev l hl _ _) (Ev.pos h2 (Ev.pos h3 (Ev.pos h4 (ev_val (Ev.now _) ?_))))
  unfold sliceS
  rw [if_pos hwb]
theorem rcut_ev (s : ByteArray) (l : List S100) (hl : l.length ≤ big) (a b : Int) : Ev (fun k => bureauref04_Cut.f k s l a b) (cutS s l a b) := by
  unfold bureauref04_Cut.f cutS
  refine Ev.bind (rwithinT_ev s l hl a b) ?_
  refine Ev.ite (fun hw => ?_) (fun _ => Ev.now _)
  obtain ⟨h1, h2, h3, h4⟩ := withinT_iff.1 hw
  obtain ⟨g1, g2, g3, g4, g5⟩ := goodT_facts h1
  refine Ev.bind (bytes_ev l hl (by omega)) (Ev.pos h2 (Ev.pos h3 (Ev.pos h4 (Ev.pos (by omega) (Ev.bind (pack_ev _ ?_) (Ev.now _))))))
  rw [List.length_drop, List.length_take]
  omega
def spliceT (s : ByteArray) (l : List S100) (a b : Int) (x : ByteArray) (m : List S100) : TX :=
  if withinT s l a b = true then (if goodT x m = true then (if (s.size : Int) - (b - a) + (x.size : Int) > 4096 then (⟨#[]⟩, [], 3) else
    (s.extract 0 a.toNat ++ x ++ s.extract b.toNat s.size, pack ((bytes l).take a.toNat ++ bytes m ++ (bytes l).drop b.toNat), 0)) else (⟨#[]⟩, [], 2)) else (⟨#[]⟩, [], 2)
theorem ext_size (s : ByteArray) (i j : Nat) : (s.extract i j).size ≤ s.size := by rw [ByteArray.size_extract]; omega
theorem splice4_ev (s : ByteArray) (l : List S100) (hl : l.length ≤ big) (a b : Int) (x : ByteArray) (m : List S100) (hm : m.length ≤ big) : Ev (fun k => strip_Splice.f k s l a b x m) (spliceT s l a b x m) := by
  unfold strip_Splice.f spliceT
  refine Ev.bind (withinT_ev s l hl a b) ?_
  have bad : Ev (fun k => strip_Splice.j0 k a b true s l x m) (⟨#[]⟩, [], 2) := by
    refine Ev.step (fun k => by simp only [strip_Splice.j0]; rfl) ?_
    exact Ev.pos (by simp) (Ev.now _)
  refine Ev.ite (fun hw => ?_) (fun _ => bad)
  refine Ev.bind (goodT_ev x m hm) ?_
  by_cases hg : goodT x m = true
  · rw [if_pos hg, hg]
    refine Ev.step (fun k => by simp only [strip_Splice.j0]; rfl) ?_
    refine Ev.neg (by simp) (Ev.bind (splice_ev l hl a b m hm) ?_)
    obtain ⟨h1, h2, h3, h4⟩ := withinT_iff.1 hw
    obtain ⟨i, j, rfl, rfl, hij, hj, hgl, hwb⟩ := withinT_facts hw
    obtain ⟨g1, g2, g3, g4, g5⟩ := goodT_facts hgl
    obtain ⟨q1, q2, q3, q4, q5⟩ := goodT_facts hg
    have he : spliceS l (i : Int) (j : Int) m = if (s.size : Int) - ((j : Int) - (i : Int)) + (x.size : Int) > 4096 then ([], 3) else (pack ((bytes l).take (i : Int).toNat ++ bytes m ++ (bytes l).drop (j : Int).toNat), 0) := by
      unfold spliceS
      rw [if_pos hwb, if_pos q1, g5, q5]
    rw [he]
    by_cases hb : (s.size : Int) - ((j : Int) - (i : Int)) + (x.size : Int) > 4096
    · rw [if_pos hb, if_pos hb]
      exact Ev.neg (by decide) (Ev.now _)
    · rw [if_neg hb, if_neg hb]
      have e1 := ext_size s 0 (i : Int).toNat
      have e2 := ext_size s (j : Int).toNat s.size
      refine Ev.pos rfl (Ev.pos h2 (Ev.pos (by omega) (Ev.pos (by omega) (Ev.pos (by omega) (Ev.pos h4 (Ev.pos ?_ (Ev.now _)))))))
      rw [ByteArray.size_append]
      omega
  · rw [if_neg hg, show goodT x m = false by simpa using hg]
    exact bad
theorem cutS_len (s : ByteArray) (l : List S100) (a b : Int) : (cutS s l a b).2.1.length ≤ 20000 := by
  unfold cutS
  split
  · rename_i hw
    obtain ⟨i, j, rfl, rfl, hij, hj, hgl, hwb⟩ := withinT_facts hw
    obtain ⟨g1, g2, g3, g4, g5⟩ := goodT_facts hgl
    have := pack_len (((bytes l).take (j : Int).toNat).drop (i : Int).toNat)
    rw [List.length_drop, List.length_take] at this
    show (pack _).length ≤ 20000
    omega
  · simp
theorem toList_loop (a : ByteArray) : ∀ (n i : Nat) (r : List UInt8), i + n = a.size → ByteArray.toList.loop a i r = r.reverse ++ a.data.toList.drop i
  | 0, i, r, h => by
    unfold ByteArray.toList.loop
    rw [if_neg (by omega), List.drop_eq_nil_of_le (by rw [Array.length_toList]; show a.size ≤ i; omega), List.append_nil]
  | n + 1, i, r, h => by
    unfold ByteArray.toList.loop
    have hi : i < a.data.toList.length := by rw [Array.length_toList]; show i < a.size; omega
    rw [if_pos (by omega), toList_loop a n (i + 1) _ (by omega), List.reverse_cons, List.append_assoc, List.drop_eq_getElem_cons hi]
    congr 1
    show [a.get! i] ++ _ = _
    rw [List.singleton_append]
    congr 1
    show a.data[i]! = _
    rw [getElem!_pos a.data i (by rw [Array.length_toList] at hi; exact hi)]
    simp
theorem toList_data (a : ByteArray) : a.toList = a.data.toList := by
  unfold ByteArray.toList
  rw [toList_loop a a.size 0 [] (by omega)]
  rfl
theorem toList_inj {a b : ByteArray} (h : a.toList = b.toList) : a = b := by
  rw [toList_data, toList_data] at h
  exact ByteArray.ext (Array.toList_inj.1 h)
end Go.Proofs.Ythpjagblnddjaaa.PB
end

section
namespace Go.Proofs.Ythpjagblnddjaaa.PB
open Go.RowKit Go.Proofs.YthpjagblnddjaaaW.PrintWords Go.Proofs.YthpjagblnddjaaaW.PrintLast Go.Proofs.YthpjagblnddjaaaW.PrintMore
set_option linter.unusedVariables false
set_option linter.unusedSimpArgs false
def BRow (w : World) (g : Nat) (b : List Int) : Prop := ∃ cs t fr, w.heap[g]? = some (.cells cs t fr) ∧ b.length ≤ fr.1 ∧ ∀ i, i < b.length → cs[i]? = some (.int .u8 (b.getD i 0))
theorem BRow.lt {w : World} {g : Nat} {b : List Int} (h : BRow w g b) : g < w.heap.size := by obtain ⟨cs, t, fr, hc, _⟩ := h; exact blk_lt hc
theorem BRow.cell {w : World} {g : Nat} {b : List Int} (h : BRow w g b) {i : Nat} (hi : i < b.length) : w.cell? ⟨g, i, none⟩ = some (.int .u8 (b.getD i 0)) := by
  obtain ⟨cs, t, fr, hc, _, hb⟩ := h
  exact (cell_of_row w g i cs t fr hc).trans (hb i hi)
theorem BRow.of {w w' : World} {g : Nat} {b : List Int} (h : BRow w g b) (he : w'.heap[g]? = w.heap[g]?) : BRow w' g b := by
  obtain ⟨cs, t, fr, hc, hr⟩ := h
  exact ⟨cs, t, fr, he.trans hc, hr⟩
theorem BRow.alloc {w : World} {g : Nat} {b : List Int} (h : BRow w g b) (o : Obj) : BRow (w.alloc o) g b := h.of (Below.heap_alloc _ _ _ h.lt)
theorem BRow.drewN {w : World} {g : Nat} {b : List Int} (h : BRow w g b) (n : Nat) : BRow (w.drewN n) g b := h.of rfl
theorem BRow.set {w : World} {g : Nat} {b : List Int} (h : BRow w g b) {i : Nat} (hi : i < b.length) (x : Int) : BRow (w.setCell ⟨g, i, none⟩ (.int .u8 x)) g (b.set i x) := by
  obtain ⟨cs, t, fr, hc, hf, hb⟩ := h
  refine ⟨cs.setIfInBounds i (.int .u8 x), t, fr, by simp [World.setCell, Array.getElem?_modify, hc], by rw [List.length_set]; exact hf, fun j hj => ?_⟩
  rw [List.length_set] at hj
  have h1 := hb j hj
  obtain ⟨hlt, _⟩ := Array.getElem?_eq_some_iff.1 h1
  by_cases he : i = j
  · subst he
    rw [List.getD_eq_getElem?_getD, List.getElem?_set_self hj, Array.getElem?_setIfInBounds]
    simp [hlt]
  · rw [List.getD_eq_getElem?_getD, List.getElem?_set_ne he, ← List.getD_eq_getElem?_getD, Array.getElem?_setIfInBounds, if_neg he]
    exact h1
theorem BRow.reads {w : World} {g : Nat} {b : List Int} (h : BRow w g b) (hn : b.length ≤ 9223372036854775807) : ReadsInt w .u8 (some ⟨g, 0, none⟩) b.length b :=
  ⟨rfl, hn, fun _ => ⟨_, rfl, fun j hj => by
    have := h.cell hj
    by_cases h0 : j = 0
    · subst h0; simpa [Addr.add] using this
    · simpa [Addr.add, h0] using this⟩⟩
end Go.Proofs.Ythpjagblnddjaaa.PB
end

section
namespace Go.Proofs.Ythpjagblnddjaaa.PB
open Go.RowKit Go.Proofs.YthpjagblnddjaaaW.PrintWords
set_option linter.unusedVariables false
theorem fits_eq (s : ByteArray) (l : List S100) : bureaulaw04_Fits.f s l = some (decide (s.size ≤ 5000 ∧ l.length ≤ 5000)) := by
  unfold bureaulaw04_Fits.f
  by_cases h : s.size ≤ 5000
  · rw [if_pos (by omega)]
    congr 1
    rw [Bool.eq_iff_iff, decide_eq_true_iff, decide_eq_true_iff]
    omega
  · rw [if_neg (by omega)]
    simp [h]
theorem fits_big {s : ByteArray} {l : List S100} (h : s.size ≤ 5000 ∧ l.length ≤ 5000) : l.length ≤ big := by unfold big; omega
theorem len_big {n : Nat} (h : n ≤ 20000) : n ≤ big := by unfold big; omega
end Go.Proofs.Ythpjagblnddjaaa.PB
end

section
namespace Go.Proofs.Ythpjagblnddjaaa.PB
open Go.RowKit Go.Proofs.YthpjagblnddjaaaW.PrintWords
set_option linter.unusedVariables false
theorem own_eq (s : ByteArray) (l : List S100) (hl : l.length ≤ big) : edit_own.f s l = some (s, l) := by
  unfold edit_own.f
  unfold big at hl
  rw [if_pos (by omega)]
theorem invert_eq (a : Int) (o : ByteArray) (ol : List S100) (n : ByteArray) (nl : List S100) (hl : ol.length ≤ big) (hm : nl.length ≤ big) : edit_Invert.f a o ol n nl = some (a, n, nl, o, ol) := by
  unfold edit_Invert.f
  rw [own_eq n nl hm, own_eq o ol hl]
  rfl
end Go.Proofs.Ythpjagblnddjaaa.PB
end

section
namespace Go.Proofs.Ythpjagblnddjaaa.PB
open Go.RowKit Go.Proofs.YthpjagblnddjaaaW.PrintWords
set_option linter.unusedVariables false
theorem alive7 : bureaulaw07_alive.f 60 = some true := by decide +kernel
theorem alive7_ev : Ev (fun k => bureaulaw07_alive.f k) true := Ev.of (bureaulaw07_alive.mono) alive7
def fitE (o : ByteArray) (ol : List S100) (n : ByteArray) (nl : List S100) : Prop := (o.size ≤ 5000 ∧ ol.length ≤ 5000) ∧ (n.size ≤ 5000 ∧ nl.length ≤ 5000)
instance (o : ByteArray) (ol : List S100) (n : ByteArray) (nl : List S100) : Decidable (fitE o ol n nl) := inferInstanceAs (Decidable (_ ∧ _))
end Go.Proofs.Ythpjagblnddjaaa.PB
end

section
namespace Go.Proofs.Ythpjagblnddjaaa.PB
open Go.RowKit Go.Proofs.YthpjagblnddjaaaW.PrintWords
set_option linter.unusedVariables false
abbrev EX := Int × ByteArray × List S100 × ByteArray × List S100 × Int
def ofS (s : ByteArray) (l : List S100) (a b : Int) (x : ByteArray) (m : List S100) : EX :=
  if (spliceT s l a b x m).2.2 = 0 then (a, (cutS s l a b).1, (cutS s l a b).2.1, x, m, 0) else (0, ⟨#[]⟩, [], ⟨#[]⟩, [], (spliceT s l a b x m).2.2)
theorem splice_cut {s : ByteArray} {l : List S100} {a b : Int} {x : ByteArray} {m : List S100} (h : (spliceT s l a b x m).2.2 = 0) : withinT s l a b = true ∧ goodT x m = true ∧ ¬ (s.size : Int) - (b - a) + (x.size : Int) > 4096 ∧ (cutS s l a b).2.2 = 0 := by
  unfold spliceT at h
  by_cases hw : withinT s l a b = true
  · rw [if_pos hw] at h
    by_cases hg : goodT x m = true
    · rw [if_pos hg] at h
      by_cases hb : (s.size : Int) - (b - a) + (x.size : Int) > 4096
      · rw [if_pos hb] at h; cases h
      · exact ⟨hw, hg, hb, by unfold cutS; rw [if_pos hw]⟩
    · rw [if_neg hg] at h; cases h
  · rw [if_neg hw] at h; cases h
theorem of_ev (s : ByteArray) (l : List S100) (hl : l.length ≤ big) (a b : Int) (x : ByteArray) (m : List S100) (hm : m.length ≤ big) : Ev (fun k => edit_Of.f k s l a b x m) (ofS s l a b x m) := by
  unfold edit_Of.f ofS
  refine Ev.bind (splice4_ev s l hl a b x m hm) (Ev.ite (fun h => ?_) (fun _ => Ev.now _))
  refine Ev.bind (cut_ev s l hl a b) ?_
  rw [own_eq x m hm]
  refine Ev.bind (Ev.now _) (ev_val (Ev.now _) ?_)
  rw [(splice_cut h).2.2.2]
theorem rof_ev (s : ByteArray) (l : List S100) (hl : l.length ≤ big) (a b : Int) (x : ByteArray) (m : List S100) (hm : m.length ≤ big) : Ev (fun k => bureauref07_Of.f k s l a b x m) (ofS s l a b x m) := by
  unfold bureauref07_Of.f
  have bad : ¬ (withinT s l a b = true ∧ goodT x m = true) → Ev (fun k => bureauref07_Of.j0 k a b true s l x m (cutS s l a b).1 (cutS s l a b).2.1) (ofS s l a b x m) := fun h => by
    have e : spliceT s l a b x m = (⟨#[]⟩, [], 2) := by
      unfold spliceT
      by_cases hw : withinT s l a b = true
      · rw [if_pos hw, if_neg (fun hg => h ⟨hw, hg⟩)]
      · rw [if_neg hw]
    refine Ev.step (fun k => by simp only [bureauref07_Of.j0]; rfl) ?_
    refine Ev.pos (by simp) (ev_val (Ev.now _) ?_)
    unfold ofS
    rw [e, if_neg (by decide)]
  refine Ev.bind (rcut_ev s l hl a b) ?_
  by_cases hw : withinT s l a b = true
  · have hc : (cutS s l a b).2.2 = 0 := by unfold cutS; rw [if_pos hw]
    refine Ev.pos hc (Ev.bind (rgoodT_ev x m hm) ?_)
    by_cases hg : goodT x m = true
    · rw [hg]
      refine Ev.step (fun k => by simp only [bureauref07_Of.j0]; rfl) ?_
      refine Ev.neg (by simp) ?_
      obtain ⟨h1, h2, h3, h4⟩ := withinT_iff.1 hw
      obtain ⟨_, _, _, g4, _⟩ := goodT_facts h1
      obtain ⟨_, _, _, q4, _⟩ := goodT_facts hg
      rw [show wrap64 (wrap64 ((s.size : Int) - wrap64 (b - a)) + (x.size : Int)) = (s.size : Int) - (b - a) + (x.size : Int) by unfold wrap64; omega]
      unfold ofS spliceT
      rw [if_pos (c := withinT s l a b = true) hw, if_pos (c := goodT x m = true) hg]
      by_cases hb : (s.size : Int) - (b - a) + (x.size : Int) > 4096
      · refine Ev.pos hb (ev_val (Ev.now _) ?_)
        rw [if_pos hb, if_neg (by decide)]
      · refine Ev.neg hb (ev_val (Ev.now _) ?_)
        rw [if_neg hb, if_pos rfl]
    · rw [show goodT x m = false by simpa using hg]
      exact bad (fun h => hg h.2)
  · have hc : (cutS s l a b).2.2 ≠ 0 := by unfold cutS; rw [if_neg hw]; decide
    exact Ev.neg hc (bad (fun h => hw h.1))
theorem rsame7_self (a : Int) (o : ByteArray) (ol : List S100) (n : ByteArray) (nl : List S100) (hl : ol.length ≤ big) (hm : nl.length ≤ big) : Ev (fun k => bureauref07_Same.f k a o ol n nl a o ol n nl) true := by
  unfold bureauref07_Same.f
  exact Ev.pos rfl (Ev.bind (rsame4_ev _ _ _ _ hl) (Ev.pos (sameT_self _ _) (Ev.bind (rsame4_ev _ _ _ _ hm) (ev_val (Ev.now _) (sameT_self _ _)))))
theorem EditMakes_pure (t : S51) (a b : Int) (x : S51) (wt : wf51 t) (wa : (Lit.int .i64 a).wf = true) (wb : (Lit.int .i64 b).wf = true) (wx : wf51 x) : ∃ k, bureaulaw07_EditMakes.f k t.f0 t.f1 a b x.f0 x.f1 = some true := by
  refine Ev.rounds (g := fun k => bureaulaw07_EditMakes.f k t.f0 t.f1 a b x.f0 x.f1) ?_
  generalize t.f0 = s at *
  generalize t.f1 = l at *
  generalize x.f0 = n at *
  generalize x.f1 = m at *
  unfold bureaulaw07_EditMakes.f
  refine Ev.bind alive7_ev (Ev.pos rfl ?_)
  rw [fits_eq, fits_eq]
  have out : Ev (fun k => bureaulaw07_EditMakes.j0 k true s l a b n m) true := by
    refine Ev.step (fun k => by simp only [bureaulaw07_EditMakes.j0]; rfl) ?_
    exact Ev.pos (by simp) (Ev.now _)
  refine Ev.bind (Ev.now _) (Ev.ite' (fun hfs => ?_) (fun _ => out))
  have hl := fits_big (of_decide_eq_true hfs)
  refine Ev.bind (Ev.now _) ?_
  by_cases hf : n.size ≤ 5000 ∧ m.length ≤ 5000
  case neg => rw [decide_eq_false hf]; exact out
  have hm := fits_big hf
  rw [decide_eq_true hf]
  refine Ev.step (fun k => by simp only [bureaulaw07_EditMakes.j0]; rfl) ?_
  have l1 : (ofS s l a b n m).2.2.1.length ≤ big := by
    unfold ofS
    split
    · exact len_big (cutS_len _ _ _ _)
    · simp [big]
  have l2 : (ofS s l a b n m).2.2.2.2.1.length ≤ big := by
    unfold ofS
    split
    · exact hm
    · simp [big]
  refine Ev.neg (by simp) (Ev.bind (of_ev s l hl a b n m hm) (Ev.bind (rof_ev s l hl a b n m hm) ?_))
  refine Ev.bind (rsame7_self _ _ _ _ _ l1 l2) (Ev.pos rfl (Ev.pos rfl ?_))
  rw [invert_eq _ _ _ _ _ l1 l2]
  exact Ev.bind (Ev.now _) (Ev.bind (Ev.now _) (Ev.bind (rsame7_self _ _ _ _ _ l2 l1) (Ev.now _)))
end Go.Proofs.Ythpjagblnddjaaa.PB
end

section
namespace Go.Proofs.Ythpjagblnddjaaa.PB
open Go.ChangeShapes Go.WideShapes Go.ChangeAt Go.RowKit Go.Proofs.YthpjagblnddjaaaW.PrintWords
open Go.ChangeMaps (open_string shut_string)
set_option linter.unusedVariables false
namespace editMakes
open Go.Proofs.Ythpjagblnddjaaa
theorem own : ownKnob Try.prog.godebug = none := by kernel_rfl
theorem laidOut : laidOutB Try.prog = true := by kernel_rfl
set_option maxRecDepth 100000 in
theorem lifted (os : Os) (started : os.Started) (H : Type) (enc : TypeId × Value → H) :
    ReturnsInHanded {} Try.checked os 13 .any (Rows.editMakesSpec.pre6 enc Try.prog Try.f13 Rows.editMakesRow.domain false) (Rows.editMakesSpec.post enc Try.prog Try.f13 false true false false) := by
  refine returnsInHanded_of_change_sized (C := Try.checked) own started (by kernel_rfl) Try.func13
    (ChangeSpec.witness6 (enc := enc) (C := Try.checked) false ⟨#[], #[.agg #[.string ByteArray.empty, .slice none 0 0], .agg #[.int .i64 0, .int .i64 0], .agg #[.string ByteArray.empty, .slice none 0 0]], []⟩ 8 (by kernel_rfl) (by kernel_rfl) (by kernel_rfl) (by kernel_rfl)) ?_
  intro W base args ds gs before hval0 hW hcnd hsz0 _
  have hsz : (DataW.weightsEach Try.prog (Try.f13.params.toList ++ Rows.editMakesSpec.plain.varTypes Try.prog) (ds ++ gs)).all (· ≤ reachBytes) = true := hsz0
  have hval : ∀ (j : Nat) t v, Try.f13.params[j]? = some t → args[j]? = some v → Value.okWide Try.prog W .any base t v := hval0
  have hW' := hW
  obtain ⟨p, q, hA0, hV, rfl, hfz, hnd⟩ := hW
  have hA : DataW.TrodAll enc Try.prog W 0 (fun _ => true) true Try.f13.params.toList args.toList ds p := hA0
  rw [Try.params13] at hA hval hsz
  obtain ⟨v0, vs0, d0, ds0, p0, q0, hargs, rfl, rfl, h0, r0⟩ := trodAll_cons hA
  obtain ⟨v1, vs1, d1, ds1, p1, q1, rfl, rfl, rfl, h1, r1⟩ := trodAll_cons r0
  obtain ⟨v2, vs2, d2, ds2, p2, q2, rfl, rfl, rfl, h2, r2⟩ := trodAll_cons r1
  obtain ⟨rfl, rfl, rfl⟩ := trodAll_nil r2
  obtain rfl : args = #[v0, v1, v2] := by cases args; simp_all
  obtain ⟨rfl, rfl⟩ := trodVars_none hV
  have hz0 : ∀ n ∈ d0.weights Try.prog 51, n ≤ reachBytes := fun n hn => by have z := List.all_eq_true.1 hsz n (DataW.weights_mem_each (j := 0) rfl rfl n hn); simpa using z
  have kk0 := h0
  have lt0 : ∀ x ∈ p0, x.block < W.heap.size := by obtain ⟨m, hm⟩ := kk0; exact DataW.trod_lt m _ _ _ hm
  obtain ⟨cs0, rfl, cz0⟩ := okWide_struct Try.underlying51 (hval 0 51 v0 rfl rfl)
  obtain ⟨x0, hK0, w0⟩ : ∃ x : S51, k51.K W x cs0.toList ∧ wf51 x := by
    obtain ⟨fuel, hf⟩ := h0
    exact opn51 H enc _ _ _ fuel _ _ hf hz0
  obtain ⟨A0_1, c0_1, hcs0, hc0_1, hr0_1⟩ := k51_open hK0
  obtain rfl : cs0 = #[.string x0.f0, .slice A0_1 x0.f1.length c0_1] := Array.toList_inj.1 hcs0
  have hz1 : ∀ n ∈ d1.weights Try.prog 41, n ≤ reachBytes := fun n hn => by have z := List.all_eq_true.1 hsz n (DataW.weights_mem_each (j := 1) rfl rfl n hn); simpa using z
  have kk1 := h1
  have lt1 : ∀ x ∈ p1, x.block < W.heap.size := by obtain ⟨m, hm⟩ := kk1; exact DataW.trod_lt m _ _ _ hm
  obtain ⟨cs1, rfl, cz1⟩ := Opn.okWide_array Try.underlying41 (hval 1 41 v1 rfl rfl)
  obtain ⟨a1_0, a1_1, hcs1, w1_0, w1_1⟩ : ∃ a1_0 a1_1 : Int, cs1 = #[.int .i64 a1_0, .int .i64 a1_1] ∧ (Lit.int .i64 a1_0).wf = true ∧ (Lit.int .i64 a1_1).wf = true := by
    obtain ⟨fuel, hf⟩ := h1
    obtain ⟨l, hl, hc, hw⟩ := Opn.arrayI Try.underlying41 Try.underlying3 (by kernel_rfl) (by kernel_rfl) hf
    match l, hl with
    | [a1_0, a1_1], _ => exact ⟨a1_0, a1_1, Array.toList_inj.1 hc, hw _ (by simp), hw _ (by simp)⟩
  subst hcs1
  have hz2 : ∀ n ∈ d2.weights Try.prog 51, n ≤ reachBytes := fun n hn => by have z := List.all_eq_true.1 hsz n (DataW.weights_mem_each (j := 2) rfl rfl n hn); simpa using z
  have kk2 := h2
  have lt2 : ∀ x ∈ p2, x.block < W.heap.size := by obtain ⟨m, hm⟩ := kk2; exact DataW.trod_lt m _ _ _ hm
  obtain ⟨cs2, rfl, cz2⟩ := okWide_struct Try.underlying51 (hval 2 51 v2 rfl rfl)
  obtain ⟨x2, hK2, w2⟩ : ∃ x : S51, k51.K W x cs2.toList ∧ wf51 x := by
    obtain ⟨fuel, hf⟩ := h2
    exact opn51 H enc _ _ _ fuel _ _ hf hz2
  obtain ⟨A2_1, c2_1, hcs2, hc2_1, hr2_1⟩ := k51_open hK2
  obtain rfl : cs2 = #[.string x2.f0, .slice A2_1 x2.f1.length c2_1] := Array.toList_inj.1 hcs2
  clear hA0 hval0 hsz0 hsz
  obtain ⟨k, hk⟩ := EditMakes_pure x0 a1_0 a1_1 x2 w0 w1_0 w1_1 w2
  refine (bureaulaw07_EditMakes.calls k x0.f0 _ _ x0.f1 a1_0 a1_1 x2.f0 _ _ x2.f1 true W hr0_1 hc0_1 hr2_1 hc2_1 hk).mono fun e W' ⟨he, bel⟩ => ?_
  subst he
  exact ⟨_, rfl, _, _, _, [], _, [], hW', trodAll_mk1 (shut_bool Try.underlying4 _), (trodAll_cons_mk (Below.trod laidOut (by kernel_rfl) (of_decide_eq_true (by kernel_rfl)) kk0 bel lt0) (trodAll_cons_mk (Below.trod laidOut (by kernel_rfl) (of_decide_eq_true (by kernel_rfl)) kk1 bel lt1) (trodAll_cons_mk (Below.trod laidOut (by kernel_rfl) (of_decide_eq_true (by kernel_rfl)) kk2 bel lt2) trodAll_mk0))), rfl, bel.frame _, fun h => by cases h⟩
theorem over : Rows.editMakesRow.holds Try.pinned (OpenSpec.ofChange Rows.editMakesSpec) :=
  OpenClaim.holds_of_wide 13 Try.f13 rfl rfl rfl rfl rfl rfl rfl ⟨rfl, rfl, rfl, rfl, rfl⟩ rfl rfl rfl rfl rfl (by kernel_rfl) Try.func13 (by kernel_rfl)
    (of_decide_eq_true (by kernel_rfl)) (by unfold Func.isWrapper; first | (rw [if_pos (by decide +kernel)]; kernel_rfl) | (rw [if_neg (by decide +kernel)]; exact ⟨rfl, rfl⟩))
    (fun os started H enc _ => lifted os started H enc)
theorem proved : Rows.EditMakesSaid := over
end editMakes
end Go.Proofs.Ythpjagblnddjaaa.PB
namespace Go.Proofs.Ythpjagblnddjaaa
theorem editMakes_holds : Rows.EditMakesSaid := PB.editMakes.proved
#print axioms editMakes_holds
end Go.Proofs.Ythpjagblnddjaaa
end
