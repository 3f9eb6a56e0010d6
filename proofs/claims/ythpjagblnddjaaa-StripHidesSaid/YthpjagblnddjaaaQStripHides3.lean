/- What the row hangs on, part 3. -/
import Derived.Test.YthpjagblnddjaaaQStripHides2
section
namespace Go.Proofs.Ythpjagblnddjaaa.PB
open Go.RowKit Go.Proofs.YthpjagblnddjaaaW.PrintWords Go.Proofs.YthpjagblnddjaaaW.PrintLast Go.Proofs.YthpjagblnddjaaaW.PrintMore
attribute [local go_sem] max2_int min2_int max_two min_two max_three min_three max_four min_four
set_option linter.unusedVariables false
set_option linter.unusedSimpArgs false
structure GFrame (B g : Nat) (w w' : World) : Prop where
  below : Below B w w'
  typ : ∀ i cs t fr, i ≠ g → t ≠ 100 → w.heap[i]? = some (.cells cs t fr) → w'.heap[i]? = some (.cells cs t fr)
theorem GFrame.refl (B g : Nat) (w : World) : GFrame B g w w := ⟨Below.refl _ _, fun _ _ _ _ _ _ h => h⟩
theorem GFrame.trans {B g : Nat} {a b c : World} (h : GFrame B g a b) (k : GFrame B g b c) : GFrame B g a c :=
  ⟨h.below.trans k.below, fun i cs t fr h1 h2 h3 => k.typ i cs t fr h1 h2 (h.typ i cs t fr h1 h2 h3)⟩
theorem GFrame.alloc {B g : Nat} {a w : World} (h : GFrame B g a w) (hB : B ≤ w.heap.size) (o : Obj) : GFrame B g a (w.alloc o) :=
  h.trans ⟨(Below.refl _ _).alloc hB o, fun i cs t fr _ _ h3 => by rw [Below.heap_alloc _ _ _ (Array.getElem?_eq_some_iff.1 h3).1]; exact h3⟩
theorem GFrame.drewN {B g : Nat} {a w : World} (h : GFrame B g a w) (n : Nat) : GFrame B g a (w.drewN n) :=
  h.trans ⟨pw_below_drewN (Below.refl _ _) n, fun i cs t fr _ _ h3 => h3⟩
theorem GFrame.drew {B g : Nat} {a w : World} (h : GFrame B g a w) : GFrame B g a w.drew :=
  h.trans ⟨(Below.refl _ _).drew, fun i cs t fr _ _ h3 => h3⟩
theorem GFrame.setg {B g : Nat} {a w : World} (h : GFrame B g a w) (hB : B ≤ g) (j : Nat) (u : Value) : GFrame B g a (w.setCell ⟨g, j, none⟩ u) :=
  h.trans ⟨(Below.refl _ _).setCell hB u, fun i cs t fr h1 _ h3 => by rw [Below.heap_setCell _ _ _ _ h1]; exact h3⟩
theorem GFrame.grown {B g : Nat} {a w w' : World} {row : Option Nat} (h : GFrame B g a w) (hg : w.grownBy w' row) (hB : B ≤ w.heap.size) (hr : ∀ k, row = some k → B ≤ k ∧ ∃ cells fr, w.heap[k]? = some (.cells cells 100 fr)) : GFrame B g a w' :=
  h.trans ⟨(Below.refl _ _).grown hg hB (fun k hk => (hr k hk).1), fun i cs t fr _ h2 h3 => by
    rw [hg.block i (Array.getElem?_eq_some_iff.1 h3).1 (fun e => by
      obtain ⟨_, cells, fr', hc⟩ := hr i e.symm
      rw [hc] at h3
      injection h3 with h3
      injection h3 with _ h3
      exact h2 h3.symm)]
    exact h3⟩
def GS (B g : Nat) (w : World) (xs : List S100) : Prop := ∃ v, w.heap[g]? = some (.cells #[v] 22 (0, 0)) ∧ Kd.R k100 100 w B (fun _ => True) v xs
def addRun (xs : List S100) (r : S100) : List S100 :=
  if r.f1 < 1 then xs else if 0 < xs.length then (if (xs.getD (xs.length - 1) z100).f0 = r.f0 then xs.set (xs.length - 1) ⟨(xs.getD (xs.length - 1) z100).f0, wrap64 ((xs.getD (xs.length - 1) z100).f1 + r.f1)⟩ else xs ++ [r]) else xs ++ [r]
theorem R_typed' {B : Nat} {w : World} {v : Value} {xs : List S100} (h : Kd.R k100 100 w B (fun _ => True) v xs) : ∀ k, v.ownBlock = some k → B ≤ k ∧ ∃ cells fr, w.heap[k]? = some (.cells cells 100 fr) := fun k hk => by
  obtain ⟨cells, hc⟩ := Kd.R_typed h k hk
  exact ⟨Kd.R_base h k hk, cells, _, hc⟩
set_option maxHeartbeats 4000000 in
theorem gather1_small (L N : Int) (g : Nat) (w : World) (hN : N < 1) :
    Calls Try.prog 103 #[.agg #[.int .u64 L, .int .i64 N], .pointer (some ⟨g, 0, none⟩)] w fun e w' => e = .returned (.tuple #[]) ∧ w' = w.alloc (.cells #[.int .u64 L, .int .i64 N] 100) := by
  have hu100 := Try.underlying100
  have hN' : decide (N < 1) = true := by simpa using hN
  go_enter Try.func103, Try.ntmps103
  go_wp2
  exact bodyPost_ret (results_none rfl _ _ _) rfl ⟨rfl, rfl⟩
theorem notype : ∀ q, q ∈ 100 :: k100.E → q ≠ 22 := by
  intro q hq
  have : q = 100 := by simpa [k100, Kd.iso, Kd.pair, Kd.int, Kd.scalar] using hq
  omega
theorem GS_grown {B g : Nat} {w w1 W : World} {v : Value} {xs : List S100} (hB : B ≤ g) (hg : W.heap[g]? = some (.cells #[v] 22 (0, 0))) (hR : Kd.R k100 100 W B (fun _ => True) v xs) (hF : GFrame B g w W)
    (hg1 : W.grownBy w1 v.ownBlock) : w1.heap[g]? = some (.cells #[v] 22 (0, 0)) ∧ GFrame B g w w1 :=
  ⟨blk_grown hg hg1 (Kd.R_ne hR hg (by decide)), hF.grown hg1 (Nat.le_trans hB (Nat.le_of_lt (blk_lt hg))) (R_typed' hR)⟩
theorem GS_put {B g : Nat} {w w1 : World} {v v1 : Value} {ys : List S100} (hB : B ≤ g) (hg : w1.heap[g]? = some (.cells #[v] 22 (0, 0))) (hR : Kd.R k100 100 w1 B (fun _ => True) v1 ys) (hF : GFrame B g w w1) :
    GS B g (w1.setCell ⟨g, 0, none⟩ v1) ys ∧ GFrame B g w (w1.setCell ⟨g, 0, none⟩ v1) :=
  ⟨⟨v1, blk_set hg 0 v1, Kd.R_set hR hg notype 0 v1⟩, hF.setg hB 0 v1⟩
theorem GFrame.box {B g : Nat} {w : World} (hB : B ≤ w.heap.size) (o : Obj) (n : Nat) : GFrame B g w ((w.alloc o).drewN n) := ((GFrame.refl B g w).alloc hB o).drewN n
theorem box_heap {g : Nat} {w : World} {x : Obj} (o : Obj) (n : Nat) (h : w.heap[g]? = some x) : ((w.alloc o).drewN n).heap[g]? = some x := by
  show (w.alloc o).heap[g]? = some x
  rw [Below.heap_alloc _ _ _ (blk_lt h)]; exact h
theorem GS_same {B g n b c : Nat} {w W : World} {xs : List S100} (hB : B ≤ g) (hg : W.heap[g]? = some (.cells #[.slice (some ⟨b, 0, none⟩) (n + 1) c] 22 (0, 0))) (hR : Kd.R k100 100 W B (fun _ => True) (.slice (some ⟨b, 0, none⟩) (n + 1) c) xs)
    (hF : GFrame B g w W) (hn : xs.length = n + 1) (x : Int) :
    GS B g (W.setCell ⟨b, n * 2 + 1, none⟩ (.int .i64 x)) (xs.set n ⟨(xs.getD n z100).f0, x⟩) ∧ GFrame B g w (W.setCell ⟨b, n * 2 + 1, none⟩ (.int .i64 x)) := by
  obtain ⟨ce, hcl, hM, hcc, hfr⟩ := Kd.R_elem hR z100 (n : Int) (by omega) (by omega)
  obtain rfl := k100_openM hM
  obtain ⟨h1, h2⟩ := Kd.R_seg hR (n : Int) (by omega) (by omega) (seg := [.int .i64 x]) (j := 1) hcl hcc (show 2 ≤ 2 from by decide) (x' := (⟨(xs.getD (n : Int).toNat z100).f0, x⟩ : S100)) (k100_mkM _ _ _ (⟨(xs.getD (n : Int).toNat z100).f0, x⟩ : S100)) (fun _ hk => hk)
  have h3 : some g ≠ some b := Kd.R_ne hR hg (by decide)
  exact ⟨⟨_, blk_grown hg h2 h3, h1⟩, hF.grown h2 (Nat.le_trans hB (Nat.le_of_lt (blk_lt hg))) (R_typed' hR)⟩
set_option maxHeartbeats 4000000 in
set_option maxRecDepth 100000 in
theorem gather1_first (L N : Int) (B g : Nat) (A : Option Addr) (c : Nat) (w : World) (hN : ¬ N < 1) (hB : B ≤ g) (hg : w.heap[g]? = some (.cells #[.slice A 0 c] 22 (0, 0))) (hR : Kd.R k100 100 w B (fun _ => True) (.slice A 0 c) []) :
    Calls Try.prog 103 #[.agg #[.int .u64 L, .int .i64 N], .pointer (some ⟨g, 0, none⟩)] w fun e w' => e = .returned (.tuple #[]) ∧ GS B g w' [⟨L, N⟩] ∧ GFrame B g w w' := by
  have hu100 := Try.underlying100
  have hN' : decide (N < 1) = false := by simpa using hN
  have hc : w.cell? ⟨g, 0, none⟩ = some (.slice A 0 c) := by rw [bC hg]; rfl
  have hlt := World.block_lt_of_cell? w _ hc
  have HR := aM hR
  have HG := aM hg
  clear hR hg
  go_enter Try.func103, Try.ntmps103
  go_wp2
  go_quiet (fail)
  go_wp2_with (at_builtin; go_loud (refine Kd.R_append k100 (w0 := w) B rfl (.tmp 33) (.tmp 35) 22 100 (.agg #[(.int .u64 0), (.int .i64 0)]) 16 rfl Try.underlying22 info100 rfl (by decide) (by omega) (.slice A 0 c) [] (⟨L, N⟩ : S100) [.int .u64 L, .int .i64 N] (fun _ => True) (fun _ => False) rfl ?aX ?aP (fun _ hk => hk.elim) ?aF ?aO ?aB ?aS ?aL ?_); (case aX => simp [Act.eval, go_sem]); (case aP => exact k100_mkM _ _ _ (⟨L, N⟩ : S100)); (case aB => exact pw_below_drewN ((Below.refl _ _).alloc (by omega) _) _); (case aF => exact (fun _ _ => trivial)); (case aO => exact (by (with_reducible repeat (first | apply ra | apply rn | apply rd_)); exact HR.out)); (case aS => simp; omega); (case aL => simp); intro v1 w1 ho hb hg1 hat; obtain ⟨A1, c1, rfl⟩ := Kd.R_slice ho; go_loud (have HF := aM (GS_grown hB (box_heap _ _ HG.out) (Kd.R_drewN (Kd.R_alloc HR.out _) _) (GFrame.box (by omega) _ _) hg1)); have HO := aM ho; clear ho hb hg1 hat; have hcg := bC HF.out.1 0; have hfg := bF HF.out.1 0)
  go_end0
  exact ⟨rfl, GS_put hB HF.out.1 HO.out HF.out.2⟩
set_option maxHeartbeats 4000000 in
set_option maxRecDepth 100000 in
theorem gather1_other (L N : Int) (B g : Nat) (v : Value) (xs : List S100) (w : World) (hN : ¬ N < 1) (hB : B ≤ g) (hg : w.heap[g]? = some (.cells #[v] 22 (0, 0))) (hR : Kd.R k100 100 w B (fun _ => True) v xs)
    (hp : 0 < xs.length) (hne : ¬ (xs.getD (xs.length - 1) z100).f0 = L) (hlen : (xs.length + 1) * 16 ≤ 140737488355328) :
    Calls Try.prog 103 #[.agg #[.int .u64 L, .int .i64 N], .pointer (some ⟨g, 0, none⟩)] w fun e w' => e = .returned (.tuple #[]) ∧ GS B g w' (xs ++ [⟨L, N⟩]) ∧ GFrame B g w w' := by
  have hu100 := Try.underlying100
  obtain ⟨b, c, rfl, hbb, hbl, _⟩ := Kd.R_form hR hp
  have hmax := (rR hR).2.2.2.1
  obtain ⟨ce, hcl, hM, hcc, hfr⟩ := Kd.R_elem hR z100 ((xs.length : Int) - 1) (by omega) (by omega)
  obtain rfl := k100_openM hM
  obtain ⟨n, hn⟩ : ∃ n, xs.length = n + 1 := ⟨xs.length - 1, by omega⟩
  have en : ((xs.length : Int) - 1).toNat = n := by omega
  have hx0 : w.cell? ⟨b, n * 2, none⟩ = some (.int .u64 (xs.getD n z100).f0) := by have := hcc 0 _ rfl; rw [en] at this; exact this
  have hx1 : w.cell? ⟨b, n * 2 + 1, none⟩ = some (.int .i64 (xs.getD n z100).f1) := by have := hcc 1 _ rfl; rw [en] at this; exact this
  rw [show xs.length - 1 = n by omega] at hne
  have hb : ((xs.getD n z100).f0 == L) = false := by simpa using hne
  have hN' : decide (N < 1) = false := by simpa using hN
  rw [hn] at hg hR
  have HL := aM hlen
  clear hlen
  have hc : w.cell? ⟨g, 0, none⟩ = some (.slice (some ⟨b, 0, none⟩) (n + 1) c) := by rw [bC hg]; rfl
  have hlt := World.block_lt_of_cell? w _ hc
  have HR := aM hR
  have HG := aM hg
  have HN := aM hn
  have hn2 : n ≤ 9223372036854775806 := by omega
  generalize (xs.getD n z100).f0 = L1 at *
  generalize (xs.getD n z100).f1 = N1 at *
  clear hR hg hn hne hM hcc hcl hfr en hp hmax
  go_enter Try.func103, Try.ntmps103
  go_wp2
  go_quiet (fail)
  go_wp2_with (at_builtin; go_loud (refine Kd.R_append k100 (w0 := w) B rfl (.tmp 33) (.tmp 35) 22 100 (.agg #[(.int .u64 0), (.int .i64 0)]) 16 rfl Try.underlying22 info100 rfl (by decide) (by omega) (.slice (some ⟨b, 0, none⟩) (n + 1) c) xs (⟨L, N⟩ : S100) [.int .u64 L, .int .i64 N] (fun _ => True) (fun _ => False) rfl ?aX ?aP (fun _ hk => hk.elim) ?aF ?aO ?aB ?aS ?aL ?_); (case aX => simp [Act.eval, go_sem]); (case aP => exact k100_mkM _ _ _ (⟨L, N⟩ : S100)); (case aB => exact pw_below_drewN ((Below.refl _ _).alloc (by omega) _) _); (case aF => exact (fun _ _ => trivial)); (case aO => exact (by (with_reducible repeat (first | apply ra | apply rn | apply rd_)); exact HR.out)); (case aS => simp; omega); (case aL => exact HL.out); intro v1 w1 ho hb hg1 hat; obtain ⟨A1, c1, rfl⟩ := Kd.R_slice ho; go_loud (have HF := aM (GS_grown hB (box_heap _ _ HG.out) (Kd.R_drewN (Kd.R_alloc HR.out _) _) (GFrame.box (by omega) _ _) hg1)); have HO := aM ho; clear ho hb hg1 hat; have hcg := bC HF.out.1 0; have hfg := bF HF.out.1 0)
  go_end0
  exact ⟨rfl, GS_put hB HF.out.1 (by have h := HO.out; rw [List.length_append] at h; exact h) HF.out.2⟩
set_option maxHeartbeats 4000000 in
set_option maxRecDepth 100000 in
theorem gather1_same (L N : Int) (B g : Nat) (v : Value) (xs : List S100) (w : World) (hN : ¬ N < 1) (hB : B ≤ g) (hg : w.heap[g]? = some (.cells #[v] 22 (0, 0))) (hR : Kd.R k100 100 w B (fun _ => True) v xs)
    (hp : 0 < xs.length) (hne : (xs.getD (xs.length - 1) z100).f0 = L) :
    Calls Try.prog 103 #[.agg #[.int .u64 L, .int .i64 N], .pointer (some ⟨g, 0, none⟩)] w fun e w' => e = .returned (.tuple #[]) ∧ GS B g w' (xs.set (xs.length - 1) ⟨(xs.getD (xs.length - 1) z100).f0, wrap64 ((xs.getD (xs.length - 1) z100).f1 + N)⟩) ∧ GFrame B g w w' := by
  have hu100 := Try.underlying100
  obtain ⟨b, c, rfl, hbb, hbl, _⟩ := Kd.R_form hR hp
  have hmax := (rR hR).2.2.2.1
  obtain ⟨ce, hcl, hM, hcc, hfr⟩ := Kd.R_elem hR z100 ((xs.length : Int) - 1) (by omega) (by omega)
  obtain rfl := k100_openM hM
  obtain ⟨n, hn⟩ : ∃ n, xs.length = n + 1 := ⟨xs.length - 1, by omega⟩
  have en : ((xs.length : Int) - 1).toNat = n := by omega
  rw [en] at hcc hfr
  have hx0 : w.cell? ⟨b, n * 2, none⟩ = some (.int .u64 (xs.getD n z100).f0) := hcc 0 _ rfl
  have hx1 : w.cell? ⟨b, n * 2 + 1, none⟩ = some (.int .i64 (xs.getD n z100).f1) := hcc 1 _ rfl
  have hf1 : w.frozen? ⟨b, n * 2 + 1, none⟩ = false := hfr 1
  rw [show xs.length - 1 = n by omega] at hne ⊢
  have hb : ((xs.getD n z100).f0 == L) = true := by simpa using hne
  have hN' : decide (N < 1) = false := by simpa using hN
  rw [hn] at hg hR
  have hc : w.cell? ⟨g, 0, none⟩ = some (.slice (some ⟨b, 0, none⟩) (n + 1) c) := by rw [bC hg]; rfl
  have hlt := World.block_lt_of_cell? w _ hc
  have HR := aM hR
  have HG := aM hg
  have HN := aM hn
  have hn2 : n ≤ 9223372036854775806 := by omega
  generalize hL1 : (xs.getD n z100).f0 = L1 at *
  have HL1 := aM hL1
  clear hL1
  generalize (xs.getD n z100).f1 = N1 at *
  clear hR hg hn hne hM hcc hcl hfr en hp hmax
  go_enter Try.func103, Try.ntmps103
  go_wp2
  go_quiet (fail)
  go_wp2
  go_region
  go_wp2
  refine bodyPost_ret (results_none rfl _ _ _) rfl ⟨rfl, ?_⟩
  obtain rfl := HL1.out
  exact GS_same hB (box_heap _ _ HG.out) (Kd.R_drewN (Kd.R_alloc HR.out _) _) (GFrame.box (by omega) _ _) HN.out (wrap64 (N1 + N))
theorem gather1 (L N : Int) (B g : Nat) (xs : List S100) (w : World) (hB : B ≤ g) (hS : GS B g w xs) (hlen : (xs.length + 1) * 16 ≤ 140737488355328) :
    Calls Try.prog 103 #[.agg #[.int .u64 L, .int .i64 N], .pointer (some ⟨g, 0, none⟩)] w fun e w' => e = .returned (.tuple #[]) ∧ GS B g w' (addRun xs ⟨L, N⟩) ∧ GFrame B g w w' := by
  obtain ⟨v, hg, hR⟩ := hS
  unfold addRun
  by_cases hN : N < 1
  · rw [if_pos hN]
    refine (gather1_small L N g w hN).mono ?_
    rintro e w' ⟨rfl, rfl⟩
    exact ⟨rfl, ⟨v, box_heap _ 0 hg, Kd.R_alloc hR _⟩, GFrame.box (Nat.le_trans hB (Nat.le_of_lt (blk_lt hg))) _ 0⟩
  rw [if_neg hN]
  by_cases hp : 0 < xs.length
  · rw [if_pos hp]
    by_cases he : (xs.getD (xs.length - 1) z100).f0 = L
    · rw [if_pos he]
      exact gather1_same L N B g v xs w hN hB hg hR hp he
    · rw [if_neg he]
      exact gather1_other L N B g v xs w hN hB hg hR hp he hlen
  · rw [if_neg hp]
    obtain rfl : xs = [] := List.eq_nil_of_length_eq_zero (by omega)
    obtain ⟨A, c, rfl⟩ := Kd.R_slice hR
    exact gather1_first L N B g A c w hN hB hg hR
def someTo (step : List S100 → S100 → List S100) (a b : Int) : List S100 → Int → List S100 → List S100
  | [], _, acc => acc
  | r :: l, p, acc => someTo step a b l (wrap64 (p + r.f1)) (step acc ⟨r.f0, wrap64 ((if b < wrap64 (p + r.f1) then b else wrap64 (p + r.f1)) - (if p < a then a else p))⟩)
theorem GS_alloc {B g : Nat} {w : World} {xs : List S100} (h : GS B g w xs) (o : Obj) : GS B g (w.alloc o) xs := by
  obtain ⟨v, hg, hR⟩ := h
  exact ⟨v, box_heap o 0 hg, Kd.R_alloc hR o⟩
theorem someTo_snoc {step : List S100 → S100 → List S100} {a b : Int} {l : List S100} {k : Nat} (hk : k < l.length) (p : Int) (acc : List S100) :
    someTo step a b (l.drop k) p acc = someTo step a b (l.drop (k + 1)) (wrap64 (p + (rd_T100 l (k : Int)).f1)) (step acc ⟨(rd_T100 l (k : Int)).f0, wrap64 ((if b < wrap64 (p + (rd_T100 l (k : Int)).f1) then b else wrap64 (p + (rd_T100 l (k : Int)).f1)) - (if p < a then a else p))⟩) := by
  rw [List.drop_eq_getElem_cons hk]
  unfold rd_T100
  rw [Int.toNat_natCast, List.getD_eq_getElem?_getD, List.getElem?_eq_getElem hk]
  rfl
set_option maxHeartbeats 4000000 in
set_option maxRecDepth 100000 in
theorem some_any (step : List S100 → S100 → List S100) (hstep : ∀ acc r, (step acc r).length ≤ acc.length + 1) (fid : Nat) (caps : Array Value)
    (hcf : ∀ (args : Array Value) (w : World), Sem.run Try.prog (callFunc fid args) w = .ok (.enter fid args) w)
    (A : Option Addr) (c : Nat) (l : List S100) (a b : Int) (g : Nat) (acc0 : List S100) (w0 w : World) (hB : w0.heap.size ≤ g)
    (hr : Kd.C k100 w0 A l.length l) (hw : Below w0.heap.size w0 w) (hS : GS w0.heap.size g w acc0) (hlen : (acc0.length + l.length) * 16 ≤ 140737488355328)
    (hadd : ∀ acc L N w1, (acc.length + 1) * 16 ≤ 140737488355328 → GS w0.heap.size g w1 acc → GFrame w0.heap.size g w w1 →
      Calls Try.prog fid (#[.agg #[.int .u64 L, .int .i64 N]] ++ caps) w1 fun e w' => e = .returned (.tuple #[]) ∧ GS w0.heap.size g w' (step acc ⟨L, N⟩) ∧ GFrame w0.heap.size g w1 w') :
    Calls Try.prog 82 #[.slice A l.length c, .int .i64 a, .int .i64 b, .func (.func fid) #[] caps] w fun e w' => e = .returned (.tuple #[]) ∧ GS w0.heap.size g w' (someTo step a b l 0 acc0) ∧ GFrame w0.heap.size g w w' := by
  have hu100 := Try.underlying100
  have hmax : l.length ≤ 9223372036854775807 := hr.2.1
  have HR := aM hr
  have HW := aM hw
  have HS := aM hS
  have HA := aM hadd
  have HL := aM hlen
  have HP := aM hstep
  clear hr hw hS hadd hlen hstep
  go_enter Try.func82, Try.ntmps82
  go_wp2
  go_loopw [8, 14] (fun p i wr => ∃ (k : Nat) (pz : Int) (acc : List S100), k ≤ l.length ∧ i = .int .i64 k ∧ p = .int .i64 pz ∧ Aside0 (GS w0.heap.size g wr acc) ∧ Aside0 (GFrame w0.heap.size g w wr) ∧ Aside0 (acc.length ≤ acc0.length + k) ∧ Aside0 (someTo step a b (l.drop k) pz acc = someTo step a b l 0 acc0)) (fun _ i _ => l.length - (intOf i).toNat)
  case atStart => exact ⟨0, 0, acc0, Nat.zero_le _, rfl, rfl, HS, ⟨GFrame.refl _ _ _⟩, ⟨by omega⟩, ⟨rfl⟩⟩
  case round =>
    obtain ⟨k, pz, acc, hk, rfl, rfl, HG, HF, HAL, HE⟩ := hrel
    by_cases hlt : k < l.length
    · obtain ⟨ad, rfl, hx0, hx1⟩ := at_T100 HR.out (k : Int) (by omega) (by omega)
      have hb1 : Below w0.heap.size w0 wr := HW.out.trans HF.out.below
      replace hx0 := (hb1.cell (World.block_lt_of_cell? w0 _ hx0)).trans hx0
      replace hx1 := (hb1.cell (World.block_lt_of_cell? w0 _ hx1)).trans hx1
      simp only [Int.toNat_natCast] at hx0 hx1
      have hsn := someTo_snoc (step := step) (a := a) (b := b) hlt pz acc
      generalize (rd_T100 l (k : Int)).f0 = e0 at *
      generalize (rd_T100 l (k : Int)).f1 = e1 at *
      have HB1 := aM hb1
      have HSN := aM hsn
      clear hsn
      clear hb1
      go_wp2_with ((with_reducible refine (HA.out acc _ _ _ ?h1 ?h2 ?h3).mono ?_); (case h1 => have h1 := HL.out; have h2 := HAL.out; omega); (case h2 => exact GS_alloc HG.out _); (case h3 => exact HF.out.alloc (by have := HB1.out.size; omega) _); rintro e w2 ⟨rfl, hg2, hf2⟩; have HG2 := aM hg2; have HF2 := aM hf2; clear hg2 hf2)
      go_roundw
      case rel => exact ⟨k + 1, wrap64 (pz + e1), _, by omega, by go_num, rfl, HG2, ⟨(HF.out.alloc (by have := HB1.out.size; omega) _).trans HF2.out⟩, ⟨by have h1 := HP.out acc; have h2 := HAL.out; exact Nat.le_trans (h1 _) (by omega)⟩, ⟨HSN.out.symm.trans HE.out⟩⟩
      case measure => simp [intOf]; omega
    · have hkl : k = l.length := by omega
      subst hkl
      go_wp2
      exact bodyPost_end (results_none rfl _ _ _) rfl ⟨rfl, by have h := HE.out; rw [List.drop_length] at h; rw [← h]; exact HG.out, HF.out⟩
theorem run_enter {P : Program} {f : FuncId} {fn : Func} {c : Code} (hf : P.funcs[f]? = some fn) (hname : (fn.name == "runtime.NumGoroutine") = false) (hb : fn.body = some c) (args : Array Value) (w : World) :
    Sem.run P (callFunc f args) w = .ok (.enter f args) w := by
  have h1 : fn.name ≠ "runtime.NumGoroutine" := by simpa using hname
  simp [callFunc, hf, h1, hb]
theorem hcf103 : ∀ (args : Array Value) (w : World), Sem.run Try.prog (callFunc 103 args) w = .ok (.enter 103 args) w := fun args w => run_enter Try.func103 rfl rfl args w
theorem addRun_len (acc : List S100) (r : S100) : (addRun acc r).length ≤ acc.length + 1 := by
  unfold addRun
  repeat' split
  all_goals simp
theorem some_add (A : Option Addr) (c : Nat) (l : List S100) (a b : Int) (g : Nat) (acc0 : List S100) (w0 w : World) (hB : w0.heap.size ≤ g)
    (hr : Kd.C k100 w0 A l.length l) (hw : Below w0.heap.size w0 w) (hS : GS w0.heap.size g w acc0) (hlen : (acc0.length + l.length) * 16 ≤ 140737488355328) :
    Calls Try.prog 82 #[.slice A l.length c, .int .i64 a, .int .i64 b, .func (.func 103) #[] #[.pointer (some ⟨g, 0, none⟩)]] w fun e w' => e = .returned (.tuple #[]) ∧ GS w0.heap.size g w' (someTo addRun a b l 0 acc0) ∧ GFrame w0.heap.size g w w' :=
  some_any addRun addRun_len 103 _ hcf103 A c l a b g acc0 w0 w hB hr hw hS hlen (fun acc L N w1 h1 h2 _ => gather1 L N _ g acc w1 hB h2 h1)
set_option maxHeartbeats 4000000 in
set_option maxRecDepth 100000 in
theorem gather_any (lid : Nat) (caps : Array Value) (args : Nat → Array Value) (hargs : ∀ g, #[.func (.func 103) #[] #[.pointer (some ⟨g, 0, none⟩)]] ++ caps = args g) (hcf : ∀ (args : Array Value) (w : World), Sem.run Try.prog (callFunc lid args) w = .ok (.enter lid args) w) (R : List S100) (w : World)
    (hlay : ∀ g w1, w.heap.size ≤ g → GS w.heap.size g w1 [] → Below w.heap.size w w1 →
      Calls Try.prog lid (args g) w1 fun e w' => e = .returned (.tuple #[]) ∧ GS w.heap.size g w' R ∧ GFrame w.heap.size g w1 w') :
    Calls Try.prog 80 #[.func (.func lid) #[] caps] w fun e w' => ∃ v, e = .returned v ∧ Kd.R k100 100 w' w.heap.size (fun _ => True) v R ∧ Below w.heap.size w w' := by
  have hmf : ∀ (fn : Fn) (first cap : Array Value) (w : World), (Instr.makeFunc fn first cap).run Try.prog w = .ok (.func fn first cap) w := fun _ _ _ _ => rfl
  have HY := aM hlay
  have hargs' := hargs w.heap.size
  clear hlay hargs
  go_enter Try.func80, Try.ntmps80
  go_wp2_with ((with_reducible refine (HY.out w.heap.size _ ?h1 ?h2 ?h3).mono ?_); (case h1 => omega); (case h2 => exact ⟨_, blk_new _ _, Kd.R_nil _ _ _ _ _⟩); (case h3 => exact (Below.refl _ _).alloc (Nat.le_refl _) _); rintro e w2 ⟨rfl, hg2, hf2⟩; obtain ⟨v, hgv, hRv⟩ := hg2; have hcv : w2.cell? ⟨w.heap.size, 0, none⟩ = some v := (by rw [bC hgv]; rfl); have HG2 := aM hgv; have HR2 := aM hRv; have HF2 := aM hf2; clear hgv hRv hf2)
  go_ret
  exact ⟨v, rfl, HR2.out, ((Below.refl _ _).alloc (Nat.le_refl _) _).trans HF2.out.below⟩
theorem hcf81 : ∀ (args : Array Value) (w : World), Sem.run Try.prog (callFunc 81 args) w = .ok (.enter 81 args) w := fun args w => run_enter Try.func81 rfl rfl args w
theorem hcf86 : ∀ (args : Array Value) (w : World), Sem.run Try.prog (callFunc 86 args) w = .ok (.enter 86 args) w := fun args w => run_enter Try.func86 rfl rfl args w
theorem hcf93 : ∀ (args : Array Value) (w : World), Sem.run Try.prog (callFunc 93 args) w = .ok (.enter 93 args) w := fun args w => run_enter Try.func93 rfl rfl args w
theorem cell_later' {w0 w : World} (h : Below w0.heap.size w0 w) {p : Addr} {v : Value} (hc : w0.cell? p = some v) : w.cell? p = some v := (h.cell (World.block_lt_of_cell? w0 _ hc)).trans hc
set_option maxHeartbeats 4000000 in
set_option maxRecDepth 100000 in
theorem lay_normal (A : Option Addr) (c : Nat) (l : List S100) (bl g : Nat) (w0 w : World) (hB : w0.heap.size ≤ g) (hr : Kd.C k100 w0 A l.length l) (hbx : w0.cell? ⟨bl, 0, none⟩ = some (.slice A l.length c))
    (hw : Below w0.heap.size w0 w) (hS : GS w0.heap.size g w []) (hlen : l.length * 16 ≤ 140737488355328) :
    Calls Try.prog 81 #[.func (.func 103) #[] #[.pointer (some ⟨g, 0, none⟩)], .pointer (some ⟨bl, 0, none⟩)] w fun e w' => e = .returned (.tuple #[]) ∧ GS w0.heap.size g w' (someTo addRun 0 4096 l 0 []) ∧ GFrame w0.heap.size g w w' := by
  have hb := cell_later' hw hbx
  have HC := some_add A c l 0 4096 g [] w0 w hB hr hw hS (by simpa using hlen)
  have HC := aM HC
  clear hr hw hS hlen hbx
  go_enter Try.func81, Try.ntmps81
  go_wp2_with ((with_reducible refine HC.out.mono ?_); rintro e w2 ⟨rfl, hg2, hf2⟩; have HG2 := aM hg2; have HF2 := aM hf2; clear hg2 hf2)
  go_end0
  exact ⟨rfl, HG2.out, HF2.out⟩
set_option maxHeartbeats 4000000 in
set_option maxRecDepth 100000 in
theorem lay_slice (A : Option Addr) (c : Nat) (l : List S100) (a b : Int) (bl ba bb g : Nat) (w0 w : World) (hB : w0.heap.size ≤ g) (hr : Kd.C k100 w0 A l.length l) (hbx : w0.cell? ⟨bl, 0, none⟩ = some (.slice A l.length c))
    (hba : w0.cell? ⟨ba, 0, none⟩ = some (.int .i64 a)) (hbb : w0.cell? ⟨bb, 0, none⟩ = some (.int .i64 b))
    (hw : Below w0.heap.size w0 w) (hS : GS w0.heap.size g w []) (hlen : l.length * 16 ≤ 140737488355328) :
    Calls Try.prog 86 #[.func (.func 103) #[] #[.pointer (some ⟨g, 0, none⟩)], .pointer (some ⟨bl, 0, none⟩), .pointer (some ⟨ba, 0, none⟩), .pointer (some ⟨bb, 0, none⟩)] w fun e w' => e = .returned (.tuple #[]) ∧ GS w0.heap.size g w' (someTo addRun a b l 0 []) ∧ GFrame w0.heap.size g w w' := by
  have hb := cell_later' hw hbx
  have hb1 := cell_later' hw hba
  have hb2 := cell_later' hw hbb
  have HC := some_add A c l a b g [] w0 w hB hr hw hS (by simpa using hlen)
  have HC := aM HC
  clear hr hw hS hlen hbx hba hbb
  go_enter Try.func86, Try.ntmps86
  go_wp2_with ((with_reducible refine HC.out.mono ?_); rintro e w2 ⟨rfl, hg2, hf2⟩; have HG2 := aM hg2; have HF2 := aM hf2; clear hg2 hf2)
  go_end0
  exact ⟨rfl, HG2.out, HF2.out⟩
theorem someTo_len {step : List S100 → S100 → List S100} (hstep : ∀ acc r, (step acc r).length ≤ acc.length + 1) (a b : Int) (l : List S100) : ∀ p acc, (someTo step a b l p acc).length ≤ acc.length + l.length := by
  induction l with
  | nil => intro p acc; simp [someTo]
  | cons r l ih => intro p acc; have := ih (wrap64 (p + r.f1)) (step acc ⟨r.f0, wrap64 ((if b < wrap64 (p + r.f1) then b else wrap64 (p + r.f1)) - (if p < a then a else p))⟩); have h2 := hstep acc ⟨r.f0, wrap64 ((if b < wrap64 (p + r.f1) then b else wrap64 (p + r.f1)) - (if p < a then a else p))⟩; simp only [someTo, List.length_cons]; omega
def spliceRuns (l : List S100) (a b : Int) (m : List S100) : List S100 := someTo addRun b 4096 l 0 (someTo addRun 0 4096 m 0 (someTo addRun 0 a l 0 []))
set_option maxHeartbeats 4000000 in
set_option maxRecDepth 100000 in
theorem lay_splice (A : Option Addr) (c : Nat) (l : List S100) (a b : Int) (A2 : Option Addr) (c2 : Nat) (m : List S100) (bl ba bb bm g : Nat) (w0 w : World) (hB : w0.heap.size ≤ g) (hr : Kd.C k100 w0 A l.length l) (hrm : Kd.C k100 w0 A2 m.length m)
    (hbx : w0.cell? ⟨bl, 0, none⟩ = some (.slice A l.length c)) (hbm : w0.cell? ⟨bm, 0, none⟩ = some (.slice A2 m.length c2))
    (hba : w0.cell? ⟨ba, 0, none⟩ = some (.int .i64 a)) (hbb : w0.cell? ⟨bb, 0, none⟩ = some (.int .i64 b))
    (hw : Below w0.heap.size w0 w) (hS : GS w0.heap.size g w []) (hlen : (l.length + m.length + l.length) * 16 ≤ 140737488355328) :
    Calls Try.prog 93 #[.func (.func 103) #[] #[.pointer (some ⟨g, 0, none⟩)], .pointer (some ⟨bl, 0, none⟩), .pointer (some ⟨ba, 0, none⟩), .pointer (some ⟨bm, 0, none⟩), .pointer (some ⟨bb, 0, none⟩)] w fun e w' => e = .returned (.tuple #[]) ∧ GS w0.heap.size g w' (spliceRuns l a b m) ∧ GFrame w0.heap.size g w w' := by
  have hb := cell_later' hw hbx
  have hb1 := cell_later' hw hba
  have l1 := someTo_len addRun_len 0 a l 0 []
  have l2 := someTo_len addRun_len 0 4096 m 0 (someTo addRun 0 a l 0 [])
  simp only [List.length_nil] at l1
  have HC := some_add A c l 0 a g [] w0 w hB hr hw hS (by simp only [List.length_nil]; omega)
  have HC2 := fun W (h : Below w0.heap.size w0 W) hs => some_add A2 c2 m 0 4096 g (someTo addRun 0 a l 0 []) w0 W hB hrm h hs (by omega)
  have HC3 := fun W (h : Below w0.heap.size w0 W) hs => some_add A c l b 4096 g (someTo addRun 0 4096 m 0 (someTo addRun 0 a l 0 [])) w0 W hB hr h hs (by omega)
  have HC := aM HC
  have HC2 := aM HC2
  have HC3 := aM HC3
  have HW := aM hw
  have HBX := aM hbx
  have HBM := aM hbm
  have HBB := aM hbb
  clear hr hrm hw hS hlen hbx hbm hbb hba l1 l2
  go_enter Try.func93, Try.ntmps93
  go_wp2_with fail
  refine HC.out.mono ?_
  rintro e w1 ⟨rfl, hg2, hf2⟩
  have HG2 := aM hg2
  have HF2 := aM hf2
  have hw1 := HW.out.trans hf2.below
  have hc1 := cell_later' hw1 HBM.out
  have hc2 := cell_later' hw1 HBX.out
  have hc3 := cell_later' hw1 HBB.out
  have HW1 := aM hw1
  clear hg2 hf2 hw1
  go_wp2_with fail
  refine (HC2.out _ HW1.out HG2.out).mono ?_
  rintro e w2 ⟨rfl, hg2, hf2⟩
  have HG3 := aM hg2
  have HF3 := aM (HF2.out.trans hf2)
  have hw1 := HW1.out.trans hf2.below
  have hc4 := cell_later' hw1 HBX.out
  have hc5 := cell_later' hw1 HBB.out
  have HW2 := aM hw1
  clear hg2 hf2 hw1
  go_wp2_with fail
  refine (HC3.out _ HW2.out HG3.out).mono ?_
  rintro e w3 ⟨rfl, hg2, hf2⟩
  have HG4 := aM hg2
  have HF4 := aM (HF3.out.trans hf2)
  clear hg2 hf2
  go_wp2
  go_end0
  exact ⟨rfl, HG4.out, HF4.out⟩
def runs_Slice.f (k : Nat) (l0 : List S100) (a1 : Int) (a2 : Int) : Option (List S100 × Int) :=
  (runs_within.f k l0 a1 a2).bind fun t => if t = true then (if l0.length * 16 ≤ 140737488355328 then some (someTo addRun a1 a2 l0 0 [], 0) else none) else some ([], 2)
set_option maxHeartbeats 4000000 in
set_option maxRecDepth 100000 in
theorem runs_Slice.calls (k : Nat) (A0 : Option Addr) (c0 : Nat) (l0 : List S100) (a1 : Int) (a2 : Int) (r1 : List S100) (r2 : Int) (w : World) (hr0 : Kd.C k100 w A0 l0.length l0) (hc0 : l0.length ≤ c0) (h : runs_Slice.f k l0 a1 a2 = some (r1, r2)) :
    Calls Try.prog 32 #[.slice A0 l0.length c0, .int .i64 a1, .int .i64 a2] w fun e w' => ∃ v0_ : Value, e = .returned (.tuple #[v0_, .int .i64 r2]) ∧ Kd.R k100 100 w' w.heap.size (fun _ => True) v0_ r1 ∧ Below w.heap.size w w' := by
  have hmf : ∀ (fn : Fn) (first cap : Array Value) (w : World), (Instr.makeFunc fn first cap).run Try.prog w = .ok (.func fn first cap) w := fun _ _ _ _ => rfl
  unfold runs_Slice.f at h
  obtain ⟨t, ht, h⟩ := Option.bind_eq_some_iff.1 h
  have HC := aM (fun W (hw : Below w.heap.size w W) => runs_within.calls k A0 c0 l0 a1 a2 t W (cB_ hr0 hw) hc0 ht)
  have HR := aM hr0
  clear hr0 ht
  cases t with
  | false =>
    simp only [Bool.false_eq_true, if_false] at h
    injection h with h
    injection h with h1 h2
    subst h1; subst h2
    go_enter Try.func32, Try.ntmps32
    go_wp2_with fail
    refine (HC.out _ (((Below.refl _ _).alloc (Nat.le_refl _) _).alloc (by simp) _ |>.alloc (by simp; omega) _)).mono ?_
    rintro e w1 ⟨rfl, hb⟩
    have HB := aM hb
    clear hb
    go_wp2
    go_ret2
    exact ⟨_, rfl, Kd.R_nil _ _ _ _ _, ((((Below.refl _ _).alloc (Nat.le_refl _) _).alloc (by simp) _).alloc (by simp; omega) _).trans (HB.out.mono (by simp; omega))⟩
  | true =>
    simp only [if_true] at h
    by_cases hl : l0.length * 16 ≤ 140737488355328
    case neg => rw [if_neg hl] at h; cases h
    rw [if_pos hl] at h
    injection h with h
    injection h with h1 h2
    subst h1; subst h2
    have HL := aM hl
    clear hl
    go_enter Try.func32, Try.ntmps32
    go_wp2_with fail
    have hb3 := (((Below.refl w.heap.size w).alloc (Nat.le_refl _) (.cells #[.slice A0 l0.length c0] 22)).alloc (by simp) (.cells #[.int .i64 a1] 3) |>.alloc (by simp; omega) (.cells #[.int .i64 a2] 3))
    refine (HC.out _ hb3).mono ?_
    rintro e w1 ⟨rfl, hb⟩
    have HB := aM hb
    have HB3 := aM hb3
    have c1 : w1.cell? ⟨w.heap.size, 0, none⟩ = some (.slice A0 l0.length c0) := cell_later' hb (by simp [go_sem])
    have c2 : w1.cell? ⟨w.heap.size + 1, 0, none⟩ = some (.int .i64 a1) := cell_later' hb (by simp [go_sem])
    have c3 : w1.cell? ⟨w.heap.size + 1 + 1, 0, none⟩ = some (.int .i64 a2) := cell_later' hb (by simp [go_sem])
    clear hb hb3
    have HG := aM (gather_any 86 #[.pointer (some ⟨w.heap.size, 0, none⟩), .pointer (some ⟨w.heap.size + 1, 0, none⟩), .pointer (some ⟨w.heap.size + 1 + 1, 0, none⟩)] _ (fun g => rfl) hcf86 (someTo addRun a1 a2 l0 0 []) w1 (fun g w2 h1 h2 h3 => lay_slice A0 c0 l0 a1 a2 _ _ _ g w1 w2 h1 (cB_ HR.out ((HB3.out.trans (HB.out.mono (by simp; omega))))) c1 c2 c3 h3 h2 HL.out))
    go_wp2_with ((with_reducible refine HG.out.mono ?_); rintro e w3 ⟨v, rfl, hRv, hBv⟩; have HV := aM hRv; have HBV := aM hBv; clear hRv hBv)
    go_ret2
    exact ⟨_, rfl, rL HV.out (by have := HB.out.size; simp at this; omega), (HB3.out.trans (HB.out.mono (by simp; omega))).trans (HBV.out.mono (by have := HB.out.size; simp at this; omega))⟩
def runs_Normal.f (k : Nat) (l0 : List S100) : Option (List S100 × Int) :=
  if (∃ j : Nat, j < l0.length ∧ (rd_T100 l0 (j : Int)).f1 < 0) then some ([], 2) else (runs_Total.f k l0).bind fun t => if t > 4096 then some ([], 3) else if l0.length * 16 ≤ 140737488355328 then some (someTo addRun 0 4096 l0 0 [], 0) else none
theorem runs_Normal.mono : ∀ a0 k, LeO (runs_Normal.f k a0) (runs_Normal.f (k + 1) a0) := fun a0 k => LeO.ite (LeO.refl _) (LeO.bind (runs_Total.mono _ _) (fun _ => LeO.refl _))
set_option maxHeartbeats 4000000 in
set_option maxRecDepth 100000 in
theorem runs_Normal.neg (A0 : Option Addr) (c0 : Nat) (l0 : List S100) (j : Nat) (w : World) (hr0 : Kd.C k100 w A0 l0.length l0) (hj : j < l0.length) (hn : (rd_T100 l0 (j : Int)).f1 < 0) :
    Calls Try.prog 25 #[.slice A0 l0.length c0] w fun e w' => ∃ v0_ : Value, e = .returned (.tuple #[v0_, .int .i64 2]) ∧ Kd.R k100 100 w' w.heap.size (fun _ => True) v0_ [] ∧ Below w.heap.size w w' := by
  have hmf : ∀ (fn : Fn) (first cap : Array Value) (w : World), (Instr.makeFunc fn first cap).run Try.prog w = .ok (.func fn first cap) w := fun _ _ _ _ => rfl
  have hu100 := Try.underlying100
  have hmax : l0.length ≤ 9223372036854775807 := hr0.2.1
  have HR := aM hr0
  have HN := aM hn
  clear hr0 hn
  go_enter Try.func25, Try.ntmps25
  go_wp2
  go_loopw [8] (fun i wr => ∃ (k : Nat), k ≤ j ∧ i = .int .i64 k ∧ Aside0 (Below w.heap.size w wr)) (fun i _ => l0.length - (intOf i).toNat)
  case atStart => exact ⟨0, Nat.zero_le _, rfl, ⟨(Below.refl _ _).alloc (Nat.le_refl _) _⟩⟩
  case round =>
    obtain ⟨k, hk, rfl, HB⟩ := hrel
    have hlt : k < l0.length := by omega
    obtain ⟨ad, rfl, hx0, hx1⟩ := at_T100 HR.out (k : Int) (by omega) (by omega)
    replace hx0 := (HB.out.cell (World.block_lt_of_cell? w _ hx0)).trans hx0
    replace hx1 := (HB.out.cell (World.block_lt_of_cell? w _ hx1)).trans hx1
    simp only [Int.toNat_natCast] at hx0 hx1
    by_cases hneg : (rd_T100 l0 (k : Int)).f1 < 0
    · generalize (rd_T100 l0 (k : Int)).f0 = e0 at *
      generalize (rd_T100 l0 (k : Int)).f1 = e1 at *
      have hd : decide (e1 < 0) = true := by simpa using hneg
      go_wp2
      go_ret2
      exact ⟨_, rfl, Kd.R_nil _ _ _ _ _, HB.out.alloc HB.out.size _⟩
    · have hkj : k < j := by
        rcases Nat.lt_or_ge k j with h | h
        · exact h
        · obtain rfl : k = j := by omega
          exact absurd HN.out hneg
      generalize (rd_T100 l0 (k : Int)).f0 = e0 at *
      generalize (rd_T100 l0 (k : Int)).f1 = e1 at *
      have hd : decide (e1 < 0) = false := by simpa using hneg
      go_wp2
      go_roundw
      case rel => exact ⟨k + 1, by omega, by go_num, ⟨HB.out.alloc HB.out.size _⟩⟩
      case measure => simp [intOf]; omega
set_option maxHeartbeats 4000000 in
set_option maxRecDepth 100000 in
theorem runs_Normal.pos (k : Nat) (A0 : Option Addr) (c0 : Nat) (l0 : List S100) (r1 : List S100) (r2 : Int) (w : World) (hr0 : Kd.C k100 w A0 l0.length l0) (hc0 : l0.length ≤ c0)
    (hn : ∀ j : Nat, j < l0.length → ¬ (rd_T100 l0 (j : Int)).f1 < 0) (t : Int) (ht : runs_Total.f k l0 = some t)
    (h : (if t > 4096 then some ([], 3) else if l0.length * 16 ≤ 140737488355328 then some (someTo addRun 0 4096 l0 0 [], 0) else none) = some (r1, r2)) :
    Calls Try.prog 25 #[.slice A0 l0.length c0] w fun e w' => ∃ v0_ : Value, e = .returned (.tuple #[v0_, .int .i64 r2]) ∧ Kd.R k100 100 w' w.heap.size (fun _ => True) v0_ r1 ∧ Below w.heap.size w w' := by
  have hmf : ∀ (fn : Fn) (first cap : Array Value) (w : World), (Instr.makeFunc fn first cap).run Try.prog w = .ok (.func fn first cap) w := fun _ _ _ _ => rfl
  have hu100 := Try.underlying100
  have hmax : l0.length ≤ 9223372036854775807 := hr0.2.1
  have HR := aM hr0
  have HN := aM hn
  have HC := aM (fun W (hw : Below w.heap.size w W) => runs_Total.calls k A0 c0 l0 t W (cB_ hr0 hw) hc0 ht)
  have HH := aM h
  clear hr0 hn h ht
  go_enter Try.func25, Try.ntmps25
  go_wp2
  go_loopw [8] (fun i wr => ∃ (k : Nat), k ≤ l0.length ∧ i = .int .i64 k ∧ Aside0 (Below w.heap.size w wr) ∧ Aside0 (w.heap.size + 1 ≤ wr.heap.size) ∧ wr.cell? ⟨w.heap.size, 0, none⟩ = some (.slice A0 l0.length c0)) (fun i _ => l0.length - (intOf i).toNat)
  case atStart => exact ⟨0, Nat.zero_le _, rfl, ⟨(Below.refl _ _).alloc (Nat.le_refl _) _⟩, ⟨by simp⟩, by simp [go_sem]⟩
  case round =>
    obtain ⟨k, hk, rfl, HB, HZ, hcl⟩ := hrel
    have hcl2 := World.block_lt_of_cell? wr _ hcl
    by_cases hlt : k < l0.length
    · obtain ⟨ad, rfl, hx0, hx1⟩ := at_T100 HR.out (k : Int) (by omega) (by omega)
      replace hx0 := (HB.out.cell (World.block_lt_of_cell? w _ hx0)).trans hx0
      replace hx1 := (HB.out.cell (World.block_lt_of_cell? w _ hx1)).trans hx1
      simp only [Int.toNat_natCast] at hx0 hx1
      have hneg := HN.out k hlt
      generalize (rd_T100 l0 (k : Int)).f0 = e0 at *
      generalize (rd_T100 l0 (k : Int)).f1 = e1 at *
      have hd : decide (e1 < 0) = false := by simpa using hneg
      go_wp2
      go_roundw
      case rel => exact ⟨k + 1, by omega, by go_num, ⟨HB.out.alloc HB.out.size _⟩, ⟨by have := HZ.out; simp; omega⟩, (by first | exact cell_later' ((Below.refl _ _).alloc (Nat.le_refl _) _) hcl | simp [go_sem, hcl])⟩
      case measure => simp [intOf]; omega
    · have hkl : k = l0.length := by omega
      subst hkl
      go_wp2_with fail
      refine (HC.out _ HB.out).mono ?_
      rintro e w1 ⟨rfl, hb⟩
      have c1 := cell_later' hb hcl
      have HB1 := aM hb
      have HH1 := HH.out
      clear hb
      by_cases h4 : t > 4096
      · have hd : decide (4096 < t) = true := by simpa using h4
        rw [if_pos h4] at HH1
        injection HH1 with h
        injection h with h1 h2
        subst h1; subst h2
        clear h4
        go_wp2
        go_ret2
        exact ⟨_, rfl, Kd.R_nil _ _ _ _ _, HB.out.trans (HB1.out.mono HB.out.size)⟩
      · have hd : decide (4096 < t) = false := by simpa using h4
        rw [if_neg h4] at HH1
        by_cases hl : l0.length * 16 ≤ 140737488355328
        case neg => rw [if_neg hl] at HH1; cases HH1
        rw [if_pos hl] at HH1
        injection HH1 with h
        injection h with h1 h2
        subst h1; subst h2
        have HL := aM hl
        clear hl h4
        have HG := aM (gather_any 81 #[.pointer (some ⟨w.heap.size, 0, none⟩)] _ (fun g => rfl) hcf81 (someTo addRun 0 4096 l0 0 []) w1 (fun g w2 h1 h2 h3 => lay_normal A0 c0 l0 _ g w1 w2 h1 (cB_ HR.out (HB.out.trans (HB1.out.mono HB.out.size))) c1 h3 h2 HL.out))
        go_wp2_with ((with_reducible refine HG.out.mono ?_); rintro e w3 ⟨v, rfl, hRv, hBv⟩; have HV := aM hRv; have HBV := aM hBv; clear hRv hBv)
        go_ret2
        exact ⟨_, rfl, rL HV.out (Nat.le_trans HB.out.size HB1.out.size), (HB.out.trans (HB1.out.mono HB.out.size)).trans (HBV.out.mono (Nat.le_trans HB.out.size HB1.out.size))⟩
theorem runs_Normal.calls (k : Nat) (A0 : Option Addr) (c0 : Nat) (l0 : List S100) (r1 : List S100) (r2 : Int) (w : World) (hr0 : Kd.C k100 w A0 l0.length l0) (hc0 : l0.length ≤ c0) (h : runs_Normal.f k l0 = some (r1, r2)) :
    Calls Try.prog 25 #[.slice A0 l0.length c0] w fun e w' => ∃ v0_ : Value, e = .returned (.tuple #[v0_, .int .i64 r2]) ∧ Kd.R k100 100 w' w.heap.size (fun _ => True) v0_ r1 ∧ Below w.heap.size w w' := by
  unfold runs_Normal.f at h
  by_cases hn : ∃ j : Nat, j < l0.length ∧ (rd_T100 l0 (j : Int)).f1 < 0
  · rw [if_pos hn] at h
    injection h with h
    injection h with h1 h2
    subst h1; subst h2
    obtain ⟨j, hj, hn⟩ := hn
    exact runs_Normal.neg A0 c0 l0 j w hr0 hj hn
  · rw [if_neg hn] at h
    obtain ⟨t, ht, h⟩ := Option.bind_eq_some_iff.1 h
    exact runs_Normal.pos k A0 c0 l0 r1 r2 w hr0 hc0 (fun j hj hh => hn ⟨j, hj, hh⟩) t ht h
def runs_Splice.f (k : Nat) (l0 : List S100) (a1 : Int) (a2 : Int) (l3 : List S100) : Option (List S100 × Int) :=
  (runs_within.f k l0 a1 a2).bind fun t => if t = true then ((runs_Good.f k l3).bind fun u => if u = true then ((runs_Total.f k l0).bind fun p => (runs_Total.f k l3).bind fun q =>
    if wrap64 (wrap64 (p - wrap64 (a2 - a1)) + q) > 4096 then some ([], 3) else if (l0.length + l3.length + l0.length) * 16 ≤ 140737488355328 then some (spliceRuns l0 a1 a2 l3, 0) else none) else some ([], 2)) else some ([], 2)
theorem runs_Splice.mono : ∀ a0 a1 a2 a3 k, LeO (runs_Splice.f k a0 a1 a2 a3) (runs_Splice.f (k + 1) a0 a1 a2 a3) := fun a0 a1 a2 a3 k =>
  LeO.bind (runs_within.mono _ _ _ _) (fun _ => LeO.ite (LeO.bind (runs_Good.mono _ _) (fun _ => LeO.ite (LeO.bind (runs_Total.mono _ _) (fun _ => LeO.bind (runs_Total.mono _ _) (fun _ => LeO.refl _))) (LeO.refl _))) (LeO.refl _))
theorem splice_boxes {w w1 : World} {x0 x1 x2 x3 : Value} (hb : Below ((((w.alloc (.cells #[x0] 22)).alloc (.cells #[x1] 3)).alloc (.cells #[x2] 3)).alloc (.cells #[x3] 22)).heap.size ((((w.alloc (.cells #[x0] 22)).alloc (.cells #[x1] 3)).alloc (.cells #[x2] 3)).alloc (.cells #[x3] 22)) w1) :
    Below w.heap.size w w1 ∧ w1.cell? ⟨w.heap.size, 0, none⟩ = some x0 ∧ w1.cell? ⟨w.heap.size + 1, 0, none⟩ = some x1 ∧ w1.cell? ⟨w.heap.size + 1 + 1, 0, none⟩ = some x2 ∧ w1.cell? ⟨w.heap.size + 1 + 1 + 1, 0, none⟩ = some x3 ∧ w.heap.size + 1 + 1 + 1 + 1 ≤ w1.heap.size :=
  ⟨((((Below.refl _ _).alloc (Nat.le_refl _) _).alloc (by simp) _).alloc (by simp; omega) _ |>.alloc (by simp; omega) _).trans (hb.mono (by simp; omega)),
   cell_later' hb (by simp [go_sem]), cell_later' hb (by simp [go_sem]), cell_later' hb (by simp [go_sem]), cell_later' hb (by simp [go_sem]), by have := hb.size; simpa using this⟩
set_option maxHeartbeats 4000000 in
set_option maxRecDepth 100000 in
theorem runs_Splice.out (k : Nat) (A0 : Option Addr) (c0 : Nat) (l0 : List S100) (a1 : Int) (a2 : Int) (A3 : Option Addr) (c3 : Nat) (l3 : List S100) (w : World) (hr0 : Kd.C k100 w A0 l0.length l0) (hc0 : l0.length ≤ c0) (ht : runs_within.f k l0 a1 a2 = some false) :
    Calls Try.prog 40 #[.slice A0 l0.length c0, .int .i64 a1, .int .i64 a2, .slice A3 l3.length c3] w fun e w' => ∃ v0_ : Value, e = .returned (.tuple #[v0_, .int .i64 2]) ∧ Kd.R k100 100 w' w.heap.size (fun _ => True) v0_ [] ∧ Below w.heap.size w w' := by
  have hmf : ∀ (fn : Fn) (first cap : Array Value) (w : World), (Instr.makeFunc fn first cap).run Try.prog w = .ok (.func fn first cap) w := fun _ _ _ _ => rfl
  have HC := aM (fun W (hw : Below w.heap.size w W) => runs_within.calls k A0 c0 l0 a1 a2 false W (cB_ hr0 hw) hc0 ht)
  clear hr0 ht
  go_enter Try.func40, Try.ntmps40
  go_wp2_with fail
  refine (HC.out _ (splice_boxes (Below.refl _ _)).1).mono ?_
  rintro e w1 ⟨rfl, hb⟩
  have HB := aM (splice_boxes hb)
  clear hb
  go_wp2
  go_ret2
  exact ⟨_, rfl, Kd.R_nil _ _ _ _ _, HB.out.1⟩
set_option maxHeartbeats 4000000 in
set_option maxRecDepth 100000 in
theorem runs_Splice.bad (k : Nat) (A0 : Option Addr) (c0 : Nat) (l0 : List S100) (a1 : Int) (a2 : Int) (A3 : Option Addr) (c3 : Nat) (l3 : List S100) (w : World) (hr0 : Kd.C k100 w A0 l0.length l0) (hc0 : l0.length ≤ c0) (hr3 : Kd.C k100 w A3 l3.length l3) (hc3 : l3.length ≤ c3)
    (ht : runs_within.f k l0 a1 a2 = some true) (hu : runs_Good.f k l3 = some false) :
    Calls Try.prog 40 #[.slice A0 l0.length c0, .int .i64 a1, .int .i64 a2, .slice A3 l3.length c3] w fun e w' => ∃ v0_ : Value, e = .returned (.tuple #[v0_, .int .i64 2]) ∧ Kd.R k100 100 w' w.heap.size (fun _ => True) v0_ [] ∧ Below w.heap.size w w' := by
  have hmf : ∀ (fn : Fn) (first cap : Array Value) (w : World), (Instr.makeFunc fn first cap).run Try.prog w = .ok (.func fn first cap) w := fun _ _ _ _ => rfl
  have HC := aM (fun W (hw : Below w.heap.size w W) => runs_within.calls k A0 c0 l0 a1 a2 true W (cB_ hr0 hw) hc0 ht)
  have HG := aM (fun W (hw : Below w.heap.size w W) => runs_Good.calls k A3 c3 l3 false W (cB_ hr3 hw) hc3 hu)
  clear hr0 ht hr3 hu
  go_enter Try.func40, Try.ntmps40
  go_wp2_with fail
  refine (HC.out _ (splice_boxes (Below.refl _ _)).1).mono ?_
  rintro e w1 ⟨rfl, hb⟩
  have HB := aM (splice_boxes hb)
  have hc4 := (splice_boxes hb).2.2.2.2.1
  clear hb
  go_wp2_with fail
  refine (HG.out _ HB.out.1).mono ?_
  rintro e w2 ⟨rfl, hb⟩
  have HB2 := aM (HB.out.1.trans (hb.mono (by have := HB.out.2.2.2.2.2; omega)))
  clear hb
  go_wp2
  go_ret2
  exact ⟨_, rfl, Kd.R_nil _ _ _ _ _, HB2.out⟩
set_option maxHeartbeats 4000000 in
set_option maxRecDepth 100000 in
theorem runs_Splice.rest (k : Nat) (A0 : Option Addr) (c0 : Nat) (l0 : List S100) (a1 : Int) (a2 : Int) (A3 : Option Addr) (c3 : Nat) (l3 : List S100) (r1 : List S100) (r2 : Int) (w : World) (hr0 : Kd.C k100 w A0 l0.length l0) (hc0 : l0.length ≤ c0) (hr3 : Kd.C k100 w A3 l3.length l3) (hc3 : l3.length ≤ c3)
    (ht : runs_within.f k l0 a1 a2 = some true) (hu : runs_Good.f k l3 = some true) (p q : Int) (hp : runs_Total.f k l0 = some p) (hq : runs_Total.f k l3 = some q)
    (h : (if wrap64 (wrap64 (p - wrap64 (a2 - a1)) + q) > 4096 then some ([], 3) else if (l0.length + l3.length + l0.length) * 16 ≤ 140737488355328 then some (spliceRuns l0 a1 a2 l3, 0) else none) = some (r1, r2)) :
    Calls Try.prog 40 #[.slice A0 l0.length c0, .int .i64 a1, .int .i64 a2, .slice A3 l3.length c3] w fun e w' => ∃ v0_ : Value, e = .returned (.tuple #[v0_, .int .i64 r2]) ∧ Kd.R k100 100 w' w.heap.size (fun _ => True) v0_ r1 ∧ Below w.heap.size w w' := by
  have hmf : ∀ (fn : Fn) (first cap : Array Value) (w : World), (Instr.makeFunc fn first cap).run Try.prog w = .ok (.func fn first cap) w := fun _ _ _ _ => rfl
  have HC := aM (fun W (hw : Below w.heap.size w W) => runs_within.calls k A0 c0 l0 a1 a2 true W (cB_ hr0 hw) hc0 ht)
  have HG := aM (fun W (hw : Below w.heap.size w W) => runs_Good.calls k A3 c3 l3 true W (cB_ hr3 hw) hc3 hu)
  have HT1 := aM (fun W (hw : Below w.heap.size w W) => runs_Total.calls k A0 c0 l0 p W (cB_ hr0 hw) hc0 hp)
  have HT2 := aM (fun W (hw : Below w.heap.size w W) => runs_Total.calls k A3 c3 l3 q W (cB_ hr3 hw) hc3 hq)
  have HR0 := aM hr0
  have HR3 := aM hr3
  have HH := aM h
  clear hr0 ht hr3 hu hp hq h
  go_enter Try.func40, Try.ntmps40
  go_wp2_with fail
  refine (HC.out _ (splice_boxes (Below.refl _ _)).1).mono ?_
  rintro e w1 ⟨rfl, hb⟩
  have HB := aM hb
  have hc4 := (splice_boxes hb).2.2.2.2.1
  clear hb
  go_wp2_with fail
  refine (HG.out _ (splice_boxes HB.out).1).mono ?_
  rintro e w2 ⟨rfl, hb⟩
  have HB2 := aM (HB.out.trans (hb.mono (by have := (splice_boxes HB.out).2.2.2.2.2; simp; omega)))
  clear hb hc4
  obtain ⟨hc1, hc2, hc3', hc4, hc5⟩ := (splice_boxes HB2.out).2
  have HZ := aM hc5
  clear hc5
  go_wp2_with fail
  go_region_held3 (fun w' => w'.cell? ⟨w.heap.size, 0, none⟩ = some (.slice A0 l0.length c0) ∧ w'.cell? ⟨w.heap.size + 1, 0, none⟩ = some (.int .i64 a1) ∧ w'.cell? ⟨w.heap.size + 1 + 1, 0, none⟩ = some (.int .i64 a2) ∧ w'.cell? ⟨w.heap.size + 1 + 1 + 1, 0, none⟩ = some (.slice A3 l3.length c3) ∧ Aside0 (Below w2.heap.size w2 w'))
    (first
      | exact ⟨hc1, hc2, hc3', hc4, ⟨below_drew (Below.refl _ _)⟩⟩
      | (go_split_ands; exact ⟨cell_later' hb (by assumption), cell_later' hb (by assumption), cell_later' hb (by assumption), cell_later' hb (by assumption), ⟨(fun (g5 : Aside0 (Below w2.heap.size w2 _)) => g5.out.trans (hb.mono g5.out.size)) (by assumption)⟩⟩))
    (first
      | (go_at_call 30; first | ((with_reducible refine (HT1.out _ ?hw).mono ?_); (case hw => go_split_ands; exact (splice_boxes HB2.out).1.trans ((by assumption : Aside0 (Below w2.heap.size w2 _)).out.mono (by have := HZ.out; omega))); rintro e w3 ⟨rfl, hb⟩) | ((with_reducible refine (HT2.out _ ?hw).mono ?_); (case hw => go_split_ands; exact (splice_boxes HB2.out).1.trans ((by assumption : Aside0 (Below w2.heap.size w2 _)).out.mono (by have := HZ.out; omega))); rintro e w3 ⟨rfl, hb⟩)))
  clear hc1 hc2 hc3' hc4
  obtain ⟨hc1, hc2, hc3', hc4, hB3⟩ := ‹_ ∧ _›
  have HB3 := aM (HB2.out.trans (hB3.out.mono (by have := HZ.out; simp; omega)))
  clear hB3
  have HH1 := HH.out
  rw [← i64_w, ← i64_w, ← i64_w] at HH1
  generalize IntKind.i64.wrap (IntKind.i64.wrap (p - IntKind.i64.wrap (a2 - a1)) + q) = z at HH1 ⊢
  by_cases h4 : z > 4096
  · have hd : decide (4096 < z) = true := by simpa using h4
    rw [if_pos h4] at HH1
    injection HH1 with h
    injection h with h1 h2
    subst h1; subst h2
    have h4' : 4096 < z := h4
    go_wp2
    go_ret2
    exact ⟨_, rfl, Kd.R_nil _ _ _ _ _, (splice_boxes HB3.out).1⟩
  · have hd : decide (4096 < z) = false := by simpa using h4
    rw [if_neg h4] at HH1
    by_cases hl : (l0.length + l3.length + l0.length) * 16 ≤ 140737488355328
    case neg => rw [if_neg hl] at HH1; cases HH1
    rw [if_pos hl] at HH1
    injection HH1 with h
    injection h with h1 h2
    subst h1; subst h2
    have HL := aM hl
    have h4' : ¬ 4096 < z := h4
    clear hl
    have HG := aM (gather_any 93 #[.pointer (some ⟨w.heap.size, 0, none⟩), .pointer (some ⟨w.heap.size + 1, 0, none⟩), .pointer (some ⟨w.heap.size + 1 + 1 + 1, 0, none⟩), .pointer (some ⟨w.heap.size + 1 + 1, 0, none⟩)] _ (fun g => rfl) hcf93 (spliceRuns l0 a1 a2 l3) w3 (fun g w4 h1 h2 h3 => lay_splice A0 c0 l0 a1 a2 A3 c3 l3 _ _ _ _ g w3 w4 h1 (cB_ HR0.out (splice_boxes HB3.out).1) (cB_ HR3.out (splice_boxes HB3.out).1) hc1 hc4 hc2 hc3' h3 h2 HL.out))
    go_wp2_with ((with_reducible refine HG.out.mono ?_); rintro e w5 ⟨v, rfl, hRv, hBv⟩; have HV := aM hRv; have HBV := aM hBv; clear hRv hBv)
    go_ret2
    exact ⟨_, rfl, rL HV.out (by have := (splice_boxes HB3.out).1.size; omega), (splice_boxes HB3.out).1.trans (HBV.out.mono (by have := (splice_boxes HB3.out).1.size; omega))⟩
theorem runs_Splice.calls (k : Nat) (A0 : Option Addr) (c0 : Nat) (l0 : List S100) (a1 : Int) (a2 : Int) (A3 : Option Addr) (c3 : Nat) (l3 : List S100) (r1 : List S100) (r2 : Int) (w : World) (hr0 : Kd.C k100 w A0 l0.length l0) (hc0 : l0.length ≤ c0) (hr3 : Kd.C k100 w A3 l3.length l3) (hc3 : l3.length ≤ c3) (h : runs_Splice.f k l0 a1 a2 l3 = some (r1, r2)) :
    Calls Try.prog 40 #[.slice A0 l0.length c0, .int .i64 a1, .int .i64 a2, .slice A3 l3.length c3] w fun e w' => ∃ v0_ : Value, e = .returned (.tuple #[v0_, .int .i64 r2]) ∧ Kd.R k100 100 w' w.heap.size (fun _ => True) v0_ r1 ∧ Below w.heap.size w w' := by
  unfold runs_Splice.f at h
  obtain ⟨t, ht, h⟩ := Option.bind_eq_some_iff.1 h
  cases t with
  | false =>
    simp only [Bool.false_eq_true, if_false] at h
    injection h with h
    injection h with h1 h2
    subst h1; subst h2
    exact runs_Splice.out k A0 c0 l0 a1 a2 A3 c3 l3 w hr0 hc0 ht
  | true =>
    simp only [if_true] at h
    obtain ⟨u, hu, h⟩ := Option.bind_eq_some_iff.1 h
    cases u with
    | false =>
      simp only [Bool.false_eq_true, if_false] at h
      injection h with h
      injection h with h1 h2
      subst h1; subst h2
      exact runs_Splice.bad k A0 c0 l0 a1 a2 A3 c3 l3 w hr0 hc0 hr3 hc3 ht hu
    | true =>
      simp only [if_true] at h
      obtain ⟨p, hp, h⟩ := Option.bind_eq_some_iff.1 h
      obtain ⟨q, hq, h⟩ := Option.bind_eq_some_iff.1 h
      exact runs_Splice.rest k A0 c0 l0 a1 a2 A3 c3 l3 r1 r2 w hr0 hc0 hr3 hc3 ht hu p q hp hq h
theorem GS_drewN {B g : Nat} {w : World} {xs : List S100} (h : GS B g w xs) (n : Nat) : GS B g (w.drewN n) xs := by
  obtain ⟨v, hg, hR⟩ := h
  exact ⟨v, hg, Kd.R_drewN hR n⟩
theorem GS_box {B g : Nat} {w : World} {xs : List S100} (h : GS B g w xs) (o : Obj) (n : Nat) : GS B g ((w.alloc o).drewN n) xs := by
  obtain ⟨v, hg, hR⟩ := h
  exact ⟨v, box_heap o n hg, Kd.R_drewN (Kd.R_alloc hR o) n⟩
def joinRun (y : Int) (xs : List S100) (r : S100) : List S100 := addRun xs ⟨Go.bits .or .u64 r.f0 y, r.f1⟩
set_option maxHeartbeats 4000000 in
set_option maxRecDepth 100000 in
theorem raise1 (L N Y : Int) (B g bf bj : Nat) (xs : List S100) (w : World) (hB : B ≤ g) (hS : GS B g w xs) (hlen : (xs.length + 1) * 16 ≤ 140737488355328)
    (hf : w.heap[bf]? = some (.cells #[.func (.func 103) #[] #[.pointer (some ⟨g, 0, none⟩)]] 102 (0, 0))) (hj : w.cell? ⟨bj, 0, none⟩ = some (.int .u64 Y)) :
    Calls Try.prog 91 #[.agg #[.int .u64 L, .int .i64 N], .pointer (some ⟨bf, 0, none⟩), .pointer (some ⟨bj, 0, none⟩)] w fun e w' => e = .returned (.tuple #[]) ∧ GS B g w' (joinRun Y xs ⟨L, N⟩) ∧ GFrame B g w w' := by
  have hu100 := Try.underlying100
  have hcf := bC hf 0
  simp only [List.getElem?_toArray, List.getElem?_cons_zero] at hcf
  have hlt := World.block_lt_of_cell? w _ hj
  have hlt2 := World.block_lt_of_cell? w _ hcf
  have hBw : B ≤ w.heap.size := by obtain ⟨v, hg, _⟩ := hS; exact Nat.le_trans hB (Nat.le_of_lt (blk_lt hg))
  have HS := aM hS
  have HL := aM hlen
  clear hS hlen hf
  go_enter Try.func91, Try.ntmps91
  go_wp2_with fail
  refine start_ (n := 9) (S := fun w' => w'.cell? ⟨bf, 0, none⟩ = some (.func (.func 103) #[] #[.pointer (some ⟨g, 0, none⟩)]) ∧ w'.cell? ⟨bj, 0, none⟩ = some (.int .u64 Y) ∧ w'.cell? ⟨w.heap.size, 0, none⟩ = some (.int .u64 L) ∧ w'.cell? ⟨w.heap.size, 1, none⟩ = some (.int .i64 N) ∧ Aside0 (GS B g w' xs) ∧ Aside0 (GFrame B g w w')) (ds := [8]) #[false, false, false, false, false, false, false, false, false] (by kernel_rfl) rfl rfl ⟨cell_later' (below_drew ((Below.refl _ _).alloc (Nat.le_refl _) _)) hcf, cell_later' (below_drew ((Below.refl _ _).alloc (Nat.le_refl _) _)) hj, by simp [go_sem], by simp [go_sem], ⟨GS_box HS.out _ 1⟩, ⟨GFrame.box hBw _ 1⟩⟩ (fun hHeld => ?_)
  generalize (w.alloc (.cells #[.int .u64 L, .int .i64 N] 100)).drew = w1 at hHeld ⊢
  refine pure_ (i := 1) (N := some 5) (v := ?_) (a' := ?_) #[false, true, false, false, false, false, false, false, false] rfl rfl (by kernel_rfl) (fun _ _ _ h => h) (Or.inl ⟨by rfl, ?_⟩) ?_ ?_
  rotate_left
  · intro w'
    go_simp
    with_reducible rfl
  rotate_left
  · simp only [Act.put, List.setIfInBounds_toArray, List.set_cons_zero, List.set_cons_succ]
    rfl
  refine pure_ (i := 5) (N := some 9) (v := ?_) (a' := ?_) #[false, true, false, false, false, true, false, false, false] rfl rfl (by kernel_rfl) (fun _ _ _ h => h) (Or.inl ⟨by rfl, ?_⟩) ?_ ?_
  rotate_left
  · intro w'
    go_simp
    with_reducible rfl
  rotate_left
  · simp only [Act.put, List.setIfInBounds_toArray, List.set_cons_zero, List.set_cons_succ]
    rfl
  refine take_ (i := 0) (N := some 4) (v := ?_) (a' := ?_) #[true, true, false, false, false, true, false, false, false] rfl rfl (by kernel_rfl) (fun _ _ _ h => h) (Or.inl ⟨by rfl, ?_⟩) hHeld ?_ ?_
  rotate_left
  · rintro w' ⟨s0, s1, s2, s3, _, _⟩
    go_simp
    with_reducible rfl
  rotate_left
  · simp only [Act.put, List.setIfInBounds_toArray, List.set_cons_zero, List.set_cons_succ]
    rfl
  refine take_ (i := 2) (N := some 6) (v := ?_) (a' := ?_) #[true, true, true, false, false, true, false, false, false] rfl rfl (by kernel_rfl) (fun _ _ _ h => h) (Or.inl ⟨by rfl, ?_⟩) hHeld ?_ ?_
  rotate_left
  · rintro w' ⟨s0, s1, s2, s3, _, _⟩
    go_simp
    with_reducible rfl
  rotate_left
  · simp only [Act.put, List.setIfInBounds_toArray, List.set_cons_zero, List.set_cons_succ]
    rfl
  refine take_ (i := 3) (N := some 7) (v := ?_) (a' := ?_) #[true, true, true, true, false, true, false, false, false] rfl rfl (by kernel_rfl) (fun _ _ _ h => h) (Or.inl ⟨by rfl, ?_⟩) hHeld ?_ ?_
  rotate_left
  · rintro w' ⟨s0, s1, s2, s3, _, _⟩
    go_simp
    with_reducible rfl
  rotate_left
  · simp only [Act.put, List.setIfInBounds_toArray, List.set_cons_zero, List.set_cons_succ]
    rfl
  refine take_ (i := 6) (N := some 10) (v := ?_) (a' := ?_) #[true, true, true, true, false, true, true, false, false] rfl rfl (by kernel_rfl) (fun _ _ _ h => h) (Or.inl ⟨by rfl, ?_⟩) hHeld ?_ ?_
  rotate_left
  · rintro w' ⟨s0, s1, s2, s3, _, _⟩
    go_simp
    with_reducible rfl
  rotate_left
  · simp only [Act.put, List.setIfInBounds_toArray, List.set_cons_zero, List.set_cons_succ]
    rfl
  refine one_ (i := 4) (N := some 8) #[true, true, true, true, true, true, true, false, false] rfl rfl (by kernel_rfl) (by decide) (fun K hK => ?_)
  refine goes_ Try.func88 (by kernel_rfl) rfl #[.int .u64 L, .int .u64 Y] (by rfl) rfl rfl (by simp [Act.eval]) ?_
  refine (label_Join.calls L Y _ _ rfl).mono ?_
  rintro e w2 ⟨rfl, hd⟩
  refine ⟨_, rfl, ?_⟩
  obtain ⟨h1, h2, h3, h4, h5, h6⟩ := hHeld
  have hb2 := hd.below
  obtain ⟨⟨nq, rfl⟩⟩ := hd
  refine hK.out _ _ ⟨h1, h2, h3, h4, ⟨GS_drewN h5.out nq⟩, ⟨h6.out.drewN nq⟩⟩ (fun hHeld => ?_)
  clear h1 h2 h3 h4 h5 h6 hK hb2
  generalize w1.drewN nq = w2 at hHeld ⊢
  refine norm_ (by simp only [Act.put, List.setIfInBounds_toArray, List.set_cons_zero, List.set_cons_succ]; rfl) ?_
  refine pure_ (i := 7) (N := some 11) (v := ?_) (a' := ?_) #[true, true, true, true, true, true, true, true, false] rfl rfl (by kernel_rfl) (fun _ _ _ h => h) (Or.inl ⟨by rfl, ?_⟩) ?_ ?_
  rotate_left
  · intro w'
    go_simp
    with_reducible rfl
  rotate_left
  · simp only [Act.put, List.setIfInBounds_toArray, List.set_cons_zero, List.set_cons_succ]
    rfl
  refine last_ (i := 8) (N := some 12) #[true, true, true, true, true, true, true, true, true] rfl rfl (by kernel_rfl) (by decide) (fun K hK => ?_)
  refine call_ 103 #[.agg #[.int .u64 (Go.bits .or .u64 L Y), .int .i64 N], .pointer (some ⟨g, 0, none⟩)] (by rfl) rfl ?_ ?_
  · go_simp
  · obtain ⟨h1, h2, h3, h4, h5, h6⟩ := hHeld
    refine (gather1 _ N B g xs _ hB h5.out HL.out).mono ?_
    rintro e w3 ⟨rfl, hg, hfr⟩
    refine ⟨_, rfl, hK.out _ _ (done_ (by kernel_rfl) ?_)⟩
    have HG := aM hg
    have HF := aM (h6.out.trans hfr)
    clear hg hfr h1 h2 h3 h4 h5 h6 hK
    exact bodyPost_end (results_none rfl _ _ _) rfl ⟨rfl, HG.out, HF.out⟩
theorem joinRun_len (Y : Int) (acc : List S100) (r : S100) : (joinRun Y acc r).length ≤ acc.length + 1 := addRun_len _ _
theorem hcf90 : ∀ (args : Array Value) (w : World), Sem.run Try.prog (callFunc 90 args) w = .ok (.enter 90 args) w := fun args w => run_enter Try.func90 rfl rfl args w
theorem hcf91 : ∀ (args : Array Value) (w : World), Sem.run Try.prog (callFunc 91 args) w = .ok (.enter 91 args) w := fun args w => run_enter Try.func91 rfl rfl args w
def raiseRuns (l : List S100) (a b y : Int) : List S100 := someTo addRun b 4096 l 0 (someTo (joinRun y) a b l 0 (someTo addRun 0 a l 0 []))
theorem some_join (A : Option Addr) (c : Nat) (l : List S100) (a b Y : Int) (g bf bj : Nat) (acc0 : List S100) (w0 w : World) (hB : w0.heap.size ≤ g)
    (hr : Kd.C k100 w0 A l.length l) (hw : Below w0.heap.size w0 w) (hS : GS w0.heap.size g w acc0) (hlen : (acc0.length + l.length) * 16 ≤ 140737488355328) (hgf : bf ≠ g)
    (hf : w.heap[bf]? = some (.cells #[.func (.func 103) #[] #[.pointer (some ⟨g, 0, none⟩)]] 102 (0, 0))) (hj : w0.cell? ⟨bj, 0, none⟩ = some (.int .u64 Y)) :
    Calls Try.prog 82 #[.slice A l.length c, .int .i64 a, .int .i64 b, .func (.func 91) #[] #[.pointer (some ⟨bf, 0, none⟩), .pointer (some ⟨bj, 0, none⟩)]] w fun e w' => e = .returned (.tuple #[]) ∧ GS w0.heap.size g w' (someTo (joinRun Y) a b l 0 acc0) ∧ GFrame w0.heap.size g w w' :=
  some_any (joinRun Y) (joinRun_len Y) 91 _ hcf91 A c l a b g acc0 w0 w hB hr hw hS hlen (fun acc L N w1 h1 h2 h3 => raise1 L N Y _ g bf bj acc w1 hB h2 h1 (h3.typ _ _ _ _ hgf (by decide) hf) (cell_later' (hw.trans h3.below) hj))
set_option maxHeartbeats 4000000 in
set_option maxRecDepth 100000 in
theorem lay_raise (A : Option Addr) (c : Nat) (l : List S100) (a b Y : Int) (bl ba bb bj g : Nat) (w0 w : World) (hB : w0.heap.size ≤ g) (hr : Kd.C k100 w0 A l.length l)
    (hbx : w0.cell? ⟨bl, 0, none⟩ = some (.slice A l.length c)) (hba : w0.cell? ⟨ba, 0, none⟩ = some (.int .i64 a)) (hbb : w0.cell? ⟨bb, 0, none⟩ = some (.int .i64 b)) (hbj : w0.cell? ⟨bj, 0, none⟩ = some (.int .u64 Y))
    (hw : Below w0.heap.size w0 w) (hS : GS w0.heap.size g w []) (hlen : (l.length + l.length + l.length) * 16 ≤ 140737488355328) :
    Calls Try.prog 90 #[.func (.func 103) #[] #[.pointer (some ⟨g, 0, none⟩)], .pointer (some ⟨bl, 0, none⟩), .pointer (some ⟨ba, 0, none⟩), .pointer (some ⟨bb, 0, none⟩), .pointer (some ⟨bj, 0, none⟩)] w fun e w' => e = .returned (.tuple #[]) ∧ GS w0.heap.size g w' (raiseRuns l a b Y) ∧ GFrame w0.heap.size g w w' := by
  have hmf : ∀ (fn : Fn) (first cap : Array Value) (w : World), (Instr.makeFunc fn first cap).run Try.prog w = .ok (.func fn first cap) w := fun _ _ _ _ => rfl
  have hb := cell_later' hw hbx
  have hb1 := cell_later' hw hba
  have l1 := someTo_len addRun_len 0 a l 0 []
  have l2 := someTo_len (joinRun_len Y) a b l 0 (someTo addRun 0 a l 0 [])
  simp only [List.length_nil] at l1
  have hgl : g < w.heap.size := by obtain ⟨v, hg, _⟩ := hS; exact blk_lt hg
  have hl0 := World.block_lt_of_cell? w _ hb
  have hl1 := World.block_lt_of_cell? w _ hb1
  have HC := fun W (h : Below w0.heap.size w0 W) hs => some_add A c l 0 a g [] w0 W hB hr h hs (by simp only [List.length_nil]; omega)
  have HC2 := fun W (h : Below w0.heap.size w0 W) hs hgf hf => some_join A c l a b Y g w.heap.size bj (someTo addRun 0 a l 0 []) w0 W hB hr h hs (by omega) hgf hf hbj
  have HC3 := fun W (h : Below w0.heap.size w0 W) hs => some_add A c l b 4096 g (someTo (joinRun Y) a b l 0 (someTo addRun 0 a l 0 [])) w0 W hB hr h hs (by omega)
  have HC := aM HC
  have HC2 := aM HC2
  have HC3 := aM HC3
  have HW := aM hw
  have HS := aM hS
  have HBX := aM hbx
  have HBA := aM hba
  have HBB := aM hbb
  clear hr hw hS hlen hbx hba hbb hbj l1 l2
  go_enter Try.func90, Try.ntmps90
  go_wp2_with fail
  refine (HC.out _ (HW.out.alloc HW.out.size _) (GS_alloc HS.out _)).mono ?_
  rintro e w1 ⟨rfl, hg2, hf2⟩
  have HG2 := aM hg2
  have hF1 := ((GFrame.refl _ _ _).alloc HW.out.size _).trans hf2
  have HF2 := aM hF1
  have hbf := hf2.typ w.heap.size _ 102 _ (by omega) (by decide) (blk_new w _)
  have hcf := bC hbf 0
  simp only [List.getElem?_toArray, List.getElem?_cons_zero] at hcf
  have hw1 := HW.out.trans hF1.below
  have hc1 := cell_later' hw1 HBX.out
  have hc2 := cell_later' hw1 HBA.out
  have hc3 := cell_later' hw1 HBB.out
  have HW1 := aM hw1
  have HBF := aM hbf
  clear hg2 hf2 hw1 hF1 hbf
  go_wp2_with fail
  refine (HC2.out _ HW1.out HG2.out (by omega) HBF.out).mono ?_
  rintro e w2 ⟨rfl, hg2, hf2⟩
  have HG3 := aM hg2
  have HF3 := aM (HF2.out.trans hf2)
  have hbf := hf2.typ w.heap.size _ 102 _ (by omega) (by decide) HBF.out
  have hcf2 := bC hbf 0
  simp only [List.getElem?_toArray, List.getElem?_cons_zero] at hcf2
  have hw1 := HW1.out.trans hf2.below
  have hc4 := cell_later' hw1 HBX.out
  have hc5 := cell_later' hw1 HBB.out
  have HW2 := aM hw1
  clear hg2 hf2 hw1 hbf
  go_wp2_with fail
  refine (HC3.out _ HW2.out HG3.out).mono ?_
  rintro e w3 ⟨rfl, hg2, hf2⟩
  have HG4 := aM hg2
  have HF4 := aM (HF3.out.trans hf2)
  clear hg2 hf2
  go_wp2
  go_end0
  exact ⟨rfl, HG4.out, HF4.out⟩
def runs_Raise.f (k : Nat) (l0 : List S100) (a1 : Int) (a2 : Int) (a3 : Int) : Option (List S100 × Int) :=
  (runs_within.f k l0 a1 a2).bind fun t => if t = true then (if (l0.length + l0.length + l0.length) * 16 ≤ 140737488355328 then some (raiseRuns l0 a1 a2 a3, 0) else none) else some ([], 2)
theorem raise_boxes {w w1 : World} {x0 x1 x2 x3 : Value} (hb : Below ((((w.alloc (.cells #[x0] 22)).alloc (.cells #[x1] 3)).alloc (.cells #[x2] 3)).alloc (.cells #[x3] 36)).heap.size ((((w.alloc (.cells #[x0] 22)).alloc (.cells #[x1] 3)).alloc (.cells #[x2] 3)).alloc (.cells #[x3] 36)) w1) :
    Below w.heap.size w w1 ∧ w1.cell? ⟨w.heap.size, 0, none⟩ = some x0 ∧ w1.cell? ⟨w.heap.size + 1, 0, none⟩ = some x1 ∧ w1.cell? ⟨w.heap.size + 1 + 1, 0, none⟩ = some x2 ∧ w1.cell? ⟨w.heap.size + 1 + 1 + 1, 0, none⟩ = some x3 ∧ w.heap.size + 1 + 1 + 1 + 1 ≤ w1.heap.size :=
  ⟨((((Below.refl _ _).alloc (Nat.le_refl _) _).alloc (by simp) _).alloc (by simp; omega) _ |>.alloc (by simp; omega) _).trans (hb.mono (by simp; omega)),
   cell_later' hb (by simp [go_sem]), cell_later' hb (by simp [go_sem]), cell_later' hb (by simp [go_sem]), cell_later' hb (by simp [go_sem]), by have := hb.size; simpa using this⟩
set_option maxHeartbeats 4000000 in
set_option maxRecDepth 100000 in
theorem runs_Raise.calls (k : Nat) (A0 : Option Addr) (c0 : Nat) (l0 : List S100) (a1 : Int) (a2 : Int) (a3 : Int) (r1 : List S100) (r2 : Int) (w : World) (hr0 : Kd.C k100 w A0 l0.length l0) (hc0 : l0.length ≤ c0) (h : runs_Raise.f k l0 a1 a2 a3 = some (r1, r2)) :
    Calls Try.prog 38 #[.slice A0 l0.length c0, .int .i64 a1, .int .i64 a2, .int .u64 a3] w fun e w' => ∃ v0_ : Value, e = .returned (.tuple #[v0_, .int .i64 r2]) ∧ Kd.R k100 100 w' w.heap.size (fun _ => True) v0_ r1 ∧ Below w.heap.size w w' := by
  have hmf : ∀ (fn : Fn) (first cap : Array Value) (w : World), (Instr.makeFunc fn first cap).run Try.prog w = .ok (.func fn first cap) w := fun _ _ _ _ => rfl
  unfold runs_Raise.f at h
  obtain ⟨t, ht, h⟩ := Option.bind_eq_some_iff.1 h
  have HC := aM (fun W (hw : Below w.heap.size w W) => runs_within.calls k A0 c0 l0 a1 a2 t W (cB_ hr0 hw) hc0 ht)
  have HR := aM hr0
  clear hr0 ht
  cases t with
  | false =>
    simp only [Bool.false_eq_true, if_false] at h
    injection h with h
    injection h with h1 h2
    subst h1; subst h2
    go_enter Try.func38, Try.ntmps38
    go_wp2_with fail
    refine (HC.out _ (raise_boxes (Below.refl _ _)).1).mono ?_
    rintro e w1 ⟨rfl, hb⟩
    have HB := aM (raise_boxes hb)
    clear hb
    go_wp2
    go_ret2
    exact ⟨_, rfl, Kd.R_nil _ _ _ _ _, HB.out.1⟩
  | true =>
    simp only [if_true] at h
    by_cases hl : (l0.length + l0.length + l0.length) * 16 ≤ 140737488355328
    case neg => rw [if_neg hl] at h; cases h
    rw [if_pos hl] at h
    injection h with h
    injection h with h1 h2
    subst h1; subst h2
    have HL := aM hl
    clear hl
    go_enter Try.func38, Try.ntmps38
    go_wp2_with fail
    refine (HC.out _ (raise_boxes (Below.refl _ _)).1).mono ?_
    rintro e w1 ⟨rfl, hb⟩
    have HB := aM (raise_boxes hb)
    obtain ⟨_, c1, c2, c3, c4, _⟩ := raise_boxes hb
    clear hb
    have HG := aM (gather_any 90 #[.pointer (some ⟨w.heap.size, 0, none⟩), .pointer (some ⟨w.heap.size + 1, 0, none⟩), .pointer (some ⟨w.heap.size + 1 + 1, 0, none⟩), .pointer (some ⟨w.heap.size + 1 + 1 + 1, 0, none⟩)] _ (fun g => rfl) hcf90 (raiseRuns l0 a1 a2 a3) w1 (fun g w2 h1 h2 h3 => lay_raise A0 c0 l0 a1 a2 a3 _ _ _ _ g w1 w2 h1 (cB_ HR.out HB.out.1) c1 c2 c3 c4 h3 h2 HL.out))
    go_wp2_with ((with_reducible refine HG.out.mono ?_); rintro e w3 ⟨v, rfl, hRv, hBv⟩; have HV := aM hRv; have HBV := aM hBv; clear hRv hBv)
    go_ret2
    exact ⟨_, rfl, rL HV.out (by have := HB.out.1.size; omega), HB.out.1.trans (HBV.out.mono (by have := HB.out.1.size; omega))⟩
end Go.Proofs.Ythpjagblnddjaaa.PB
end

section
namespace Go.Proofs.Ythpjagblnddjaaa.PB
open Go.RowKit Go.Proofs.YthpjagblnddjaaaW.PrintWords Go.Proofs.YthpjagblnddjaaaW.PrintLast Go.Proofs.YthpjagblnddjaaaW.PrintMore
attribute [local go_sem] max2_int min2_int max_two min_two max_three min_three max_four min_four   
set_option linter.unusedVariables false
set_option linter.unusedSimpArgs false
def strip_Splice.j0 : Nat → Int → Int → Bool → ByteArray → List (S100) → ByteArray → List (S100) → Option (ByteArray × (List (S100)) × Int)
  | 0, _, _, _, _, _, _, _ => none
  | k + 1, x1, x2, x21, x386000, x386001, x387000, x387001 => if x21 = true then (some ((⟨#[]⟩ : ByteArray), ([] : List (S100)), 2)) else ((runs_Splice.f k x386001 x1 x2 x387001).bind fun bt390 => (if bt390.2 = 0 then (if 0 ≤ x1 then (if x1 ≤ (x386000.size : Int) then (if (x386000.extract 0 (x1 : Int).toNat).size + x387000.size ≤ 9223372036854775807 then (if 0 ≤ x2 then (if x2 ≤ (x386000.size : Int) then (if ((x386000.extract 0 (x1 : Int).toNat) ++ x387000).size + (x386000.extract (x2 : Int).toNat x386000.size).size ≤ 9223372036854775807 then (some (((x386000.extract 0 (x1 : Int).toNat) ++ x387000) ++ (x386000.extract (x2 : Int).toNat x386000.size), bt390.1, 0)) else (none)) else (none)) else (none)) else (none)) else (none)) else (none)) else (some ((⟨#[]⟩ : ByteArray), ([] : List (S100)), bt390.2))))
def strip_Splice.f (k : Nat) (a0_0 : ByteArray) (l0_1 : List (S100)) (a1 : Int) (a2 : Int) (a3_0 : ByteArray) (l3_1 : List (S100)) : Option (ByteArray × (List (S100)) × Int) := (strip_within.f k a0_0 l0_1 a1 a2).bind fun t388 => (if t388 = true then ((strip_Good.f k a3_0 l3_1).bind fun t389 => (strip_Splice.j0 k a1 a2 (!t389) a0_0 l0_1 a3_0 l3_1)) else (strip_Splice.j0 k a1 a2 true a0_0 l0_1 a3_0 l3_1))
theorem strip_Splice.mono_l : ∀ k, (∀ y0 y1 y2 y3 y4 y5 y6, LeO (strip_Splice.j0 k y0 y1 y2 y3 y4 y5 y6) (strip_Splice.j0 (k + 1) y0 y1 y2 y3 y4 y5 y6))
  | 0 => fun _ _ _ _ _ _ _ r h => by simp [strip_Splice.j0] at h
  | k + 1 => by
    have ih0 := strip_Splice.mono_l k
    · intro y0 y1 y2 y3 y4 y5 y6
      unfold strip_Splice.j0
      repeat' first
      | (with_reducible exact ih0 _ _ _ _ _ _ _)
      | (with_reducible exact runs_Splice.mono _ _ _ _ _)
      | (with_reducible exact strip_Good.mono _ _ _)
      | (with_reducible exact strip_within.mono _ _ _ _ _)
      | (with_reducible exact LeO.refl _)
      | (with_reducible exact LeO.none _)
      | (with_reducible refine LeO.ite ?_ ?_)
      | (with_reducible refine LeO.bind ?_ (fun _ => ?_))
      | exact ih0 _ _ _ _ _ _ _
      | exact runs_Splice.mono _ _ _ _ _
      | exact strip_Good.mono _ _ _
      | exact strip_within.mono _ _ _ _ _
      | exact LeO.none _
      | refine LeO.ite ?_ ?_
      | refine LeO.bind ?_ (fun _ => ?_)
theorem strip_Splice.mono : ∀ a0 a1 a2 a3 a4 a5 k, LeO (strip_Splice.f k a0 a1 a2 a3 a4 a5) (strip_Splice.f (k + 1) a0 a1 a2 a3 a4 a5) := by
  intro a0 a1 a2 a3 a4 a5 k
  have ih0 := strip_Splice.mono_l k
  unfold strip_Splice.f
  repeat' first
      | (with_reducible exact ih0 _ _ _ _ _ _ _)
      | (with_reducible exact runs_Splice.mono _ _ _ _ _)
      | (with_reducible exact strip_Good.mono _ _ _)
      | (with_reducible exact strip_within.mono _ _ _ _ _)
      | (with_reducible exact LeO.refl _)
      | (with_reducible exact LeO.none _)
      | (with_reducible refine LeO.ite ?_ ?_)
      | (with_reducible refine LeO.bind ?_ (fun _ => ?_))
      | exact ih0 _ _ _ _ _ _ _
      | exact runs_Splice.mono _ _ _ _ _
      | exact strip_Good.mono _ _ _
      | exact strip_within.mono _ _ _ _ _
      | exact LeO.none _
      | refine LeO.ite ?_ ?_
      | refine LeO.bind ?_ (fun _ => ?_)
def strip_Splice.T6 : Bool × List (List Nat × List Nat) := (true, [([], []), ([0], [0]), ([], []), ([1, 2], [1, 2]), ([], []), ([4], [4]), ([3, 5], [3, 5]), ([], []), ([7], [7]), ([], []), ([8, 9], [8, 9]), ([6, 10], [6, 10]), ([], []), ([11, 12], [11, 12]), ([13, 0, 1, 2, 3, 4, 5, 6, 7, 8, 9, 10, 11, 12, 13], [13]), ([14, 0, 1, 2, 3, 4, 5, 6, 7, 8, 9, 10, 11, 12, 13, 14], [])])
def strip_Splice.B6 : List Nat := [0, 1, 0, 7, 0, 16, 63, 0, 128, 0, 896, 2047, 0, 8191, 16383, 32767]
theorem strip_Splice.tab6 : rtab .any (opsOf Try.f53 6) = strip_Splice.T6 := by kernel_rfl
theorem strip_Splice.bits6 : waitsOk strip_Splice.T6.2 strip_Splice.B6 = true := by kernel_rfl
set_option maxHeartbeats 8000000 in
set_option maxRecDepth 100000 in
theorem strip_Splice.calls (k : Nat) (a0_0 : ByteArray) (A0_1 : Option Addr) (c0_1 : Nat) (l0_1 : List (S100)) (a1 : Int) (a2 : Int) (a3_0 : ByteArray) (A3_1 : Option Addr) (c3_1 : Nat) (l3_1 : List (S100)) (r1 : ByteArray) (r2 : List (S100)) (r3 : Int) (w : World) (hr0_1 : Kd.C k100 w A0_1 l0_1.length l0_1) (hc0_1 : l0_1.length ≤ c0_1) (hr3_1 : Kd.C k100 w A3_1 l3_1.length l3_1) (hc3_1 : l3_1.length ≤ c3_1) (h : strip_Splice.f k a0_0 l0_1 a1 a2 a3_0 l3_1 = some (r1, r2, r3)) :
    Calls Try.prog 53 #[.agg #[.string a0_0, .slice A0_1 l0_1.length c0_1], .int .i64 a1, .int .i64 a2, .agg #[.string a3_0, .slice A3_1 l3_1.length c3_1]] w fun e w' => ∃ v1_ : Value, e = .returned (.tuple #[.agg #[.string r1, v1_], .int .i64 r3]) ∧ Kd.R k100 100 w' w.heap.size (fun _ => True) v1_ r2 ∧ Below w.heap.size w w' := by
  have hu51 := Try.underlying51
  have HR0_1 := aM hr0_1
  have HC0_1 := aM hc0_1
  clear hr0_1 hc0_1
  have HR3_1 := aM hr3_1
  have HC3_1 := aM hc3_1
  clear hr3_1 hc3_1
  have HB := aM (Below.refl w.heap.size w)
  have H : ((strip_within.f k a0_0 l0_1 a1 a2).bind fun t388 => (if t388 = true then ((strip_Good.f k a3_0 l3_1).bind fun t389 => (strip_Splice.j0 k a1 a2 (!t389) a0_0 l0_1 a3_0 l3_1)) else (strip_Splice.j0 k a1 a2 true a0_0 l0_1 a3_0 l3_1))) = some (r1, r2, r3) := h
  clear h
  have HC5 := aM H
  clear H
  go_enter Try.func53, Try.ntmps53
  go_upto_region 1 with (first | ((with_reducible refine gate_dst (N := 4) rfl ?_); refine box_event ?hg (N := 4) ?hd (cs := #[.string a0_0, .slice A0_1 l0_1.length c0_1]) (t := 51) ?hr ?_; (case hd => rfl); (case hg => rfl); (case hr => first | (go_simp; done) | (go_simp; rfl)); intro gb385 hg w6 hbox hb; have n0_ := aM (bP (by repeat (first | (with_reducible first | exact HB.out | apply ea | apply en | apply ed) | exact HB.out)) hb); have n1_ := aM (hbox); have n2_ := aM ((by rw [hg]; exact (bZ (by repeat (first | (with_reducible first | exact HB.out | apply ea | apply en | apply ed) | exact HB.out))) : w.heap.size ≤ gb385)); have n3_ := aM ((by rw [hg]; exact (bZ (by repeat (first | (with_reducible first | exact HB.out | apply ea | apply en | apply ed) | exact HB.out))) : w.heap.size ≤ gb385)); clear HB; have HB := n0_; have BK385 := n1_; have GW385 := n2_; have GE385 := n3_; clear n0_ n1_ n2_ n3_; clear hb hbox hg) | ((with_reducible refine gate_dst (N := 7) rfl ?_); refine box_event ?hg (N := 7) ?hd (cs := #[.string a3_0, .slice A3_1 l3_1.length c3_1]) (t := 51) ?hr ?_; (case hd => rfl); (case hg => rfl); (case hr => first | (go_simp; done) | (go_simp; rfl)); intro gb386 hg w7 hbox hb; have n0_ := aM (bB (g := gb385) (o := .cells #[.string a0_0, .slice A0_1 l0_1.length c0_1] 51 (0, 0)) (by (with_reducible repeat (first | refine qn ?_ _ | refine qd ?_ | refine qa ?_ _)); exact BK385.out) hb); have n1_ := aM (bP (by repeat (first | (with_reducible first | exact HB.out | apply ea | apply en | apply ed | refine es ?_ GE385.out) | exact HB.out)) hb); have n2_ := aM (hbox); have n3_ := aM ((by rw [hg]; exact (bZ (by repeat (first | (with_reducible first | exact HB.out | apply ea | apply en | apply ed | refine es ?_ GE385.out) | exact HB.out))) : w.heap.size ≤ gb386)); have n4_ := aM ((by rw [hg]; exact (bZ (by repeat (first | (with_reducible first | exact HB.out | apply ea | apply en | apply ed | refine es ?_ GE385.out) | exact HB.out))) : w.heap.size ≤ gb386)); have n5_ := aM ((by rw [hg]; exact Nat.ne_of_lt (blk_lt (g := gb385) (o := .cells #[.string a0_0, .slice A0_1 l0_1.length c0_1] 51 (0, 0)) (by (with_reducible repeat (first | refine qn ?_ _ | refine qd ?_ | refine qa ?_ _)); exact BK385.out)) : gb385 ≠ gb386)); have n6_ := aM ((by rw [hg]; exact Nat.ne_of_gt (blk_lt (g := gb385) (o := .cells #[.string a0_0, .slice A0_1 l0_1.length c0_1] 51 (0, 0)) (by (with_reducible repeat (first | refine qn ?_ _ | refine qd ?_ | refine qa ?_ _)); exact BK385.out)) : gb386 ≠ gb385)); clear BK385; clear HB; have BK385 := n0_; have HB := n1_; have BK386 := n2_; have GW386 := n3_; have GE386 := n4_; have NB385_386 := n5_; have NB386_385 := n6_; clear n0_ n1_ n2_ n3_ n4_ n5_ n6_; clear hb hbox hg) | ((with_reducible refine gate_dst (N := 8) rfl ?_); refine box_event ?hg (N := 8) ?hd (cs := #[.string (⟨#[]⟩ : ByteArray), .slice none 0 0]) (t := 51) ?hr ?_; (case hd => rfl); (case hg => rfl); (case hr => first | (go_simp; done) | (go_simp; rfl)); intro gb387 hg w8 hbox hb; have n0_ := aM (bB (g := gb385) (o := .cells #[.string a0_0, .slice A0_1 l0_1.length c0_1] 51 (0, 0)) (by (with_reducible repeat (first | refine qn ?_ _ | refine qd ?_ | refine qa ?_ _)); exact BK385.out) hb); have n1_ := aM (bB (g := gb386) (o := .cells #[.string a3_0, .slice A3_1 l3_1.length c3_1] 51 (0, 0)) (by (with_reducible repeat (first | refine qn ?_ _ | refine qd ?_ | refine qa ?_ _)); exact BK386.out) hb); have n2_ := aM (bP (by repeat (first | (with_reducible first | exact HB.out | apply ea | apply en | apply ed | refine es ?_ GE385.out | refine es ?_ GE386.out) | exact HB.out)) hb); have n3_ := aM (hbox); have n4_ := aM ((by rw [hg]; exact (bZ (by repeat (first | (with_reducible first | exact HB.out | apply ea | apply en | apply ed | refine es ?_ GE385.out | refine es ?_ GE386.out) | exact HB.out))) : w.heap.size ≤ gb387)); have n5_ := aM ((by rw [hg]; exact (bZ (by repeat (first | (with_reducible first | exact HB.out | apply ea | apply en | apply ed | refine es ?_ GE385.out | refine es ?_ GE386.out) | exact HB.out))) : w.heap.size ≤ gb387)); have n6_ := aM ((by rw [hg]; exact Nat.ne_of_lt (blk_lt (g := gb385) (o := .cells #[.string a0_0, .slice A0_1 l0_1.length c0_1] 51 (0, 0)) (by (with_reducible repeat (first | refine qn ?_ _ | refine qd ?_ | refine qa ?_ _)); exact BK385.out)) : gb385 ≠ gb387)); have n7_ := aM ((by rw [hg]; exact Nat.ne_of_gt (blk_lt (g := gb385) (o := .cells #[.string a0_0, .slice A0_1 l0_1.length c0_1] 51 (0, 0)) (by (with_reducible repeat (first | refine qn ?_ _ | refine qd ?_ | refine qa ?_ _)); exact BK385.out)) : gb387 ≠ gb385)); have n8_ := aM ((by rw [hg]; exact Nat.ne_of_lt (blk_lt (g := gb386) (o := .cells #[.string a3_0, .slice A3_1 l3_1.length c3_1] 51 (0, 0)) (by (with_reducible repeat (first | refine qn ?_ _ | refine qd ?_ | refine qa ?_ _)); exact BK386.out)) : gb386 ≠ gb387)); have n9_ := aM ((by rw [hg]; exact Nat.ne_of_gt (blk_lt (g := gb386) (o := .cells #[.string a3_0, .slice A3_1 l3_1.length c3_1] 51 (0, 0)) (by (with_reducible repeat (first | refine qn ?_ _ | refine qd ?_ | refine qa ?_ _)); exact BK386.out)) : gb387 ≠ gb386)); clear BK385; clear BK386; clear HB; have BK385 := n0_; have BK386 := n1_; have HB := n2_; have BK387 := n3_; have GW387 := n4_; have GE387 := n5_; have NB385_387 := n6_; have NB387_385 := n7_; have NB386_387 := n8_; have NB387_386 := n9_; clear n0_ n1_ n2_ n3_ n4_ n5_ n6_ n7_ n8_ n9_; clear hb hbox hg))
  (try simp only [Act.put, List.setIfInBounds_toArray, List.set_cons_zero, List.set_cons_succ])
  go_cut [21] (fun v21 wc => ∃ (kq : Nat) (x21_4 : Bool), v21 = .bool x21_4 ∧ Aside0 (strip_Splice.j0 kq a1 a2 x21_4 a0_0 l0_1 a3_0 l3_1 = some (r1, r2, r3)) ∧ Aside0 (kq ≤ k) ∧ Aside0 (wc.heap[gb385]? = some (.cells #[.string a0_0, (.slice A0_1 l0_1.length c0_1)] 51 (0, 0))) ∧ Aside0 (wc.heap[gb386]? = some (.cells #[.string a3_0, (.slice A3_1 l3_1.length c3_1)] 51 (0, 0))) ∧ Aside0 (wc.heap[gb387]? = some (.cells #[.string (⟨#[]⟩ : ByteArray), (.slice none 0 0)] 51 (0, 0))) ∧ Aside0 (Below w.heap.size w wc))
  case first =>
    have H := HC5.out
    clear HC5
    replace H := Option.bind_eq_some_iff.mp H
    obtain ⟨t388, A90, H⟩ := H
    replace H : (if t388 = true then ((strip_Good.f k a3_0 l3_1).bind fun t389 => (strip_Splice.j0 k a1 a2 (!t389) a0_0 l0_1 a3_0 l3_1)) else (strip_Splice.j0 k a1 a2 true a0_0 l0_1 a3_0 l3_1)) = some (r1, r2, r3) := H
    have A9 := aM A90
    clear A90
    by_cases c10 : t388 = true
    · subst c10
      have H1 : ((strip_Good.f k a3_0 l3_1).bind fun t389 => (strip_Splice.j0 k a1 a2 (!t389) a0_0 l0_1 a3_0 l3_1)) = some (r1, r2, r3) := by rw [if_pos rfl] at H; exact H
      clear H
      have H := H1
      clear H1
      replace H := Option.bind_eq_some_iff.mp H
      obtain ⟨t389, A110, H⟩ := H
      replace H : (strip_Splice.j0 k a1 a2 (!t389) a0_0 l0_1 a3_0 l3_1) = some (r1, r2, r3) := H
      have A11 := aM A110
      clear A110
      have H' := aM H
      clear H
      have hnb12 := NB385_386.out
      have hnc12 := NB386_385.out
      have hnb13 := NB385_387.out
      have hnc13 := NB387_385.out
      have hcz14_0 : w8.cell? ⟨gb385, 0, none⟩ = some (.string a0_0) := (bC BK385.out 0).trans rfl
      have hcz14_1 : w8.cell? ⟨gb385, 1, none⟩ = some (.slice A0_1 l0_1.length c0_1) := (bC BK385.out 1).trans rfl
      have hfz14_0 := bF BK385.out 0
      have hfz14_1 := bF BK385.out 1
      go_wp2_with (first | ((with_reducible refine gate_callee (f := 95) rfl ?_); refine goesL_ (some 15) rfl rfl Try.func95 (by kernel_rfl) rfl #[.agg #[.string a0_0, .slice A0_1 l0_1.length c0_1], .int .i64 a1, .int .i64 a2] rfl (by (try simp only [List.map_toArray, List.map_cons, List.map_nil]); first | done | rfl | (simp only [List.length_drop, List.length_take]; rfl)) ?_; (with_reducible refine (strip_within.calls k a0_0 _ _ l0_1 a1 a2 true _ ?side1 ?side2 A9.out).mono ?_); (case side1 => repeat (first | exact (cB_ HR0_1.out HB.out) | (with_reducible refine Kd.C_alloc ?_ _) | (with_reducible refine Kd.C_drewN ?_ _) | (with_reducible refine Kd.C_drew ?_))); (case side2 => exact HC0_1.out); rintro e w15 ⟨rfl, hb⟩; refine ⟨_, rfl, ?_⟩; have n0_ := aM (bB (g := gb385) (o := .cells #[.string a0_0, .slice A0_1 l0_1.length c0_1] 51 (0, 0)) (by (with_reducible repeat (first | refine qn ?_ _ | refine qd ?_ | refine qa ?_ _)); exact BK385.out) hb); have n1_ := aM (bB (g := gb386) (o := .cells #[.string a3_0, .slice A3_1 l3_1.length c3_1] 51 (0, 0)) (by (with_reducible repeat (first | refine qn ?_ _ | refine qd ?_ | refine qa ?_ _)); exact BK386.out) hb); have n2_ := aM (bB (g := gb387) (o := .cells #[.string (⟨#[]⟩ : ByteArray), .slice none 0 0] 51 (0, 0)) (by (with_reducible repeat (first | refine qn ?_ _ | refine qd ?_ | refine qa ?_ _)); exact BK387.out) hb); have n3_ := aM (bP (by repeat (first | (with_reducible first | exact HB.out | apply ea | apply en | apply ed | refine es ?_ GE385.out | refine es ?_ GE386.out | refine es ?_ GE387.out) | exact HB.out)) hb); clear BK385; clear BK386; clear BK387; clear HB; have BK385 := n0_; have BK386 := n1_; have BK387 := n2_; have HB := n3_; clear n0_ n1_ n2_ n3_; (try clear hb); (try clear hb2); (try clear hk); (try clear hi); have hnb16 := NB386_387.out; have hnc16 := NB387_386.out; have hcz17_0 : w15.cell? ⟨gb386, 0, none⟩ = some (.string a3_0) := (bC BK386.out 0).trans rfl; have hcz17_1 : w15.cell? ⟨gb386, 1, none⟩ = some (.slice A3_1 l3_1.length c3_1) := (bC BK386.out 1).trans rfl; have hfz17_0 := bF BK386.out 0; have hfz17_1 := bF BK386.out 1) | (go_at_call 49; (with_reducible refine (strip_Good.calls k a3_0 _ _ l3_1 t389 _ ?side1 ?side2 A11.out).mono ?_); (case side1 => repeat (first | exact (cB_ HR3_1.out HB.out) | (with_reducible refine Kd.C_alloc ?_ _) | (with_reducible refine Kd.C_drewN ?_ _) | (with_reducible refine Kd.C_drew ?_))); (case side2 => exact HC3_1.out); rintro e w18 ⟨rfl, hb⟩; have n0_ := aM (bB (g := gb385) (o := .cells #[.string a0_0, .slice A0_1 l0_1.length c0_1] 51 (0, 0)) (by (with_reducible repeat (first | refine qn ?_ _ | refine qd ?_ | refine qa ?_ _)); exact BK385.out) hb); have n1_ := aM (bB (g := gb386) (o := .cells #[.string a3_0, .slice A3_1 l3_1.length c3_1] 51 (0, 0)) (by (with_reducible repeat (first | refine qn ?_ _ | refine qd ?_ | refine qa ?_ _)); exact BK386.out) hb); have n2_ := aM (bB (g := gb387) (o := .cells #[.string (⟨#[]⟩ : ByteArray), .slice none 0 0] 51 (0, 0)) (by (with_reducible repeat (first | refine qn ?_ _ | refine qd ?_ | refine qa ?_ _)); exact BK387.out) hb); have n3_ := aM (bP (by repeat (first | (with_reducible first | exact HB.out | apply ea | apply en | apply ed | refine es ?_ GE385.out | refine es ?_ GE386.out | refine es ?_ GE387.out) | exact HB.out)) hb); clear BK385; clear BK386; clear BK387; clear HB; have BK385 := n0_; have BK386 := n1_; have BK387 := n2_; have HB := n3_; clear n0_ n1_ n2_ n3_; (try clear hb); (try clear hb2); (try clear hk); (try clear hi)))
      go_meet
      case rel => exact ⟨_, (!t389), (by first | rfl | (simp; done) | (simp [*]; done)), H', ⟨by first | omega | exact Nat.le_refl _⟩, ⟨by (with_reducible repeat (first | refine qn ?_ _ | refine qd ?_ | refine qa ?_ _)); exact BK385.out⟩, ⟨by (with_reducible repeat (first | refine qn ?_ _ | refine qd ?_ | refine qa ?_ _)); exact BK386.out⟩, ⟨by (with_reducible repeat (first | refine qn ?_ _ | refine qd ?_ | refine qa ?_ _)); exact BK387.out⟩, ⟨by repeat (first | (with_reducible first | exact HB.out | apply ea | apply en | apply ed | refine es ?_ GE385.out | refine es ?_ GE386.out | refine es ?_ GE387.out) | exact HB.out)⟩⟩
    · replace c10 := Bool.eq_false_iff.mpr c10
      subst c10
      have H1 : (strip_Splice.j0 k a1 a2 true a0_0 l0_1 a3_0 l3_1) = some (r1, r2, r3) := by rw [if_neg (show ¬ (false = true) by decide)] at H; exact H
      clear H
      have H := H1
      clear H1
      have H' := aM H
      clear H
      have hnb19 := NB385_386.out
      have hnc19 := NB386_385.out
      have hnb20 := NB385_387.out
      have hnc20 := NB387_385.out
      have hcz21_0 : w8.cell? ⟨gb385, 0, none⟩ = some (.string a0_0) := (bC BK385.out 0).trans rfl
      have hcz21_1 : w8.cell? ⟨gb385, 1, none⟩ = some (.slice A0_1 l0_1.length c0_1) := (bC BK385.out 1).trans rfl
      have hfz21_0 := bF BK385.out 0
      have hfz21_1 := bF BK385.out 1
      go_wp2_with (first | ((with_reducible refine gate_callee (f := 95) rfl ?_); refine goesL_ (some 15) rfl rfl Try.func95 (by kernel_rfl) rfl #[.agg #[.string a0_0, .slice A0_1 l0_1.length c0_1], .int .i64 a1, .int .i64 a2] rfl (by (try simp only [List.map_toArray, List.map_cons, List.map_nil]); first | done | rfl | (simp only [List.length_drop, List.length_take]; rfl)) ?_; (with_reducible refine (strip_within.calls k a0_0 _ _ l0_1 a1 a2 false _ ?side1 ?side2 A9.out).mono ?_); (case side1 => repeat (first | exact (cB_ HR0_1.out HB.out) | (with_reducible refine Kd.C_alloc ?_ _) | (with_reducible refine Kd.C_drewN ?_ _) | (with_reducible refine Kd.C_drew ?_))); (case side2 => exact HC0_1.out); rintro e w22 ⟨rfl, hb⟩; refine ⟨_, rfl, ?_⟩; have n0_ := aM (bB (g := gb385) (o := .cells #[.string a0_0, .slice A0_1 l0_1.length c0_1] 51 (0, 0)) (by (with_reducible repeat (first | refine qn ?_ _ | refine qd ?_ | refine qa ?_ _)); exact BK385.out) hb); have n1_ := aM (bB (g := gb386) (o := .cells #[.string a3_0, .slice A3_1 l3_1.length c3_1] 51 (0, 0)) (by (with_reducible repeat (first | refine qn ?_ _ | refine qd ?_ | refine qa ?_ _)); exact BK386.out) hb); have n2_ := aM (bB (g := gb387) (o := .cells #[.string (⟨#[]⟩ : ByteArray), .slice none 0 0] 51 (0, 0)) (by (with_reducible repeat (first | refine qn ?_ _ | refine qd ?_ | refine qa ?_ _)); exact BK387.out) hb); have n3_ := aM (bP (by repeat (first | (with_reducible first | exact HB.out | apply ea | apply en | apply ed | refine es ?_ GE385.out | refine es ?_ GE386.out | refine es ?_ GE387.out) | exact HB.out)) hb); clear BK385; clear BK386; clear BK387; clear HB; have BK385 := n0_; have BK386 := n1_; have BK387 := n2_; have HB := n3_; clear n0_ n1_ n2_ n3_; (try clear hb); (try clear hb2); (try clear hk); (try clear hi)))
      go_meet
      case rel => exact ⟨_, (true), (by first | rfl | (simp; done) | (simp [*]; done)), H', ⟨by first | omega | exact Nat.le_refl _⟩, ⟨by (with_reducible repeat (first | refine qn ?_ _ | refine qd ?_ | refine qa ?_ _)); exact BK385.out⟩, ⟨by (with_reducible repeat (first | refine qn ?_ _ | refine qd ?_ | refine qa ?_ _)); exact BK386.out⟩, ⟨by (with_reducible repeat (first | refine qn ?_ _ | refine qd ?_ | refine qa ?_ _)); exact BK387.out⟩, ⟨by repeat (first | (with_reducible first | exact HB.out | apply ea | apply en | apply ed | refine es ?_ GE385.out | refine es ?_ GE386.out | refine es ?_ GE387.out) | exact HB.out)⟩⟩
  case rest =>
    clear HC5
    try clear c1
    try clear c2
    try clear p2
    try clear c3
    try clear c5
    try clear c9
    try clear c10
    try clear c12
    try clear c13
    try clear c16
    try clear c19
    try clear c20
    try clear hcz14_0
    try clear hcz14_1
    try clear hcz17_0
    try clear hcz17_1
    try clear hcz21_0
    try clear hcz21_1
    try clear hfz14_0
    try clear hfz14_1
    try clear hfz17_0
    try clear hfz17_1
    try clear hfz21_0
    try clear hfz21_1
    obtain ⟨kq, x21_4, rfl, HA, HJ4, BK385, BK386, BK387, HB⟩ := hcut
    cases kq with
    | zero => exact absurd HA.out (by simp [strip_Splice.j0])
    | succ kj4 =>
      have H := HA.out
      clear HA
      simp only [strip_Splice.j0] at H
      by_cases c23 : x21_4 = true
      · subst c23
        have H1 : (some ((⟨#[]⟩ : ByteArray), ([] : List (S100)), 2)) = some (r1, r2, r3) := by rw [if_pos rfl] at H; exact H
        clear H
        have H := H1
        clear H1
        simp only [Option.some.injEq, Prod.mk.injEq] at H
        obtain ⟨rfl, rfl, rfl⟩ := H
        have hnb24 := NB387_385.out
        have hnc24 := NB385_387.out
        have hnb25 := NB387_386.out
        have hnc25 := NB386_387.out
        have hcz26_0 : wc.cell? ⟨gb387, 0, none⟩ = some (.string (⟨#[]⟩ : ByteArray)) := (bC BK387.out 0).trans rfl
        have hcz26_1 : wc.cell? ⟨gb387, 1, none⟩ = some (.slice none 0 0) := (bC BK387.out 1).trans rfl
        have hfz26_0 := bF BK387.out 0
        have hfz26_1 := bF BK387.out 1
        go_wp2
        refine bodyPost_ret (results_ct rfl _ _ gb387 51 #[.string (⟨#[]⟩ : ByteArray), .slice none 0 0] (0, 0) _ rfl (by (with_reducible repeat (first | refine qn ?_ _ | refine qd ?_ | refine qa ?_ _)); refine bU (cs := #[.string (⟨#[]⟩ : ByteArray), .slice none 0 0]) ?_ 1 _ rfl; (with_reducible repeat (first | refine qn ?_ _ | refine qd ?_ | refine qa ?_ _)); refine bU (cs := #[.string (⟨#[]⟩ : ByteArray), .slice none 0 0]) ?_ 0 _ rfl; (with_reducible repeat (first | refine qn ?_ _ | refine qd ?_ | refine qa ?_ _)); exact BK387.out) Try.underlying51 rfl (by kernel_rfl)) rfl ?_
        exact ⟨_, by first | rfl | (simp [errW_none, errW_some] <;> rfl) | (simp [*, errW_none, errW_some] <;> rfl), by first | exact Kd.R_nil _ _ _ _ _ | exact Kd.N_nil _ _ _ _ _ | exact Kd.V_nil _ _ _ _ _ | exact Kd.Q_nil _ _ _ _ _ | exact Kd.S_nil _ _ _ _ _, by repeat (first | (with_reducible first | exact HB.out | apply ea | apply en | apply ed | refine es ?_ GE385.out | refine es ?_ GE386.out | refine es ?_ GE387.out) | exact HB.out)⟩
      · replace c23 := Bool.eq_false_iff.mpr c23
        subst c23
        have H1 : ((runs_Splice.f kj4 l0_1 a1 a2 l3_1).bind fun bt390 => (if bt390.2 = 0 then (if 0 ≤ a1 then (if a1 ≤ (a0_0.size : Int) then (if (a0_0.extract 0 (a1 : Int).toNat).size + a3_0.size ≤ 9223372036854775807 then (if 0 ≤ a2 then (if a2 ≤ (a0_0.size : Int) then (if ((a0_0.extract 0 (a1 : Int).toNat) ++ a3_0).size + (a0_0.extract (a2 : Int).toNat a0_0.size).size ≤ 9223372036854775807 then (some (((a0_0.extract 0 (a1 : Int).toNat) ++ a3_0) ++ (a0_0.extract (a2 : Int).toNat a0_0.size), bt390.1, 0)) else (none)) else (none)) else (none)) else (none)) else (none)) else (none)) else (some ((⟨#[]⟩ : ByteArray), ([] : List (S100)), bt390.2)))) = some (r1, r2, r3) := by rw [if_neg (show ¬ (false = true) by decide)] at H; exact H
        clear H
        have H := H1
        clear H1
        replace H := Option.bind_eq_some_iff.mp H
        obtain ⟨⟨t390, t391⟩, A270, H⟩ := H
        replace H : (if t391 = 0 then (if 0 ≤ a1 then (if a1 ≤ (a0_0.size : Int) then (if (a0_0.extract 0 (a1 : Int).toNat).size + a3_0.size ≤ 9223372036854775807 then (if 0 ≤ a2 then (if a2 ≤ (a0_0.size : Int) then (if ((a0_0.extract 0 (a1 : Int).toNat) ++ a3_0).size + (a0_0.extract (a2 : Int).toNat a0_0.size).size ≤ 9223372036854775807 then (some (((a0_0.extract 0 (a1 : Int).toNat) ++ a3_0) ++ (a0_0.extract (a2 : Int).toNat a0_0.size), t390, 0)) else (none)) else (none)) else (none)) else (none)) else (none)) else (none)) else (some ((⟨#[]⟩ : ByteArray), ([] : List (S100)), t391))) = some (r1, r2, r3) := H
        have A27 := aM A270
        clear A270
        by_cases c28 : t391 = 0
        · rw [if_pos c28] at H
          have c28b0 : (t391 == 0) = true := beq_iff_eq.mpr c28
          have c28b1 : (t391 != 0) = false := bne_eq_false_iff_eq.mpr c28
          clear c28
          by_cases c29 : 0 ≤ a1
          · rw [if_pos c29] at H
            have c29b0 := eq_true c29
            have c29b1 : decide (0 ≤ a1) = true := decide_eq_true c29
            clear c29
            by_cases c30 : a1 ≤ (a0_0.size : Int)
            · rw [if_pos c30] at H
              have c30b0 := eq_true c30
              have c30b1 : decide (a1 ≤ (a0_0.size : Int)) = true := decide_eq_true c30
              clear c30
              by_cases c31 : (a0_0.extract 0 (a1 : Int).toNat).size + a3_0.size ≤ 9223372036854775807
              · rw [if_pos c31] at H
                have c31b0 := eq_true c31
                have c31b1 : decide ((a0_0.extract 0 (a1 : Int).toNat).size + a3_0.size ≤ 9223372036854775807) = true := decide_eq_true c31
                try have c31b2 : (9223372036854775807 < (a0_0.extract 0 (a1 : Int).toNat).size + a3_0.size) = False := eq_false (Nat.not_lt.2 c31)
                try (have c31c_ := c31; simp [go_sem, c29b0, c30b0] at c31c_; have c31d_ := eq_false (Nat.not_lt.2 c31c_); clear c31c_)
                by_cases c32 : 0 ≤ a2
                · rw [if_pos c32] at H
                  have c32b0 := eq_true c32
                  have c32b1 : decide (0 ≤ a2) = true := decide_eq_true c32
                  clear c32
                  by_cases c33 : a2 ≤ (a0_0.size : Int)
                  · rw [if_pos c33] at H
                    have c33b0 := eq_true c33
                    have c33b1 : decide (a2 ≤ (a0_0.size : Int)) = true := decide_eq_true c33
                    clear c33
                    by_cases c34 : ((a0_0.extract 0 (a1 : Int).toNat) ++ a3_0).size + (a0_0.extract (a2 : Int).toNat a0_0.size).size ≤ 9223372036854775807
                    · rw [if_pos c34] at H
                      have c34b0 := eq_true c34
                      have c34b1 : decide (((a0_0.extract 0 (a1 : Int).toNat) ++ a3_0).size + (a0_0.extract (a2 : Int).toNat a0_0.size).size ≤ 9223372036854775807) = true := decide_eq_true c34
                      try have c34b2 : (9223372036854775807 < ((a0_0.extract 0 (a1 : Int).toNat) ++ a3_0).size + (a0_0.extract (a2 : Int).toNat a0_0.size).size) = False := eq_false (Nat.not_lt.2 c34)
                      try (have c34c_ := c34; simp [go_sem, c29b0, c30b0, c31b0, c32b0, c33b0] at c34c_; have c34d_ := eq_false (Nat.not_lt.2 c34c_); clear c34c_)
                      simp only [Option.some.injEq, Prod.mk.injEq] at H
                      obtain ⟨rfl, rfl, rfl⟩ := H
                      have hnb35 := NB385_386.out
                      have hnc35 := NB386_385.out
                      have hnb36 := NB385_387.out
                      have hnc36 := NB387_385.out
                      have hcz37_0 : wc.cell? ⟨gb385, 0, none⟩ = some (.string a0_0) := (bC BK385.out 0).trans rfl
                      have hcz37_1 : wc.cell? ⟨gb385, 1, none⟩ = some (.slice A0_1 l0_1.length c0_1) := (bC BK385.out 1).trans rfl
                      have hfz37_0 := bF BK385.out 0
                      have hfz37_1 := bF BK385.out 1
                      have hnb38 := NB386_387.out
                      have hnc38 := NB387_386.out
                      have hcz39_0 : wc.cell? ⟨gb386, 0, none⟩ = some (.string a3_0) := (bC BK386.out 0).trans rfl
                      have hcz39_1 : wc.cell? ⟨gb386, 1, none⟩ = some (.slice A3_1 l3_1.length c3_1) := (bC BK386.out 1).trans rfl
                      have hfz39_0 := bF BK386.out 0
                      have hfz39_1 := bF BK386.out 1
                      try go_wp2_with (first | ((with_reducible refine gate_callee (f := 40) rfl ?_); refine goesL_ (some 30) rfl rfl Try.func40 (by kernel_rfl) rfl #[.slice A0_1 l0_1.length c0_1, .int .i64 a1, .int .i64 a2, .slice A3_1 l3_1.length c3_1] rfl (by (try simp only [List.map_toArray, List.map_cons, List.map_nil]); first | done | rfl | (simp only [List.length_drop, List.length_take]; rfl)) ?_; (with_reducible refine (runs_Splice.calls kj4 _ _ l0_1 a1 a2 _ _ l3_1 t390 t391 _ ?side1 ?side2 ?side3 ?side4 A27.out).mono ?_); (case side1 => repeat (first | exact (cB_ HR0_1.out HB.out) | (with_reducible refine Kd.C_alloc ?_ _) | (with_reducible refine Kd.C_drewN ?_ _) | (with_reducible refine Kd.C_drew ?_))); (case side2 => exact HC0_1.out); (case side3 => repeat (first | exact (cB_ HR3_1.out HB.out) | (with_reducible refine Kd.C_alloc ?_ _) | (with_reducible refine Kd.C_drewN ?_ _) | (with_reducible refine Kd.C_drew ?_))); (case side4 => exact HC3_1.out); rintro e w40 ⟨v392, rfl, ho0, hb⟩; refine ⟨_, rfl, ?_⟩; have n0_ := aM (rL ho0 (bZ (by repeat (first | (with_reducible first | exact HB.out | apply ea | apply en | apply ed | refine es ?_ GE385.out | refine es ?_ GE386.out | refine es ?_ GE387.out) | exact HB.out)))); have n1_ := aM (bB (g := gb385) (o := .cells #[.string a0_0, .slice A0_1 l0_1.length c0_1] 51 (0, 0)) (by (with_reducible repeat (first | refine qn ?_ _ | refine qd ?_ | refine qa ?_ _)); exact BK385.out) hb); have n2_ := aM (bB (g := gb386) (o := .cells #[.string a3_0, .slice A3_1 l3_1.length c3_1] 51 (0, 0)) (by (with_reducible repeat (first | refine qn ?_ _ | refine qd ?_ | refine qa ?_ _)); exact BK386.out) hb); have n3_ := aM (bB (g := gb387) (o := .cells #[.string (⟨#[]⟩ : ByteArray), .slice none 0 0] 51 (0, 0)) (by (with_reducible repeat (first | refine qn ?_ _ | refine qd ?_ | refine qa ?_ _)); exact BK387.out) hb); have n4_ := aM (bP (by repeat (first | (with_reducible first | exact HB.out | apply ea | apply en | apply ed | refine es ?_ GE385.out | refine es ?_ GE386.out | refine es ?_ GE387.out) | exact HB.out)) hb); clear BK385; clear BK386; clear BK387; clear HB; have HO393 := n0_; have BK385 := n1_; have BK386 := n2_; have BK387 := n3_; have HB := n4_; clear n0_ n1_ n2_ n3_ n4_; (try clear hb); (try clear hb2); (try clear hk); (try clear hi); (try clear ho0)))
                      have n0_ := aM (Kd.R_drew HO393.out)
                      have n1_ := aM (blk_drew BK385.out)
                      have n2_ := aM (blk_drew BK386.out)
                      have n3_ := aM (blk_drew BK387.out)
                      have n4_ := aM (below_drew1 HB.out)
                      clear HO393
                      clear BK385
                      clear BK386
                      clear BK387
                      clear HB
                      have HO393 := n0_
                      have BK385 := n1_
                      have BK386 := n2_
                      have BK387 := n3_
                      have HB := n4_
                      clear n0_ n1_ n2_ n3_ n4_
                      obtain ⟨Ao42, co42, eo42⟩ := Kd.R_slice HO393.out
                      (first | subst eo42 | (injection eo42 with f1_ f2_ f3_; have f4_ := f1_.symm; have f5_ := f3_.symm; clear f1_ f2_ f3_; subst f4_; subst f5_))
                      refine start_ (n := 16) (S := fun w' => w'.cell? ⟨gb385, 0, none⟩ = some (.string a0_0) ∧ w'.cell? ⟨gb385, 1, none⟩ = some (.slice A0_1 l0_1.length c0_1) ∧ w'.cell? ⟨gb386, 0, none⟩ = some (.string a3_0) ∧ w'.cell? ⟨gb386, 1, none⟩ = some (.slice A3_1 l3_1.length c3_1)) (ds := []) #[false, false, false, false, false, false, false, false, false, false, false, false, false, false, false, false] (by kernel_rfl) rfl rfl ⟨(bC BK385.out 0).trans rfl, (bC BK385.out 1).trans rfl, (bC BK386.out 0).trans rfl, (bC BK386.out 1).trans rfl⟩ (fun hHeld => ?_); refine with_tabW strip_Splice.tab6 strip_Splice.bits6 (fun HT_ HW_ => ?_)
                      generalize w40.drew = w41 at HO393 BK385 BK386 BK387 HB hHeld ⊢
                      refine pure_ (i := 0) (N := some 37) (v := ?_) (a' := ?_) #[true, false, false, false, false, false, false, false, false, false, false, false, false, false, false, false] rfl rfl (any_of HT_.out (by kernel_rfl)) (fun _ _ _ h => h) (Or.inl ⟨by rfl, ?_⟩) ?_ ?_
                      rotate_left
                      · intro w'
                        go_simp
                        with_reducible rfl
                      rotate_left
                      · simp only [Act.put, List.setIfInBounds_toArray, List.set_cons_zero, List.set_cons_succ, i64_w, i32_w]
                        rfl
                      refine pure_ (i := 2) (N := some 39) (v := ?_) (a' := ?_) #[true, false, true, false, false, false, false, false, false, false, false, false, false, false, false, false] rfl rfl (any_of HT_.out (by kernel_rfl)) (fun _ _ _ h => h) (Or.inl ⟨by rfl, ?_⟩) ?_ ?_
                      rotate_left
                      · intro w'
                        go_simp
                        with_reducible rfl
                      rotate_left
                      · simp only [Act.put, List.setIfInBounds_toArray, List.set_cons_zero, List.set_cons_succ, i64_w, i32_w]
                        rfl
                      refine pure_ (i := 4) (N := some 41) (v := ?_) (a' := ?_) #[true, false, true, false, true, false, false, false, false, false, false, false, false, false, false, false] rfl rfl (any_of HT_.out (by kernel_rfl)) (fun _ _ _ h => h) (Or.inl ⟨by rfl, ?_⟩) ?_ ?_
                      rotate_left
                      · intro w'
                        go_simp
                        with_reducible rfl
                      rotate_left
                      · simp only [Act.put, List.setIfInBounds_toArray, List.set_cons_zero, List.set_cons_succ, i64_w, i32_w]
                        rfl
                      refine pure_ (i := 7) (N := some 44) (v := ?_) (a' := ?_) #[true, false, true, false, true, false, false, true, false, false, false, false, false, false, false, false] rfl rfl (any_of HT_.out (by kernel_rfl)) (fun _ _ _ h => h) (Or.inl ⟨by rfl, ?_⟩) ?_ ?_
                      rotate_left
                      · intro w'
                        go_simp
                        with_reducible rfl
                      rotate_left
                      · simp only [Act.put, List.setIfInBounds_toArray, List.set_cons_zero, List.set_cons_succ, i64_w, i32_w]
                        rfl
                      refine pure_ (i := 9) (N := some 46) (v := ?_) (a' := ?_) #[true, false, true, false, true, false, false, true, false, true, false, false, false, false, false, false] rfl rfl (any_of HT_.out (by kernel_rfl)) (fun _ _ _ h => h) (Or.inl ⟨by rfl, ?_⟩) ?_ ?_
                      rotate_left
                      · intro w'
                        go_simp
                        with_reducible rfl
                      rotate_left
                      · simp only [Act.put, List.setIfInBounds_toArray, List.set_cons_zero, List.set_cons_succ, i64_w, i32_w]
                        rfl
                      refine pure_ (i := 12) (N := some 49) (v := ?_) (a' := ?_) #[true, false, true, false, true, false, false, true, false, true, false, false, true, false, false, false] rfl rfl (any_of HT_.out (by kernel_rfl)) (fun _ _ _ h => h) (Or.inl ⟨by rfl, ?_⟩) ?_ ?_
                      rotate_left
                      · intro w'
                        go_simp
                        with_reducible rfl
                      rotate_left
                      · simp only [Act.put, List.setIfInBounds_toArray, List.set_cons_zero, List.set_cons_succ, i64_w, i32_w]
                        rfl
                      refine take_ (i := 1) (N := some 38) (v := ?_) (a' := ?_) #[true, true, true, false, true, false, false, true, false, true, false, false, true, false, false, false] rfl rfl (take_ofW HT_.out HW_.out (by kernel_rfl)) (fun _ _ _ h => h) (Or.inl ⟨by rfl, ?_⟩) hHeld ?_ ?_
                      rotate_left
                      · rintro w' ⟨s0, s1, s2, s3⟩
                        go_simp
                        with_reducible rfl
                      rotate_left
                      · simp only [Act.put, List.setIfInBounds_toArray, List.set_cons_zero, List.set_cons_succ, i64_w, i32_w]
                        rfl
                      refine pure_ (i := 3) (N := some 40) (v := ?_) (a' := ?_) #[true, true, true, true, true, false, false, true, false, true, false, false, true, false, false, false] rfl rfl (any_of HT_.out (by kernel_rfl)) (fun _ _ _ h => h) (Or.inl ⟨by rfl, ?_⟩) ?_ ?_
                      rotate_left
                      · intro w'
                        go_simp
                        with_reducible rfl
                      rotate_left
                      · simp only [Act.put, List.setIfInBounds_toArray, List.set_cons_zero, List.set_cons_succ, i64_w, i32_w]
                        rfl
                      refine take_ (i := 5) (N := some 42) (v := ?_) (a' := ?_) #[true, true, true, true, true, true, false, true, false, true, false, false, true, false, false, false] rfl rfl (take_ofW HT_.out HW_.out (by kernel_rfl)) (fun _ _ _ h => h) (Or.inl ⟨by rfl, ?_⟩) hHeld ?_ ?_
                      rotate_left
                      · rintro w' ⟨s0, s1, s2, s3⟩
                        go_simp
                        with_reducible rfl
                      rotate_left
                      · simp only [Act.put, List.setIfInBounds_toArray, List.set_cons_zero, List.set_cons_succ, i64_w, i32_w]
                        rfl
                      refine pure_ (i := 6) (N := some 43) (v := ?_) (a' := ?_) #[true, true, true, true, true, true, true, true, false, true, false, false, true, false, false, false] rfl rfl (any_of HT_.out (by kernel_rfl)) (fun _ _ _ h => h) (Or.inl ⟨by rfl, ?_⟩) ?_ ?_
                      rotate_left
                      · intro w'
                        go_simp
                        with_reducible rfl
                      rotate_left
                      · simp only [Act.put, List.setIfInBounds_toArray, List.set_cons_zero, List.set_cons_succ, i64_w, i32_w]
                        rfl
                      refine take_ (i := 8) (N := some 45) (v := ?_) (a' := ?_) #[true, true, true, true, true, true, true, true, true, true, false, false, true, false, false, false] rfl rfl (take_ofW HT_.out HW_.out (by kernel_rfl)) (fun _ _ _ h => h) (Or.inl ⟨by rfl, ?_⟩) hHeld ?_ ?_
                      rotate_left
                      · rintro w' ⟨s0, s1, s2, s3⟩
                        go_simp
                        with_reducible rfl
                      rotate_left
                      · simp only [Act.put, List.setIfInBounds_toArray, List.set_cons_zero, List.set_cons_succ, i64_w, i32_w]
                        rfl
                      refine pure_ (i := 10) (N := some 47) (v := ?_) (a' := ?_) #[true, true, true, true, true, true, true, true, true, true, true, false, true, false, false, false] rfl rfl (any_of HT_.out (by kernel_rfl)) (fun _ _ _ h => h) (Or.inl ⟨by rfl, ?_⟩) ?_ ?_
                      rotate_left
                      · intro w'
                        go_simp
                        with_reducible rfl
                      rotate_left
                      · simp only [Act.put, List.setIfInBounds_toArray, List.set_cons_zero, List.set_cons_succ, i64_w, i32_w]
                        rfl
                      refine pure_ (i := 11) (N := some 48) (v := ?_) (a' := ?_) #[true, true, true, true, true, true, true, true, true, true, true, true, true, false, false, false] rfl rfl (any_of HT_.out (by kernel_rfl)) (fun _ _ _ h => h) (Or.inl ⟨by rfl, ?_⟩) ?_ ?_
                      rotate_left
                      · intro w'
                        go_simp
                        with_reducible rfl
                      rotate_left
                      · simp only [Act.put, List.setIfInBounds_toArray, List.set_cons_zero, List.set_cons_succ, i64_w, i32_w]
                        rfl
                      refine pure_ (i := 13) (N := some 50) (v := ?_) (a' := ?_) #[true, true, true, true, true, true, true, true, true, true, true, true, true, true, false, false] rfl rfl (any_of HT_.out (by kernel_rfl)) (fun _ _ _ h => h) (Or.inl ⟨by rfl, ?_⟩) ?_ ?_
                      rotate_left
                      · intro w'
                        go_simp
                        with_reducible rfl
                      rotate_left
                      · simp only [Act.put, List.setIfInBounds_toArray, List.set_cons_zero, List.set_cons_succ, i64_w, i32_w]
                        rfl
                      refine one_ (i := 14) (N := none) #[true, true, true, true, true, true, true, true, true, true, true, true, true, true, true, false] rfl rfl (one_of HT_.out (by kernel_rfl)) (by decide) (fun K hK => ?_)
                      have hs43 : w41.cell? ⟨gb387, 0, none⟩ = some (.string (⟨#[]⟩ : ByteArray)) := (bC BK387.out 0).trans rfl
                      have hfs43 := bF BK387.out 0
                      have hns43_0 := NB385_387.out
                      have hns43_1 := NB386_387.out
                      have hms43_0 := NB387_385.out
                      have hms43_1 := NB387_386.out
                      have hs44 : w41.cell? ⟨gb387, 1, none⟩ = some (.slice none 0 0) := (bC BK387.out 1).trans rfl
                      have hfs44 := bF BK387.out 1
                      have hns44_0 := NB385_387.out
                      have hns44_1 := NB386_387.out
                      have hms44_0 := NB387_385.out
                      have hms44_1 := NB387_386.out
                      refine skip_ (w1 := ?_) (by rfl) rfl ?_ ?_
                      rotate_left
                      · go_simp
                        rfl
                      refine hK.out _ _ ⟨((cell_far (p := ⟨gb387, _, none⟩) NB385_387.out _).trans (((cell_far (p := ⟨gb387, _, none⟩) NB385_387.out _).trans (hHeld.1)))), ((cell_far (p := ⟨gb387, _, none⟩) NB385_387.out _).trans (((cell_far (p := ⟨gb387, _, none⟩) NB385_387.out _).trans (hHeld.2.1)))), ((cell_far (p := ⟨gb387, _, none⟩) NB386_387.out _).trans (((cell_far (p := ⟨gb387, _, none⟩) NB386_387.out _).trans (hHeld.2.2.1)))), ((cell_far (p := ⟨gb387, _, none⟩) NB386_387.out _).trans (((cell_far (p := ⟨gb387, _, none⟩) NB386_387.out _).trans (hHeld.2.2.2))))⟩ (fun hHeld => ?_)
                      clear hK K
                      refine pure_ (i := 15) (N := some 9) (v := ?_) (a' := ?_) #[true, true, true, true, true, true, true, true, true, true, true, true, true, true, true, true] rfl rfl (any_of HT_.out (by kernel_rfl)) (fun _ _ _ h => h) (Or.inl ⟨by rfl, ?_⟩) ?_ ?_
                      rotate_left
                      · intro w'
                        go_simp
                        with_reducible rfl
                      rotate_left
                      · simp only [Act.put, List.setIfInBounds_toArray, List.set_cons_zero, List.set_cons_succ, i64_w, i32_w]
                        rfl
                      refine done_ (done_of HT_.out (by kernel_rfl)) ?_
                      try go_wp2
                      refine bodyPost_ret (results_ct rfl _ _ gb387 51 #[.string (((a0_0.extract 0 (a1 : Int).toNat) ++ a3_0) ++ (a0_0.extract (a2 : Int).toNat a0_0.size)), .slice Ao42 t390.length co42] (0, 0) _ rfl (by (with_reducible repeat (first | refine qn ?_ _ | refine qd ?_ | refine qa ?_ _)); refine bU (cs := #[.string (((a0_0.extract 0 (a1 : Int).toNat) ++ a3_0) ++ (a0_0.extract (a2 : Int).toNat a0_0.size)), .slice none 0 0]) ?_ 1 _ rfl; (with_reducible repeat (first | refine qn ?_ _ | refine qd ?_ | refine qa ?_ _)); refine bU (cs := #[.string (⟨#[]⟩ : ByteArray), .slice none 0 0]) ?_ 0 _ rfl; (with_reducible repeat (first | refine qn ?_ _ | refine qd ?_ | refine qa ?_ _)); exact BK387.out) Try.underlying51 rfl (by kernel_rfl)) rfl ?_
                      exact ⟨_, by first | rfl | (simp [errW_none, errW_some] <;> rfl) | (simp [*, errW_none, errW_some] <;> rfl), by (with_reducible repeat (first | apply ra | apply rn | apply rd_)); exact rM (rF (p := ⟨gb387, 1, none⟩) (rF (p := ⟨gb387, 0, none⟩) (rT HO393.out BK387.out (by decide)) (fun _ hk => hk.2) (.string (((a0_0.extract 0 (a1 : Int).toNat) ++ a3_0) ++ (a0_0.extract (a2 : Int).toNat a0_0.size)))) (fun _ hk => hk.2) (.slice Ao42 t390.length co42)) (fun _ hk => trivial), by repeat (first | (with_reducible first | exact HB.out | apply ea | apply en | apply ed | refine es ?_ GE385.out | refine es ?_ GE386.out | refine es ?_ GE387.out) | exact HB.out)⟩
                    · rw [if_neg c34] at H
                      exact absurd H (by simp)
                  · rw [if_neg c33] at H
                    exact absurd H (by simp)
                · rw [if_neg c32] at H
                  exact absurd H (by simp)
              · rw [if_neg c31] at H
                exact absurd H (by simp)
            · rw [if_neg c30] at H
              exact absurd H (by simp)
          · rw [if_neg c29] at H
            exact absurd H (by simp)
        · rw [if_neg c28] at H
          have c28b0 : (t391 == 0) = false := beq_eq_false_iff_ne.mpr c28
          have c28b1 : (t391 != 0) = true := bne_iff_ne.mpr c28
          simp only [Option.some.injEq, Prod.mk.injEq] at H
          obtain ⟨rfl, rfl, rfl⟩ := H
          have hnb45 := NB385_386.out
          have hnc45 := NB386_385.out
          have hnb46 := NB385_387.out
          have hnc46 := NB387_385.out
          have hcz47_0 : wc.cell? ⟨gb385, 0, none⟩ = some (.string a0_0) := (bC BK385.out 0).trans rfl
          have hcz47_1 : wc.cell? ⟨gb385, 1, none⟩ = some (.slice A0_1 l0_1.length c0_1) := (bC BK385.out 1).trans rfl
          have hfz47_0 := bF BK385.out 0
          have hfz47_1 := bF BK385.out 1
          have hnb48 := NB386_387.out
          have hnc48 := NB387_386.out
          have hcz49_0 : wc.cell? ⟨gb386, 0, none⟩ = some (.string a3_0) := (bC BK386.out 0).trans rfl
          have hcz49_1 : wc.cell? ⟨gb386, 1, none⟩ = some (.slice A3_1 l3_1.length c3_1) := (bC BK386.out 1).trans rfl
          have hfz49_0 := bF BK386.out 0
          have hfz49_1 := bF BK386.out 1
          go_wp2_with (first | ((with_reducible refine gate_callee (f := 40) rfl ?_); refine goesL_ (some 30) rfl rfl Try.func40 (by kernel_rfl) rfl #[.slice A0_1 l0_1.length c0_1, .int .i64 a1, .int .i64 a2, .slice A3_1 l3_1.length c3_1] rfl (by (try simp only [List.map_toArray, List.map_cons, List.map_nil]); first | done | rfl | (simp only [List.length_drop, List.length_take]; rfl)) ?_; (with_reducible refine (runs_Splice.calls kj4 _ _ l0_1 a1 a2 _ _ l3_1 t390 t391 _ ?side1 ?side2 ?side3 ?side4 A27.out).mono ?_); (case side1 => repeat (first | exact (cB_ HR0_1.out HB.out) | (with_reducible refine Kd.C_alloc ?_ _) | (with_reducible refine Kd.C_drewN ?_ _) | (with_reducible refine Kd.C_drew ?_))); (case side2 => exact HC0_1.out); (case side3 => repeat (first | exact (cB_ HR3_1.out HB.out) | (with_reducible refine Kd.C_alloc ?_ _) | (with_reducible refine Kd.C_drewN ?_ _) | (with_reducible refine Kd.C_drew ?_))); (case side4 => exact HC3_1.out); rintro e w50 ⟨v392, rfl, ho0, hb⟩; refine ⟨_, rfl, ?_⟩; have n0_ := aM (rL ho0 (bZ (by repeat (first | (with_reducible first | exact HB.out | apply ea | apply en | apply ed | refine es ?_ GE385.out | refine es ?_ GE386.out | refine es ?_ GE387.out) | exact HB.out)))); have n1_ := aM (bB (g := gb385) (o := .cells #[.string a0_0, .slice A0_1 l0_1.length c0_1] 51 (0, 0)) (by (with_reducible repeat (first | refine qn ?_ _ | refine qd ?_ | refine qa ?_ _)); exact BK385.out) hb); have n2_ := aM (bB (g := gb386) (o := .cells #[.string a3_0, .slice A3_1 l3_1.length c3_1] 51 (0, 0)) (by (with_reducible repeat (first | refine qn ?_ _ | refine qd ?_ | refine qa ?_ _)); exact BK386.out) hb); have n3_ := aM (bB (g := gb387) (o := .cells #[.string (⟨#[]⟩ : ByteArray), .slice none 0 0] 51 (0, 0)) (by (with_reducible repeat (first | refine qn ?_ _ | refine qd ?_ | refine qa ?_ _)); exact BK387.out) hb); have n4_ := aM (bP (by repeat (first | (with_reducible first | exact HB.out | apply ea | apply en | apply ed | refine es ?_ GE385.out | refine es ?_ GE386.out | refine es ?_ GE387.out) | exact HB.out)) hb); clear BK385; clear BK386; clear BK387; clear HB; have HO393 := n0_; have BK385 := n1_; have BK386 := n2_; have BK387 := n3_; have HB := n4_; clear n0_ n1_ n2_ n3_ n4_; (try clear hb); (try clear hb2); (try clear hk); (try clear hi); (try clear ho0); have hcz51_0 : w50.cell? ⟨gb387, 0, none⟩ = some (.string (⟨#[]⟩ : ByteArray)) := (bC BK387.out 0).trans rfl; have hcz51_1 : w50.cell? ⟨gb387, 1, none⟩ = some (.slice none 0 0) := (bC BK387.out 1).trans rfl; have hfz51_0 := bF BK387.out 0; have hfz51_1 := bF BK387.out 1))
          refine bodyPost_ret (results_ct rfl _ _ gb387 51 #[.string (⟨#[]⟩ : ByteArray), .slice none 0 0] (0, 0) _ rfl (by (with_reducible repeat (first | refine qn ?_ _ | refine qd ?_ | refine qa ?_ _)); refine bU (cs := #[.string (⟨#[]⟩ : ByteArray), .slice none 0 0]) ?_ 1 _ rfl; (with_reducible repeat (first | refine qn ?_ _ | refine qd ?_ | refine qa ?_ _)); refine bU (cs := #[.string (⟨#[]⟩ : ByteArray), .slice none 0 0]) ?_ 0 _ rfl; (with_reducible repeat (first | refine qn ?_ _ | refine qd ?_ | refine qa ?_ _)); exact BK387.out) Try.underlying51 rfl (by kernel_rfl)) rfl ?_
          exact ⟨_, by first | rfl | (simp [errW_none, errW_some] <;> rfl) | (simp [*, errW_none, errW_some] <;> rfl), by first | exact Kd.R_nil _ _ _ _ _ | exact Kd.N_nil _ _ _ _ _ | exact Kd.V_nil _ _ _ _ _ | exact Kd.Q_nil _ _ _ _ _ | exact Kd.S_nil _ _ _ _ _, by repeat (first | (with_reducible first | exact HB.out | apply ea | apply en | apply ed | refine es ?_ GE385.out | refine es ?_ GE386.out | refine es ?_ GE387.out) | exact HB.out)⟩
def strip_Cat.f (k : Nat) (a0_0 : ByteArray) (l0_1 : List (S100)) (a1_0 : ByteArray) (l1_1 : List (S100)) : Option (ByteArray × (List (S100)) × Int) := (strip_Splice.f k a0_0 l0_1 (a0_0.size : Int) (a0_0.size : Int) a1_0 l1_1).bind fun bt397 => (some (bt397.1, bt397.2.1, bt397.2.2))
theorem strip_Cat.mono : ∀ a0 a1 a2 a3 k, LeO (strip_Cat.f k a0 a1 a2 a3) (strip_Cat.f (k + 1) a0 a1 a2 a3) := by
  intro a0 a1 a2 a3 k
  unfold strip_Cat.f
  repeat' first
      | (with_reducible exact strip_Splice.mono _ _ _ _ _ _ _)
      | (with_reducible exact LeO.refl _)
      | (with_reducible exact LeO.none _)
      | (with_reducible refine LeO.ite ?_ ?_)
      | (with_reducible refine LeO.bind ?_ (fun _ => ?_))
      | exact strip_Splice.mono _ _ _ _ _ _ _
      | exact LeO.none _
      | refine LeO.ite ?_ ?_
      | refine LeO.bind ?_ (fun _ => ?_)
set_option maxHeartbeats 8000000 in
set_option maxRecDepth 100000 in
theorem strip_Cat.calls (k : Nat) (a0_0 : ByteArray) (A0_1 : Option Addr) (c0_1 : Nat) (l0_1 : List (S100)) (a1_0 : ByteArray) (A1_1 : Option Addr) (c1_1 : Nat) (l1_1 : List (S100)) (r1 : ByteArray) (r2 : List (S100)) (r3 : Int) (w : World) (hr0_1 : Kd.C k100 w A0_1 l0_1.length l0_1) (hc0_1 : l0_1.length ≤ c0_1) (hr1_1 : Kd.C k100 w A1_1 l1_1.length l1_1) (hc1_1 : l1_1.length ≤ c1_1) (h : strip_Cat.f k a0_0 l0_1 a1_0 l1_1 = some (r1, r2, r3)) :
    Calls Try.prog 75 #[.agg #[.string a0_0, .slice A0_1 l0_1.length c0_1], .agg #[.string a1_0, .slice A1_1 l1_1.length c1_1]] w fun e w' => ∃ v1_ : Value, e = .returned (.tuple #[.agg #[.string r1, v1_], .int .i64 r3]) ∧ Kd.R k100 100 w' w.heap.size (fun _ => True) v1_ r2 ∧ Below w.heap.size w w' := by
  have hu51 := Try.underlying51
  have HR0_1 := aM hr0_1
  have HC0_1 := aM hc0_1
  clear hr0_1 hc0_1
  have HR1_1 := aM hr1_1
  have HC1_1 := aM hc1_1
  clear hr1_1 hc1_1
  have HB := aM (Below.refl w.heap.size w)
  have H : ((strip_Splice.f k a0_0 l0_1 (a0_0.size : Int) (a0_0.size : Int) a1_0 l1_1).bind fun bt397 => (some (bt397.1, bt397.2.1, bt397.2.2))) = some (r1, r2, r3) := h
  clear h
  replace H := Option.bind_eq_some_iff.mp H
  obtain ⟨⟨t397, t398, t401⟩, A30, H⟩ := H
  replace H : (some (t397, t398, t401)) = some (r1, r2, r3) := H
  have A3 := aM A30
  clear A30
  simp only [Option.some.injEq, Prod.mk.injEq] at H
  obtain ⟨rfl, rfl, rfl⟩ := H
  go_enter Try.func75, Try.ntmps75
  go_wp2_with (first | ((with_reducible refine gate_dst (N := 2) rfl ?_); refine box_event ?hg (N := 2) ?hd (cs := #[.string a0_0, .slice A0_1 l0_1.length c0_1]) (t := 51) ?hr ?_; (case hd => rfl); (case hg => rfl); (case hr => first | (go_simp; done) | (go_simp; rfl)); intro gb394 hg w4 hbox hb; have n0_ := aM (bP (by repeat (first | (with_reducible first | exact HB.out | apply ea | apply en | apply ed) | exact HB.out)) hb); have n1_ := aM (hbox); have n2_ := aM ((by rw [hg]; exact (bZ (by repeat (first | (with_reducible first | exact HB.out | apply ea | apply en | apply ed) | exact HB.out))) : w.heap.size ≤ gb394)); have n3_ := aM ((by rw [hg]; exact (bZ (by repeat (first | (with_reducible first | exact HB.out | apply ea | apply en | apply ed) | exact HB.out))) : w.heap.size ≤ gb394)); clear HB; have HB := n0_; have BK394 := n1_; have GW394 := n2_; have GE394 := n3_; clear n0_ n1_ n2_ n3_; clear hb hbox hg) | ((with_reducible refine gate_dst (N := 3) rfl ?_); refine box_event ?hg (N := 3) ?hd (cs := #[.string a1_0, .slice A1_1 l1_1.length c1_1]) (t := 51) ?hr ?_; (case hd => rfl); (case hg => rfl); (case hr => first | (go_simp; done) | (go_simp; rfl)); intro gb395 hg w5 hbox hb; have n0_ := aM (bB (g := gb394) (o := .cells #[.string a0_0, .slice A0_1 l0_1.length c0_1] 51 (0, 0)) (by (with_reducible repeat (first | refine qn ?_ _ | refine qd ?_ | refine qa ?_ _)); exact BK394.out) hb); have n1_ := aM (bP (by repeat (first | (with_reducible first | exact HB.out | apply ea | apply en | apply ed | refine es ?_ GE394.out) | exact HB.out)) hb); have n2_ := aM (hbox); have n3_ := aM ((by rw [hg]; exact (bZ (by repeat (first | (with_reducible first | exact HB.out | apply ea | apply en | apply ed | refine es ?_ GE394.out) | exact HB.out))) : w.heap.size ≤ gb395)); have n4_ := aM ((by rw [hg]; exact (bZ (by repeat (first | (with_reducible first | exact HB.out | apply ea | apply en | apply ed | refine es ?_ GE394.out) | exact HB.out))) : w.heap.size ≤ gb395)); have n5_ := aM ((by rw [hg]; exact Nat.ne_of_lt (blk_lt (g := gb394) (o := .cells #[.string a0_0, .slice A0_1 l0_1.length c0_1] 51 (0, 0)) (by (with_reducible repeat (first | refine qn ?_ _ | refine qd ?_ | refine qa ?_ _)); exact BK394.out)) : gb394 ≠ gb395)); have n6_ := aM ((by rw [hg]; exact Nat.ne_of_gt (blk_lt (g := gb394) (o := .cells #[.string a0_0, .slice A0_1 l0_1.length c0_1] 51 (0, 0)) (by (with_reducible repeat (first | refine qn ?_ _ | refine qd ?_ | refine qa ?_ _)); exact BK394.out)) : gb395 ≠ gb394)); clear BK394; clear HB; have BK394 := n0_; have HB := n1_; have BK395 := n2_; have GW395 := n3_; have GE395 := n4_; have NB394_395 := n5_; have NB395_394 := n6_; clear n0_ n1_ n2_ n3_ n4_ n5_ n6_; clear hb hbox hg) | ((with_reducible refine gate_dst (N := 4) rfl ?_); refine box_event ?hg (N := 4) ?hd (cs := #[.string (⟨#[]⟩ : ByteArray), .slice none 0 0]) (t := 51) ?hr ?_; (case hd => rfl); (case hg => rfl); (case hr => first | (go_simp; done) | (go_simp; rfl)); intro gb396 hg w6 hbox hb; have n0_ := aM (bB (g := gb394) (o := .cells #[.string a0_0, .slice A0_1 l0_1.length c0_1] 51 (0, 0)) (by (with_reducible repeat (first | refine qn ?_ _ | refine qd ?_ | refine qa ?_ _)); exact BK394.out) hb); have n1_ := aM (bB (g := gb395) (o := .cells #[.string a1_0, .slice A1_1 l1_1.length c1_1] 51 (0, 0)) (by (with_reducible repeat (first | refine qn ?_ _ | refine qd ?_ | refine qa ?_ _)); exact BK395.out) hb); have n2_ := aM (bP (by repeat (first | (with_reducible first | exact HB.out | apply ea | apply en | apply ed | refine es ?_ GE394.out | refine es ?_ GE395.out) | exact HB.out)) hb); have n3_ := aM (hbox); have n4_ := aM ((by rw [hg]; exact (bZ (by repeat (first | (with_reducible first | exact HB.out | apply ea | apply en | apply ed | refine es ?_ GE394.out | refine es ?_ GE395.out) | exact HB.out))) : w.heap.size ≤ gb396)); have n5_ := aM ((by rw [hg]; exact (bZ (by repeat (first | (with_reducible first | exact HB.out | apply ea | apply en | apply ed | refine es ?_ GE394.out | refine es ?_ GE395.out) | exact HB.out))) : w.heap.size ≤ gb396)); have n6_ := aM ((by rw [hg]; exact Nat.ne_of_lt (blk_lt (g := gb394) (o := .cells #[.string a0_0, .slice A0_1 l0_1.length c0_1] 51 (0, 0)) (by (with_reducible repeat (first | refine qn ?_ _ | refine qd ?_ | refine qa ?_ _)); exact BK394.out)) : gb394 ≠ gb396)); have n7_ := aM ((by rw [hg]; exact Nat.ne_of_gt (blk_lt (g := gb394) (o := .cells #[.string a0_0, .slice A0_1 l0_1.length c0_1] 51 (0, 0)) (by (with_reducible repeat (first | refine qn ?_ _ | refine qd ?_ | refine qa ?_ _)); exact BK394.out)) : gb396 ≠ gb394)); have n8_ := aM ((by rw [hg]; exact Nat.ne_of_lt (blk_lt (g := gb395) (o := .cells #[.string a1_0, .slice A1_1 l1_1.length c1_1] 51 (0, 0)) (by (with_reducible repeat (first | refine qn ?_ _ | refine qd ?_ | refine qa ?_ _)); exact BK395.out)) : gb395 ≠ gb396)); have n9_ := aM ((by rw [hg]; exact Nat.ne_of_gt (blk_lt (g := gb395) (o := .cells #[.string a1_0, .slice A1_1 l1_1.length c1_1] 51 (0, 0)) (by (with_reducible repeat (first | refine qn ?_ _ | refine qd ?_ | refine qa ?_ _)); exact BK395.out)) : gb396 ≠ gb395)); clear BK394; clear BK395; clear HB; have BK394 := n0_; have BK395 := n1_; have HB := n2_; have BK396 := n3_; have GW396 := n4_; have GE396 := n5_; have NB394_396 := n6_; have NB396_394 := n7_; have NB395_396 := n8_; have NB396_395 := n9_; clear n0_ n1_ n2_ n3_ n4_ n5_ n6_ n7_ n8_ n9_; clear hb hbox hg; have hnb7 := NB394_395.out; have hnc7 := NB395_394.out; have hnb8 := NB394_396.out; have hnc8 := NB396_394.out; have hcz9_0 : w6.cell? ⟨gb394, 0, none⟩ = some (.string a0_0) := (bC BK394.out 0).trans rfl; have hcz9_1 : w6.cell? ⟨gb394, 1, none⟩ = some (.slice A0_1 l0_1.length c0_1) := (bC BK394.out 1).trans rfl; have hfz9_0 := bF BK394.out 0; have hfz9_1 := bF BK394.out 1; have hnb10 := NB395_396.out; have hnc10 := NB396_395.out; have hcz11_0 : w6.cell? ⟨gb395, 0, none⟩ = some (.string a1_0) := (bC BK395.out 0).trans rfl; have hcz11_1 : w6.cell? ⟨gb395, 1, none⟩ = some (.slice A1_1 l1_1.length c1_1) := (bC BK395.out 1).trans rfl; have hfz11_0 := bF BK395.out 0; have hfz11_1 := bF BK395.out 1) | ((with_reducible refine gate_callee (f := 53) rfl ?_); refine goesL_ (some 14) rfl rfl Try.func53 (by kernel_rfl) rfl #[.agg #[.string a0_0, .slice A0_1 l0_1.length c0_1], .int .i64 (a0_0.size : Int), .int .i64 (a0_0.size : Int), .agg #[.string a1_0, .slice A1_1 l1_1.length c1_1]] rfl (by (try simp only [List.map_toArray, List.map_cons, List.map_nil]); first | done | rfl | (simp only [List.length_drop, List.length_take]; rfl)) ?_; (with_reducible refine (strip_Splice.calls k a0_0 _ _ l0_1 (a0_0.size : Int) (a0_0.size : Int) a1_0 _ _ l1_1 t397 t398 t401 _ ?side1 ?side2 ?side3 ?side4 A3.out).mono ?_); (case side1 => repeat (first | exact (cB_ HR0_1.out HB.out) | (with_reducible refine Kd.C_alloc ?_ _) | (with_reducible refine Kd.C_drewN ?_ _) | (with_reducible refine Kd.C_drew ?_))); (case side2 => exact HC0_1.out); (case side3 => repeat (first | exact (cB_ HR1_1.out HB.out) | (with_reducible refine Kd.C_alloc ?_ _) | (with_reducible refine Kd.C_drewN ?_ _) | (with_reducible refine Kd.C_drew ?_))); (case side4 => exact HC1_1.out); rintro e w12 ⟨v399, rfl, ho0, hb⟩; refine ⟨_, rfl, ?_⟩; have n0_ := aM (rL ho0 (bZ (by repeat (first | (with_reducible first | exact HB.out | apply ea | apply en | apply ed | refine es ?_ GE394.out | refine es ?_ GE395.out | refine es ?_ GE396.out) | exact HB.out)))); have n1_ := aM (bB (g := gb394) (o := .cells #[.string a0_0, .slice A0_1 l0_1.length c0_1] 51 (0, 0)) (by (with_reducible repeat (first | refine qn ?_ _ | refine qd ?_ | refine qa ?_ _)); exact BK394.out) hb); have n2_ := aM (bB (g := gb395) (o := .cells #[.string a1_0, .slice A1_1 l1_1.length c1_1] 51 (0, 0)) (by (with_reducible repeat (first | refine qn ?_ _ | refine qd ?_ | refine qa ?_ _)); exact BK395.out) hb); have n3_ := aM (bB (g := gb396) (o := .cells #[.string (⟨#[]⟩ : ByteArray), .slice none 0 0] 51 (0, 0)) (by (with_reducible repeat (first | refine qn ?_ _ | refine qd ?_ | refine qa ?_ _)); exact BK396.out) hb); have n4_ := aM (bP (by repeat (first | (with_reducible first | exact HB.out | apply ea | apply en | apply ed | refine es ?_ GE394.out | refine es ?_ GE395.out | refine es ?_ GE396.out) | exact HB.out)) hb); clear BK394; clear BK395; clear BK396; clear HB; have HO400 := n0_; have BK394 := n1_; have BK395 := n2_; have BK396 := n3_; have HB := n4_; clear n0_ n1_ n2_ n3_ n4_; (try clear hb); (try clear hb2); (try clear hk); (try clear hi); (try clear ho0); have hcz13_0 : w12.cell? ⟨gb396, 0, none⟩ = some (.string (⟨#[]⟩ : ByteArray)) := (bC BK396.out 0).trans rfl; have hcz13_1 : w12.cell? ⟨gb396, 1, none⟩ = some (.slice none 0 0) := (bC BK396.out 1).trans rfl; have hfz13_0 := bF BK396.out 0; have hfz13_1 := bF BK396.out 1; obtain ⟨Ao14, co14, eo14⟩ := Kd.R_slice HO400.out; subst eo14))
  refine bodyPost_ret (results_ct rfl _ _ gb396 51 #[.string t397, .slice Ao14 t398.length co14] (0, 0) _ rfl (by (with_reducible repeat (first | refine qn ?_ _ | refine qd ?_ | refine qa ?_ _)); refine bU (cs := #[.string t397, .slice none 0 0]) ?_ 1 _ rfl; (with_reducible repeat (first | refine qn ?_ _ | refine qd ?_ | refine qa ?_ _)); refine bU (cs := #[.string (⟨#[]⟩ : ByteArray), .slice none 0 0]) ?_ 0 _ rfl; (with_reducible repeat (first | refine qn ?_ _ | refine qd ?_ | refine qa ?_ _)); exact BK396.out) Try.underlying51 rfl (by kernel_rfl)) rfl ?_
  exact ⟨_, by first | rfl | (simp [errW_none, errW_some] <;> rfl) | (simp [*, errW_none, errW_some] <;> rfl), by (with_reducible repeat (first | apply ra | apply rn | apply rd_)); exact rM (rF (p := ⟨gb396, 1, none⟩) (rF (p := ⟨gb396, 0, none⟩) (rT HO400.out BK396.out (by decide)) (fun _ hk => hk.2) (.string t397)) (fun _ hk => hk.2) (.slice Ao14 t398.length co14)) (fun _ hk => trivial), by repeat (first | (with_reducible first | exact HB.out | apply ea | apply en | apply ed | refine es ?_ GE394.out | refine es ?_ GE395.out | refine es ?_ GE396.out) | exact HB.out)⟩
end Go.Proofs.Ythpjagblnddjaaa.PB
end

section
namespace Go.Proofs.Ythpjagblnddjaaa.PB
open Go.RowKit Go.Proofs.YthpjagblnddjaaaW.PrintWords Go.Proofs.YthpjagblnddjaaaW.PrintLast Go.Proofs.YthpjagblnddjaaaW.PrintMore
attribute [local go_sem] max2_int min2_int max_two min_two max_three min_three max_four min_four   
set_option linter.unusedVariables false
set_option linter.unusedSimpArgs false
def strip_Make.f (k : Nat) (a0 : ByteArray) (a1 : Int) : Option (ByteArray × (List (S100)) × Int) := (runs_Normal.f k (([(⟨a1, (a0.size : Int)⟩ : S100)] : List (S100)))).bind fun bt368 => (if bt368.2 = 0 then (some (a0, bt368.1, 0)) else (some ((⟨#[]⟩ : ByteArray), ([] : List (S100)), bt368.2)))
theorem strip_Make.mono : ∀ a0 a1 k, LeO (strip_Make.f k a0 a1) (strip_Make.f (k + 1) a0 a1) := by
  intro a0 a1 k
  unfold strip_Make.f
  repeat' first
      | (with_reducible exact runs_Normal.mono _ _)
      | (with_reducible exact LeO.refl _)
      | (with_reducible exact LeO.none _)
      | (with_reducible refine LeO.ite ?_ ?_)
      | (with_reducible refine LeO.bind ?_ (fun _ => ?_))
      | exact runs_Normal.mono _ _
      | exact LeO.none _
      | refine LeO.ite ?_ ?_
      | refine LeO.bind ?_ (fun _ => ?_)
set_option maxHeartbeats 8000000 in
set_option maxRecDepth 100000 in
theorem strip_Make.calls (k : Nat) (a0 : ByteArray) (a1 : Int) (r1 : ByteArray) (r2 : List (S100)) (r3 : Int) (w : World) (h : strip_Make.f k a0 a1 = some (r1, r2, r3)) :
    Calls Try.prog 46 #[.string a0, .int .u64 a1] w fun e w' => ∃ v1_ : Value, e = .returned (.tuple #[.agg #[.string r1, v1_], .int .i64 r3]) ∧ Kd.R k100 100 w' w.heap.size (fun _ => True) v1_ r2 ∧ Below w.heap.size w w' := by
  have hu51 := Try.underlying51
  have hu100 := Try.underlying100
  have HB := aM (Below.refl w.heap.size w)
  have H : ((runs_Normal.f k (([(⟨a1, (a0.size : Int)⟩ : S100)] : List (S100)))).bind fun bt368 => (if bt368.2 = 0 then (some (a0, bt368.1, 0)) else (some ((⟨#[]⟩ : ByteArray), ([] : List (S100)), bt368.2)))) = some (r1, r2, r3) := h
  clear h
  obtain ⟨y365, hy365⟩ : ∃ y_ : List (S100), y_ = (([(⟨a1, (a0.size : Int)⟩ : S100)] : List (S100))) := ⟨_, rfl⟩
  replace H : ((runs_Normal.f k y365).bind fun bt368 => (if bt368.2 = 0 then (some (a0, bt368.1, 0)) else (some ((⟨#[]⟩ : ByteArray), ([] : List (S100)), bt368.2)))) = some (r1, r2, r3) := by first | (rw [hy365]; with_reducible exact H) | (have H2_ := (Option.bind_some _ _).symm.trans H; rw [hy365]; with_reducible exact H2_) | (have H2_ := (Option.bind_some _ _).symm.trans H; with_reducible exact H2_) | with_reducible exact H | (rw [hy365]; exact H) | exact H
  have Ny365 := aM hy365
  clear hy365
  replace H := Option.bind_eq_some_iff.mp H
  obtain ⟨⟨t368, t369⟩, A30, H⟩ := H
  replace H : (if t369 = 0 then (some (a0, t368, 0)) else (some ((⟨#[]⟩ : ByteArray), ([] : List (S100)), t369))) = some (r1, r2, r3) := H
  have A3 := aM A30
  clear A30
  by_cases c4 : t369 = 0
  · rw [if_pos c4] at H
    have c4b0 : (t369 == 0) = true := beq_iff_eq.mpr c4
    have c4b1 : (t369 != 0) = false := bne_eq_false_iff_eq.mpr c4
    clear c4
    simp only [Option.some.injEq, Prod.mk.injEq] at H
    obtain ⟨rfl, rfl, rfl⟩ := H
    go_enter Try.func46, Try.ntmps46
    go_wp2_with (first | ((with_reducible refine gate_dst (N := 4) rfl ?_); refine box_event ?hg (N := 4) ?hd (cs := #[.string (⟨#[]⟩ : ByteArray), .slice none 0 0]) (t := 51) ?hr ?_; (case hd => rfl); (case hg => rfl); (case hr => first | (go_simp; done) | (go_simp; rfl)); intro gb364 hg w5 hbox hb; have n0_ := aM (bP (by repeat (first | (with_reducible first | exact HB.out | apply ea | apply en | apply ed) | exact HB.out)) hb); have n1_ := aM (hbox); have n2_ := aM ((by rw [hg]; exact (bZ (by repeat (first | (with_reducible first | exact HB.out | apply ea | apply en | apply ed) | exact HB.out))) : w.heap.size ≤ gb364)); have n3_ := aM ((by rw [hg]; exact (bZ (by repeat (first | (with_reducible first | exact HB.out | apply ea | apply en | apply ed) | exact HB.out))) : w.heap.size ≤ gb364)); clear HB; have HB := n0_; have BK364 := n1_; have GW364 := n2_; have GE364 := n3_; clear n0_ n1_ n2_ n3_; clear hb hbox hg) | ((with_reducible refine gate_dst (N := 13) rfl ?_); refine Kd.R_lit k100 _ 100 ?hg (N := 13) ?hd (xs := ([(⟨a1, (a0.size : Int)⟩ : S100)] : List (S100))) (inner := [.int .u64 a1, .int .i64 (a0.size : Int)]) (ok := fun _ => True) (okp := fun _ => True) ?hr ?hp (fun _ hk => hk) trivial (Below.refl _ _) (Nat.le_refl _) (by simp) ?_; (case hd => rfl); (case hg => rfl); (case hr => first | (go_simp; done) | (go_simp; rfl)); (case hp => exact (Reps.c2 (show Kd.M k100 _ _ _ (⟨a1, (a0.size : Int)⟩ : S100) [.int .u64 a1, .int .i64 (a0.size : Int)] from (k100_mkM _ _ _ (⟨a1, (a0.size : Int)⟩ : S100) )) (Reps.none _ _))); intro v366 w6 ho7 hb hg_ hnew_; clear hg_ hnew_; (first | rw [← Ny365.out] at ho7 | (simp only [Int.reduceToNat] at ho7; rw [← Ny365.out] at ho7)); have n0_ := aM (rL ho7 (bZ (by repeat (first | (with_reducible first | exact HB.out | apply ea | apply en | apply ed | refine es ?_ GE364.out) | exact HB.out)))); have n1_ := aM (bB (g := gb364) (o := .cells #[.string (⟨#[]⟩ : ByteArray), .slice none 0 0] 51 (0, 0)) (by (with_reducible repeat (first | refine qn ?_ _ | refine qd ?_ | refine qa ?_ _)); exact BK364.out) hb); have n2_ := aM (bP (by repeat (first | (with_reducible first | exact HB.out | apply ea | apply en | apply ed | refine es ?_ GE364.out) | exact HB.out)) hb); clear BK364; clear HB; have HO367 := n0_; have BK364 := n1_; have HB := n2_; clear n0_ n1_ n2_; clear hb ho7; obtain ⟨Ao8, co8, eo8⟩ := Kd.R_slice HO367.out; subst eo8) | ((with_reducible refine gate_callee (f := 25) rfl ?_); refine goesL_ (some 14) rfl rfl Try.func25 (by kernel_rfl) rfl #[.slice Ao8 y365.length co8] rfl (by (try simp only [List.map_toArray, List.map_cons, List.map_nil]); first | done | rfl | (simp only [List.length_drop, List.length_take]; rfl)) ?_; (with_reducible refine (runs_Normal.calls k _ _ y365 t368 t369 _ ?side1 ?side2 A3.out).mono ?_); (case side1 => repeat (first | exact (rR HO367.out).2.2 | (with_reducible refine Kd.C_alloc ?_ _) | (with_reducible refine Kd.C_drewN ?_ _) | (with_reducible refine Kd.C_drew ?_))); (case side2 => exact (rR HO367.out).2.1); rintro e w9 ⟨v370, rfl, ho0, hb⟩; refine ⟨_, rfl, ?_⟩; have n0_ := aM (rE (by (with_reducible repeat (first | apply ra | apply rn | apply rd_)); exact HO367.out) (Kd.R_base ho0) hb); have n1_ := aM (rL (Kd.R_new' ho0 (Kd.R_lt (by (with_reducible repeat (first | apply ra | apply rn | apply rd_)); exact HO367.out))) (bZ (by repeat (first | (with_reducible first | exact HB.out | apply ea | apply en | apply ed | refine es ?_ GE364.out) | exact HB.out)))); have n2_ := aM (bB (g := gb364) (o := .cells #[.string (⟨#[]⟩ : ByteArray), .slice none 0 0] 51 (0, 0)) (by (with_reducible repeat (first | refine qn ?_ _ | refine qd ?_ | refine qa ?_ _)); exact BK364.out) hb); have n3_ := aM (bP (by repeat (first | (with_reducible first | exact HB.out | apply ea | apply en | apply ed | refine es ?_ GE364.out) | exact HB.out)) hb); clear HO367; clear BK364; clear HB; have HO367 := n0_; have HO371 := n1_; have BK364 := n2_; have HB := n3_; clear n0_ n1_ n2_ n3_; (try clear hb); (try clear hb2); (try clear hk); (try clear hi); (try clear ho0); obtain ⟨Ao10, co10, eo10⟩ := Kd.R_slice HO371.out; subst eo10; have hcz11_0 : w9.cell? ⟨gb364, 0, none⟩ = some (.string (⟨#[]⟩ : ByteArray)) := (bC BK364.out 0).trans rfl; have hcz11_1 : w9.cell? ⟨gb364, 1, none⟩ = some (.slice none 0 0) := (bC BK364.out 1).trans rfl; have hfz11_0 := bF BK364.out 0; have hfz11_1 := bF BK364.out 1))
    refine bodyPost_ret (results_ct rfl _ _ gb364 51 #[.string a0, .slice Ao10 t368.length co10] (0, 0) _ rfl (by (with_reducible repeat (first | refine qn ?_ _ | refine qd ?_ | refine qa ?_ _)); refine bU (cs := #[.string a0, .slice none 0 0]) ?_ 1 _ rfl; (with_reducible repeat (first | refine qn ?_ _ | refine qd ?_ | refine qa ?_ _)); refine bU (cs := #[.string (⟨#[]⟩ : ByteArray), .slice none 0 0]) ?_ 0 _ rfl; (with_reducible repeat (first | refine qn ?_ _ | refine qd ?_ | refine qa ?_ _)); exact BK364.out) Try.underlying51 rfl (by kernel_rfl)) rfl ?_
    exact ⟨_, by first | rfl | (simp [errW_none, errW_some] <;> rfl) | (simp [*, errW_none, errW_some] <;> rfl), by (with_reducible repeat (first | apply ra | apply rn | apply rd_)); exact rM (rF (p := ⟨gb364, 1, none⟩) (rF (p := ⟨gb364, 0, none⟩) (rT HO371.out BK364.out (by decide)) (fun _ hk => hk.2) (.string a0)) (fun _ hk => hk.2) (.slice Ao10 t368.length co10)) (fun _ hk => trivial), by repeat (first | (with_reducible first | exact HB.out | apply ea | apply en | apply ed | refine es ?_ GE364.out) | exact HB.out)⟩
  · rw [if_neg c4] at H
    have c4b0 : (t369 == 0) = false := beq_eq_false_iff_ne.mpr c4
    have c4b1 : (t369 != 0) = true := bne_iff_ne.mpr c4
    simp only [Option.some.injEq, Prod.mk.injEq] at H
    obtain ⟨rfl, rfl, rfl⟩ := H
    go_enter Try.func46, Try.ntmps46
    go_wp2_with (first | ((with_reducible refine gate_dst (N := 4) rfl ?_); refine box_event ?hg (N := 4) ?hd (cs := #[.string (⟨#[]⟩ : ByteArray), .slice none 0 0]) (t := 51) ?hr ?_; (case hd => rfl); (case hg => rfl); (case hr => first | (go_simp; done) | (go_simp; rfl)); intro gb364 hg w12 hbox hb; have n0_ := aM (bP (by repeat (first | (with_reducible first | exact HB.out | apply ea | apply en | apply ed) | exact HB.out)) hb); have n1_ := aM (hbox); have n2_ := aM ((by rw [hg]; exact (bZ (by repeat (first | (with_reducible first | exact HB.out | apply ea | apply en | apply ed) | exact HB.out))) : w.heap.size ≤ gb364)); have n3_ := aM ((by rw [hg]; exact (bZ (by repeat (first | (with_reducible first | exact HB.out | apply ea | apply en | apply ed) | exact HB.out))) : w.heap.size ≤ gb364)); clear HB; have HB := n0_; have BK364 := n1_; have GW364 := n2_; have GE364 := n3_; clear n0_ n1_ n2_ n3_; clear hb hbox hg) | ((with_reducible refine gate_dst (N := 13) rfl ?_); refine Kd.R_lit k100 _ 100 ?hg (N := 13) ?hd (xs := ([(⟨a1, (a0.size : Int)⟩ : S100)] : List (S100))) (inner := [.int .u64 a1, .int .i64 (a0.size : Int)]) (ok := fun _ => True) (okp := fun _ => True) ?hr ?hp (fun _ hk => hk) trivial (Below.refl _ _) (Nat.le_refl _) (by simp) ?_; (case hd => rfl); (case hg => rfl); (case hr => first | (go_simp; done) | (go_simp; rfl)); (case hp => exact (Reps.c2 (show Kd.M k100 _ _ _ (⟨a1, (a0.size : Int)⟩ : S100) [.int .u64 a1, .int .i64 (a0.size : Int)] from (k100_mkM _ _ _ (⟨a1, (a0.size : Int)⟩ : S100) )) (Reps.none _ _))); intro v366 w13 ho14 hb hg_ hnew_; clear hg_ hnew_; (first | rw [← Ny365.out] at ho14 | (simp only [Int.reduceToNat] at ho14; rw [← Ny365.out] at ho14)); have n0_ := aM (rL ho14 (bZ (by repeat (first | (with_reducible first | exact HB.out | apply ea | apply en | apply ed | refine es ?_ GE364.out) | exact HB.out)))); have n1_ := aM (bB (g := gb364) (o := .cells #[.string (⟨#[]⟩ : ByteArray), .slice none 0 0] 51 (0, 0)) (by (with_reducible repeat (first | refine qn ?_ _ | refine qd ?_ | refine qa ?_ _)); exact BK364.out) hb); have n2_ := aM (bP (by repeat (first | (with_reducible first | exact HB.out | apply ea | apply en | apply ed | refine es ?_ GE364.out) | exact HB.out)) hb); clear BK364; clear HB; have HO367 := n0_; have BK364 := n1_; have HB := n2_; clear n0_ n1_ n2_; clear hb ho14; obtain ⟨Ao15, co15, eo15⟩ := Kd.R_slice HO367.out; subst eo15) | ((with_reducible refine gate_callee (f := 25) rfl ?_); refine goesL_ (some 14) rfl rfl Try.func25 (by kernel_rfl) rfl #[.slice Ao15 y365.length co15] rfl (by (try simp only [List.map_toArray, List.map_cons, List.map_nil]); first | done | rfl | (simp only [List.length_drop, List.length_take]; rfl)) ?_; (with_reducible refine (runs_Normal.calls k _ _ y365 t368 t369 _ ?side1 ?side2 A3.out).mono ?_); (case side1 => repeat (first | exact (rR HO367.out).2.2 | (with_reducible refine Kd.C_alloc ?_ _) | (with_reducible refine Kd.C_drewN ?_ _) | (with_reducible refine Kd.C_drew ?_))); (case side2 => exact (rR HO367.out).2.1); rintro e w16 ⟨v370, rfl, ho0, hb⟩; refine ⟨_, rfl, ?_⟩; have n0_ := aM (rE (by (with_reducible repeat (first | apply ra | apply rn | apply rd_)); exact HO367.out) (Kd.R_base ho0) hb); have n1_ := aM (rL (Kd.R_new' ho0 (Kd.R_lt (by (with_reducible repeat (first | apply ra | apply rn | apply rd_)); exact HO367.out))) (bZ (by repeat (first | (with_reducible first | exact HB.out | apply ea | apply en | apply ed | refine es ?_ GE364.out) | exact HB.out)))); have n2_ := aM (bB (g := gb364) (o := .cells #[.string (⟨#[]⟩ : ByteArray), .slice none 0 0] 51 (0, 0)) (by (with_reducible repeat (first | refine qn ?_ _ | refine qd ?_ | refine qa ?_ _)); exact BK364.out) hb); have n3_ := aM (bP (by repeat (first | (with_reducible first | exact HB.out | apply ea | apply en | apply ed | refine es ?_ GE364.out) | exact HB.out)) hb); clear HO367; clear BK364; clear HB; have HO367 := n0_; have HO371 := n1_; have BK364 := n2_; have HB := n3_; clear n0_ n1_ n2_ n3_; (try clear hb); (try clear hb2); (try clear hk); (try clear hi); (try clear ho0); have hcz17_0 : w16.cell? ⟨gb364, 0, none⟩ = some (.string (⟨#[]⟩ : ByteArray)) := (bC BK364.out 0).trans rfl; have hcz17_1 : w16.cell? ⟨gb364, 1, none⟩ = some (.slice none 0 0) := (bC BK364.out 1).trans rfl; have hfz17_0 := bF BK364.out 0; have hfz17_1 := bF BK364.out 1))
    refine bodyPost_ret (results_ct rfl _ _ gb364 51 #[.string (⟨#[]⟩ : ByteArray), .slice none 0 0] (0, 0) _ rfl (by (with_reducible repeat (first | refine qn ?_ _ | refine qd ?_ | refine qa ?_ _)); refine bU (cs := #[.string (⟨#[]⟩ : ByteArray), .slice none 0 0]) ?_ 1 _ rfl; (with_reducible repeat (first | refine qn ?_ _ | refine qd ?_ | refine qa ?_ _)); refine bU (cs := #[.string (⟨#[]⟩ : ByteArray), .slice none 0 0]) ?_ 0 _ rfl; (with_reducible repeat (first | refine qn ?_ _ | refine qd ?_ | refine qa ?_ _)); exact BK364.out) Try.underlying51 rfl (by kernel_rfl)) rfl ?_
    exact ⟨_, by first | rfl | (simp [errW_none, errW_some] <;> rfl) | (simp [*, errW_none, errW_some] <;> rfl), by first | exact Kd.R_nil _ _ _ _ _ | exact Kd.N_nil _ _ _ _ _ | exact Kd.V_nil _ _ _ _ _ | exact Kd.Q_nil _ _ _ _ _ | exact Kd.S_nil _ _ _ _ _, by repeat (first | (with_reducible first | exact HB.out | apply ea | apply en | apply ed | refine es ?_ GE364.out) | exact HB.out)⟩
end Go.Proofs.Ythpjagblnddjaaa.PB
end

section
namespace Go.Proofs.Ythpjagblnddjaaa.PB
open Go.RowKit Go.Proofs.YthpjagblnddjaaaW.PrintWords
set_option linter.unusedVariables false
def totF : List S100 → Int → Int
  | [], n => n
  | r :: l, n => if r.f1 > 4096 - n then 4097 else totF l (n + (if r.f1 < 0 then 0 else r.f1))
def tot (l : List S100) : Int := totF l 0
def bytes (l : List S100) : List Int := l.flatMap fun r => List.replicate r.f1.toNat r.f0
def step1 (acc : List S100) (x : Int) : List S100 :=
  if 0 < acc.length ∧ (acc.getD (acc.length - 1) z100).f0 = x then acc.set (acc.length - 1) ⟨x, (acc.getD (acc.length - 1) z100).f1 + 1⟩ else acc ++ [⟨x, 1⟩]
def packTo (acc : List S100) (b : List Int) : List S100 := b.foldl step1 acc
def pack (b : List Int) : List S100 := packTo [] b
theorem packTo_append (acc : List S100) (a b : List Int) : packTo acc (a ++ b) = packTo (packTo acc a) b := List.foldl_append
theorem snoc_cases (acc : List S100) : acc = [] ∨ ∃ pre q, acc = pre ++ [q] := by
  rcases List.eq_nil_or_concat acc with h | ⟨pre, q, h⟩
  · exact .inl h
  · exact .inr ⟨pre, q, by rw [h, List.concat_eq_append]⟩
theorem getD_snoc (pre : List S100) (q : S100) : (pre ++ [q]).getD ((pre ++ [q]).length - 1) z100 = q := by
  simp [List.getD_eq_getElem?_getD]
theorem set_snoc (pre : List S100) (q r : S100) : (pre ++ [q]).set ((pre ++ [q]).length - 1) r = pre ++ [r] := by
  simp
theorem step1_nil (x : Int) : step1 [] x = [⟨x, 1⟩] := by simp [step1]
theorem step1_same (pre : List S100) (q : S100) : step1 (pre ++ [q]) q.f0 = pre ++ [⟨q.f0, q.f1 + 1⟩] := by
  unfold step1
  rw [getD_snoc, set_snoc, if_pos ⟨by simp, rfl⟩]
theorem step1_other (pre : List S100) (q : S100) (x : Int) (h : q.f0 ≠ x) : step1 (pre ++ [q]) x = pre ++ [q] ++ [⟨x, 1⟩] := by
  unfold step1
  rw [getD_snoc, if_neg (fun hh => h hh.2)]
theorem addRun_small (acc : List S100) (r : S100) (h : r.f1 < 1) : addRun acc r = acc := by simp [addRun, h]
theorem addRun_nil (r : S100) (h : ¬ r.f1 < 1) : addRun [] r = [r] := by simp [addRun, h]
theorem addRun_same (pre : List S100) (q r : S100) (h : ¬ r.f1 < 1) (he : q.f0 = r.f0) : addRun (pre ++ [q]) r = pre ++ [⟨q.f0, wrap64 (q.f1 + r.f1)⟩] := by
  unfold addRun
  rw [if_neg h, getD_snoc, set_snoc, if_pos (by simp), if_pos he]
theorem addRun_other (pre : List S100) (q r : S100) (h : ¬ r.f1 < 1) (he : ¬ q.f0 = r.f0) : addRun (pre ++ [q]) r = pre ++ [q] ++ [r] := by
  unfold addRun
  rw [if_neg h, getD_snoc, if_pos (by simp), if_neg he]
theorem packTo_rep_same (pre : List S100) (x : Int) : ∀ (n : Nat) (m : Int), packTo (pre ++ [⟨x, m⟩]) (List.replicate n x) = pre ++ [⟨x, m + n⟩]
  | 0, m => by simp [packTo]
  | n + 1, m => by
    rw [List.replicate_succ]
    show packTo (step1 (pre ++ [⟨x, m⟩]) x) _ = _
    rw [show step1 (pre ++ [(⟨x, m⟩ : S100)]) x = pre ++ [⟨x, m + 1⟩] from step1_same pre ⟨x, m⟩, packTo_rep_same pre x n (m + 1)]
    congr 3
    push_cast
    omega
def capped (B : Int) (acc : List S100) : Prop := ∀ r ∈ acc, 0 ≤ r.f1 ∧ r.f1 ≤ B
theorem addRun_pack (acc : List S100) (L : Int) (N : Nat) (B : Int) (hc : capped B acc) (hB : B + N ≤ 9223372036854775807) : addRun acc ⟨L, N⟩ = packTo acc (List.replicate N L) := by
  cases N with
  | zero => rw [addRun_small _ _ (by show ((0 : Nat) : Int) < 1; omega)]; rfl
  | succ n =>
    have h1 : ¬ ((⟨L, ((n + 1 : Nat) : Int)⟩ : S100).f1 < 1) := by show ¬ ((n + 1 : Nat) : Int) < 1; omega
    rw [List.replicate_succ]
    rcases snoc_cases acc with rfl | ⟨pre, q, rfl⟩
    · rw [addRun_nil _ h1]
      show _ = packTo (step1 [] L) _
      rw [step1_nil, ← List.nil_append [(⟨L, 1⟩ : S100)], packTo_rep_same]
      simp
      omega
    · show _ = packTo (step1 (pre ++ [q]) L) _
      by_cases he : q.f0 = L
      · subst he
        have hq := hc q (by simp)
        rw [addRun_same pre q ⟨q.f0, ((n + 1 : Nat) : Int)⟩ h1 rfl, step1_same, packTo_rep_same]
        congr 3
        show wrap64 (q.f1 + ((n + 1 : Nat) : Int)) = _
        unfold wrap64
        omega
      · rw [addRun_other _ _ _ h1 he, step1_other _ _ _ he, packTo_rep_same]
        simp
        omega
theorem capped_mono {B B' : Int} {acc : List S100} (h : capped B acc) (hB : B ≤ B') : capped B' acc := fun r hr => ⟨(h r hr).1, by have := (h r hr).2; omega⟩
theorem step1_capped {B : Int} {acc : List S100} (h : capped B acc) (hB : 0 ≤ B) (x : Int) : capped (B + 1) (step1 acc x) := by
  rcases snoc_cases acc with rfl | ⟨pre, q, rfl⟩
  · rw [step1_nil]
    intro r hr
    obtain rfl := List.mem_singleton.1 hr
    exact ⟨by show (0 : Int) ≤ 1; omega, by show (1 : Int) ≤ B + 1; omega⟩
  · by_cases he : q.f0 = x
    · subst he
      rw [step1_same]
      intro r hr
      rcases List.mem_append.1 hr with hr | hr
      · have := h r (List.mem_append_left _ hr); omega
      · obtain rfl := List.mem_singleton.1 hr
        have := h q (by simp)
        exact ⟨by show 0 ≤ q.f1 + 1; omega, by show q.f1 + 1 ≤ B + 1; omega⟩
    · rw [step1_other _ _ _ he]
      intro r hr
      rcases List.mem_append.1 hr with hr | hr
      · have := h r hr; omega
      · obtain rfl := List.mem_singleton.1 hr
        exact ⟨by show (0 : Int) ≤ 1; omega, by show (1 : Int) ≤ B + 1; omega⟩
theorem packTo_capped (b : List Int) : ∀ {B : Int} {acc : List S100}, capped B acc → 0 ≤ B → capped (B + b.length) (packTo acc b) := by
  induction b with
  | nil => intro B acc h hB; simpa [packTo] using h
  | cons x b ih =>
    intro B acc h hB
    have := ih (step1_capped h hB x) (by omega)
    show capped _ (packTo (step1 acc x) b)
    refine capped_mono this ?_
    rw [List.length_cons]
    push_cast
    omega
theorem bytes_cons (r : S100) (l : List S100) : bytes (r :: l) = List.replicate r.f1.toNat r.f0 ++ bytes l := by simp [bytes]
theorem bytes_append (a b : List S100) : bytes (a ++ b) = bytes a ++ bytes b := by simp [bytes]
theorem someTo_pack (a b : Nat) (l : List S100) : ∀ (p : Nat) (acc : List S100) (B : Int), (∀ r ∈ l, 0 ≤ r.f1) → capped B acc → 0 ≤ B → B + (bytes l).length ≤ 1000000 → p + (bytes l).length ≤ 1000000 → a ≤ 1000000 → b ≤ 1000000 →
    someTo addRun (a : Int) (b : Int) l (p : Int) acc = packTo acc (((bytes l).take (b - p)).drop (a - p)) := by
  induction l with
  | nil => intro p acc B _ _ _ _ _ _ _; simp [someTo, bytes, packTo]
  | cons r l ih =>
    intro p acc B h0 hc hB hlen hp ha hb
    obtain ⟨n, hn⟩ := Int.eq_ofNat_of_zero_le (h0 r List.mem_cons_self)
    have hn' : r.f1.toNat = n := by omega
    rw [bytes_cons, hn'] at hlen hp ⊢
    rw [List.length_append, List.length_replicate] at hlen hp
    push_cast at hlen hp
    have hw : wrap64 ((p : Int) + r.f1) = ((p + n : Nat) : Int) := by unfold wrap64; omega
    simp only [someTo]
    rw [hw]
    
    have hN : wrap64 ((if (b : Int) < ((p + n : Nat) : Int) then (b : Int) else ((p + n : Nat) : Int)) - (if (p : Int) < (a : Int) then (a : Int) else (p : Int))) = (min b (p + n) : Nat) - (max p a : Nat) := by
      unfold wrap64
      split <;> split <;> omega
    rw [hN]
    have hsplit : (((List.replicate n r.f0) ++ bytes l).take (b - p)).drop (a - p) = List.replicate (min b (p + n) - max p a) r.f0 ++ ((bytes l).take (b - (p + n))).drop (a - (p + n)) := by
      rw [List.take_append, List.drop_append, List.length_take, List.length_replicate, List.take_replicate, List.drop_replicate]
      congr 1
      · congr 1; omega
      · by_cases hbp : b ≤ p + n
        · rw [show b - p - n = 0 by omega, show b - (p + n) = 0 by omega]; simp
        · rw [show b - p - n = b - (p + n) by omega, show a - p - min (b - p) n = a - (p + n) by omega]
    rw [hsplit, packTo_append]
    by_cases hle : max p a ≤ min b (p + n)
    · rw [show ((min b (p + n) : Nat) : Int) - ((max p a : Nat) : Int) = ((min b (p + n) - max p a : Nat) : Int) by omega]
      rw [addRun_pack acc r.f0 _ B hc (by omega)]
      have hc2 := packTo_capped (List.replicate (min b (p + n) - max p a) r.f0) hc hB
      rw [List.length_replicate] at hc2
      exact ih (p + n) _ _ (fun r hr => h0 r (List.mem_cons_of_mem _ hr)) hc2 (by omega) (by omega) (by push_cast; omega) ha hb
    · rw [addRun_small _ _ (by show ((min b (p + n) : Nat) : Int) - ((max p a : Nat) : Int) < 1; omega), show min b (p + n) - max p a = 0 by omega]
      exact ih (p + n) acc B (fun r hr => h0 r (List.mem_cons_of_mem _ hr)) hc hB (by omega) (by push_cast; omega) ha hb
theorem totF_bytes (l : List S100) : ∀ n : Int, 0 ≤ n → totF l n ≤ 4096 → totF l n = n + (bytes l).length := by
  induction l with
  | nil => intro n _ h; simp [totF, bytes]
  | cons r l ih =>
    intro n h0 h
    simp only [totF] at h ⊢
    split at h
    · omega
    · rename_i hc
      rw [if_neg hc]
      rw [ih _ (by split <;> omega) h, bytes_cons, List.length_append, List.length_replicate]
      push_cast
      split <;> omega
theorem tot_bytes {l : List S100} (h : tot l ≤ 4096) : tot l = (bytes l).length := by
  have := totF_bytes l 0 (by omega) h
  unfold tot
  omega
theorem tot_of_bytes {l : List S100} (h0 : ∀ r ∈ l, 0 ≤ r.f1) (h : (bytes l).length ≤ 4096) : tot l = (bytes l).length := by
  have : ∀ (l : List S100) (n : Int), 0 ≤ n → (∀ r ∈ l, 0 ≤ r.f1) → n + (bytes l).length ≤ 4096 → totF l n = n + (bytes l).length := by
    intro l
    induction l with
    | nil => intro n _ _ _; simp [totF, bytes]
    | cons r l ih =>
      intro n hn h0 h
      have hr := h0 r List.mem_cons_self
      rw [bytes_cons, List.length_append, List.length_replicate] at h ⊢
      push_cast at h ⊢
      simp only [totF]
      rw [if_neg (by omega), if_neg (by omega), ih _ (by omega) (fun r hr => h0 r (List.mem_cons_of_mem _ hr)) (by omega)]
      omega
  have := this l 0 (by omega) h0 (by omega)
  unfold tot
  omega
def nrm : List S100 → Prop
  | [] => True
  | [r] => 1 ≤ r.f1
  | r :: s :: l => 1 ≤ r.f1 ∧ r.f0 ≠ s.f0 ∧ nrm (s :: l)
theorem nrm_tail {r : S100} {l : List S100} (h : nrm (r :: l)) : nrm l := by
  cases l with
  | nil => trivial
  | cons s l => exact h.2.2
theorem nrm_head {r : S100} {l : List S100} (h : nrm (r :: l)) : 1 ≤ r.f1 := by
  cases l with
  | nil => exact h
  | cons s l => exact h.1
theorem nrm_pos {l : List S100} (h : nrm l) : ∀ r ∈ l, 1 ≤ r.f1 := by
  induction l with
  | nil => intro r hr; cases hr
  | cons s l ih =>
    intro r hr
    rcases List.mem_cons.1 hr with rfl | hr
    · exact nrm_head h
    · exact ih (nrm_tail h) r hr
theorem nrm_snoc {pre : List S100} {q r : S100} : nrm (pre ++ [q]) → q.f0 ≠ r.f0 → 1 ≤ r.f1 → nrm (pre ++ [q] ++ [r]) := by
  induction pre with
  | nil => intro h h1 h2; exact ⟨h, h1, h2⟩
  | cons p pre ih =>
    intro h h1 h2
    cases pre with
    | nil => exact ⟨h.1, h.2.1, ih h.2.2 h1 h2⟩
    | cons s pre => exact ⟨h.1, h.2.1, ih h.2.2 h1 h2⟩
theorem nrm_last {pre : List S100} {q q' : S100} : nrm (pre ++ [q]) → q'.f0 = q.f0 → 1 ≤ q'.f1 → nrm (pre ++ [q']) := by
  induction pre with
  | nil => intro h h1 h2; exact h2
  | cons p pre ih =>
    intro h h1 h2
    cases pre with
    | nil => exact ⟨h.1, by rw [h1]; exact h.2.1, h2⟩
    | cons s pre => exact ⟨h.1, h.2.1, ih h.2.2 h1 h2⟩
theorem step1_nrm {acc : List S100} (h : nrm acc) (x : Int) : nrm (step1 acc x) := by
  rcases snoc_cases acc with rfl | ⟨pre, q, rfl⟩
  · rw [step1_nil]; show (1 : Int) ≤ 1; omega
  · by_cases he : q.f0 = x
    · subst he
      rw [step1_same]
      exact nrm_last h rfl (by have := nrm_pos h q (by simp); show 1 ≤ q.f1 + 1; omega)
    · rw [step1_other _ _ _ he]
      exact nrm_snoc h he (by show (1 : Int) ≤ 1; omega)
theorem packTo_nrm (b : List Int) : ∀ {acc : List S100}, nrm acc → nrm (packTo acc b) := by
  induction b with
  | nil => intro acc h; exact h
  | cons x b ih => intro acc h; exact ih (step1_nrm h x)
theorem pack_nrm (b : List Int) : nrm (pack b) := packTo_nrm b trivial
theorem step1_bytes {acc : List S100} (h : nrm acc) (x : Int) : bytes (step1 acc x) = bytes acc ++ [x] := by
  rcases snoc_cases acc with rfl | ⟨pre, q, rfl⟩
  · rw [step1_nil]; simp [bytes]
  · by_cases he : q.f0 = x
    · subst he
      have := nrm_pos h q (by simp)
      rw [step1_same, bytes_append, bytes_append, List.append_assoc]
      congr 1
      simp only [bytes, List.flatMap_cons, List.flatMap_nil, List.append_nil]
      rw [show (q.f1 + 1).toNat = q.f1.toNat + 1 by omega, List.replicate_succ']
    · rw [step1_other _ _ _ he, bytes_append]
      congr 1
theorem packTo_bytes (b : List Int) : ∀ {acc : List S100}, nrm acc → bytes (packTo acc b) = bytes acc ++ b := by
  induction b with
  | nil => intro acc h; simp [packTo]
  | cons x b ih =>
    intro acc h
    show bytes (packTo (step1 acc x) b) = _
    rw [ih (step1_nrm h x), step1_bytes h, List.append_assoc]
    rfl
theorem pack_bytes (b : List Int) : bytes (pack b) = b := by
  unfold pack
  rw [packTo_bytes b (acc := []) trivial]
  simp [bytes]
theorem packTo_normal (l : List S100) : ∀ (pre : List S100) (q : S100), nrm (q :: l) → packTo (pre ++ [q]) (bytes l) = pre ++ q :: l := by
  induction l with
  | nil => intro pre q _; simp [bytes, packTo]
  | cons s l ih =>
    intro pre q h
    have hs := nrm_head (nrm_tail h)
    obtain ⟨n, hn⟩ : ∃ n : Nat, s.f1 = ((n + 1 : Nat) : Int) := ⟨(s.f1 - 1).toNat, by omega⟩
    rw [bytes_cons, packTo_append, hn, Int.toNat_natCast, List.replicate_succ]
    show packTo (packTo (step1 (pre ++ [q]) s.f0) _) _ = _
    rw [step1_other _ _ _ h.2.1, packTo_rep_same]
    have e : (⟨s.f0, 1 + (n : Int)⟩ : S100) = s := by
      cases s
      simp only at hn
      subst hn
      congr 1
      push_cast
      omega
    rw [e, ih (pre ++ [q]) s (nrm_tail h)]
    simp
theorem pack_of_nrm {l : List S100} (h : nrm l) : pack (bytes l) = l := by
  cases l with
  | nil => rfl
  | cons s l =>
    have hs := nrm_head h
    obtain ⟨n, hn⟩ : ∃ n : Nat, s.f1 = ((n + 1 : Nat) : Int) := ⟨(s.f1 - 1).toNat, by omega⟩
    unfold pack
    rw [bytes_cons, packTo_append, hn, Int.toNat_natCast, List.replicate_succ]
    show packTo (packTo (step1 [] s.f0) _) _ = _
    rw [step1_nil, ← List.nil_append [(⟨s.f0, 1⟩ : S100)], packTo_rep_same]
    have e : (⟨s.f0, 1 + (n : Int)⟩ : S100) = s := by
      cases s
      simp only at hn
      subst hn
      congr 1
      push_cast
      omega
    rw [e, packTo_normal l [] s h]
    rfl
instance nrmDec : (l : List S100) → Decidable (nrm l)
  | [] => isTrue trivial
  | [r] => inferInstanceAs (Decidable (1 ≤ r.f1))
  | r :: s :: l => by
    have := nrmDec (s :: l)
    exact inferInstanceAs (Decidable (1 ≤ r.f1 ∧ r.f0 ≠ s.f0 ∧ nrm (s :: l)))
theorem nrm_iff {l : List S100} : nrm l ↔ l = pack (bytes l) := ⟨fun h => (pack_of_nrm h).symm, fun h => by rw [h]; exact pack_nrm _⟩
def good (l : List S100) : Bool := decide (nrm l) && decide (tot l ≤ 4096)
end Go.Proofs.Ythpjagblnddjaaa.PB
end

section
namespace Go.Proofs.Ythpjagblnddjaaa.PB
open Go.RowKit Go.Proofs.YthpjagblnddjaaaW.PrintWords Go.Proofs.YthpjagblnddjaaaW.PrintLast Go.Proofs.YthpjagblnddjaaaW.PrintMore
set_option linter.unusedVariables false
set_option linter.unusedSimpArgs false
def BRow (w : World) (g : Nat) (b : List Int) : Prop := ∃ cs t fr, w.heap[g]? = some (.cells cs t fr) ∧ b.length ≤ fr.1 ∧ ∀ i, i < b.length → cs[i]? = some (.int .u8 (b.getD i 0))
theorem BRow.lt {w : World} {g : Nat} {b : List Int} (h : BRow w g b) : g < w.heap.size := by obtain ⟨cs, t, fr, hc, _⟩ := h; exact blk_lt hc
theorem BRow.cell {w : World} {g : Nat} {b : List Int} (h : BRow w g b) {i : Nat} (hi : i < b.length) : w.cell? ⟨g, i, none⟩ = some (.int .u8 (b.getD i 0)) := by
  obtain ⟨cs, t, fr, hc, _, hb⟩ := h
  exact (cell_of_row w g i cs t fr hc).trans (hb i hi)
theorem BRow.frozen {w : World} {g : Nat} {b : List Int} (h : BRow w g b) {i : Nat} (hi : i < b.length) : w.frozen? ⟨g, i, none⟩ = false := by
  obtain ⟨cs, t, ⟨f1, f2⟩, hc, hf, hb⟩ := h
  simp only at hf
  simp [World.frozen?, hc]
  omega
theorem BRow.of {w w' : World} {g : Nat} {b : List Int} (h : BRow w g b) (he : w'.heap[g]? = w.heap[g]?) : BRow w' g b := by
  obtain ⟨cs, t, fr, hc, hr⟩ := h
  exact ⟨cs, t, fr, he.trans hc, hr⟩
theorem BRow.alloc {w : World} {g : Nat} {b : List Int} (h : BRow w g b) (o : Obj) : BRow (w.alloc o) g b := h.of (Below.heap_alloc _ _ _ h.lt)
theorem BRow.drewN {w : World} {g : Nat} {b : List Int} (h : BRow w g b) (n : Nat) : BRow (w.drewN n) g b := h.of rfl
theorem BRow.set {w : World} {g : Nat} {b : List Int} (h : BRow w g b) {i : Nat} (hi : i < b.length) (x : Int) : BRow (w.setCell ⟨g, i, none⟩ (.int .u8 x)) g (b.set i x) := by
  obtain ⟨cs, t, fr, hc, hf, hb⟩ := h
  refine ⟨cs.setIfInBounds i (.int .u8 x), t, fr, by simp [World.setCell, Array.getElem?_modify, hc], by rw [List.length_set]; exact hf, fun j hj => ?_⟩
  rw [List.length_set] at hj
  have h1 := hb j hj
  obtain ⟨hlt, _⟩ := Array.getElem?_eq_some_iff.1 h1
  by_cases he : i = j
  · subst he
    rw [List.getD_eq_getElem?_getD, List.getElem?_set_self hj, Array.getElem?_setIfInBounds]
    simp [hlt]
  · rw [List.getD_eq_getElem?_getD, List.getElem?_set_ne he, ← List.getD_eq_getElem?_getD, Array.getElem?_setIfInBounds, if_neg he]
    exact h1
theorem BRow.reads {w : World} {g : Nat} {b : List Int} (h : BRow w g b) (hn : b.length ≤ 9223372036854775807) : ReadsInt w .u8 (some ⟨g, 0, none⟩) b.length b :=
  ⟨rfl, hn, fun _ => ⟨_, rfl, fun j hj => by
    have := h.cell hj
    by_cases h0 : j = 0
    · subst h0; simpa [Addr.add] using this
    · simpa [Addr.add, h0] using this⟩⟩
theorem bytesOf_len (s : ByteArray) : (bytesOf s).length = s.size := by unfold bytesOf; rw [List.length_map, Array.length_toList]; rfl
theorem bytesOf_getD (s : ByteArray) (i : Nat) (hi : i < s.size) : (bytesOf s).getD i 0 = ((s.data.toList.getD i 0).toNat : Int) := by
  have hd : i < s.data.toList.length := by rw [Array.length_toList]; exact hi
  unfold bytesOf
  rw [List.getD_eq_getElem?_getD, List.getElem?_map, List.getD_eq_getElem?_getD, List.getElem?_eq_getElem hd]
  rfl
theorem BRow.new (w : World) (e : TypeId) (s : ByteArray) : BRow (Lib.bytesWorld w e s) w.heap.size (bytesOf s) := by
  refine ⟨_, _, _, Lib.bytesWorld_at_new w e s, ?_, fun i hi => ?_⟩
  · show (bytesOf s).length ≤ (Lib.bytesCells w e s).size
    rw [bytesOf_len]
    unfold Lib.bytesCells
    rw [Array.size_append, Array.size_map]
    exact Nat.le_add_right _ _
  · rw [bytesOf_len] at hi
    have h1 := Lib.bytesWorld_cell w e s i hi
    rw [cell_of_row _ _ _ _ _ _ (Lib.bytesWorld_at_new w e s)] at h1
    rw [h1, bytesOf_getD _ _ hi]
theorem below_bytesWorld {w0 w : World} {B : Nat} (h : Below B w0 w) (hB : B ≤ w.heap.size) (e : TypeId) (s : ByteArray) : Below B w0 (Lib.bytesWorld w e s) :=
  h.trans ⟨rfl, rfl, rfl, by rw [Lib.bytesWorld_size]; omega, fun k hk => Lib.bytesWorld_at_old w e s k (by omega)⟩
def paintN : Nat → Nat → List Int → List Int
  | _, 0, b => b
  | p, n + 1, b => paintN (p + 1) n (b.set p 35)
def viewTo (y : Int) : List S100 → Nat → List Int → List Int
  | [], _, b => b
  | r :: l, p, b => viewTo y l (p + r.f1.toNat) (if (Go.bits .andNot .u64 r.f0 y == 0) = true then b else paintN p r.f1.toNat b)
def strip_View.f (k : Nat) (a0_0 : ByteArray) (l0_1 : List S100) (a1 : Int) : Option (ByteArray × Int) :=
  (strip_Good.f k a0_0 l0_1).bind fun t => if t = true then (if (∀ r ∈ l0_1, 0 ≤ r.f1) ∧ (bytes l0_1).length ≤ a0_0.size ∧ a0_0.size ≤ 1000000 then some (strOfNums (viewTo a1 l0_1 0 (bytesOf a0_0)), 0) else none) else some ((⟨#[]⟩ : ByteArray), 2)
theorem strip_View.mono : ∀ a0 a1 a2 k, LeO (strip_View.f k a0 a1 a2) (strip_View.f (k + 1) a0 a1 a2) := fun a0 a1 a2 k => LeO.bind (strip_Good.mono _ _ _) (fun _ => LeO.refl _)
set_option maxHeartbeats 4000000 in
set_option maxRecDepth 100000 in
theorem strip_View.calls (k : Nat) (a0_0 : ByteArray) (A0_1 : Option Addr) (c0_1 : Nat) (l0_1 : List S100) (a1 : Int) (r1 : ByteArray) (r2 : Int) (w : World) (hr0_1 : Kd.C k100 w A0_1 l0_1.length l0_1) (hc0_1 : l0_1.length ≤ c0_1) (h : strip_View.f k a0_0 l0_1 a1 = some (r1, r2)) :
    Calls Try.prog 68 #[.agg #[.string a0_0, .slice A0_1 l0_1.length c0_1], .int .u64 a1] w fun e w' => e = .returned (.tuple #[.string r1, .int .i64 r2]) ∧ Below w.heap.size w w' := by
  have hu51 := Try.underlying51
  have hu100 := Try.underlying100
  unfold strip_View.f at h
  obtain ⟨t, ht, h⟩ := Option.bind_eq_some_iff.1 h
  have HC := aM (fun W (hw : Below w.heap.size w W) => strip_Good.calls k a0_0 A0_1 c0_1 l0_1 t W (cB_ hr0_1 hw) hc0_1 ht)
  have HR := aM hr0_1
  clear hr0_1 ht
  cases t with
  | false =>
    simp only [Bool.false_eq_true, if_false, Option.some.injEq, Prod.mk.injEq] at h
    obtain ⟨rfl, rfl⟩ := h
    go_enter Try.func68, Try.ntmps68
    go_wp2_with fail
    refine (HC.out _ ((Below.refl _ _).alloc (Nat.le_refl _) _)).mono ?_
    rintro e w1 ⟨rfl, hb⟩
    have HB := aM hb
    clear hb
    go_wp2
    go_ret2
    exact ⟨rfl, ((Below.refl _ _).alloc (Nat.le_refl _) _).trans (HB.out.mono (by simp))⟩
  | true =>
    simp only [if_true] at h
    by_cases hg : (∀ r ∈ l0_1, 0 ≤ r.f1) ∧ (bytes l0_1).length ≤ a0_0.size ∧ a0_0.size ≤ 1000000
    case neg => rw [if_neg hg] at h; cases h
    rw [if_pos hg] at h
    simp only [Option.some.injEq, Prod.mk.injEq] at h
    obtain ⟨rfl, rfl⟩ := h
    have HG := aM hg
    clear hg
    have hmax : l0_1.length ≤ 9223372036854775807 := HR.out.2.1
    go_enter Try.func68, Try.ntmps68
    go_wp2_with fail
    refine (HC.out _ ((Below.refl _ _).alloc (Nat.le_refl _) _)).mono ?_
    rintro e w1 ⟨rfl, hb⟩
    have hbx := bB (blk_new w (.cells #[.string a0_0, .slice A0_1 l0_1.length c0_1] 51)) hb
    have hlt := blk_lt hbx
    have hc0 : w1.cell? ⟨w.heap.size, 0, none⟩ = some (.string a0_0) := (bC hbx 0).trans rfl
    have hc1 : (Lib.bytesWorld w1 5 a0_0).cell? ⟨w.heap.size, 1, none⟩ = some (.slice A0_1 l0_1.length c0_1) := (Lib.bytesWorld_old w1 5 a0_0 _ hlt).trans ((bC hbx 1).trans rfl)
    have HB := aM (below_bytesWorld (((Below.refl w.heap.size w).alloc (Nat.le_refl _) _).trans (hb.mono (by simp))) (by omega) 5 a0_0)
    have hcv := Lib.run_convert_string_bytes (P := Try.prog) w1 9 113 5 a0_0 Try.underlying9 Try.underlying113 Try.underlying5
    have HN := aM (BRow.new w1 5 a0_0)
    have hg0 : w.heap.size < w1.heap.size := hlt
    generalize grownCap w1 a0_0.size 0 5 = cap at hcv
    generalize Lib.bytesWorld w1 5 a0_0 = w2 at hc1 HB hcv HN
    generalize w1.heap.size = g at hcv HN hg0
    have HBL := aM (bytesOf_len a0_0)
    have hsz : a0_0.size ≤ 1000000 := HG.out.2.2
    clear hb hbx h hlt
    go_wp2
    go_loopw [7, 20] (fun p i wr => ∃ (k : Nat) (pz : Nat) (b : List Int), k ≤ l0_1.length ∧ i = .int .i64 k ∧ p = .int .i64 pz ∧ Aside0 (BRow wr g b) ∧ Aside0 (b.length = a0_0.size) ∧ Aside0 (Below w.heap.size w wr) ∧ Aside0 (g < wr.heap.size) ∧ Aside0 (pz + (bytes (l0_1.drop k)).length ≤ a0_0.size) ∧ Aside0 (viewTo a1 (l0_1.drop k) pz b = viewTo a1 l0_1 0 (bytesOf a0_0))) (fun _ i _ => l0_1.length - (intOf i).toNat)
    case atStart => exact ⟨0, 0, bytesOf a0_0, Nat.zero_le _, rfl, rfl, HN, HBL, HB, ⟨HN.out.lt⟩, ⟨by have := HG.out.2.1; simpa using this⟩, ⟨rfl⟩⟩
    case round =>
      obtain ⟨k, pz, b, hk, rfl, rfl, HN, HLN, HB, HGL, HP, HE⟩ := hrel
      by_cases hlt : k < l0_1.length
      · obtain ⟨ad, rfl, hx0, hx1⟩ := at_T100 HR.out (k : Int) (by omega) (by omega)
        replace hx0 := (HB.out.cell (World.block_lt_of_cell? w _ hx0)).trans hx0
        replace hx1 := (HB.out.cell (World.block_lt_of_cell? w _ hx1)).trans hx1
        simp only [Int.toNat_natCast] at hx0 hx1
        have hdr : l0_1.drop k = rd_T100 l0_1 (k : Int) :: l0_1.drop (k + 1) := by
          rw [List.drop_eq_getElem_cons hlt]; unfold rd_T100; rw [Int.toNat_natCast, List.getD_eq_getElem?_getD, List.getElem?_eq_getElem hlt]; rfl
        have hnn : 0 ≤ (rd_T100 l0_1 (k : Int)).f1 := HG.out.1 _ (List.mem_of_mem_drop (by rw [hdr]; exact List.mem_cons_self))
        have hp1 := HP.out
        have he1 := HE.out
        rw [hdr] at hp1 he1
        rw [bytes_cons, List.length_append, List.length_replicate] at hp1
        simp only [viewTo] at he1
        generalize (rd_T100 l0_1 (k : Int)).f0 = e0 at *
        generalize (rd_T100 l0_1 (k : Int)).f1 = e1 at *
        obtain ⟨n, rfl⟩ := Int.eq_ofNat_of_zero_le hnn
        rw [Int.toNat_natCast] at hp1 he1
        rw [← Nat.add_assoc] at hp1
        obtain ⟨m, hm⟩ : ∃ m, pz + n = m := ⟨_, rfl⟩
        rw [hm] at hp1 he1
        have hwr : wrap64 ((pz : Int) + (n : Int)) = (m : Int) := by unfold wrap64; omega
        have HBEL := aM (fun W => label_Below.calls e0 a1 (Go.bits .andNot .u64 e0 a1 == 0) W rfl)
        have HP1 := aM hp1
        have HM := aM hm
        clear hp1 hm hdr hnn HP HE
        by_cases hbel : (Go.bits .andNot .u64 e0 a1 == 0) = true
        · rw [if_pos hbel] at he1
          have HE1 := aM he1
          clear he1
          go_wp2_with ((with_reducible refine (HBEL.out _).mono ?_); rintro e w3 ⟨rfl, hd⟩; obtain ⟨⟨nq, rfl⟩⟩ := hd)
          go_roundw
          case rel => exact ⟨k + 1, m, b, by omega, by go_num, by first | rfl | (rw [hwr]), ⟨(HN.out.alloc _).drewN nq⟩, HLN, ⟨pw_below_drewN (HB.out.alloc HB.out.size _) nq⟩, ⟨by have := HGL.out; show g < (wr.alloc _).heap.size; simp; omega⟩, HP1, HE1⟩
          case measure => simp [intOf]; omega
        · have hbel' : (Go.bits .andNot .u64 e0 a1 == 0) = false := by simpa using hbel
          rw [if_neg hbel] at he1
          have HE1 := aM he1
          clear he1 hbel
          go_wp2_with ((with_reducible refine (HBEL.out _).mono ?_); rintro e w3 ⟨rfl, hd⟩; obtain ⟨⟨nq, rfl⟩⟩ := hd)
          have hcb : ((wr.alloc (.cells #[.int .u64 e0, .int .i64 (n : Int)] 100)).drewN nq).cell? ⟨wr.heap.size, 1, none⟩ = some (.int .i64 (n : Int)) := bC (blk_drewN (blk_new wr (.cells #[.int .u64 e0, .int .i64 (n : Int)] 100)) nq) 1
          have HCB := aM hcb
          have HN2 := aM ((HN.out.alloc (.cells #[.int .u64 e0, .int .i64 (n : Int)] 100)).drewN nq)
          have HB2 := aM (pw_below_drewN (HB.out.alloc HB.out.size (.cells #[.int .u64 e0, .int .i64 (n : Int)] 100)) nq)
          have HS2 := aM (show wr.heap.size < ((wr.alloc (.cells #[.int .u64 e0, .int .i64 (n : Int)] 100)).drewN nq).heap.size by show wr.heap.size < (wr.alloc _).heap.size; simp)
          have hgb : ¬ g = wr.heap.size := by have := HGL.out; omega
          generalize (wr.alloc (.cells #[.int .u64 e0, .int .i64 (n : Int)] 100)).drewN nq = w4 at HCB HN2 HB2 HS2 ⊢
          clear hcb
          generalize wr.heap.size = gb at HCB HS2 hgb ⊢
          go_loopw [10] (fun i wi => ∃ (q : Nat) (b' : List Int), q ≤ m ∧ i = .int .i64 q ∧ Aside0 (pz ≤ q) ∧ Aside0 (BRow wi g b') ∧ Aside0 (b'.length = a0_0.size) ∧ Aside0 (Below w.heap.size w wi) ∧ Aside0 (gb < wi.heap.size) ∧ Aside0 (wi.cell? ⟨gb, 1, none⟩ = some (.int .i64 (n : Int))) ∧ Aside0 (paintN q (m - q) b' = paintN pz n b)) (fun i _ => m - (intOf i).toNat)
          case atStart => exact ⟨pz, b, by have := HM.out; omega, rfl, ⟨Nat.le_refl _⟩, HN2, HLN, HB2, HS2, HCB, ⟨by have := HM.out; rw [show m - pz = n by omega]⟩⟩
          case round =>
            obtain ⟨q, b', hq, rfl, HQ, HN3, HLN3, HB3, HS3, HCB3, HE3⟩ := hrel
            have hcb3 := HCB3.out
            by_cases hqm : q < m
            · have hqs : q < b'.length := by have := HLN3.out; have := HP1.out; omega
              have hcq := HN3.out.cell hqs
              have hfq := HN3.out.frozen hqs
              have hqa : q < a0_0.size := by have := HLN3.out; omega
              have HNS := aM (HN3.out.set hqs 35)
              have HLS := aM (show (b'.set q 35).length = a0_0.size by rw [List.length_set]; exact HLN3.out)
              have HBS := aM (HB3.out.setCell (p := ⟨g, q, none⟩) (Nat.le_of_lt hg0) (.int .u8 35))
              have hce := cell_far (W := wr) (p := ⟨g, q, none⟩) (a := ⟨gb, 1, none⟩) (fun e => hgb (Eq.symm e)) (.int .u8 35)
              have HCS := aM (hce.trans HCB3.out)
              have HES := aM (show paintN (q + 1) (m - (q + 1)) (b'.set q 35) = paintN pz n b by
                have := HE3.out; rw [show m - q = (m - (q + 1)) + 1 by omega] at this; simpa only [paintN] using this)
              clear hce
              clear hqs
              go_wp2
              go_roundw
              case rel => exact ⟨q + 1, _, by omega, by go_num, ⟨by have := HQ.out; omega⟩, HNS, HLS, HBS, ⟨by have := HS3.out; simpa [World.setCell] using this⟩, HCS, HES⟩
              case measure => simp [intOf]; omega
            · have hqe : q = m := by omega
              subst hqe
              go_wp2
              go_roundw
              case rel => exact ⟨k + 1, q, b', by omega, by go_num, by first | rfl | (rw [hwr]), HN3, HLN3, HB3, ⟨HN3.out.lt⟩, HP1, ⟨by have := HE3.out; rw [Nat.sub_self] at this; simp only [paintN] at this; rw [this]; exact HE1.out⟩⟩
              case measure => simp [intOf]; omega
      · have hkl : k = l0_1.length := by omega
        subst hkl
        have he1 := HE.out
        rw [List.drop_length] at he1
        simp only [viewTo] at he1
        subst he1
        have hcs := string_of_reads (P := Try.prog) (src := 113) (dst := 9) (e := 5) (c := cap) Try.underlying113 Try.underlying5 Try.underlying9 (HN.out.reads (by have := HLN.out; omega))
        rw [HLN.out] at hcs
        go_wp2
        go_ret2
        exact ⟨rfl, HB.out⟩
end Go.Proofs.Ythpjagblnddjaaa.PB
end
