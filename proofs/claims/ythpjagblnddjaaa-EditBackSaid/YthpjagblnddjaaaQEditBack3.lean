/- What the row hangs on, part 3. -/
import Derived.Test.YthpjagblnddjaaaQEditBack2
section
namespace Go.Proofs.Ythpjagblnddjaaa.PB
open Go.RowKit Go.Proofs.YthpjagblnddjaaaW.PrintWords Go.Proofs.YthpjagblnddjaaaW.PrintLast Go.Proofs.YthpjagblnddjaaaW.PrintMore
attribute [local go_sem] max2_int min2_int max_two min_two max_three min_three max_four min_four
set_option linter.unusedVariables false
set_option linter.unusedSimpArgs false
structure GFrame (B g : Nat) (w w' : World) : Prop where
  below : Below B w w'
  typ : ∀ i cs t fr, i ≠ g → t ≠ 100 → w.heap[i]? = some (.cells cs t fr) → w'.heap[i]? = some (.cells cs t fr)
theorem GFrame.refl (B g : Nat) (w : World) : GFrame B g w w := ⟨Below.refl _ _, fun _ _ _ _ _ _ h => h⟩
theorem GFrame.trans {B g : Nat} {a b c : World} (h : GFrame B g a b) (k : GFrame B g b c) : GFrame B g a c :=
  ⟨h.below.trans k.below, fun i cs t fr h1 h2 h3 => k.typ i cs t fr h1 h2 (h.typ i cs t fr h1 h2 h3)⟩
theorem GFrame.alloc {B g : Nat} {a w : World} (h : GFrame B g a w) (hB : B ≤ w.heap.size) (o : Obj) : GFrame B g a (w.alloc o) :=
  h.trans ⟨(Below.refl _ _).alloc hB o, fun i cs t fr _ _ h3 => by rw [Below.heap_alloc _ _ _ (Array.getElem?_eq_some_iff.1 h3).1]; exact h3⟩
theorem GFrame.drewN {B g : Nat} {a w : World} (h : GFrame B g a w) (n : Nat) : GFrame B g a (w.drewN n) :=
  h.trans ⟨pw_below_drewN (Below.refl _ _) n, fun i cs t fr _ _ h3 => h3⟩
theorem GFrame.drew {B g : Nat} {a w : World} (h : GFrame B g a w) : GFrame B g a w.drew :=
  h.trans ⟨(Below.refl _ _).drew, fun i cs t fr _ _ h3 => h3⟩
theorem GFrame.setg {B g : Nat} {a w : World} (h : GFrame B g a w) (hB : B ≤ g) (j : Nat) (u : Value) : GFrame B g a (w.setCell ⟨g, j, none⟩ u) :=
  h.trans ⟨(Below.refl _ _).setCell hB u, fun i cs t fr h1 _ h3 => by rw [Below.heap_setCell _ _ _ _ h1]; exact h3⟩
theorem GFrame.grown {B g : Nat} {a w w' : World} {row : Option Nat} (h : GFrame B g a w) (hg : w.grownBy w' row) (hB : B ≤ w.heap.size) (hr : ∀ k, row = some k → B ≤ k ∧ ∃ cells fr, w.heap[k]? = some (.cells cells 100 fr)) : GFrame B g a w' :=
  h.trans ⟨(Below.refl _ _).grown hg hB (fun k hk => (hr k hk).1), fun i cs t fr _ h2 h3 => by
    rw [hg.block i (Array.getElem?_eq_some_iff.1 h3).1 (fun e => by
      obtain ⟨_, cells, fr', hc⟩ := hr i e.symm
      rw [hc] at h3
      injection h3 with h3
      injection h3 with _ h3
      exact h2 h3.symm)]
    exact h3⟩
def GS (B g : Nat) (w : World) (xs : List S100) : Prop := ∃ v, w.heap[g]? = some (.cells #[v] 22 (0, 0)) ∧ Kd.R k100 100 w B (fun _ => True) v xs
def addRun (xs : List S100) (r : S100) : List S100 :=
  if r.f1 < 1 then xs else if 0 < xs.length then (if (xs.getD (xs.length - 1) z100).f0 = r.f0 then xs.set (xs.length - 1) ⟨(xs.getD (xs.length - 1) z100).f0, wrap64 ((xs.getD (xs.length - 1) z100).f1 + r.f1)⟩ else xs ++ [r]) else xs ++ [r]
theorem R_typed' {B : Nat} {w : World} {v : Value} {xs : List S100} (h : Kd.R k100 100 w B (fun _ => True) v xs) : ∀ k, v.ownBlock = some k → B ≤ k ∧ ∃ cells fr, w.heap[k]? = some (.cells cells 100 fr) := fun k hk => by
  obtain ⟨cells, hc⟩ := Kd.R_typed h k hk
  exact ⟨Kd.R_base h k hk, cells, _, hc⟩
set_option maxHeartbeats 4000000 in
theorem gather1_small (L N : Int) (g : Nat) (w : World) (hN : N < 1) :
    Calls Try.prog 103 #[.agg #[.int .u64 L, .int .i64 N], .pointer (some ⟨g, 0, none⟩)] w fun e w' => e = .returned (.tuple #[]) ∧ w' = w.alloc (.cells #[.int .u64 L, .int .i64 N] 100) := by
  have hu100 := Try.underlying100
  have hN' : decide (N < 1) = true := by simpa using hN
  go_enter Try.func103, Try.ntmps103
  go_wp2
  exact bodyPost_ret (results_none rfl _ _ _) rfl ⟨rfl, rfl⟩
theorem notype : ∀ q, q ∈ 100 :: k100.E → q ≠ 22 := by
  intro q hq
  have : q = 100 := by simpa [k100, Kd.iso, Kd.pair, Kd.int, Kd.scalar] using hq
  omega
theorem GS_grown {B g : Nat} {w w1 W : World} {v : Value} {xs : List S100} (hB : B ≤ g) (hg : W.heap[g]? = some (.cells #[v] 22 (0, 0))) (hR : Kd.R k100 100 W B (fun _ => True) v xs) (hF : GFrame B g w W)
    (hg1 : W.grownBy w1 v.ownBlock) : w1.heap[g]? = some (.cells #[v] 22 (0, 0)) ∧ GFrame B g w w1 :=
  ⟨blk_grown hg hg1 (Kd.R_ne hR hg (by decide)), hF.grown hg1 (Nat.le_trans hB (Nat.le_of_lt (blk_lt hg))) (R_typed' hR)⟩
theorem GS_put {B g : Nat} {w w1 : World} {v v1 : Value} {ys : List S100} (hB : B ≤ g) (hg : w1.heap[g]? = some (.cells #[v] 22 (0, 0))) (hR : Kd.R k100 100 w1 B (fun _ => True) v1 ys) (hF : GFrame B g w w1) :
    GS B g (w1.setCell ⟨g, 0, none⟩ v1) ys ∧ GFrame B g w (w1.setCell ⟨g, 0, none⟩ v1) :=
  ⟨⟨v1, blk_set hg 0 v1, Kd.R_set hR hg notype 0 v1⟩, hF.setg hB 0 v1⟩
theorem GFrame.box {B g : Nat} {w : World} (hB : B ≤ w.heap.size) (o : Obj) (n : Nat) : GFrame B g w ((w.alloc o).drewN n) := ((GFrame.refl B g w).alloc hB o).drewN n
theorem box_heap {g : Nat} {w : World} {x : Obj} (o : Obj) (n : Nat) (h : w.heap[g]? = some x) : ((w.alloc o).drewN n).heap[g]? = some x := by
  show (w.alloc o).heap[g]? = some x
  rw [Below.heap_alloc _ _ _ (blk_lt h)]; exact h
theorem GS_same {B g n b c : Nat} {w W : World} {xs : List S100} (hB : B ≤ g) (hg : W.heap[g]? = some (.cells #[.slice (some ⟨b, 0, none⟩) (n + 1) c] 22 (0, 0))) (hR : Kd.R k100 100 W B (fun _ => True) (.slice (some ⟨b, 0, none⟩) (n + 1) c) xs)
    (hF : GFrame B g w W) (hn : xs.length = n + 1) (x : Int) :
    GS B g (W.setCell ⟨b, n * 2 + 1, none⟩ (.int .i64 x)) (xs.set n ⟨(xs.getD n z100).f0, x⟩) ∧ GFrame B g w (W.setCell ⟨b, n * 2 + 1, none⟩ (.int .i64 x)) := by
  obtain ⟨ce, hcl, hM, hcc, hfr⟩ := Kd.R_elem hR z100 (n : Int) (by omega) (by omega)
  obtain rfl := k100_openM hM
  obtain ⟨h1, h2⟩ := Kd.R_seg hR (n : Int) (by omega) (by omega) (seg := [.int .i64 x]) (j := 1) hcl hcc (show 2 ≤ 2 from by decide) (x' := (⟨(xs.getD (n : Int).toNat z100).f0, x⟩ : S100)) (k100_mkM _ _ _ (⟨(xs.getD (n : Int).toNat z100).f0, x⟩ : S100)) (fun _ hk => hk)
  have h3 : some g ≠ some b := Kd.R_ne hR hg (by decide)
  exact ⟨⟨_, blk_grown hg h2 h3, h1⟩, hF.grown h2 (Nat.le_trans hB (Nat.le_of_lt (blk_lt hg))) (R_typed' hR)⟩
set_option maxHeartbeats 4000000 in
set_option maxRecDepth 100000 in
theorem gather1_first (L N : Int) (B g : Nat) (A : Option Addr) (c : Nat) (w : World) (hN : ¬ N < 1) (hB : B ≤ g) (hg : w.heap[g]? = some (.cells #[.slice A 0 c] 22 (0, 0))) (hR : Kd.R k100 100 w B (fun _ => True) (.slice A 0 c) []) :
    Calls Try.prog 103 #[.agg #[.int .u64 L, .int .i64 N], .pointer (some ⟨g, 0, none⟩)] w fun e w' => e = .returned (.tuple #[]) ∧ GS B g w' [⟨L, N⟩] ∧ GFrame B g w w' := by
  have hu100 := Try.underlying100
  have hN' : decide (N < 1) = false := by simpa using hN
  have hc : w.cell? ⟨g, 0, none⟩ = some (.slice A 0 c) := by rw [blk_cell hg]; rfl
  have hlt := World.block_lt_of_cell? w _ hc
  have HR := Aside0.mk hR
  have HG := Aside0.mk hg
  clear hR hg
  go_enter Try.func103, Try.ntmps103
  go_wp2
  go_quiet (fail)
  go_wp2_with (at_builtin; go_loud (refine Kd.R_append k100 (w0 := w) B rfl (.tmp 33) (.tmp 35) 22 100 (.agg #[(.int .u64 0), (.int .i64 0)]) 16 rfl Try.underlying22 info100 rfl (by decide) (by omega) (.slice A 0 c) [] (⟨L, N⟩ : S100) [.int .u64 L, .int .i64 N] (fun _ => True) (fun _ => False) rfl ?aX ?aP (fun _ hk => hk.elim) ?aF ?aO ?aB ?aS ?aL ?_); (case aX => simp [Act.eval, go_sem]); (case aP => exact k100_mkM _ _ _ (⟨L, N⟩ : S100)); (case aB => exact pw_below_drewN ((Below.refl _ _).alloc (by omega) _) _); (case aF => exact (fun _ _ => trivial)); (case aO => exact (by (with_reducible repeat (first | apply Kd.R_alloc | apply Kd.R_drewN | apply Kd.R_drew)); exact HR.out)); (case aS => simp; omega); (case aL => simp); intro v1 w1 ho hb hg1 hat; obtain ⟨A1, c1, rfl⟩ := Kd.R_slice ho; go_loud (have HF := Aside0.mk (GS_grown hB (box_heap _ _ HG.out) (Kd.R_drewN (Kd.R_alloc HR.out _) _) (GFrame.box (by omega) _ _) hg1)); have HO := Aside0.mk ho; clear ho hb hg1 hat; have hcg := blk_cell HF.out.1 0; have hfg := blk_frozen HF.out.1 0)
  go_end0
  exact ⟨rfl, GS_put hB HF.out.1 HO.out HF.out.2⟩
set_option maxHeartbeats 4000000 in
set_option maxRecDepth 100000 in
theorem gather1_other (L N : Int) (B g : Nat) (v : Value) (xs : List S100) (w : World) (hN : ¬ N < 1) (hB : B ≤ g) (hg : w.heap[g]? = some (.cells #[v] 22 (0, 0))) (hR : Kd.R k100 100 w B (fun _ => True) v xs)
    (hp : 0 < xs.length) (hne : ¬ (xs.getD (xs.length - 1) z100).f0 = L) (hlen : (xs.length + 1) * 16 ≤ 140737488355328) :
    Calls Try.prog 103 #[.agg #[.int .u64 L, .int .i64 N], .pointer (some ⟨g, 0, none⟩)] w fun e w' => e = .returned (.tuple #[]) ∧ GS B g w' (xs ++ [⟨L, N⟩]) ∧ GFrame B g w w' := by
  have hu100 := Try.underlying100
  obtain ⟨b, c, rfl, hbb, hbl, _⟩ := Kd.R_form hR hp
  have hmax := (Kd.R_reads' hR).2.2.2.1
  obtain ⟨ce, hcl, hM, hcc, hfr⟩ := Kd.R_elem hR z100 ((xs.length : Int) - 1) (by omega) (by omega)
  obtain rfl := k100_openM hM
  obtain ⟨n, hn⟩ : ∃ n, xs.length = n + 1 := ⟨xs.length - 1, by omega⟩
  have en : ((xs.length : Int) - 1).toNat = n := by omega
  have hx0 : w.cell? ⟨b, n * 2, none⟩ = some (.int .u64 (xs.getD n z100).f0) := by have := hcc 0 _ rfl; rw [en] at this; exact this
  have hx1 : w.cell? ⟨b, n * 2 + 1, none⟩ = some (.int .i64 (xs.getD n z100).f1) := by have := hcc 1 _ rfl; rw [en] at this; exact this
  rw [show xs.length - 1 = n by omega] at hne
  have hb : ((xs.getD n z100).f0 == L) = false := by simpa using hne
  have hN' : decide (N < 1) = false := by simpa using hN
  rw [hn] at hg hR
  have HL := Aside0.mk hlen
  clear hlen
  have hc : w.cell? ⟨g, 0, none⟩ = some (.slice (some ⟨b, 0, none⟩) (n + 1) c) := by rw [blk_cell hg]; rfl
  have hlt := World.block_lt_of_cell? w _ hc
  have HR := Aside0.mk hR
  have HG := Aside0.mk hg
  have HN := Aside0.mk hn
  have hn2 : n ≤ 9223372036854775806 := by omega
  generalize (xs.getD n z100).f0 = L1 at *
  generalize (xs.getD n z100).f1 = N1 at *
  clear hR hg hn hne hM hcc hcl hfr en hp hmax
  go_enter Try.func103, Try.ntmps103
  go_wp2
  go_quiet (fail)
  go_wp2_with (at_builtin; go_loud (refine Kd.R_append k100 (w0 := w) B rfl (.tmp 33) (.tmp 35) 22 100 (.agg #[(.int .u64 0), (.int .i64 0)]) 16 rfl Try.underlying22 info100 rfl (by decide) (by omega) (.slice (some ⟨b, 0, none⟩) (n + 1) c) xs (⟨L, N⟩ : S100) [.int .u64 L, .int .i64 N] (fun _ => True) (fun _ => False) rfl ?aX ?aP (fun _ hk => hk.elim) ?aF ?aO ?aB ?aS ?aL ?_); (case aX => simp [Act.eval, go_sem]); (case aP => exact k100_mkM _ _ _ (⟨L, N⟩ : S100)); (case aB => exact pw_below_drewN ((Below.refl _ _).alloc (by omega) _) _); (case aF => exact (fun _ _ => trivial)); (case aO => exact (by (with_reducible repeat (first | apply Kd.R_alloc | apply Kd.R_drewN | apply Kd.R_drew)); exact HR.out)); (case aS => simp; omega); (case aL => exact HL.out); intro v1 w1 ho hb hg1 hat; obtain ⟨A1, c1, rfl⟩ := Kd.R_slice ho; go_loud (have HF := Aside0.mk (GS_grown hB (box_heap _ _ HG.out) (Kd.R_drewN (Kd.R_alloc HR.out _) _) (GFrame.box (by omega) _ _) hg1)); have HO := Aside0.mk ho; clear ho hb hg1 hat; have hcg := blk_cell HF.out.1 0; have hfg := blk_frozen HF.out.1 0)
  go_end0
  exact ⟨rfl, GS_put hB HF.out.1 (by have h := HO.out; rw [List.length_append] at h; exact h) HF.out.2⟩
set_option maxHeartbeats 4000000 in
set_option maxRecDepth 100000 in
theorem gather1_same (L N : Int) (B g : Nat) (v : Value) (xs : List S100) (w : World) (hN : ¬ N < 1) (hB : B ≤ g) (hg : w.heap[g]? = some (.cells #[v] 22 (0, 0))) (hR : Kd.R k100 100 w B (fun _ => True) v xs)
    (hp : 0 < xs.length) (hne : (xs.getD (xs.length - 1) z100).f0 = L) :
    Calls Try.prog 103 #[.agg #[.int .u64 L, .int .i64 N], .pointer (some ⟨g, 0, none⟩)] w fun e w' => e = .returned (.tuple #[]) ∧ GS B g w' (xs.set (xs.length - 1) ⟨(xs.getD (xs.length - 1) z100).f0, wrap64 ((xs.getD (xs.length - 1) z100).f1 + N)⟩) ∧ GFrame B g w w' := by
  have hu100 := Try.underlying100
  obtain ⟨b, c, rfl, hbb, hbl, _⟩ := Kd.R_form hR hp
  have hmax := (Kd.R_reads' hR).2.2.2.1
  obtain ⟨ce, hcl, hM, hcc, hfr⟩ := Kd.R_elem hR z100 ((xs.length : Int) - 1) (by omega) (by omega)
  obtain rfl := k100_openM hM
  obtain ⟨n, hn⟩ : ∃ n, xs.length = n + 1 := ⟨xs.length - 1, by omega⟩
  have en : ((xs.length : Int) - 1).toNat = n := by omega
  rw [en] at hcc hfr
  have hx0 : w.cell? ⟨b, n * 2, none⟩ = some (.int .u64 (xs.getD n z100).f0) := hcc 0 _ rfl
  have hx1 : w.cell? ⟨b, n * 2 + 1, none⟩ = some (.int .i64 (xs.getD n z100).f1) := hcc 1 _ rfl
  have hf1 : w.frozen? ⟨b, n * 2 + 1, none⟩ = false := hfr 1
  rw [show xs.length - 1 = n by omega] at hne ⊢
  have hb : ((xs.getD n z100).f0 == L) = true := by simpa using hne
  have hN' : decide (N < 1) = false := by simpa using hN
  rw [hn] at hg hR
  have hc : w.cell? ⟨g, 0, none⟩ = some (.slice (some ⟨b, 0, none⟩) (n + 1) c) := by rw [blk_cell hg]; rfl
  have hlt := World.block_lt_of_cell? w _ hc
  have HR := Aside0.mk hR
  have HG := Aside0.mk hg
  have HN := Aside0.mk hn
  have hn2 : n ≤ 9223372036854775806 := by omega
  generalize hL1 : (xs.getD n z100).f0 = L1 at *
  have HL1 := Aside0.mk hL1
  clear hL1
  generalize (xs.getD n z100).f1 = N1 at *
  clear hR hg hn hne hM hcc hcl hfr en hp hmax
  go_enter Try.func103, Try.ntmps103
  go_wp2
  go_quiet (fail)
  go_wp2
  go_region
  go_wp2
  refine bodyPost_ret (results_none rfl _ _ _) rfl ⟨rfl, ?_⟩
  obtain rfl := HL1.out
  exact GS_same hB (box_heap _ _ HG.out) (Kd.R_drewN (Kd.R_alloc HR.out _) _) (GFrame.box (by omega) _ _) HN.out (wrap64 (N1 + N))
theorem gather1 (L N : Int) (B g : Nat) (xs : List S100) (w : World) (hB : B ≤ g) (hS : GS B g w xs) (hlen : (xs.length + 1) * 16 ≤ 140737488355328) :
    Calls Try.prog 103 #[.agg #[.int .u64 L, .int .i64 N], .pointer (some ⟨g, 0, none⟩)] w fun e w' => e = .returned (.tuple #[]) ∧ GS B g w' (addRun xs ⟨L, N⟩) ∧ GFrame B g w w' := by
  obtain ⟨v, hg, hR⟩ := hS
  unfold addRun
  by_cases hN : N < 1
  · rw [if_pos hN]
    refine (gather1_small L N g w hN).mono ?_
    rintro e w' ⟨rfl, rfl⟩
    exact ⟨rfl, ⟨v, box_heap _ 0 hg, Kd.R_alloc hR _⟩, GFrame.box (Nat.le_trans hB (Nat.le_of_lt (blk_lt hg))) _ 0⟩
  rw [if_neg hN]
  by_cases hp : 0 < xs.length
  · rw [if_pos hp]
    by_cases he : (xs.getD (xs.length - 1) z100).f0 = L
    · rw [if_pos he]
      exact gather1_same L N B g v xs w hN hB hg hR hp he
    · rw [if_neg he]
      exact gather1_other L N B g v xs w hN hB hg hR hp he hlen
  · rw [if_neg hp]
    obtain rfl : xs = [] := List.eq_nil_of_length_eq_zero (by omega)
    obtain ⟨A, c, rfl⟩ := Kd.R_slice hR
    exact gather1_first L N B g A c w hN hB hg hR
def someTo (step : List S100 → S100 → List S100) (a b : Int) : List S100 → Int → List S100 → List S100
  | [], _, acc => acc
  | r :: l, p, acc => someTo step a b l (wrap64 (p + r.f1)) (step acc ⟨r.f0, wrap64 ((if b < wrap64 (p + r.f1) then b else wrap64 (p + r.f1)) - (if p < a then a else p))⟩)
theorem GS_alloc {B g : Nat} {w : World} {xs : List S100} (h : GS B g w xs) (o : Obj) : GS B g (w.alloc o) xs := by
  obtain ⟨v, hg, hR⟩ := h
  exact ⟨v, box_heap o 0 hg, Kd.R_alloc hR o⟩
theorem someTo_snoc {step : List S100 → S100 → List S100} {a b : Int} {l : List S100} {k : Nat} (hk : k < l.length) (p : Int) (acc : List S100) :
    someTo step a b (l.drop k) p acc = someTo step a b (l.drop (k + 1)) (wrap64 (p + (rd_T100 l (k : Int)).f1)) (step acc ⟨(rd_T100 l (k : Int)).f0, wrap64 ((if b < wrap64 (p + (rd_T100 l (k : Int)).f1) then b else wrap64 (p + (rd_T100 l (k : Int)).f1)) - (if p < a then a else p))⟩) := by
  rw [List.drop_eq_getElem_cons hk]
  unfold rd_T100
  rw [Int.toNat_natCast, List.getD_eq_getElem?_getD, List.getElem?_eq_getElem hk]
  rfl
set_option maxHeartbeats 4000000 in
set_option maxRecDepth 100000 in
theorem some_any (step : List S100 → S100 → List S100) (hstep : ∀ acc r, (step acc r).length ≤ acc.length + 1) (fid : Nat) (caps : Array Value)
    (hcf : ∀ (args : Array Value) (w : World), Sem.run Try.prog (callFunc fid args) w = .ok (.enter fid args) w)
    (A : Option Addr) (c : Nat) (l : List S100) (a b : Int) (g : Nat) (acc0 : List S100) (w0 w : World) (hB : w0.heap.size ≤ g)
    (hr : Kd.C k100 w0 A l.length l) (hw : Below w0.heap.size w0 w) (hS : GS w0.heap.size g w acc0) (hlen : (acc0.length + l.length) * 16 ≤ 140737488355328)
    (hadd : ∀ acc L N w1, (acc.length + 1) * 16 ≤ 140737488355328 → GS w0.heap.size g w1 acc → GFrame w0.heap.size g w w1 →
      Calls Try.prog fid (#[.agg #[.int .u64 L, .int .i64 N]] ++ caps) w1 fun e w' => e = .returned (.tuple #[]) ∧ GS w0.heap.size g w' (step acc ⟨L, N⟩) ∧ GFrame w0.heap.size g w1 w') :
    Calls Try.prog 82 #[.slice A l.length c, .int .i64 a, .int .i64 b, .func (.func fid) #[] caps] w fun e w' => e = .returned (.tuple #[]) ∧ GS w0.heap.size g w' (someTo step a b l 0 acc0) ∧ GFrame w0.heap.size g w w' := by
  have hu100 := Try.underlying100
  have hmax : l.length ≤ 9223372036854775807 := hr.2.1
  have HR := Aside0.mk hr
  have HW := Aside0.mk hw
  have HS := Aside0.mk hS
  have HA := Aside0.mk hadd
  have HL := Aside0.mk hlen
  have HP := Aside0.mk hstep
  clear hr hw hS hadd hlen hstep
  go_enter Try.func82, Try.ntmps82
  go_wp2
  go_loopw [8, 14] (fun p i wr => ∃ (k : Nat) (pz : Int) (acc : List S100), k ≤ l.length ∧ i = .int .i64 k ∧ p = .int .i64 pz ∧ Aside0 (GS w0.heap.size g wr acc) ∧ Aside0 (GFrame w0.heap.size g w wr) ∧ Aside0 (acc.length ≤ acc0.length + k) ∧ Aside0 (someTo step a b (l.drop k) pz acc = someTo step a b l 0 acc0)) (fun _ i _ => l.length - (intOf i).toNat)
  case atStart => exact ⟨0, 0, acc0, Nat.zero_le _, rfl, rfl, HS, ⟨GFrame.refl _ _ _⟩, ⟨by omega⟩, ⟨rfl⟩⟩
  case round =>
    obtain ⟨k, pz, acc, hk, rfl, rfl, HG, HF, HAL, HE⟩ := hrel
    by_cases hlt : k < l.length
    · obtain ⟨ad, rfl, hx0, hx1⟩ := at_T100 HR.out (k : Int) (by omega) (by omega)
      have hb1 : Below w0.heap.size w0 wr := HW.out.trans HF.out.below
      replace hx0 := (hb1.cell (World.block_lt_of_cell? w0 _ hx0)).trans hx0
      replace hx1 := (hb1.cell (World.block_lt_of_cell? w0 _ hx1)).trans hx1
      simp only [Int.toNat_natCast] at hx0 hx1
      have hsn := someTo_snoc (step := step) (a := a) (b := b) hlt pz acc
      generalize (rd_T100 l (k : Int)).f0 = e0 at *
      generalize (rd_T100 l (k : Int)).f1 = e1 at *
      have HB1 := Aside0.mk hb1
      have HSN := Aside0.mk hsn
      clear hsn
      clear hb1
      go_wp2_with ((with_reducible refine (HA.out acc _ _ _ ?h1 ?h2 ?h3).mono ?_); (case h1 => have h1 := HL.out; have h2 := HAL.out; omega); (case h2 => exact GS_alloc HG.out _); (case h3 => exact HF.out.alloc (by have := HB1.out.size; omega) _); rintro e w2 ⟨rfl, hg2, hf2⟩; have HG2 := Aside0.mk hg2; have HF2 := Aside0.mk hf2; clear hg2 hf2)
      go_roundw
      case rel => exact ⟨k + 1, wrap64 (pz + e1), _, by omega, by go_num, rfl, HG2, ⟨(HF.out.alloc (by have := HB1.out.size; omega) _).trans HF2.out⟩, ⟨by have h1 := HP.out acc; have h2 := HAL.out; exact Nat.le_trans (h1 _) (by omega)⟩, ⟨HSN.out.symm.trans HE.out⟩⟩
      case measure => simp [intOf]; omega
    · have hkl : k = l.length := by omega
      subst hkl
      go_wp2
      exact bodyPost_end (results_none rfl _ _ _) rfl ⟨rfl, by have h := HE.out; rw [List.drop_length] at h; rw [← h]; exact HG.out, HF.out⟩
theorem run_enter {P : Program} {f : FuncId} {fn : Func} {c : Code} (hf : P.funcs[f]? = some fn) (hname : (fn.name == "runtime.NumGoroutine") = false) (hb : fn.body = some c) (args : Array Value) (w : World) :
    Sem.run P (callFunc f args) w = .ok (.enter f args) w := by
  have h1 : fn.name ≠ "runtime.NumGoroutine" := by simpa using hname
  simp [callFunc, hf, h1, hb]
theorem hcf103 : ∀ (args : Array Value) (w : World), Sem.run Try.prog (callFunc 103 args) w = .ok (.enter 103 args) w := fun args w => run_enter Try.func103 rfl rfl args w
theorem addRun_len (acc : List S100) (r : S100) : (addRun acc r).length ≤ acc.length + 1 := by
  unfold addRun
  repeat' split
  all_goals simp
theorem some_add (A : Option Addr) (c : Nat) (l : List S100) (a b : Int) (g : Nat) (acc0 : List S100) (w0 w : World) (hB : w0.heap.size ≤ g)
    (hr : Kd.C k100 w0 A l.length l) (hw : Below w0.heap.size w0 w) (hS : GS w0.heap.size g w acc0) (hlen : (acc0.length + l.length) * 16 ≤ 140737488355328) :
    Calls Try.prog 82 #[.slice A l.length c, .int .i64 a, .int .i64 b, .func (.func 103) #[] #[.pointer (some ⟨g, 0, none⟩)]] w fun e w' => e = .returned (.tuple #[]) ∧ GS w0.heap.size g w' (someTo addRun a b l 0 acc0) ∧ GFrame w0.heap.size g w w' :=
  some_any addRun addRun_len 103 _ hcf103 A c l a b g acc0 w0 w hB hr hw hS hlen (fun acc L N w1 h1 h2 _ => gather1 L N _ g acc w1 hB h2 h1)
set_option maxHeartbeats 4000000 in
set_option maxRecDepth 100000 in
theorem gather_any (lid : Nat) (caps : Array Value) (args : Nat → Array Value) (hargs : ∀ g, #[.func (.func 103) #[] #[.pointer (some ⟨g, 0, none⟩)]] ++ caps = args g) (hcf : ∀ (args : Array Value) (w : World), Sem.run Try.prog (callFunc lid args) w = .ok (.enter lid args) w) (R : List S100) (w : World)
    (hlay : ∀ g w1, w.heap.size ≤ g → GS w.heap.size g w1 [] → Below w.heap.size w w1 →
      Calls Try.prog lid (args g) w1 fun e w' => e = .returned (.tuple #[]) ∧ GS w.heap.size g w' R ∧ GFrame w.heap.size g w1 w') :
    Calls Try.prog 80 #[.func (.func lid) #[] caps] w fun e w' => ∃ v, e = .returned v ∧ Kd.R k100 100 w' w.heap.size (fun _ => True) v R ∧ Below w.heap.size w w' := by
  have hmf : ∀ (fn : Fn) (first cap : Array Value) (w : World), (Instr.makeFunc fn first cap).run Try.prog w = .ok (.func fn first cap) w := fun _ _ _ _ => rfl
  have HY := Aside0.mk hlay
  have hargs' := hargs w.heap.size
  clear hlay hargs
  go_enter Try.func80, Try.ntmps80
  go_wp2_with ((with_reducible refine (HY.out w.heap.size _ ?h1 ?h2 ?h3).mono ?_); (case h1 => omega); (case h2 => exact ⟨_, blk_new _ _, Kd.R_nil _ _ _ _ _⟩); (case h3 => exact (Below.refl _ _).alloc (Nat.le_refl _) _); rintro e w2 ⟨rfl, hg2, hf2⟩; obtain ⟨v, hgv, hRv⟩ := hg2; have hcv : w2.cell? ⟨w.heap.size, 0, none⟩ = some v := (by rw [blk_cell hgv]; rfl); have HG2 := Aside0.mk hgv; have HR2 := Aside0.mk hRv; have HF2 := Aside0.mk hf2; clear hgv hRv hf2)
  go_ret
  exact ⟨v, rfl, HR2.out, ((Below.refl _ _).alloc (Nat.le_refl _) _).trans HF2.out.below⟩
theorem hcf86 : ∀ (args : Array Value) (w : World), Sem.run Try.prog (callFunc 86 args) w = .ok (.enter 86 args) w := fun args w => run_enter Try.func86 rfl rfl args w
theorem hcf93 : ∀ (args : Array Value) (w : World), Sem.run Try.prog (callFunc 93 args) w = .ok (.enter 93 args) w := fun args w => run_enter Try.func93 rfl rfl args w
theorem cell_later' {w0 w : World} (h : Below w0.heap.size w0 w) {p : Addr} {v : Value} (hc : w0.cell? p = some v) : w.cell? p = some v := (h.cell (World.block_lt_of_cell? w0 _ hc)).trans hc
set_option maxHeartbeats 4000000 in
set_option maxRecDepth 100000 in
theorem lay_slice (A : Option Addr) (c : Nat) (l : List S100) (a b : Int) (bl ba bb g : Nat) (w0 w : World) (hB : w0.heap.size ≤ g) (hr : Kd.C k100 w0 A l.length l) (hbx : w0.cell? ⟨bl, 0, none⟩ = some (.slice A l.length c))
    (hba : w0.cell? ⟨ba, 0, none⟩ = some (.int .i64 a)) (hbb : w0.cell? ⟨bb, 0, none⟩ = some (.int .i64 b))
    (hw : Below w0.heap.size w0 w) (hS : GS w0.heap.size g w []) (hlen : l.length * 16 ≤ 140737488355328) :
    Calls Try.prog 86 #[.func (.func 103) #[] #[.pointer (some ⟨g, 0, none⟩)], .pointer (some ⟨bl, 0, none⟩), .pointer (some ⟨ba, 0, none⟩), .pointer (some ⟨bb, 0, none⟩)] w fun e w' => e = .returned (.tuple #[]) ∧ GS w0.heap.size g w' (someTo addRun a b l 0 []) ∧ GFrame w0.heap.size g w w' := by
  have hb := cell_later' hw hbx
  have hb1 := cell_later' hw hba
  have hb2 := cell_later' hw hbb
  have HC := some_add A c l a b g [] w0 w hB hr hw hS (by simpa using hlen)
  have HC := Aside0.mk HC
  clear hr hw hS hlen hbx hba hbb
  go_enter Try.func86, Try.ntmps86
  go_wp2_with ((with_reducible refine HC.out.mono ?_); rintro e w2 ⟨rfl, hg2, hf2⟩; have HG2 := Aside0.mk hg2; have HF2 := Aside0.mk hf2; clear hg2 hf2)
  go_end0
  exact ⟨rfl, HG2.out, HF2.out⟩
theorem someTo_len {step : List S100 → S100 → List S100} (hstep : ∀ acc r, (step acc r).length ≤ acc.length + 1) (a b : Int) (l : List S100) : ∀ p acc, (someTo step a b l p acc).length ≤ acc.length + l.length := by
  induction l with
  | nil => intro p acc; simp [someTo]
  | cons r l ih => intro p acc; have := ih (wrap64 (p + r.f1)) (step acc ⟨r.f0, wrap64 ((if b < wrap64 (p + r.f1) then b else wrap64 (p + r.f1)) - (if p < a then a else p))⟩); have h2 := hstep acc ⟨r.f0, wrap64 ((if b < wrap64 (p + r.f1) then b else wrap64 (p + r.f1)) - (if p < a then a else p))⟩; simp only [someTo, List.length_cons]; omega
def spliceRuns (l : List S100) (a b : Int) (m : List S100) : List S100 := someTo addRun b 4096 l 0 (someTo addRun 0 4096 m 0 (someTo addRun 0 a l 0 []))
set_option maxHeartbeats 4000000 in
set_option maxRecDepth 100000 in
theorem lay_splice (A : Option Addr) (c : Nat) (l : List S100) (a b : Int) (A2 : Option Addr) (c2 : Nat) (m : List S100) (bl ba bb bm g : Nat) (w0 w : World) (hB : w0.heap.size ≤ g) (hr : Kd.C k100 w0 A l.length l) (hrm : Kd.C k100 w0 A2 m.length m)
    (hbx : w0.cell? ⟨bl, 0, none⟩ = some (.slice A l.length c)) (hbm : w0.cell? ⟨bm, 0, none⟩ = some (.slice A2 m.length c2))
    (hba : w0.cell? ⟨ba, 0, none⟩ = some (.int .i64 a)) (hbb : w0.cell? ⟨bb, 0, none⟩ = some (.int .i64 b))
    (hw : Below w0.heap.size w0 w) (hS : GS w0.heap.size g w []) (hlen : (l.length + m.length + l.length) * 16 ≤ 140737488355328) :
    Calls Try.prog 93 #[.func (.func 103) #[] #[.pointer (some ⟨g, 0, none⟩)], .pointer (some ⟨bl, 0, none⟩), .pointer (some ⟨ba, 0, none⟩), .pointer (some ⟨bm, 0, none⟩), .pointer (some ⟨bb, 0, none⟩)] w fun e w' => e = .returned (.tuple #[]) ∧ GS w0.heap.size g w' (spliceRuns l a b m) ∧ GFrame w0.heap.size g w w' := by
  have hb := cell_later' hw hbx
  have hb1 := cell_later' hw hba
  have l1 := someTo_len addRun_len 0 a l 0 []
  have l2 := someTo_len addRun_len 0 4096 m 0 (someTo addRun 0 a l 0 [])
  simp only [List.length_nil] at l1
  have HC := some_add A c l 0 a g [] w0 w hB hr hw hS (by simp only [List.length_nil]; omega)
  have HC2 := fun W (h : Below w0.heap.size w0 W) hs => some_add A2 c2 m 0 4096 g (someTo addRun 0 a l 0 []) w0 W hB hrm h hs (by omega)
  have HC3 := fun W (h : Below w0.heap.size w0 W) hs => some_add A c l b 4096 g (someTo addRun 0 4096 m 0 (someTo addRun 0 a l 0 [])) w0 W hB hr h hs (by omega)
  have HC := Aside0.mk HC
  have HC2 := Aside0.mk HC2
  have HC3 := Aside0.mk HC3
  have HW := Aside0.mk hw
  have HBX := Aside0.mk hbx
  have HBM := Aside0.mk hbm
  have HBB := Aside0.mk hbb
  clear hr hrm hw hS hlen hbx hbm hbb hba l1 l2
  go_enter Try.func93, Try.ntmps93
  go_wp2_with fail
  refine HC.out.mono ?_
  rintro e w1 ⟨rfl, hg2, hf2⟩
  have HG2 := Aside0.mk hg2
  have HF2 := Aside0.mk hf2
  have hw1 := HW.out.trans hf2.below
  have hc1 := cell_later' hw1 HBM.out
  have hc2 := cell_later' hw1 HBX.out
  have hc3 := cell_later' hw1 HBB.out
  have HW1 := Aside0.mk hw1
  clear hg2 hf2 hw1
  go_wp2_with fail
  refine (HC2.out _ HW1.out HG2.out).mono ?_
  rintro e w2 ⟨rfl, hg2, hf2⟩
  have HG3 := Aside0.mk hg2
  have HF3 := Aside0.mk (HF2.out.trans hf2)
  have hw1 := HW1.out.trans hf2.below
  have hc4 := cell_later' hw1 HBX.out
  have hc5 := cell_later' hw1 HBB.out
  have HW2 := Aside0.mk hw1
  clear hg2 hf2 hw1
  go_wp2_with fail
  refine (HC3.out _ HW2.out HG3.out).mono ?_
  rintro e w3 ⟨rfl, hg2, hf2⟩
  have HG4 := Aside0.mk hg2
  have HF4 := Aside0.mk (HF3.out.trans hf2)
  clear hg2 hf2
  go_wp2
  go_end0
  exact ⟨rfl, HG4.out, HF4.out⟩
def runs_Slice.f (k : Nat) (l0 : List S100) (a1 : Int) (a2 : Int) : Option (List S100 × Int) :=
  (runs_within.f k l0 a1 a2).bind fun t => if t = true then (if l0.length * 16 ≤ 140737488355328 then some (someTo addRun a1 a2 l0 0 [], 0) else none) else some ([], 2)
theorem runs_Slice.mono : ∀ a0 a1 a2 k, LeO (runs_Slice.f k a0 a1 a2) (runs_Slice.f (k + 1) a0 a1 a2) := fun a0 a1 a2 k => LeO.bind (runs_within.mono _ _ _ _) (fun _ => LeO.refl _)
set_option maxHeartbeats 4000000 in
set_option maxRecDepth 100000 in
theorem runs_Slice.calls (k : Nat) (A0 : Option Addr) (c0 : Nat) (l0 : List S100) (a1 : Int) (a2 : Int) (r1 : List S100) (r2 : Int) (w : World) (hr0 : Kd.C k100 w A0 l0.length l0) (hc0 : l0.length ≤ c0) (h : runs_Slice.f k l0 a1 a2 = some (r1, r2)) :
    Calls Try.prog 32 #[.slice A0 l0.length c0, .int .i64 a1, .int .i64 a2] w fun e w' => ∃ v0_ : Value, e = .returned (.tuple #[v0_, .int .i64 r2]) ∧ Kd.R k100 100 w' w.heap.size (fun _ => True) v0_ r1 ∧ Below w.heap.size w w' := by
  have hmf : ∀ (fn : Fn) (first cap : Array Value) (w : World), (Instr.makeFunc fn first cap).run Try.prog w = .ok (.func fn first cap) w := fun _ _ _ _ => rfl
  unfold runs_Slice.f at h
  obtain ⟨t, ht, h⟩ := Option.bind_eq_some_iff.1 h
  have HC := Aside0.mk (fun W (hw : Below w.heap.size w W) => runs_within.calls k A0 c0 l0 a1 a2 t W (Kd.C_below hr0 hw) hc0 ht)
  have HR := Aside0.mk hr0
  clear hr0 ht
  cases t with
  | false =>
    simp only [Bool.false_eq_true, if_false] at h
    injection h with h
    injection h with h1 h2
    subst h1; subst h2
    go_enter Try.func32, Try.ntmps32
    go_wp2_with fail
    refine (HC.out _ (((Below.refl _ _).alloc (Nat.le_refl _) _).alloc (by simp) _ |>.alloc (by simp; omega) _)).mono ?_
    rintro e w1 ⟨rfl, hb⟩
    have HB := Aside0.mk hb
    clear hb
    go_wp2
    go_ret2
    exact ⟨_, rfl, Kd.R_nil _ _ _ _ _, ((((Below.refl _ _).alloc (Nat.le_refl _) _).alloc (by simp) _).alloc (by simp; omega) _).trans (HB.out.mono (by simp; omega))⟩
  | true =>
    simp only [if_true] at h
    by_cases hl : l0.length * 16 ≤ 140737488355328
    case neg => rw [if_neg hl] at h; cases h
    rw [if_pos hl] at h
    injection h with h
    injection h with h1 h2
    subst h1; subst h2
    have HL := Aside0.mk hl
    clear hl
    go_enter Try.func32, Try.ntmps32
    go_wp2_with fail
    have hb3 := (((Below.refl w.heap.size w).alloc (Nat.le_refl _) (.cells #[.slice A0 l0.length c0] 22)).alloc (by simp) (.cells #[.int .i64 a1] 3) |>.alloc (by simp; omega) (.cells #[.int .i64 a2] 3))
    refine (HC.out _ hb3).mono ?_
    rintro e w1 ⟨rfl, hb⟩
    have HB := Aside0.mk hb
    have HB3 := Aside0.mk hb3
    have c1 : w1.cell? ⟨w.heap.size, 0, none⟩ = some (.slice A0 l0.length c0) := cell_later' hb (by simp [go_sem])
    have c2 : w1.cell? ⟨w.heap.size + 1, 0, none⟩ = some (.int .i64 a1) := cell_later' hb (by simp [go_sem])
    have c3 : w1.cell? ⟨w.heap.size + 1 + 1, 0, none⟩ = some (.int .i64 a2) := cell_later' hb (by simp [go_sem])
    clear hb hb3
    have HG := Aside0.mk (gather_any 86 #[.pointer (some ⟨w.heap.size, 0, none⟩), .pointer (some ⟨w.heap.size + 1, 0, none⟩), .pointer (some ⟨w.heap.size + 1 + 1, 0, none⟩)] _ (fun g => rfl) hcf86 (someTo addRun a1 a2 l0 0 []) w1 (fun g w2 h1 h2 h3 => lay_slice A0 c0 l0 a1 a2 _ _ _ g w1 w2 h1 (Kd.C_below HR.out ((HB3.out.trans (HB.out.mono (by simp; omega))))) c1 c2 c3 h3 h2 HL.out))
    go_wp2_with ((with_reducible refine HG.out.mono ?_); rintro e w3 ⟨v, rfl, hRv, hBv⟩; have HV := Aside0.mk hRv; have HBV := Aside0.mk hBv; clear hRv hBv)
    go_ret2
    exact ⟨_, rfl, Kd.R_lower HV.out (by have := HB.out.size; simp at this; omega), (HB3.out.trans (HB.out.mono (by simp; omega))).trans (HBV.out.mono (by have := HB.out.size; simp at this; omega))⟩
def runs_Splice.f (k : Nat) (l0 : List S100) (a1 : Int) (a2 : Int) (l3 : List S100) : Option (List S100 × Int) :=
  (runs_within.f k l0 a1 a2).bind fun t => if t = true then ((runs_Good.f k l3).bind fun u => if u = true then ((runs_Total.f k l0).bind fun p => (runs_Total.f k l3).bind fun q =>
    if wrap64 (wrap64 (p - wrap64 (a2 - a1)) + q) > 4096 then some ([], 3) else if (l0.length + l3.length + l0.length) * 16 ≤ 140737488355328 then some (spliceRuns l0 a1 a2 l3, 0) else none) else some ([], 2)) else some ([], 2)
theorem runs_Splice.mono : ∀ a0 a1 a2 a3 k, LeO (runs_Splice.f k a0 a1 a2 a3) (runs_Splice.f (k + 1) a0 a1 a2 a3) := fun a0 a1 a2 a3 k =>
  LeO.bind (runs_within.mono _ _ _ _) (fun _ => LeO.ite (LeO.bind (runs_Good.mono _ _) (fun _ => LeO.ite (LeO.bind (runs_Total.mono _ _) (fun _ => LeO.bind (runs_Total.mono _ _) (fun _ => LeO.refl _))) (LeO.refl _))) (LeO.refl _))
theorem splice_boxes {w w1 : World} {x0 x1 x2 x3 : Value} (hb : Below ((((w.alloc (.cells #[x0] 22)).alloc (.cells #[x1] 3)).alloc (.cells #[x2] 3)).alloc (.cells #[x3] 22)).heap.size ((((w.alloc (.cells #[x0] 22)).alloc (.cells #[x1] 3)).alloc (.cells #[x2] 3)).alloc (.cells #[x3] 22)) w1) :
    Below w.heap.size w w1 ∧ w1.cell? ⟨w.heap.size, 0, none⟩ = some x0 ∧ w1.cell? ⟨w.heap.size + 1, 0, none⟩ = some x1 ∧ w1.cell? ⟨w.heap.size + 1 + 1, 0, none⟩ = some x2 ∧ w1.cell? ⟨w.heap.size + 1 + 1 + 1, 0, none⟩ = some x3 ∧ w.heap.size + 1 + 1 + 1 + 1 ≤ w1.heap.size :=
  ⟨((((Below.refl _ _).alloc (Nat.le_refl _) _).alloc (by simp) _).alloc (by simp; omega) _ |>.alloc (by simp; omega) _).trans (hb.mono (by simp; omega)),
   cell_later' hb (by simp [go_sem]), cell_later' hb (by simp [go_sem]), cell_later' hb (by simp [go_sem]), cell_later' hb (by simp [go_sem]), by have := hb.size; simpa using this⟩
set_option maxHeartbeats 4000000 in
set_option maxRecDepth 100000 in
theorem runs_Splice.out (k : Nat) (A0 : Option Addr) (c0 : Nat) (l0 : List S100) (a1 : Int) (a2 : Int) (A3 : Option Addr) (c3 : Nat) (l3 : List S100) (w : World) (hr0 : Kd.C k100 w A0 l0.length l0) (hc0 : l0.length ≤ c0) (ht : runs_within.f k l0 a1 a2 = some false) :
    Calls Try.prog 40 #[.slice A0 l0.length c0, .int .i64 a1, .int .i64 a2, .slice A3 l3.length c3] w fun e w' => ∃ v0_ : Value, e = .returned (.tuple #[v0_, .int .i64 2]) ∧ Kd.R k100 100 w' w.heap.size (fun _ => True) v0_ [] ∧ Below w.heap.size w w' := by
  have hmf : ∀ (fn : Fn) (first cap : Array Value) (w : World), (Instr.makeFunc fn first cap).run Try.prog w = .ok (.func fn first cap) w := fun _ _ _ _ => rfl
  have HC := Aside0.mk (fun W (hw : Below w.heap.size w W) => runs_within.calls k A0 c0 l0 a1 a2 false W (Kd.C_below hr0 hw) hc0 ht)
  clear hr0 ht
  go_enter Try.func40, Try.ntmps40
  go_wp2_with fail
  refine (HC.out _ (splice_boxes (Below.refl _ _)).1).mono ?_
  rintro e w1 ⟨rfl, hb⟩
  have HB := Aside0.mk (splice_boxes hb)
  clear hb
  go_wp2
  go_ret2
  exact ⟨_, rfl, Kd.R_nil _ _ _ _ _, HB.out.1⟩
set_option maxHeartbeats 4000000 in
set_option maxRecDepth 100000 in
theorem runs_Splice.bad (k : Nat) (A0 : Option Addr) (c0 : Nat) (l0 : List S100) (a1 : Int) (a2 : Int) (A3 : Option Addr) (c3 : Nat) (l3 : List S100) (w : World) (hr0 : Kd.C k100 w A0 l0.length l0) (hc0 : l0.length ≤ c0) (hr3 : Kd.C k100 w A3 l3.length l3) (hc3 : l3.length ≤ c3)
    (ht : runs_within.f k l0 a1 a2 = some true) (hu : runs_Good.f k l3 = some false) :
    Calls Try.prog 40 #[.slice A0 l0.length c0, .int .i64 a1, .int .i64 a2, .slice A3 l3.length c3] w fun e w' => ∃ v0_ : Value, e = .returned (.tuple #[v0_, .int .i64 2]) ∧ Kd.R k100 100 w' w.heap.size (fun _ => True) v0_ [] ∧ Below w.heap.size w w' := by
  have hmf : ∀ (fn : Fn) (first cap : Array Value) (w : World), (Instr.makeFunc fn first cap).run Try.prog w = .ok (.func fn first cap) w := fun _ _ _ _ => rfl
  have HC := Aside0.mk (fun W (hw : Below w.heap.size w W) => runs_within.calls k A0 c0 l0 a1 a2 true W (Kd.C_below hr0 hw) hc0 ht)
  have HG := Aside0.mk (fun W (hw : Below w.heap.size w W) => runs_Good.calls k A3 c3 l3 false W (Kd.C_below hr3 hw) hc3 hu)
  clear hr0 ht hr3 hu
  go_enter Try.func40, Try.ntmps40
  go_wp2_with fail
  refine (HC.out _ (splice_boxes (Below.refl _ _)).1).mono ?_
  rintro e w1 ⟨rfl, hb⟩
  have HB := Aside0.mk (splice_boxes hb)
  have hc4 := (splice_boxes hb).2.2.2.2.1
  clear hb
  go_wp2_with fail
  refine (HG.out _ HB.out.1).mono ?_
  rintro e w2 ⟨rfl, hb⟩
  have HB2 := Aside0.mk (HB.out.1.trans (hb.mono (by have := HB.out.2.2.2.2.2; omega)))
  clear hb
  go_wp2
  go_ret2
  exact ⟨_, rfl, Kd.R_nil _ _ _ _ _, HB2.out⟩
set_option maxHeartbeats 4000000 in
set_option maxRecDepth 100000 in
theorem runs_Splice.rest (k : Nat) (A0 : Option Addr) (c0 : Nat) (l0 : List S100) (a1 : Int) (a2 : Int) (A3 : Option Addr) (c3 : Nat) (l3 : List S100) (r1 : List S100) (r2 : Int) (w : World) (hr0 : Kd.C k100 w A0 l0.length l0) (hc0 : l0.length ≤ c0) (hr3 : Kd.C k100 w A3 l3.length l3) (hc3 : l3.length ≤ c3)
    (ht : runs_within.f k l0 a1 a2 = some true) (hu : runs_Good.f k l3 = some true) (p q : Int) (hp : runs_Total.f k l0 = some p) (hq : runs_Total.f k l3 = some q)
    (h : (if wrap64 (wrap64 (p - wrap64 (a2 - a1)) + q) > 4096 then some ([], 3) else if (l0.length + l3.length + l0.length) * 16 ≤ 140737488355328 then some (spliceRuns l0 a1 a2 l3, 0) else none) = some (r1, r2)) :
    Calls Try.prog 40 #[.slice A0 l0.length c0, .int .i64 a1, .int .i64 a2, .slice A3 l3.length c3] w fun e w' => ∃ v0_ : Value, e = .returned (.tuple #[v0_, .int .i64 r2]) ∧ Kd.R k100 100 w' w.heap.size (fun _ => True) v0_ r1 ∧ Below w.heap.size w w' := by
  have hmf : ∀ (fn : Fn) (first cap : Array Value) (w : World), (Instr.makeFunc fn first cap).run Try.prog w = .ok (.func fn first cap) w := fun _ _ _ _ => rfl
  have HC := Aside0.mk (fun W (hw : Below w.heap.size w W) => runs_within.calls k A0 c0 l0 a1 a2 true W (Kd.C_below hr0 hw) hc0 ht)
  have HG := Aside0.mk (fun W (hw : Below w.heap.size w W) => runs_Good.calls k A3 c3 l3 true W (Kd.C_below hr3 hw) hc3 hu)
  have HT1 := Aside0.mk (fun W (hw : Below w.heap.size w W) => runs_Total.calls k A0 c0 l0 p W (Kd.C_below hr0 hw) hc0 hp)
  have HT2 := Aside0.mk (fun W (hw : Below w.heap.size w W) => runs_Total.calls k A3 c3 l3 q W (Kd.C_below hr3 hw) hc3 hq)
  have HR0 := Aside0.mk hr0
  have HR3 := Aside0.mk hr3
  have HH := Aside0.mk h
  clear hr0 ht hr3 hu hp hq h
  go_enter Try.func40, Try.ntmps40
  go_wp2_with fail
  refine (HC.out _ (splice_boxes (Below.refl _ _)).1).mono ?_
  rintro e w1 ⟨rfl, hb⟩
  have HB := Aside0.mk hb
  have hc4 := (splice_boxes hb).2.2.2.2.1
  clear hb
  go_wp2_with fail
  refine (HG.out _ (splice_boxes HB.out).1).mono ?_
  rintro e w2 ⟨rfl, hb⟩
  have HB2 := Aside0.mk (HB.out.trans (hb.mono (by have := (splice_boxes HB.out).2.2.2.2.2; simp; omega)))
  clear hb hc4
  obtain ⟨hc1, hc2, hc3', hc4, hc5⟩ := (splice_boxes HB2.out).2
  have HZ := Aside0.mk hc5
  clear hc5
  go_wp2_with fail
  go_region_held3 (fun w' => w'.cell? ⟨w.heap.size, 0, none⟩ = some (.slice A0 l0.length c0) ∧ w'.cell? ⟨w.heap.size + 1, 0, none⟩ = some (.int .i64 a1) ∧ w'.cell? ⟨w.heap.size + 1 + 1, 0, none⟩ = some (.int .i64 a2) ∧ w'.cell? ⟨w.heap.size + 1 + 1 + 1, 0, none⟩ = some (.slice A3 l3.length c3) ∧ Aside0 (Below w2.heap.size w2 w'))
    (first
      | exact ⟨hc1, hc2, hc3', hc4, ⟨below_drew (Below.refl _ _)⟩⟩
      | (go_split_ands; exact ⟨cell_later' hb (by assumption), cell_later' hb (by assumption), cell_later' hb (by assumption), cell_later' hb (by assumption), ⟨(fun (g5 : Aside0 (Below w2.heap.size w2 _)) => g5.out.trans (hb.mono g5.out.size)) (by assumption)⟩⟩))
    (first
      | (go_at_call 30; first | ((with_reducible refine (HT1.out _ ?hw).mono ?_); (case hw => go_split_ands; exact (splice_boxes HB2.out).1.trans ((by assumption : Aside0 (Below w2.heap.size w2 _)).out.mono (by have := HZ.out; omega))); rintro e w3 ⟨rfl, hb⟩) | ((with_reducible refine (HT2.out _ ?hw).mono ?_); (case hw => go_split_ands; exact (splice_boxes HB2.out).1.trans ((by assumption : Aside0 (Below w2.heap.size w2 _)).out.mono (by have := HZ.out; omega))); rintro e w3 ⟨rfl, hb⟩)))
  clear hc1 hc2 hc3' hc4
  obtain ⟨hc1, hc2, hc3', hc4, hB3⟩ := ‹_ ∧ _›
  have HB3 := Aside0.mk (HB2.out.trans (hB3.out.mono (by have := HZ.out; simp; omega)))
  clear hB3
  have HH1 := HH.out
  rw [← i64_w, ← i64_w, ← i64_w] at HH1
  generalize IntKind.i64.wrap (IntKind.i64.wrap (p - IntKind.i64.wrap (a2 - a1)) + q) = z at HH1 ⊢
  by_cases h4 : z > 4096
  · have hd : decide (4096 < z) = true := by simpa using h4
    rw [if_pos h4] at HH1
    injection HH1 with h
    injection h with h1 h2
    subst h1; subst h2
    have h4' : 4096 < z := h4
    go_wp2
    go_ret2
    exact ⟨_, rfl, Kd.R_nil _ _ _ _ _, (splice_boxes HB3.out).1⟩
  · have hd : decide (4096 < z) = false := by simpa using h4
    rw [if_neg h4] at HH1
    by_cases hl : (l0.length + l3.length + l0.length) * 16 ≤ 140737488355328
    case neg => rw [if_neg hl] at HH1; cases HH1
    rw [if_pos hl] at HH1
    injection HH1 with h
    injection h with h1 h2
    subst h1; subst h2
    have HL := Aside0.mk hl
    have h4' : ¬ 4096 < z := h4
    clear hl
    have HG := Aside0.mk (gather_any 93 #[.pointer (some ⟨w.heap.size, 0, none⟩), .pointer (some ⟨w.heap.size + 1, 0, none⟩), .pointer (some ⟨w.heap.size + 1 + 1 + 1, 0, none⟩), .pointer (some ⟨w.heap.size + 1 + 1, 0, none⟩)] _ (fun g => rfl) hcf93 (spliceRuns l0 a1 a2 l3) w3 (fun g w4 h1 h2 h3 => lay_splice A0 c0 l0 a1 a2 A3 c3 l3 _ _ _ _ g w3 w4 h1 (Kd.C_below HR0.out (splice_boxes HB3.out).1) (Kd.C_below HR3.out (splice_boxes HB3.out).1) hc1 hc4 hc2 hc3' h3 h2 HL.out))
    go_wp2_with ((with_reducible refine HG.out.mono ?_); rintro e w5 ⟨v, rfl, hRv, hBv⟩; have HV := Aside0.mk hRv; have HBV := Aside0.mk hBv; clear hRv hBv)
    go_ret2
    exact ⟨_, rfl, Kd.R_lower HV.out (by have := (splice_boxes HB3.out).1.size; omega), (splice_boxes HB3.out).1.trans (HBV.out.mono (by have := (splice_boxes HB3.out).1.size; omega))⟩
theorem runs_Splice.calls (k : Nat) (A0 : Option Addr) (c0 : Nat) (l0 : List S100) (a1 : Int) (a2 : Int) (A3 : Option Addr) (c3 : Nat) (l3 : List S100) (r1 : List S100) (r2 : Int) (w : World) (hr0 : Kd.C k100 w A0 l0.length l0) (hc0 : l0.length ≤ c0) (hr3 : Kd.C k100 w A3 l3.length l3) (hc3 : l3.length ≤ c3) (h : runs_Splice.f k l0 a1 a2 l3 = some (r1, r2)) :
    Calls Try.prog 40 #[.slice A0 l0.length c0, .int .i64 a1, .int .i64 a2, .slice A3 l3.length c3] w fun e w' => ∃ v0_ : Value, e = .returned (.tuple #[v0_, .int .i64 r2]) ∧ Kd.R k100 100 w' w.heap.size (fun _ => True) v0_ r1 ∧ Below w.heap.size w w' := by
  unfold runs_Splice.f at h
  obtain ⟨t, ht, h⟩ := Option.bind_eq_some_iff.1 h
  cases t with
  | false =>
    simp only [Bool.false_eq_true, if_false] at h
    injection h with h
    injection h with h1 h2
    subst h1; subst h2
    exact runs_Splice.out k A0 c0 l0 a1 a2 A3 c3 l3 w hr0 hc0 ht
  | true =>
    simp only [if_true] at h
    obtain ⟨u, hu, h⟩ := Option.bind_eq_some_iff.1 h
    cases u with
    | false =>
      simp only [Bool.false_eq_true, if_false] at h
      injection h with h
      injection h with h1 h2
      subst h1; subst h2
      exact runs_Splice.bad k A0 c0 l0 a1 a2 A3 c3 l3 w hr0 hc0 hr3 hc3 ht hu
    | true =>
      simp only [if_true] at h
      obtain ⟨p, hp, h⟩ := Option.bind_eq_some_iff.1 h
      obtain ⟨q, hq, h⟩ := Option.bind_eq_some_iff.1 h
      exact runs_Splice.rest k A0 c0 l0 a1 a2 A3 c3 l3 r1 r2 w hr0 hc0 hr3 hc3 ht hu p q hp hq h
end Go.Proofs.Ythpjagblnddjaaa.PB
end

section
namespace Go.Proofs.Ythpjagblnddjaaa.PB
open Go.RowKit Go.Proofs.YthpjagblnddjaaaW.PrintWords Go.Proofs.YthpjagblnddjaaaW.PrintLast Go.Proofs.YthpjagblnddjaaaW.PrintMore
attribute [local go_sem] max2_int min2_int max_two min_two max_three min_three max_four min_four   
set_option linter.unusedVariables false
set_option linter.unusedSimpArgs false
def strip_Splice.j0 : Nat → Int → Int → Bool → ByteArray → List (S100) → ByteArray → List (S100) → Option (ByteArray × (List (S100)) × Int)
  | 0, _, _, _, _, _, _, _ => none
  | k + 1, x1, x2, x21, x386000, x386001, x387000, x387001 => if x21 = true then (some ((⟨#[]⟩ : ByteArray), ([] : List (S100)), 2)) else ((runs_Splice.f k x386001 x1 x2 x387001).bind fun bt390 => (if bt390.2 = 0 then (if 0 ≤ x1 then (if x1 ≤ (x386000.size : Int) then (if (x386000.extract 0 (x1 : Int).toNat).size + x387000.size ≤ 9223372036854775807 then (if 0 ≤ x2 then (if x2 ≤ (x386000.size : Int) then (if ((x386000.extract 0 (x1 : Int).toNat) ++ x387000).size + (x386000.extract (x2 : Int).toNat x386000.size).size ≤ 9223372036854775807 then (some (((x386000.extract 0 (x1 : Int).toNat) ++ x387000) ++ (x386000.extract (x2 : Int).toNat x386000.size), bt390.1, 0)) else (none)) else (none)) else (none)) else (none)) else (none)) else (none)) else (some ((⟨#[]⟩ : ByteArray), ([] : List (S100)), bt390.2))))
def strip_Splice.f (k : Nat) (a0_0 : ByteArray) (l0_1 : List (S100)) (a1 : Int) (a2 : Int) (a3_0 : ByteArray) (l3_1 : List (S100)) : Option (ByteArray × (List (S100)) × Int) := (strip_within.f k a0_0 l0_1 a1 a2).bind fun t388 => (if t388 = true then ((strip_Good.f k a3_0 l3_1).bind fun t389 => (strip_Splice.j0 k a1 a2 (!t389) a0_0 l0_1 a3_0 l3_1)) else (strip_Splice.j0 k a1 a2 true a0_0 l0_1 a3_0 l3_1))
theorem strip_Splice.mono_l : ∀ k, (∀ y0 y1 y2 y3 y4 y5 y6, LeO (strip_Splice.j0 k y0 y1 y2 y3 y4 y5 y6) (strip_Splice.j0 (k + 1) y0 y1 y2 y3 y4 y5 y6))
  | 0 => fun _ _ _ _ _ _ _ r h => by simp [strip_Splice.j0] at h
  | k + 1 => by
    have ih0 := strip_Splice.mono_l k
    · intro y0 y1 y2 y3 y4 y5 y6
      unfold strip_Splice.j0
      repeat' first
      | (with_reducible exact ih0 _ _ _ _ _ _ _)
      | (with_reducible exact runs_Splice.mono _ _ _ _ _)
      | (with_reducible exact strip_Good.mono _ _ _)
      | (with_reducible exact strip_within.mono _ _ _ _ _)
      | (with_reducible exact LeO.refl _)
      | (with_reducible exact LeO.none _)
      | (with_reducible refine LeO.ite ?_ ?_)
      | (with_reducible refine LeO.bind ?_ (fun _ => ?_))
      | exact ih0 _ _ _ _ _ _ _
      | exact runs_Splice.mono _ _ _ _ _
      | exact strip_Good.mono _ _ _
      | exact strip_within.mono _ _ _ _ _
      | exact LeO.none _
      | refine LeO.ite ?_ ?_
      | refine LeO.bind ?_ (fun _ => ?_)
theorem strip_Splice.mono : ∀ a0 a1 a2 a3 a4 a5 k, LeO (strip_Splice.f k a0 a1 a2 a3 a4 a5) (strip_Splice.f (k + 1) a0 a1 a2 a3 a4 a5) := by
  intro a0 a1 a2 a3 a4 a5 k
  have ih0 := strip_Splice.mono_l k
  unfold strip_Splice.f
  repeat' first
      | (with_reducible exact ih0 _ _ _ _ _ _ _)
      | (with_reducible exact runs_Splice.mono _ _ _ _ _)
      | (with_reducible exact strip_Good.mono _ _ _)
      | (with_reducible exact strip_within.mono _ _ _ _ _)
      | (with_reducible exact LeO.refl _)
      | (with_reducible exact LeO.none _)
      | (with_reducible refine LeO.ite ?_ ?_)
      | (with_reducible refine LeO.bind ?_ (fun _ => ?_))
      | exact ih0 _ _ _ _ _ _ _
      | exact runs_Splice.mono _ _ _ _ _
      | exact strip_Good.mono _ _ _
      | exact strip_within.mono _ _ _ _ _
      | exact LeO.none _
      | refine LeO.ite ?_ ?_
      | refine LeO.bind ?_ (fun _ => ?_)
def strip_Splice.T6 : Bool × List (List Nat × List Nat) := (true, [([], []), ([0], [0]), ([], []), ([1, 2], [1, 2]), ([], []), ([4], [4]), ([3, 5], [3, 5]), ([], []), ([7], [7]), ([], []), ([8, 9], [8, 9]), ([6, 10], [6, 10]), ([], []), ([11, 12], [11, 12]), ([13, 0, 1, 2, 3, 4, 5, 6, 7, 8, 9, 10, 11, 12, 13], [13]), ([14, 0, 1, 2, 3, 4, 5, 6, 7, 8, 9, 10, 11, 12, 13, 14], [])])
def strip_Splice.B6 : List Nat := [0, 1, 0, 7, 0, 16, 63, 0, 128, 0, 896, 2047, 0, 8191, 16383, 32767]
theorem strip_Splice.tab6 : rtab .any (opsOf Try.f53 6) = strip_Splice.T6 := by kernel_rfl
theorem strip_Splice.bits6 : waitsOk strip_Splice.T6.2 strip_Splice.B6 = true := by kernel_rfl
set_option maxHeartbeats 8000000 in
set_option maxRecDepth 100000 in
theorem strip_Splice.calls (k : Nat) (a0_0 : ByteArray) (A0_1 : Option Addr) (c0_1 : Nat) (l0_1 : List (S100)) (a1 : Int) (a2 : Int) (a3_0 : ByteArray) (A3_1 : Option Addr) (c3_1 : Nat) (l3_1 : List (S100)) (r1 : ByteArray) (r2 : List (S100)) (r3 : Int) (w : World) (hr0_1 : Kd.C k100 w A0_1 l0_1.length l0_1) (hc0_1 : l0_1.length ≤ c0_1) (hr3_1 : Kd.C k100 w A3_1 l3_1.length l3_1) (hc3_1 : l3_1.length ≤ c3_1) (h : strip_Splice.f k a0_0 l0_1 a1 a2 a3_0 l3_1 = some (r1, r2, r3)) :
    Calls Try.prog 53 #[.agg #[.string a0_0, .slice A0_1 l0_1.length c0_1], .int .i64 a1, .int .i64 a2, .agg #[.string a3_0, .slice A3_1 l3_1.length c3_1]] w fun e w' => ∃ v1_ : Value, e = .returned (.tuple #[.agg #[.string r1, v1_], .int .i64 r3]) ∧ Kd.R k100 100 w' w.heap.size (fun _ => True) v1_ r2 ∧ Below w.heap.size w w' := by
  have hu51 := Try.underlying51
  have HR0_1 := Aside0.mk hr0_1
  have HC0_1 := Aside0.mk hc0_1
  clear hr0_1 hc0_1
  have HR3_1 := Aside0.mk hr3_1
  have HC3_1 := Aside0.mk hc3_1
  clear hr3_1 hc3_1
  have HB := Aside0.mk (Below.refl w.heap.size w)
  have H : ((strip_within.f k a0_0 l0_1 a1 a2).bind fun t388 => (if t388 = true then ((strip_Good.f k a3_0 l3_1).bind fun t389 => (strip_Splice.j0 k a1 a2 (!t389) a0_0 l0_1 a3_0 l3_1)) else (strip_Splice.j0 k a1 a2 true a0_0 l0_1 a3_0 l3_1))) = some (r1, r2, r3) := h
  clear h
  have HC5 := Aside0.mk H
  clear H
  go_enter Try.func53, Try.ntmps53
  go_upto_region 1 with (first | ((with_reducible refine gate_dst (N := 4) rfl ?_); refine box_event ?hg (N := 4) ?hd (cs := #[.string a0_0, .slice A0_1 l0_1.length c0_1]) (t := 51) ?hr ?_; (case hd => rfl); (case hg => rfl); (case hr => first | (go_simp; done) | (go_simp; rfl)); intro gb385 hg w6 hbox hb; have n0_ := Aside0.mk (below_step (by repeat (first | (with_reducible first | exact HB.out | apply below_alloc | apply pw_below_drewN | apply below_drew1) | exact HB.out)) hb); have n1_ := Aside0.mk (hbox); have n2_ := Aside0.mk ((by rw [hg]; exact (below_size (by repeat (first | (with_reducible first | exact HB.out | apply below_alloc | apply pw_below_drewN | apply below_drew1) | exact HB.out))) : w.heap.size ≤ gb385)); have n3_ := Aside0.mk ((by rw [hg]; exact (below_size (by repeat (first | (with_reducible first | exact HB.out | apply below_alloc | apply pw_below_drewN | apply below_drew1) | exact HB.out))) : w.heap.size ≤ gb385)); clear HB; have HB := n0_; have BK385 := n1_; have GW385 := n2_; have GE385 := n3_; clear n0_ n1_ n2_ n3_; clear hb hbox hg) | ((with_reducible refine gate_dst (N := 7) rfl ?_); refine box_event ?hg (N := 7) ?hd (cs := #[.string a3_0, .slice A3_1 l3_1.length c3_1]) (t := 51) ?hr ?_; (case hd => rfl); (case hg => rfl); (case hr => first | (go_simp; done) | (go_simp; rfl)); intro gb386 hg w7 hbox hb; have n0_ := Aside0.mk (blk_below (g := gb385) (o := .cells #[.string a0_0, .slice A0_1 l0_1.length c0_1] 51 (0, 0)) (by (with_reducible repeat (first | refine blk_drewN ?_ _ | refine blk_drew ?_ | refine blk_alloc ?_ _)); exact BK385.out) hb); have n1_ := Aside0.mk (below_step (by repeat (first | (with_reducible first | exact HB.out | apply below_alloc | apply pw_below_drewN | apply below_drew1 | refine below_set ?_ GE385.out) | exact HB.out)) hb); have n2_ := Aside0.mk (hbox); have n3_ := Aside0.mk ((by rw [hg]; exact (below_size (by repeat (first | (with_reducible first | exact HB.out | apply below_alloc | apply pw_below_drewN | apply below_drew1 | refine below_set ?_ GE385.out) | exact HB.out))) : w.heap.size ≤ gb386)); have n4_ := Aside0.mk ((by rw [hg]; exact (below_size (by repeat (first | (with_reducible first | exact HB.out | apply below_alloc | apply pw_below_drewN | apply below_drew1 | refine below_set ?_ GE385.out) | exact HB.out))) : w.heap.size ≤ gb386)); have n5_ := Aside0.mk ((by rw [hg]; exact Nat.ne_of_lt (blk_lt (g := gb385) (o := .cells #[.string a0_0, .slice A0_1 l0_1.length c0_1] 51 (0, 0)) (by (with_reducible repeat (first | refine blk_drewN ?_ _ | refine blk_drew ?_ | refine blk_alloc ?_ _)); exact BK385.out)) : gb385 ≠ gb386)); have n6_ := Aside0.mk ((by rw [hg]; exact Nat.ne_of_gt (blk_lt (g := gb385) (o := .cells #[.string a0_0, .slice A0_1 l0_1.length c0_1] 51 (0, 0)) (by (with_reducible repeat (first | refine blk_drewN ?_ _ | refine blk_drew ?_ | refine blk_alloc ?_ _)); exact BK385.out)) : gb386 ≠ gb385)); clear BK385; clear HB; have BK385 := n0_; have HB := n1_; have BK386 := n2_; have GW386 := n3_; have GE386 := n4_; have NB385_386 := n5_; have NB386_385 := n6_; clear n0_ n1_ n2_ n3_ n4_ n5_ n6_; clear hb hbox hg) | ((with_reducible refine gate_dst (N := 8) rfl ?_); refine box_event ?hg (N := 8) ?hd (cs := #[.string (⟨#[]⟩ : ByteArray), .slice none 0 0]) (t := 51) ?hr ?_; (case hd => rfl); (case hg => rfl); (case hr => first | (go_simp; done) | (go_simp; rfl)); intro gb387 hg w8 hbox hb; have n0_ := Aside0.mk (blk_below (g := gb385) (o := .cells #[.string a0_0, .slice A0_1 l0_1.length c0_1] 51 (0, 0)) (by (with_reducible repeat (first | refine blk_drewN ?_ _ | refine blk_drew ?_ | refine blk_alloc ?_ _)); exact BK385.out) hb); have n1_ := Aside0.mk (blk_below (g := gb386) (o := .cells #[.string a3_0, .slice A3_1 l3_1.length c3_1] 51 (0, 0)) (by (with_reducible repeat (first | refine blk_drewN ?_ _ | refine blk_drew ?_ | refine blk_alloc ?_ _)); exact BK386.out) hb); have n2_ := Aside0.mk (below_step (by repeat (first | (with_reducible first | exact HB.out | apply below_alloc | apply pw_below_drewN | apply below_drew1 | refine below_set ?_ GE385.out | refine below_set ?_ GE386.out) | exact HB.out)) hb); have n3_ := Aside0.mk (hbox); have n4_ := Aside0.mk ((by rw [hg]; exact (below_size (by repeat (first | (with_reducible first | exact HB.out | apply below_alloc | apply pw_below_drewN | apply below_drew1 | refine below_set ?_ GE385.out | refine below_set ?_ GE386.out) | exact HB.out))) : w.heap.size ≤ gb387)); have n5_ := Aside0.mk ((by rw [hg]; exact (below_size (by repeat (first | (with_reducible first | exact HB.out | apply below_alloc | apply pw_below_drewN | apply below_drew1 | refine below_set ?_ GE385.out | refine below_set ?_ GE386.out) | exact HB.out))) : w.heap.size ≤ gb387)); have n6_ := Aside0.mk ((by rw [hg]; exact Nat.ne_of_lt (blk_lt (g := gb385) (o := .cells #[.string a0_0, .slice A0_1 l0_1.length c0_1] 51 (0, 0)) (by (with_reducible repeat (first | refine blk_drewN ?_ _ | refine blk_drew ?_ | refine blk_alloc ?_ _)); exact BK385.out)) : gb385 ≠ gb387)); have n7_ := Aside0.mk ((by rw [hg]; exact Nat.ne_of_gt (blk_lt (g := gb385) (o := .cells #[.string a0_0, .slice A0_1 l0_1.length c0_1] 51 (0, 0)) (by (with_reducible repeat (first | refine blk_drewN ?_ _ | refine blk_drew ?_ | refine blk_alloc ?_ _)); exact BK385.out)) : gb387 ≠ gb385)); have n8_ := Aside0.mk ((by rw [hg]; exact Nat.ne_of_lt (blk_lt (g := gb386) (o := .cells #[.string a3_0, .slice A3_1 l3_1.length c3_1] 51 (0, 0)) (by (with_reducible repeat (first | refine blk_drewN ?_ _ | refine blk_drew ?_ | refine blk_alloc ?_ _)); exact BK386.out)) : gb386 ≠ gb387)); have n9_ := Aside0.mk ((by rw [hg]; exact Nat.ne_of_gt (blk_lt (g := gb386) (o := .cells #[.string a3_0, .slice A3_1 l3_1.length c3_1] 51 (0, 0)) (by (with_reducible repeat (first | refine blk_drewN ?_ _ | refine blk_drew ?_ | refine blk_alloc ?_ _)); exact BK386.out)) : gb387 ≠ gb386)); clear BK385; clear BK386; clear HB; have BK385 := n0_; have BK386 := n1_; have HB := n2_; have BK387 := n3_; have GW387 := n4_; have GE387 := n5_; have NB385_387 := n6_; have NB387_385 := n7_; have NB386_387 := n8_; have NB387_386 := n9_; clear n0_ n1_ n2_ n3_ n4_ n5_ n6_ n7_ n8_ n9_; clear hb hbox hg))
  (try simp only [Act.put, List.setIfInBounds_toArray, List.set_cons_zero, List.set_cons_succ])
  go_cut [21] (fun v21 wc => ∃ (kq : Nat) (x21_4 : Bool), v21 = .bool x21_4 ∧ Aside0 (strip_Splice.j0 kq a1 a2 x21_4 a0_0 l0_1 a3_0 l3_1 = some (r1, r2, r3)) ∧ Aside0 (kq ≤ k) ∧ Aside0 (wc.heap[gb385]? = some (.cells #[.string a0_0, (.slice A0_1 l0_1.length c0_1)] 51 (0, 0))) ∧ Aside0 (wc.heap[gb386]? = some (.cells #[.string a3_0, (.slice A3_1 l3_1.length c3_1)] 51 (0, 0))) ∧ Aside0 (wc.heap[gb387]? = some (.cells #[.string (⟨#[]⟩ : ByteArray), (.slice none 0 0)] 51 (0, 0))) ∧ Aside0 (Below w.heap.size w wc))
  case first =>
    have H := HC5.out
    clear HC5
    replace H := Option.bind_eq_some_iff.mp H
    obtain ⟨t388, A90, H⟩ := H
    replace H : (if t388 = true then ((strip_Good.f k a3_0 l3_1).bind fun t389 => (strip_Splice.j0 k a1 a2 (!t389) a0_0 l0_1 a3_0 l3_1)) else (strip_Splice.j0 k a1 a2 true a0_0 l0_1 a3_0 l3_1)) = some (r1, r2, r3) := H
    have A9 := Aside0.mk A90
    clear A90
    by_cases c10 : t388 = true
    · subst c10
      have H1 : ((strip_Good.f k a3_0 l3_1).bind fun t389 => (strip_Splice.j0 k a1 a2 (!t389) a0_0 l0_1 a3_0 l3_1)) = some (r1, r2, r3) := by rw [if_pos rfl] at H; exact H
      clear H
      have H := H1
      clear H1
      replace H := Option.bind_eq_some_iff.mp H
      obtain ⟨t389, A110, H⟩ := H
      replace H : (strip_Splice.j0 k a1 a2 (!t389) a0_0 l0_1 a3_0 l3_1) = some (r1, r2, r3) := H
      have A11 := Aside0.mk A110
      clear A110
      have H' := Aside0.mk H
      clear H
      have hnb12 := NB385_386.out
      have hnc12 := NB386_385.out
      have hnb13 := NB385_387.out
      have hnc13 := NB387_385.out
      have hcz14_0 : w8.cell? ⟨gb385, 0, none⟩ = some (.string a0_0) := (blk_cell BK385.out 0).trans rfl
      have hcz14_1 : w8.cell? ⟨gb385, 1, none⟩ = some (.slice A0_1 l0_1.length c0_1) := (blk_cell BK385.out 1).trans rfl
      have hfz14_0 := blk_frozen BK385.out 0
      have hfz14_1 := blk_frozen BK385.out 1
      go_wp2_with (first | ((with_reducible refine gate_callee (f := 95) rfl ?_); refine goesL_ (some 15) rfl rfl Try.func95 (by kernel_rfl) rfl #[.agg #[.string a0_0, .slice A0_1 l0_1.length c0_1], .int .i64 a1, .int .i64 a2] rfl (by (try simp only [List.map_toArray, List.map_cons, List.map_nil]); first | done | rfl | (simp only [List.length_drop, List.length_take]; rfl)) ?_; (with_reducible refine (strip_within.calls k a0_0 _ _ l0_1 a1 a2 true _ ?side1 ?side2 A9.out).mono ?_); (case side1 => repeat (first | exact (Kd.C_below HR0_1.out HB.out) | (with_reducible refine Kd.C_alloc ?_ _) | (with_reducible refine Kd.C_drewN ?_ _) | (with_reducible refine Kd.C_drew ?_))); (case side2 => exact HC0_1.out); rintro e w15 ⟨rfl, hb⟩; refine ⟨_, rfl, ?_⟩; have n0_ := Aside0.mk (blk_below (g := gb385) (o := .cells #[.string a0_0, .slice A0_1 l0_1.length c0_1] 51 (0, 0)) (by (with_reducible repeat (first | refine blk_drewN ?_ _ | refine blk_drew ?_ | refine blk_alloc ?_ _)); exact BK385.out) hb); have n1_ := Aside0.mk (blk_below (g := gb386) (o := .cells #[.string a3_0, .slice A3_1 l3_1.length c3_1] 51 (0, 0)) (by (with_reducible repeat (first | refine blk_drewN ?_ _ | refine blk_drew ?_ | refine blk_alloc ?_ _)); exact BK386.out) hb); have n2_ := Aside0.mk (blk_below (g := gb387) (o := .cells #[.string (⟨#[]⟩ : ByteArray), .slice none 0 0] 51 (0, 0)) (by (with_reducible repeat (first | refine blk_drewN ?_ _ | refine blk_drew ?_ | refine blk_alloc ?_ _)); exact BK387.out) hb); have n3_ := Aside0.mk (below_step (by repeat (first | (with_reducible first | exact HB.out | apply below_alloc | apply pw_below_drewN | apply below_drew1 | refine below_set ?_ GE385.out | refine below_set ?_ GE386.out | refine below_set ?_ GE387.out) | exact HB.out)) hb); clear BK385; clear BK386; clear BK387; clear HB; have BK385 := n0_; have BK386 := n1_; have BK387 := n2_; have HB := n3_; clear n0_ n1_ n2_ n3_; (try clear hb); (try clear hb2); (try clear hk); (try clear hi); have hnb16 := NB386_387.out; have hnc16 := NB387_386.out; have hcz17_0 : w15.cell? ⟨gb386, 0, none⟩ = some (.string a3_0) := (blk_cell BK386.out 0).trans rfl; have hcz17_1 : w15.cell? ⟨gb386, 1, none⟩ = some (.slice A3_1 l3_1.length c3_1) := (blk_cell BK386.out 1).trans rfl; have hfz17_0 := blk_frozen BK386.out 0; have hfz17_1 := blk_frozen BK386.out 1) | (go_at_call 49; (with_reducible refine (strip_Good.calls k a3_0 _ _ l3_1 t389 _ ?side1 ?side2 A11.out).mono ?_); (case side1 => repeat (first | exact (Kd.C_below HR3_1.out HB.out) | (with_reducible refine Kd.C_alloc ?_ _) | (with_reducible refine Kd.C_drewN ?_ _) | (with_reducible refine Kd.C_drew ?_))); (case side2 => exact HC3_1.out); rintro e w18 ⟨rfl, hb⟩; have n0_ := Aside0.mk (blk_below (g := gb385) (o := .cells #[.string a0_0, .slice A0_1 l0_1.length c0_1] 51 (0, 0)) (by (with_reducible repeat (first | refine blk_drewN ?_ _ | refine blk_drew ?_ | refine blk_alloc ?_ _)); exact BK385.out) hb); have n1_ := Aside0.mk (blk_below (g := gb386) (o := .cells #[.string a3_0, .slice A3_1 l3_1.length c3_1] 51 (0, 0)) (by (with_reducible repeat (first | refine blk_drewN ?_ _ | refine blk_drew ?_ | refine blk_alloc ?_ _)); exact BK386.out) hb); have n2_ := Aside0.mk (blk_below (g := gb387) (o := .cells #[.string (⟨#[]⟩ : ByteArray), .slice none 0 0] 51 (0, 0)) (by (with_reducible repeat (first | refine blk_drewN ?_ _ | refine blk_drew ?_ | refine blk_alloc ?_ _)); exact BK387.out) hb); have n3_ := Aside0.mk (below_step (by repeat (first | (with_reducible first | exact HB.out | apply below_alloc | apply pw_below_drewN | apply below_drew1 | refine below_set ?_ GE385.out | refine below_set ?_ GE386.out | refine below_set ?_ GE387.out) | exact HB.out)) hb); clear BK385; clear BK386; clear BK387; clear HB; have BK385 := n0_; have BK386 := n1_; have BK387 := n2_; have HB := n3_; clear n0_ n1_ n2_ n3_; (try clear hb); (try clear hb2); (try clear hk); (try clear hi)))
      go_meet
      case rel => exact ⟨_, (!t389), (by first | rfl | (simp; done) | (simp [*]; done)), H', ⟨by first | omega | exact Nat.le_refl _⟩, ⟨by (with_reducible repeat (first | refine blk_drewN ?_ _ | refine blk_drew ?_ | refine blk_alloc ?_ _)); exact BK385.out⟩, ⟨by (with_reducible repeat (first | refine blk_drewN ?_ _ | refine blk_drew ?_ | refine blk_alloc ?_ _)); exact BK386.out⟩, ⟨by (with_reducible repeat (first | refine blk_drewN ?_ _ | refine blk_drew ?_ | refine blk_alloc ?_ _)); exact BK387.out⟩, ⟨by repeat (first | (with_reducible first | exact HB.out | apply below_alloc | apply pw_below_drewN | apply below_drew1 | refine below_set ?_ GE385.out | refine below_set ?_ GE386.out | refine below_set ?_ GE387.out) | exact HB.out)⟩⟩
    · replace c10 := Bool.eq_false_iff.mpr c10
      subst c10
      have H1 : (strip_Splice.j0 k a1 a2 true a0_0 l0_1 a3_0 l3_1) = some (r1, r2, r3) := by rw [if_neg (show ¬ (false = true) by decide)] at H; exact H
      clear H
      have H := H1
      clear H1
      have H' := Aside0.mk H
      clear H
      have hnb19 := NB385_386.out
      have hnc19 := NB386_385.out
      have hnb20 := NB385_387.out
      have hnc20 := NB387_385.out
      have hcz21_0 : w8.cell? ⟨gb385, 0, none⟩ = some (.string a0_0) := (blk_cell BK385.out 0).trans rfl
      have hcz21_1 : w8.cell? ⟨gb385, 1, none⟩ = some (.slice A0_1 l0_1.length c0_1) := (blk_cell BK385.out 1).trans rfl
      have hfz21_0 := blk_frozen BK385.out 0
      have hfz21_1 := blk_frozen BK385.out 1
      go_wp2_with (first | ((with_reducible refine gate_callee (f := 95) rfl ?_); refine goesL_ (some 15) rfl rfl Try.func95 (by kernel_rfl) rfl #[.agg #[.string a0_0, .slice A0_1 l0_1.length c0_1], .int .i64 a1, .int .i64 a2] rfl (by (try simp only [List.map_toArray, List.map_cons, List.map_nil]); first | done | rfl | (simp only [List.length_drop, List.length_take]; rfl)) ?_; (with_reducible refine (strip_within.calls k a0_0 _ _ l0_1 a1 a2 false _ ?side1 ?side2 A9.out).mono ?_); (case side1 => repeat (first | exact (Kd.C_below HR0_1.out HB.out) | (with_reducible refine Kd.C_alloc ?_ _) | (with_reducible refine Kd.C_drewN ?_ _) | (with_reducible refine Kd.C_drew ?_))); (case side2 => exact HC0_1.out); rintro e w22 ⟨rfl, hb⟩; refine ⟨_, rfl, ?_⟩; have n0_ := Aside0.mk (blk_below (g := gb385) (o := .cells #[.string a0_0, .slice A0_1 l0_1.length c0_1] 51 (0, 0)) (by (with_reducible repeat (first | refine blk_drewN ?_ _ | refine blk_drew ?_ | refine blk_alloc ?_ _)); exact BK385.out) hb); have n1_ := Aside0.mk (blk_below (g := gb386) (o := .cells #[.string a3_0, .slice A3_1 l3_1.length c3_1] 51 (0, 0)) (by (with_reducible repeat (first | refine blk_drewN ?_ _ | refine blk_drew ?_ | refine blk_alloc ?_ _)); exact BK386.out) hb); have n2_ := Aside0.mk (blk_below (g := gb387) (o := .cells #[.string (⟨#[]⟩ : ByteArray), .slice none 0 0] 51 (0, 0)) (by (with_reducible repeat (first | refine blk_drewN ?_ _ | refine blk_drew ?_ | refine blk_alloc ?_ _)); exact BK387.out) hb); have n3_ := Aside0.mk (below_step (by repeat (first | (with_reducible first | exact HB.out | apply below_alloc | apply pw_below_drewN | apply below_drew1 | refine below_set ?_ GE385.out | refine below_set ?_ GE386.out | refine below_set ?_ GE387.out) | exact HB.out)) hb); clear BK385; clear BK386; clear BK387; clear HB; have BK385 := n0_; have BK386 := n1_; have BK387 := n2_; have HB := n3_; clear n0_ n1_ n2_ n3_; (try clear hb); (try clear hb2); (try clear hk); (try clear hi)))
      go_meet
      case rel => exact ⟨_, (true), (by first | rfl | (simp; done) | (simp [*]; done)), H', ⟨by first | omega | exact Nat.le_refl _⟩, ⟨by (with_reducible repeat (first | refine blk_drewN ?_ _ | refine blk_drew ?_ | refine blk_alloc ?_ _)); exact BK385.out⟩, ⟨by (with_reducible repeat (first | refine blk_drewN ?_ _ | refine blk_drew ?_ | refine blk_alloc ?_ _)); exact BK386.out⟩, ⟨by (with_reducible repeat (first | refine blk_drewN ?_ _ | refine blk_drew ?_ | refine blk_alloc ?_ _)); exact BK387.out⟩, ⟨by repeat (first | (with_reducible first | exact HB.out | apply below_alloc | apply pw_below_drewN | apply below_drew1 | refine below_set ?_ GE385.out | refine below_set ?_ GE386.out | refine below_set ?_ GE387.out) | exact HB.out)⟩⟩
  case rest =>
    clear HC5
    try clear c1
    try clear c2
    try clear p2
    try clear c3
    try clear c5
    try clear c9
    try clear c10
    try clear c12
    try clear c13
    try clear c16
    try clear c19
    try clear c20
    try clear hcz14_0
    try clear hcz14_1
    try clear hcz17_0
    try clear hcz17_1
    try clear hcz21_0
    try clear hcz21_1
    try clear hfz14_0
    try clear hfz14_1
    try clear hfz17_0
    try clear hfz17_1
    try clear hfz21_0
    try clear hfz21_1
    obtain ⟨kq, x21_4, rfl, HA, HJ4, BK385, BK386, BK387, HB⟩ := hcut
    cases kq with
    | zero => exact absurd HA.out (by simp [strip_Splice.j0])
    | succ kj4 =>
      have H := HA.out
      clear HA
      simp only [strip_Splice.j0] at H
      by_cases c23 : x21_4 = true
      · subst c23
        have H1 : (some ((⟨#[]⟩ : ByteArray), ([] : List (S100)), 2)) = some (r1, r2, r3) := by rw [if_pos rfl] at H; exact H
        clear H
        have H := H1
        clear H1
        simp only [Option.some.injEq, Prod.mk.injEq] at H
        obtain ⟨rfl, rfl, rfl⟩ := H
        have hnb24 := NB387_385.out
        have hnc24 := NB385_387.out
        have hnb25 := NB387_386.out
        have hnc25 := NB386_387.out
        have hcz26_0 : wc.cell? ⟨gb387, 0, none⟩ = some (.string (⟨#[]⟩ : ByteArray)) := (blk_cell BK387.out 0).trans rfl
        have hcz26_1 : wc.cell? ⟨gb387, 1, none⟩ = some (.slice none 0 0) := (blk_cell BK387.out 1).trans rfl
        have hfz26_0 := blk_frozen BK387.out 0
        have hfz26_1 := blk_frozen BK387.out 1
        go_wp2
        refine bodyPost_ret (results_ct rfl _ _ gb387 51 #[.string (⟨#[]⟩ : ByteArray), .slice none 0 0] (0, 0) _ rfl (by (with_reducible repeat (first | refine blk_drewN ?_ _ | refine blk_drew ?_ | refine blk_alloc ?_ _)); refine blk_put (cs := #[.string (⟨#[]⟩ : ByteArray), .slice none 0 0]) ?_ 1 _ rfl; (with_reducible repeat (first | refine blk_drewN ?_ _ | refine blk_drew ?_ | refine blk_alloc ?_ _)); refine blk_put (cs := #[.string (⟨#[]⟩ : ByteArray), .slice none 0 0]) ?_ 0 _ rfl; (with_reducible repeat (first | refine blk_drewN ?_ _ | refine blk_drew ?_ | refine blk_alloc ?_ _)); exact BK387.out) Try.underlying51 rfl (by kernel_rfl)) rfl ?_
        exact ⟨_, by first | rfl | (simp [errW_none, errW_some] <;> rfl) | (simp [*, errW_none, errW_some] <;> rfl), by first | exact Kd.R_nil _ _ _ _ _ | exact Kd.N_nil _ _ _ _ _ | exact Kd.V_nil _ _ _ _ _ | exact Kd.Q_nil _ _ _ _ _ | exact Kd.S_nil _ _ _ _ _, by repeat (first | (with_reducible first | exact HB.out | apply below_alloc | apply pw_below_drewN | apply below_drew1 | refine below_set ?_ GE385.out | refine below_set ?_ GE386.out | refine below_set ?_ GE387.out) | exact HB.out)⟩
      · replace c23 := Bool.eq_false_iff.mpr c23
        subst c23
        have H1 : ((runs_Splice.f kj4 l0_1 a1 a2 l3_1).bind fun bt390 => (if bt390.2 = 0 then (if 0 ≤ a1 then (if a1 ≤ (a0_0.size : Int) then (if (a0_0.extract 0 (a1 : Int).toNat).size + a3_0.size ≤ 9223372036854775807 then (if 0 ≤ a2 then (if a2 ≤ (a0_0.size : Int) then (if ((a0_0.extract 0 (a1 : Int).toNat) ++ a3_0).size + (a0_0.extract (a2 : Int).toNat a0_0.size).size ≤ 9223372036854775807 then (some (((a0_0.extract 0 (a1 : Int).toNat) ++ a3_0) ++ (a0_0.extract (a2 : Int).toNat a0_0.size), bt390.1, 0)) else (none)) else (none)) else (none)) else (none)) else (none)) else (none)) else (some ((⟨#[]⟩ : ByteArray), ([] : List (S100)), bt390.2)))) = some (r1, r2, r3) := by rw [if_neg (show ¬ (false = true) by decide)] at H; exact H
        clear H
        have H := H1
        clear H1
        replace H := Option.bind_eq_some_iff.mp H
        obtain ⟨⟨t390, t391⟩, A270, H⟩ := H
        replace H : (if t391 = 0 then (if 0 ≤ a1 then (if a1 ≤ (a0_0.size : Int) then (if (a0_0.extract 0 (a1 : Int).toNat).size + a3_0.size ≤ 9223372036854775807 then (if 0 ≤ a2 then (if a2 ≤ (a0_0.size : Int) then (if ((a0_0.extract 0 (a1 : Int).toNat) ++ a3_0).size + (a0_0.extract (a2 : Int).toNat a0_0.size).size ≤ 9223372036854775807 then (some (((a0_0.extract 0 (a1 : Int).toNat) ++ a3_0) ++ (a0_0.extract (a2 : Int).toNat a0_0.size), t390, 0)) else (none)) else (none)) else (none)) else (none)) else (none)) else (none)) else (some ((⟨#[]⟩ : ByteArray), ([] : List (S100)), t391))) = some (r1, r2, r3) := H
        have A27 := Aside0.mk A270
        clear A270
        by_cases c28 : t391 = 0
        · rw [if_pos c28] at H
          have c28b0 : (t391 == 0) = true := beq_iff_eq.mpr c28
          have c28b1 : (t391 != 0) = false := bne_eq_false_iff_eq.mpr c28
          clear c28
          by_cases c29 : 0 ≤ a1
          · rw [if_pos c29] at H
            have c29b0 := eq_true c29
            have c29b1 : decide (0 ≤ a1) = true := decide_eq_true c29
            clear c29
            by_cases c30 : a1 ≤ (a0_0.size : Int)
            · rw [if_pos c30] at H
              have c30b0 := eq_true c30
              have c30b1 : decide (a1 ≤ (a0_0.size : Int)) = true := decide_eq_true c30
              clear c30
              by_cases c31 : (a0_0.extract 0 (a1 : Int).toNat).size + a3_0.size ≤ 9223372036854775807
              · rw [if_pos c31] at H
                have c31b0 := eq_true c31
                have c31b1 : decide ((a0_0.extract 0 (a1 : Int).toNat).size + a3_0.size ≤ 9223372036854775807) = true := decide_eq_true c31
                try have c31b2 : (9223372036854775807 < (a0_0.extract 0 (a1 : Int).toNat).size + a3_0.size) = False := eq_false (Nat.not_lt.2 c31)
                try (have c31c_ := c31; simp [go_sem, c29b0, c30b0] at c31c_; have c31d_ := eq_false (Nat.not_lt.2 c31c_); clear c31c_)
                by_cases c32 : 0 ≤ a2
                · rw [if_pos c32] at H
                  have c32b0 := eq_true c32
                  have c32b1 : decide (0 ≤ a2) = true := decide_eq_true c32
                  clear c32
                  by_cases c33 : a2 ≤ (a0_0.size : Int)
                  · rw [if_pos c33] at H
                    have c33b0 := eq_true c33
                    have c33b1 : decide (a2 ≤ (a0_0.size : Int)) = true := decide_eq_true c33
                    clear c33
                    by_cases c34 : ((a0_0.extract 0 (a1 : Int).toNat) ++ a3_0).size + (a0_0.extract (a2 : Int).toNat a0_0.size).size ≤ 9223372036854775807
                    · rw [if_pos c34] at H
                      have c34b0 := eq_true c34
                      have c34b1 : decide (((a0_0.extract 0 (a1 : Int).toNat) ++ a3_0).size + (a0_0.extract (a2 : Int).toNat a0_0.size).size ≤ 9223372036854775807) = true := decide_eq_true c34
                      try have c34b2 : (9223372036854775807 < ((a0_0.extract 0 (a1 : Int).toNat) ++ a3_0).size + (a0_0.extract (a2 : Int).toNat a0_0.size).size) = False := eq_false (Nat.not_lt.2 c34)
                      try (have c34c_ := c34; simp [go_sem, c29b0, c30b0, c31b0, c32b0, c33b0] at c34c_; have c34d_ := eq_false (Nat.not_lt.2 c34c_); clear c34c_)
                      simp only [Option.some.injEq, Prod.mk.injEq] at H
                      obtain ⟨rfl, rfl, rfl⟩ := H
                      have hnb35 := NB385_386.out
                      have hnc35 := NB386_385.out
                      have hnb36 := NB385_387.out
                      have hnc36 := NB387_385.out
                      have hcz37_0 : wc.cell? ⟨gb385, 0, none⟩ = some (.string a0_0) := (blk_cell BK385.out 0).trans rfl
                      have hcz37_1 : wc.cell? ⟨gb385, 1, none⟩ = some (.slice A0_1 l0_1.length c0_1) := (blk_cell BK385.out 1).trans rfl
                      have hfz37_0 := blk_frozen BK385.out 0
                      have hfz37_1 := blk_frozen BK385.out 1
                      have hnb38 := NB386_387.out
                      have hnc38 := NB387_386.out
                      have hcz39_0 : wc.cell? ⟨gb386, 0, none⟩ = some (.string a3_0) := (blk_cell BK386.out 0).trans rfl
                      have hcz39_1 : wc.cell? ⟨gb386, 1, none⟩ = some (.slice A3_1 l3_1.length c3_1) := (blk_cell BK386.out 1).trans rfl
                      have hfz39_0 := blk_frozen BK386.out 0
                      have hfz39_1 := blk_frozen BK386.out 1
                      try go_wp2_with (first | ((with_reducible refine gate_callee (f := 40) rfl ?_); refine goesL_ (some 30) rfl rfl Try.func40 (by kernel_rfl) rfl #[.slice A0_1 l0_1.length c0_1, .int .i64 a1, .int .i64 a2, .slice A3_1 l3_1.length c3_1] rfl (by (try simp only [List.map_toArray, List.map_cons, List.map_nil]); first | done | rfl | (simp only [List.length_drop, List.length_take]; rfl)) ?_; (with_reducible refine (runs_Splice.calls kj4 _ _ l0_1 a1 a2 _ _ l3_1 t390 t391 _ ?side1 ?side2 ?side3 ?side4 A27.out).mono ?_); (case side1 => repeat (first | exact (Kd.C_below HR0_1.out HB.out) | (with_reducible refine Kd.C_alloc ?_ _) | (with_reducible refine Kd.C_drewN ?_ _) | (with_reducible refine Kd.C_drew ?_))); (case side2 => exact HC0_1.out); (case side3 => repeat (first | exact (Kd.C_below HR3_1.out HB.out) | (with_reducible refine Kd.C_alloc ?_ _) | (with_reducible refine Kd.C_drewN ?_ _) | (with_reducible refine Kd.C_drew ?_))); (case side4 => exact HC3_1.out); rintro e w40 ⟨v392, rfl, ho0, hb⟩; refine ⟨_, rfl, ?_⟩; have n0_ := Aside0.mk (Kd.R_lower ho0 (below_size (by repeat (first | (with_reducible first | exact HB.out | apply below_alloc | apply pw_below_drewN | apply below_drew1 | refine below_set ?_ GE385.out | refine below_set ?_ GE386.out | refine below_set ?_ GE387.out) | exact HB.out)))); have n1_ := Aside0.mk (blk_below (g := gb385) (o := .cells #[.string a0_0, .slice A0_1 l0_1.length c0_1] 51 (0, 0)) (by (with_reducible repeat (first | refine blk_drewN ?_ _ | refine blk_drew ?_ | refine blk_alloc ?_ _)); exact BK385.out) hb); have n2_ := Aside0.mk (blk_below (g := gb386) (o := .cells #[.string a3_0, .slice A3_1 l3_1.length c3_1] 51 (0, 0)) (by (with_reducible repeat (first | refine blk_drewN ?_ _ | refine blk_drew ?_ | refine blk_alloc ?_ _)); exact BK386.out) hb); have n3_ := Aside0.mk (blk_below (g := gb387) (o := .cells #[.string (⟨#[]⟩ : ByteArray), .slice none 0 0] 51 (0, 0)) (by (with_reducible repeat (first | refine blk_drewN ?_ _ | refine blk_drew ?_ | refine blk_alloc ?_ _)); exact BK387.out) hb); have n4_ := Aside0.mk (below_step (by repeat (first | (with_reducible first | exact HB.out | apply below_alloc | apply pw_below_drewN | apply below_drew1 | refine below_set ?_ GE385.out | refine below_set ?_ GE386.out | refine below_set ?_ GE387.out) | exact HB.out)) hb); clear BK385; clear BK386; clear BK387; clear HB; have HO393 := n0_; have BK385 := n1_; have BK386 := n2_; have BK387 := n3_; have HB := n4_; clear n0_ n1_ n2_ n3_ n4_; (try clear hb); (try clear hb2); (try clear hk); (try clear hi); (try clear ho0)))
                      have n0_ := Aside0.mk (Kd.R_drew HO393.out)
                      have n1_ := Aside0.mk (blk_drew BK385.out)
                      have n2_ := Aside0.mk (blk_drew BK386.out)
                      have n3_ := Aside0.mk (blk_drew BK387.out)
                      have n4_ := Aside0.mk (below_drew1 HB.out)
                      clear HO393
                      clear BK385
                      clear BK386
                      clear BK387
                      clear HB
                      have HO393 := n0_
                      have BK385 := n1_
                      have BK386 := n2_
                      have BK387 := n3_
                      have HB := n4_
                      clear n0_ n1_ n2_ n3_ n4_
                      obtain ⟨Ao42, co42, eo42⟩ := Kd.R_slice HO393.out
                      (first | subst eo42 | (injection eo42 with f1_ f2_ f3_; have f4_ := f1_.symm; have f5_ := f3_.symm; clear f1_ f2_ f3_; subst f4_; subst f5_))
                      refine start_ (n := 16) (S := fun w' => w'.cell? ⟨gb385, 0, none⟩ = some (.string a0_0) ∧ w'.cell? ⟨gb385, 1, none⟩ = some (.slice A0_1 l0_1.length c0_1) ∧ w'.cell? ⟨gb386, 0, none⟩ = some (.string a3_0) ∧ w'.cell? ⟨gb386, 1, none⟩ = some (.slice A3_1 l3_1.length c3_1)) (ds := []) #[false, false, false, false, false, false, false, false, false, false, false, false, false, false, false, false] (by kernel_rfl) rfl rfl ⟨(blk_cell BK385.out 0).trans rfl, (blk_cell BK385.out 1).trans rfl, (blk_cell BK386.out 0).trans rfl, (blk_cell BK386.out 1).trans rfl⟩ (fun hHeld => ?_); refine with_tabW strip_Splice.tab6 strip_Splice.bits6 (fun HT_ HW_ => ?_)
                      generalize w40.drew = w41 at HO393 BK385 BK386 BK387 HB hHeld ⊢
                      refine pure_ (i := 0) (N := some 37) (v := ?_) (a' := ?_) #[true, false, false, false, false, false, false, false, false, false, false, false, false, false, false, false] rfl rfl (any_of HT_.out (by kernel_rfl)) (fun _ _ _ h => h) (Or.inl ⟨by rfl, ?_⟩) ?_ ?_
                      rotate_left
                      · intro w'
                        go_simp
                        with_reducible rfl
                      rotate_left
                      · simp only [Act.put, List.setIfInBounds_toArray, List.set_cons_zero, List.set_cons_succ, i64_w, i32_w]
                        rfl
                      refine pure_ (i := 2) (N := some 39) (v := ?_) (a' := ?_) #[true, false, true, false, false, false, false, false, false, false, false, false, false, false, false, false] rfl rfl (any_of HT_.out (by kernel_rfl)) (fun _ _ _ h => h) (Or.inl ⟨by rfl, ?_⟩) ?_ ?_
                      rotate_left
                      · intro w'
                        go_simp
                        with_reducible rfl
                      rotate_left
                      · simp only [Act.put, List.setIfInBounds_toArray, List.set_cons_zero, List.set_cons_succ, i64_w, i32_w]
                        rfl
                      refine pure_ (i := 4) (N := some 41) (v := ?_) (a' := ?_) #[true, false, true, false, true, false, false, false, false, false, false, false, false, false, false, false] rfl rfl (any_of HT_.out (by kernel_rfl)) (fun _ _ _ h => h) (Or.inl ⟨by rfl, ?_⟩) ?_ ?_
                      rotate_left
                      · intro w'
                        go_simp
                        with_reducible rfl
                      rotate_left
                      · simp only [Act.put, List.setIfInBounds_toArray, List.set_cons_zero, List.set_cons_succ, i64_w, i32_w]
                        rfl
                      refine pure_ (i := 7) (N := some 44) (v := ?_) (a' := ?_) #[true, false, true, false, true, false, false, true, false, false, false, false, false, false, false, false] rfl rfl (any_of HT_.out (by kernel_rfl)) (fun _ _ _ h => h) (Or.inl ⟨by rfl, ?_⟩) ?_ ?_
                      rotate_left
                      · intro w'
                        go_simp
                        with_reducible rfl
                      rotate_left
                      · simp only [Act.put, List.setIfInBounds_toArray, List.set_cons_zero, List.set_cons_succ, i64_w, i32_w]
                        rfl
                      refine pure_ (i := 9) (N := some 46) (v := ?_) (a' := ?_) #[true, false, true, false, true, false, false, true, false, true, false, false, false, false, false, false] rfl rfl (any_of HT_.out (by kernel_rfl)) (fun _ _ _ h => h) (Or.inl ⟨by rfl, ?_⟩) ?_ ?_
                      rotate_left
                      · intro w'
                        go_simp
                        with_reducible rfl
                      rotate_left
                      · simp only [Act.put, List.setIfInBounds_toArray, List.set_cons_zero, List.set_cons_succ, i64_w, i32_w]
                        rfl
                      refine pure_ (i := 12) (N := some 49) (v := ?_) (a' := ?_) #[true, false, true, false, true, false, false, true, false, true, false, false, true, false, false, false] rfl rfl (any_of HT_.out (by kernel_rfl)) (fun _ _ _ h => h) (Or.inl ⟨by rfl, ?_⟩) ?_ ?_
                      rotate_left
                      · intro w'
                        go_simp
                        with_reducible rfl
                      rotate_left
                      · simp only [Act.put, List.setIfInBounds_toArray, List.set_cons_zero, List.set_cons_succ, i64_w, i32_w]
                        rfl
                      refine take_ (i := 1) (N := some 38) (v := ?_) (a' := ?_) #[true, true, true, false, true, false, false, true, false, true, false, false, true, false, false, false] rfl rfl (take_ofW HT_.out HW_.out (by kernel_rfl)) (fun _ _ _ h => h) (Or.inl ⟨by rfl, ?_⟩) hHeld ?_ ?_
                      rotate_left
                      · rintro w' ⟨s0, s1, s2, s3⟩
                        go_simp
                        with_reducible rfl
                      rotate_left
                      · simp only [Act.put, List.setIfInBounds_toArray, List.set_cons_zero, List.set_cons_succ, i64_w, i32_w]
                        rfl
                      refine pure_ (i := 3) (N := some 40) (v := ?_) (a' := ?_) #[true, true, true, true, true, false, false, true, false, true, false, false, true, false, false, false] rfl rfl (any_of HT_.out (by kernel_rfl)) (fun _ _ _ h => h) (Or.inl ⟨by rfl, ?_⟩) ?_ ?_
                      rotate_left
                      · intro w'
                        go_simp
                        with_reducible rfl
                      rotate_left
                      · simp only [Act.put, List.setIfInBounds_toArray, List.set_cons_zero, List.set_cons_succ, i64_w, i32_w]
                        rfl
                      refine take_ (i := 5) (N := some 42) (v := ?_) (a' := ?_) #[true, true, true, true, true, true, false, true, false, true, false, false, true, false, false, false] rfl rfl (take_ofW HT_.out HW_.out (by kernel_rfl)) (fun _ _ _ h => h) (Or.inl ⟨by rfl, ?_⟩) hHeld ?_ ?_
                      rotate_left
                      · rintro w' ⟨s0, s1, s2, s3⟩
                        go_simp
                        with_reducible rfl
                      rotate_left
                      · simp only [Act.put, List.setIfInBounds_toArray, List.set_cons_zero, List.set_cons_succ, i64_w, i32_w]
                        rfl
                      refine pure_ (i := 6) (N := some 43) (v := ?_) (a' := ?_) #[true, true, true, true, true, true, true, true, false, true, false, false, true, false, false, false] rfl rfl (any_of HT_.out (by kernel_rfl)) (fun _ _ _ h => h) (Or.inl ⟨by rfl, ?_⟩) ?_ ?_
                      rotate_left
                      · intro w'
                        go_simp
                        with_reducible rfl
                      rotate_left
                      · simp only [Act.put, List.setIfInBounds_toArray, List.set_cons_zero, List.set_cons_succ, i64_w, i32_w]
                        rfl
                      refine take_ (i := 8) (N := some 45) (v := ?_) (a' := ?_) #[true, true, true, true, true, true, true, true, true, true, false, false, true, false, false, false] rfl rfl (take_ofW HT_.out HW_.out (by kernel_rfl)) (fun _ _ _ h => h) (Or.inl ⟨by rfl, ?_⟩) hHeld ?_ ?_
                      rotate_left
                      · rintro w' ⟨s0, s1, s2, s3⟩
                        go_simp
                        with_reducible rfl
                      rotate_left
                      · simp only [Act.put, List.setIfInBounds_toArray, List.set_cons_zero, List.set_cons_succ, i64_w, i32_w]
                        rfl
                      refine pure_ (i := 10) (N := some 47) (v := ?_) (a' := ?_) #[true, true, true, true, true, true, true, true, true, true, true, false, true, false, false, false] rfl rfl (any_of HT_.out (by kernel_rfl)) (fun _ _ _ h => h) (Or.inl ⟨by rfl, ?_⟩) ?_ ?_
                      rotate_left
                      · intro w'
                        go_simp
                        with_reducible rfl
                      rotate_left
                      · simp only [Act.put, List.setIfInBounds_toArray, List.set_cons_zero, List.set_cons_succ, i64_w, i32_w]
                        rfl
                      refine pure_ (i := 11) (N := some 48) (v := ?_) (a' := ?_) #[true, true, true, true, true, true, true, true, true, true, true, true, true, false, false, false] rfl rfl (any_of HT_.out (by kernel_rfl)) (fun _ _ _ h => h) (Or.inl ⟨by rfl, ?_⟩) ?_ ?_
                      rotate_left
                      · intro w'
                        go_simp
                        with_reducible rfl
                      rotate_left
                      · simp only [Act.put, List.setIfInBounds_toArray, List.set_cons_zero, List.set_cons_succ, i64_w, i32_w]
                        rfl
                      refine pure_ (i := 13) (N := some 50) (v := ?_) (a' := ?_) #[true, true, true, true, true, true, true, true, true, true, true, true, true, true, false, false] rfl rfl (any_of HT_.out (by kernel_rfl)) (fun _ _ _ h => h) (Or.inl ⟨by rfl, ?_⟩) ?_ ?_
                      rotate_left
                      · intro w'
                        go_simp
                        with_reducible rfl
                      rotate_left
                      · simp only [Act.put, List.setIfInBounds_toArray, List.set_cons_zero, List.set_cons_succ, i64_w, i32_w]
                        rfl
                      refine one_ (i := 14) (N := none) #[true, true, true, true, true, true, true, true, true, true, true, true, true, true, true, false] rfl rfl (one_of HT_.out (by kernel_rfl)) (by decide) (fun K hK => ?_)
                      have hs43 : w41.cell? ⟨gb387, 0, none⟩ = some (.string (⟨#[]⟩ : ByteArray)) := (blk_cell BK387.out 0).trans rfl
                      have hfs43 := blk_frozen BK387.out 0
                      have hns43_0 := NB385_387.out
                      have hns43_1 := NB386_387.out
                      have hms43_0 := NB387_385.out
                      have hms43_1 := NB387_386.out
                      have hs44 : w41.cell? ⟨gb387, 1, none⟩ = some (.slice none 0 0) := (blk_cell BK387.out 1).trans rfl
                      have hfs44 := blk_frozen BK387.out 1
                      have hns44_0 := NB385_387.out
                      have hns44_1 := NB386_387.out
                      have hms44_0 := NB387_385.out
                      have hms44_1 := NB387_386.out
                      refine skip_ (w1 := ?_) (by rfl) rfl ?_ ?_
                      rotate_left
                      · go_simp
                        rfl
                      refine hK.out _ _ ⟨((cell_far (p := ⟨gb387, _, none⟩) NB385_387.out _).trans (((cell_far (p := ⟨gb387, _, none⟩) NB385_387.out _).trans (hHeld.1)))), ((cell_far (p := ⟨gb387, _, none⟩) NB385_387.out _).trans (((cell_far (p := ⟨gb387, _, none⟩) NB385_387.out _).trans (hHeld.2.1)))), ((cell_far (p := ⟨gb387, _, none⟩) NB386_387.out _).trans (((cell_far (p := ⟨gb387, _, none⟩) NB386_387.out _).trans (hHeld.2.2.1)))), ((cell_far (p := ⟨gb387, _, none⟩) NB386_387.out _).trans (((cell_far (p := ⟨gb387, _, none⟩) NB386_387.out _).trans (hHeld.2.2.2))))⟩ (fun hHeld => ?_)
                      clear hK K
                      refine pure_ (i := 15) (N := some 9) (v := ?_) (a' := ?_) #[true, true, true, true, true, true, true, true, true, true, true, true, true, true, true, true] rfl rfl (any_of HT_.out (by kernel_rfl)) (fun _ _ _ h => h) (Or.inl ⟨by rfl, ?_⟩) ?_ ?_
                      rotate_left
                      · intro w'
                        go_simp
                        with_reducible rfl
                      rotate_left
                      · simp only [Act.put, List.setIfInBounds_toArray, List.set_cons_zero, List.set_cons_succ, i64_w, i32_w]
                        rfl
                      refine done_ (done_of HT_.out (by kernel_rfl)) ?_
                      try go_wp2
                      refine bodyPost_ret (results_ct rfl _ _ gb387 51 #[.string (((a0_0.extract 0 (a1 : Int).toNat) ++ a3_0) ++ (a0_0.extract (a2 : Int).toNat a0_0.size)), .slice Ao42 t390.length co42] (0, 0) _ rfl (by (with_reducible repeat (first | refine blk_drewN ?_ _ | refine blk_drew ?_ | refine blk_alloc ?_ _)); refine blk_put (cs := #[.string (((a0_0.extract 0 (a1 : Int).toNat) ++ a3_0) ++ (a0_0.extract (a2 : Int).toNat a0_0.size)), .slice none 0 0]) ?_ 1 _ rfl; (with_reducible repeat (first | refine blk_drewN ?_ _ | refine blk_drew ?_ | refine blk_alloc ?_ _)); refine blk_put (cs := #[.string (⟨#[]⟩ : ByteArray), .slice none 0 0]) ?_ 0 _ rfl; (with_reducible repeat (first | refine blk_drewN ?_ _ | refine blk_drew ?_ | refine blk_alloc ?_ _)); exact BK387.out) Try.underlying51 rfl (by kernel_rfl)) rfl ?_
                      exact ⟨_, by first | rfl | (simp [errW_none, errW_some] <;> rfl) | (simp [*, errW_none, errW_some] <;> rfl), by (with_reducible repeat (first | apply Kd.R_alloc | apply Kd.R_drewN | apply Kd.R_drew)); exact Kd.R_mono (Kd.R_far (p := ⟨gb387, 1, none⟩) (Kd.R_far (p := ⟨gb387, 0, none⟩) (Kd.R_types HO393.out BK387.out (by decide)) (fun _ hk => hk.2) (.string (((a0_0.extract 0 (a1 : Int).toNat) ++ a3_0) ++ (a0_0.extract (a2 : Int).toNat a0_0.size)))) (fun _ hk => hk.2) (.slice Ao42 t390.length co42)) (fun _ hk => trivial), by repeat (first | (with_reducible first | exact HB.out | apply below_alloc | apply pw_below_drewN | apply below_drew1 | refine below_set ?_ GE385.out | refine below_set ?_ GE386.out | refine below_set ?_ GE387.out) | exact HB.out)⟩
                    · rw [if_neg c34] at H
                      exact absurd H (by simp)
                  · rw [if_neg c33] at H
                    exact absurd H (by simp)
                · rw [if_neg c32] at H
                  exact absurd H (by simp)
              · rw [if_neg c31] at H
                exact absurd H (by simp)
            · rw [if_neg c30] at H
              exact absurd H (by simp)
          · rw [if_neg c29] at H
            exact absurd H (by simp)
        · rw [if_neg c28] at H
          have c28b0 : (t391 == 0) = false := beq_eq_false_iff_ne.mpr c28
          have c28b1 : (t391 != 0) = true := bne_iff_ne.mpr c28
          simp only [Option.some.injEq, Prod.mk.injEq] at H
          obtain ⟨rfl, rfl, rfl⟩ := H
          have hnb45 := NB385_386.out
          have hnc45 := NB386_385.out
          have hnb46 := NB385_387.out
          have hnc46 := NB387_385.out
          have hcz47_0 : wc.cell? ⟨gb385, 0, none⟩ = some (.string a0_0) := (blk_cell BK385.out 0).trans rfl
          have hcz47_1 : wc.cell? ⟨gb385, 1, none⟩ = some (.slice A0_1 l0_1.length c0_1) := (blk_cell BK385.out 1).trans rfl
          have hfz47_0 := blk_frozen BK385.out 0
          have hfz47_1 := blk_frozen BK385.out 1
          have hnb48 := NB386_387.out
          have hnc48 := NB387_386.out
          have hcz49_0 : wc.cell? ⟨gb386, 0, none⟩ = some (.string a3_0) := (blk_cell BK386.out 0).trans rfl
          have hcz49_1 : wc.cell? ⟨gb386, 1, none⟩ = some (.slice A3_1 l3_1.length c3_1) := (blk_cell BK386.out 1).trans rfl
          have hfz49_0 := blk_frozen BK386.out 0
          have hfz49_1 := blk_frozen BK386.out 1
          go_wp2_with (first | ((with_reducible refine gate_callee (f := 40) rfl ?_); refine goesL_ (some 30) rfl rfl Try.func40 (by kernel_rfl) rfl #[.slice A0_1 l0_1.length c0_1, .int .i64 a1, .int .i64 a2, .slice A3_1 l3_1.length c3_1] rfl (by (try simp only [List.map_toArray, List.map_cons, List.map_nil]); first | done | rfl | (simp only [List.length_drop, List.length_take]; rfl)) ?_; (with_reducible refine (runs_Splice.calls kj4 _ _ l0_1 a1 a2 _ _ l3_1 t390 t391 _ ?side1 ?side2 ?side3 ?side4 A27.out).mono ?_); (case side1 => repeat (first | exact (Kd.C_below HR0_1.out HB.out) | (with_reducible refine Kd.C_alloc ?_ _) | (with_reducible refine Kd.C_drewN ?_ _) | (with_reducible refine Kd.C_drew ?_))); (case side2 => exact HC0_1.out); (case side3 => repeat (first | exact (Kd.C_below HR3_1.out HB.out) | (with_reducible refine Kd.C_alloc ?_ _) | (with_reducible refine Kd.C_drewN ?_ _) | (with_reducible refine Kd.C_drew ?_))); (case side4 => exact HC3_1.out); rintro e w50 ⟨v392, rfl, ho0, hb⟩; refine ⟨_, rfl, ?_⟩; have n0_ := Aside0.mk (Kd.R_lower ho0 (below_size (by repeat (first | (with_reducible first | exact HB.out | apply below_alloc | apply pw_below_drewN | apply below_drew1 | refine below_set ?_ GE385.out | refine below_set ?_ GE386.out | refine below_set ?_ GE387.out) | exact HB.out)))); have n1_ := Aside0.mk (blk_below (g := gb385) (o := .cells #[.string a0_0, .slice A0_1 l0_1.length c0_1] 51 (0, 0)) (by (with_reducible repeat (first | refine blk_drewN ?_ _ | refine blk_drew ?_ | refine blk_alloc ?_ _)); exact BK385.out) hb); have n2_ := Aside0.mk (blk_below (g := gb386) (o := .cells #[.string a3_0, .slice A3_1 l3_1.length c3_1] 51 (0, 0)) (by (with_reducible repeat (first | refine blk_drewN ?_ _ | refine blk_drew ?_ | refine blk_alloc ?_ _)); exact BK386.out) hb); have n3_ := Aside0.mk (blk_below (g := gb387) (o := .cells #[.string (⟨#[]⟩ : ByteArray), .slice none 0 0] 51 (0, 0)) (by (with_reducible repeat (first | refine blk_drewN ?_ _ | refine blk_drew ?_ | refine blk_alloc ?_ _)); exact BK387.out) hb); have n4_ := Aside0.mk (below_step (by repeat (first | (with_reducible first | exact HB.out | apply below_alloc | apply pw_below_drewN | apply below_drew1 | refine below_set ?_ GE385.out | refine below_set ?_ GE386.out | refine below_set ?_ GE387.out) | exact HB.out)) hb); clear BK385; clear BK386; clear BK387; clear HB; have HO393 := n0_; have BK385 := n1_; have BK386 := n2_; have BK387 := n3_; have HB := n4_; clear n0_ n1_ n2_ n3_ n4_; (try clear hb); (try clear hb2); (try clear hk); (try clear hi); (try clear ho0); have hcz51_0 : w50.cell? ⟨gb387, 0, none⟩ = some (.string (⟨#[]⟩ : ByteArray)) := (blk_cell BK387.out 0).trans rfl; have hcz51_1 : w50.cell? ⟨gb387, 1, none⟩ = some (.slice none 0 0) := (blk_cell BK387.out 1).trans rfl; have hfz51_0 := blk_frozen BK387.out 0; have hfz51_1 := blk_frozen BK387.out 1))
          refine bodyPost_ret (results_ct rfl _ _ gb387 51 #[.string (⟨#[]⟩ : ByteArray), .slice none 0 0] (0, 0) _ rfl (by (with_reducible repeat (first | refine blk_drewN ?_ _ | refine blk_drew ?_ | refine blk_alloc ?_ _)); refine blk_put (cs := #[.string (⟨#[]⟩ : ByteArray), .slice none 0 0]) ?_ 1 _ rfl; (with_reducible repeat (first | refine blk_drewN ?_ _ | refine blk_drew ?_ | refine blk_alloc ?_ _)); refine blk_put (cs := #[.string (⟨#[]⟩ : ByteArray), .slice none 0 0]) ?_ 0 _ rfl; (with_reducible repeat (first | refine blk_drewN ?_ _ | refine blk_drew ?_ | refine blk_alloc ?_ _)); exact BK387.out) Try.underlying51 rfl (by kernel_rfl)) rfl ?_
          exact ⟨_, by first | rfl | (simp [errW_none, errW_some] <;> rfl) | (simp [*, errW_none, errW_some] <;> rfl), by first | exact Kd.R_nil _ _ _ _ _ | exact Kd.N_nil _ _ _ _ _ | exact Kd.V_nil _ _ _ _ _ | exact Kd.Q_nil _ _ _ _ _ | exact Kd.S_nil _ _ _ _ _, by repeat (first | (with_reducible first | exact HB.out | apply below_alloc | apply pw_below_drewN | apply below_drew1 | refine below_set ?_ GE385.out | refine below_set ?_ GE386.out | refine below_set ?_ GE387.out) | exact HB.out)⟩
end Go.Proofs.Ythpjagblnddjaaa.PB
end

section
namespace Go.Proofs.Ythpjagblnddjaaa.PB
open Go.RowKit Go.Proofs.YthpjagblnddjaaaW.PrintWords Go.Proofs.YthpjagblnddjaaaW.PrintLast Go.Proofs.YthpjagblnddjaaaW.PrintMore
attribute [local go_sem] max2_int min2_int max_two min_two max_three min_three max_four min_four   
set_option linter.unusedVariables false
set_option linter.unusedSimpArgs false
def strip_Cut.f (k : Nat) (a0_0 : ByteArray) (l0_1 : List (S100)) (a1 : Int) (a2 : Int) : Option (ByteArray × (List (S100)) × Int) := (strip_within.f k a0_0 l0_1 a1 a2).bind fun t514 => (if t514 = true then ((runs_Slice.f k l0_1 a1 a2).bind fun bt515 => (if 0 ≤ a1 then (if a1 ≤ a2 then (if a2 ≤ (a0_0.size : Int) then (some (a0_0.extract (a1 : Int).toNat (a2 : Int).toNat, bt515.1, bt515.2)) else (none)) else (none)) else (none))) else (some ((⟨#[]⟩ : ByteArray), ([] : List (S100)), 2)))
theorem strip_Cut.mono : ∀ a0 a1 a2 a3 k, LeO (strip_Cut.f k a0 a1 a2 a3) (strip_Cut.f (k + 1) a0 a1 a2 a3) := by
  intro a0 a1 a2 a3 k
  unfold strip_Cut.f
  repeat' first
      | (with_reducible exact runs_Slice.mono _ _ _ _)
      | (with_reducible exact strip_within.mono _ _ _ _ _)
      | (with_reducible exact LeO.refl _)
      | (with_reducible exact LeO.none _)
      | (with_reducible refine LeO.ite ?_ ?_)
      | (with_reducible refine LeO.bind ?_ (fun _ => ?_))
      | exact runs_Slice.mono _ _ _ _
      | exact strip_within.mono _ _ _ _ _
      | exact LeO.none _
      | refine LeO.ite ?_ ?_
      | refine LeO.bind ?_ (fun _ => ?_)
set_option maxHeartbeats 8000000 in
set_option maxRecDepth 100000 in
theorem strip_Cut.calls (k : Nat) (a0_0 : ByteArray) (A0_1 : Option Addr) (c0_1 : Nat) (l0_1 : List (S100)) (a1 : Int) (a2 : Int) (r1 : ByteArray) (r2 : List (S100)) (r3 : Int) (w : World) (hr0_1 : Kd.C k100 w A0_1 l0_1.length l0_1) (hc0_1 : l0_1.length ≤ c0_1) (h : strip_Cut.f k a0_0 l0_1 a1 a2 = some (r1, r2, r3)) :
    Calls Try.prog 73 #[.agg #[.string a0_0, .slice A0_1 l0_1.length c0_1], .int .i64 a1, .int .i64 a2] w fun e w' => ∃ v1_ : Value, e = .returned (.tuple #[.agg #[.string r1, v1_], .int .i64 r3]) ∧ Kd.R k100 100 w' w.heap.size (fun _ => True) v1_ r2 ∧ Below w.heap.size w w' := by
  have hu51 := Try.underlying51
  have HR0_1 := Aside0.mk hr0_1
  have HC0_1 := Aside0.mk hc0_1
  clear hr0_1 hc0_1
  have HB := Aside0.mk (Below.refl w.heap.size w)
  have H : ((strip_within.f k a0_0 l0_1 a1 a2).bind fun t514 => (if t514 = true then ((runs_Slice.f k l0_1 a1 a2).bind fun bt515 => (if 0 ≤ a1 then (if a1 ≤ a2 then (if a2 ≤ (a0_0.size : Int) then (some (a0_0.extract (a1 : Int).toNat (a2 : Int).toNat, bt515.1, bt515.2)) else (none)) else (none)) else (none))) else (some ((⟨#[]⟩ : ByteArray), ([] : List (S100)), 2)))) = some (r1, r2, r3) := h
  clear h
  replace H := Option.bind_eq_some_iff.mp H
  obtain ⟨t514, A40, H⟩ := H
  replace H : (if t514 = true then ((runs_Slice.f k l0_1 a1 a2).bind fun bt515 => (if 0 ≤ a1 then (if a1 ≤ a2 then (if a2 ≤ (a0_0.size : Int) then (some (a0_0.extract (a1 : Int).toNat (a2 : Int).toNat, bt515.1, bt515.2)) else (none)) else (none)) else (none))) else (some ((⟨#[]⟩ : ByteArray), ([] : List (S100)), 2))) = some (r1, r2, r3) := H
  have A4 := Aside0.mk A40
  clear A40
  by_cases c5 : t514 = true
  · subst c5
    have H1 : ((runs_Slice.f k l0_1 a1 a2).bind fun bt515 => (if 0 ≤ a1 then (if a1 ≤ a2 then (if a2 ≤ (a0_0.size : Int) then (some (a0_0.extract (a1 : Int).toNat (a2 : Int).toNat, bt515.1, bt515.2)) else (none)) else (none)) else (none))) = some (r1, r2, r3) := by rw [if_pos rfl] at H; exact H
    clear H
    have H := H1
    clear H1
    replace H := Option.bind_eq_some_iff.mp H
    obtain ⟨⟨t515, t516⟩, A60, H⟩ := H
    replace H : (if 0 ≤ a1 then (if a1 ≤ a2 then (if a2 ≤ (a0_0.size : Int) then (some (a0_0.extract (a1 : Int).toNat (a2 : Int).toNat, t515, t516)) else (none)) else (none)) else (none)) = some (r1, r2, r3) := H
    have A6 := Aside0.mk A60
    clear A60
    by_cases c7 : 0 ≤ a1
    · rw [if_pos c7] at H
      have c7b0 := eq_true c7
      have c7b1 : decide (0 ≤ a1) = true := decide_eq_true c7
      clear c7
      by_cases c8 : a1 ≤ a2
      · rw [if_pos c8] at H
        have c8b0 := eq_true c8
        have c8b1 : decide (a1 ≤ a2) = true := decide_eq_true c8
        clear c8
        by_cases c9 : a2 ≤ (a0_0.size : Int)
        · rw [if_pos c9] at H
          have c9b0 := eq_true c9
          have c9b1 : decide (a2 ≤ (a0_0.size : Int)) = true := decide_eq_true c9
          clear c9
          simp only [Option.some.injEq, Prod.mk.injEq] at H
          obtain ⟨rfl, rfl, rfl⟩ := H
          go_enter Try.func73, Try.ntmps73
          go_wp2_with (first | ((with_reducible refine gate_dst (N := 3) rfl ?_); refine box_event ?hg (N := 3) ?hd (cs := #[.string a0_0, .slice A0_1 l0_1.length c0_1]) (t := 51) ?hr ?_; (case hd => rfl); (case hg => rfl); (case hr => first | (go_simp; done) | (go_simp; rfl)); intro gb512 hg w10 hbox hb; have n0_ := Aside0.mk (below_step (by repeat (first | (with_reducible first | exact HB.out | apply below_alloc | apply pw_below_drewN | apply below_drew1) | exact HB.out)) hb); have n1_ := Aside0.mk (hbox); have n2_ := Aside0.mk ((by rw [hg]; exact (below_size (by repeat (first | (with_reducible first | exact HB.out | apply below_alloc | apply pw_below_drewN | apply below_drew1) | exact HB.out))) : w.heap.size ≤ gb512)); have n3_ := Aside0.mk ((by rw [hg]; exact (below_size (by repeat (first | (with_reducible first | exact HB.out | apply below_alloc | apply pw_below_drewN | apply below_drew1) | exact HB.out))) : w.heap.size ≤ gb512)); clear HB; have HB := n0_; have BK512 := n1_; have GW512 := n2_; have GE512 := n3_; clear n0_ n1_ n2_ n3_; clear hb hbox hg) | ((with_reducible refine gate_dst (N := 6) rfl ?_); refine box_event ?hg (N := 6) ?hd (cs := #[.string (⟨#[]⟩ : ByteArray), .slice none 0 0]) (t := 51) ?hr ?_; (case hd => rfl); (case hg => rfl); (case hr => first | (go_simp; done) | (go_simp; rfl)); intro gb513 hg w11 hbox hb; have n0_ := Aside0.mk (blk_below (g := gb512) (o := .cells #[.string a0_0, .slice A0_1 l0_1.length c0_1] 51 (0, 0)) (by (with_reducible repeat (first | refine blk_drewN ?_ _ | refine blk_drew ?_ | refine blk_alloc ?_ _)); exact BK512.out) hb); have n1_ := Aside0.mk (below_step (by repeat (first | (with_reducible first | exact HB.out | apply below_alloc | apply pw_below_drewN | apply below_drew1 | refine below_set ?_ GE512.out) | exact HB.out)) hb); have n2_ := Aside0.mk (hbox); have n3_ := Aside0.mk ((by rw [hg]; exact (below_size (by repeat (first | (with_reducible first | exact HB.out | apply below_alloc | apply pw_below_drewN | apply below_drew1 | refine below_set ?_ GE512.out) | exact HB.out))) : w.heap.size ≤ gb513)); have n4_ := Aside0.mk ((by rw [hg]; exact (below_size (by repeat (first | (with_reducible first | exact HB.out | apply below_alloc | apply pw_below_drewN | apply below_drew1 | refine below_set ?_ GE512.out) | exact HB.out))) : w.heap.size ≤ gb513)); have n5_ := Aside0.mk ((by rw [hg]; exact Nat.ne_of_lt (blk_lt (g := gb512) (o := .cells #[.string a0_0, .slice A0_1 l0_1.length c0_1] 51 (0, 0)) (by (with_reducible repeat (first | refine blk_drewN ?_ _ | refine blk_drew ?_ | refine blk_alloc ?_ _)); exact BK512.out)) : gb512 ≠ gb513)); have n6_ := Aside0.mk ((by rw [hg]; exact Nat.ne_of_gt (blk_lt (g := gb512) (o := .cells #[.string a0_0, .slice A0_1 l0_1.length c0_1] 51 (0, 0)) (by (with_reducible repeat (first | refine blk_drewN ?_ _ | refine blk_drew ?_ | refine blk_alloc ?_ _)); exact BK512.out)) : gb513 ≠ gb512)); clear BK512; clear HB; have BK512 := n0_; have HB := n1_; have BK513 := n2_; have GW513 := n3_; have GE513 := n4_; have NB512_513 := n5_; have NB513_512 := n6_; clear n0_ n1_ n2_ n3_ n4_ n5_ n6_; clear hb hbox hg; have hnb12 := NB512_513.out; have hnc12 := NB513_512.out; have hcz13_0 : w11.cell? ⟨gb512, 0, none⟩ = some (.string a0_0) := (blk_cell BK512.out 0).trans rfl; have hcz13_1 : w11.cell? ⟨gb512, 1, none⟩ = some (.slice A0_1 l0_1.length c0_1) := (blk_cell BK512.out 1).trans rfl; have hfz13_0 := blk_frozen BK512.out 0; have hfz13_1 := blk_frozen BK512.out 1) | ((with_reducible refine gate_callee (f := 95) rfl ?_); refine goesL_ (some 13) rfl rfl Try.func95 (by kernel_rfl) rfl #[.agg #[.string a0_0, .slice A0_1 l0_1.length c0_1], .int .i64 a1, .int .i64 a2] rfl (by (try simp only [List.map_toArray, List.map_cons, List.map_nil]); first | done | rfl | (simp only [List.length_drop, List.length_take]; rfl)) ?_; (with_reducible refine (strip_within.calls k a0_0 _ _ l0_1 a1 a2 true _ ?side1 ?side2 A4.out).mono ?_); (case side1 => repeat (first | exact (Kd.C_below HR0_1.out HB.out) | (with_reducible refine Kd.C_alloc ?_ _) | (with_reducible refine Kd.C_drewN ?_ _) | (with_reducible refine Kd.C_drew ?_))); (case side2 => exact HC0_1.out); rintro e w14 ⟨rfl, hb⟩; refine ⟨_, rfl, ?_⟩; have n0_ := Aside0.mk (blk_below (g := gb512) (o := .cells #[.string a0_0, .slice A0_1 l0_1.length c0_1] 51 (0, 0)) (by (with_reducible repeat (first | refine blk_drewN ?_ _ | refine blk_drew ?_ | refine blk_alloc ?_ _)); exact BK512.out) hb); have n1_ := Aside0.mk (blk_below (g := gb513) (o := .cells #[.string (⟨#[]⟩ : ByteArray), .slice none 0 0] 51 (0, 0)) (by (with_reducible repeat (first | refine blk_drewN ?_ _ | refine blk_drew ?_ | refine blk_alloc ?_ _)); exact BK513.out) hb); have n2_ := Aside0.mk (below_step (by repeat (first | (with_reducible first | exact HB.out | apply below_alloc | apply pw_below_drewN | apply below_drew1 | refine below_set ?_ GE512.out | refine below_set ?_ GE513.out) | exact HB.out)) hb); clear BK512; clear BK513; clear HB; have BK512 := n0_; have BK513 := n1_; have HB := n2_; clear n0_ n1_ n2_; (try clear hb); (try clear hb2); (try clear hk); (try clear hi); have hcz15_0 : w14.cell? ⟨gb512, 0, none⟩ = some (.string a0_0) := (blk_cell BK512.out 0).trans rfl; have hcz15_1 : w14.cell? ⟨gb512, 1, none⟩ = some (.slice A0_1 l0_1.length c0_1) := (blk_cell BK512.out 1).trans rfl; have hfz15_0 := blk_frozen BK512.out 0; have hfz15_1 := blk_frozen BK512.out 1) | ((with_reducible refine gate_callee (f := 32) rfl ?_); refine goesL_ (some 21) rfl rfl Try.func32 (by kernel_rfl) rfl #[.slice A0_1 l0_1.length c0_1, .int .i64 a1, .int .i64 a2] rfl (by (try simp only [List.map_toArray, List.map_cons, List.map_nil]); first | done | rfl | (simp only [List.length_drop, List.length_take]; rfl)) ?_; (with_reducible refine (runs_Slice.calls k _ _ l0_1 a1 a2 t515 t516 _ ?side1 ?side2 A6.out).mono ?_); (case side1 => repeat (first | exact (Kd.C_below HR0_1.out HB.out) | (with_reducible refine Kd.C_alloc ?_ _) | (with_reducible refine Kd.C_drewN ?_ _) | (with_reducible refine Kd.C_drew ?_))); (case side2 => exact HC0_1.out); rintro e w16 ⟨v517, rfl, ho0, hb⟩; refine ⟨_, rfl, ?_⟩; have n0_ := Aside0.mk (Kd.R_lower ho0 (below_size (by repeat (first | (with_reducible first | exact HB.out | apply below_alloc | apply pw_below_drewN | apply below_drew1 | refine below_set ?_ GE512.out | refine below_set ?_ GE513.out) | exact HB.out)))); have n1_ := Aside0.mk (blk_below (g := gb512) (o := .cells #[.string a0_0, .slice A0_1 l0_1.length c0_1] 51 (0, 0)) (by (with_reducible repeat (first | refine blk_drewN ?_ _ | refine blk_drew ?_ | refine blk_alloc ?_ _)); exact BK512.out) hb); have n2_ := Aside0.mk (blk_below (g := gb513) (o := .cells #[.string (⟨#[]⟩ : ByteArray), .slice none 0 0] 51 (0, 0)) (by (with_reducible repeat (first | refine blk_drewN ?_ _ | refine blk_drew ?_ | refine blk_alloc ?_ _)); exact BK513.out) hb); have n3_ := Aside0.mk (below_step (by repeat (first | (with_reducible first | exact HB.out | apply below_alloc | apply pw_below_drewN | apply below_drew1 | refine below_set ?_ GE512.out | refine below_set ?_ GE513.out) | exact HB.out)) hb); clear BK512; clear BK513; clear HB; have HO518 := n0_; have BK512 := n1_; have BK513 := n2_; have HB := n3_; clear n0_ n1_ n2_ n3_; (try clear hb); (try clear hb2); (try clear hk); (try clear hi); (try clear ho0); have hcz17_0 : w16.cell? ⟨gb512, 0, none⟩ = some (.string a0_0) := (blk_cell BK512.out 0).trans rfl; have hcz17_1 : w16.cell? ⟨gb512, 1, none⟩ = some (.slice A0_1 l0_1.length c0_1) := (blk_cell BK512.out 1).trans rfl; have hfz17_0 := blk_frozen BK512.out 0; have hfz17_1 := blk_frozen BK512.out 1; obtain ⟨Ao18, co18, eo18⟩ := Kd.R_slice HO518.out; subst eo18; have hcz19_0 : w16.cell? ⟨gb513, 0, none⟩ = some (.string (⟨#[]⟩ : ByteArray)) := (blk_cell BK513.out 0).trans rfl; have hcz19_1 : w16.cell? ⟨gb513, 1, none⟩ = some (.slice none 0 0) := (blk_cell BK513.out 1).trans rfl; have hfz19_0 := blk_frozen BK513.out 0; have hfz19_1 := blk_frozen BK513.out 1))
          refine bodyPost_ret (results_ct rfl _ _ gb513 51 #[.string (a0_0.extract (a1 : Int).toNat (a2 : Int).toNat), .slice Ao18 t515.length co18] (0, 0) _ rfl (by (with_reducible repeat (first | refine blk_drewN ?_ _ | refine blk_drew ?_ | refine blk_alloc ?_ _)); refine blk_put (cs := #[.string (a0_0.extract (a1 : Int).toNat (a2 : Int).toNat), .slice none 0 0]) ?_ 1 _ rfl; (with_reducible repeat (first | refine blk_drewN ?_ _ | refine blk_drew ?_ | refine blk_alloc ?_ _)); refine blk_put (cs := #[.string (⟨#[]⟩ : ByteArray), .slice none 0 0]) ?_ 0 _ rfl; (with_reducible repeat (first | refine blk_drewN ?_ _ | refine blk_drew ?_ | refine blk_alloc ?_ _)); exact BK513.out) Try.underlying51 rfl (by kernel_rfl)) rfl ?_
          exact ⟨_, by first | rfl | (simp [errW_none, errW_some] <;> rfl) | (simp [*, errW_none, errW_some] <;> rfl), by (with_reducible repeat (first | apply Kd.R_alloc | apply Kd.R_drewN | apply Kd.R_drew)); exact Kd.R_mono (Kd.R_far (p := ⟨gb513, 1, none⟩) (Kd.R_far (p := ⟨gb513, 0, none⟩) (Kd.R_types HO518.out BK513.out (by decide)) (fun _ hk => hk.2) (.string (a0_0.extract (a1 : Int).toNat (a2 : Int).toNat))) (fun _ hk => hk.2) (.slice Ao18 t515.length co18)) (fun _ hk => trivial), by repeat (first | (with_reducible first | exact HB.out | apply below_alloc | apply pw_below_drewN | apply below_drew1 | refine below_set ?_ GE512.out | refine below_set ?_ GE513.out) | exact HB.out)⟩
        · rw [if_neg c9] at H
          exact absurd H (by simp)
      · rw [if_neg c8] at H
        exact absurd H (by simp)
    · rw [if_neg c7] at H
      exact absurd H (by simp)
  · replace c5 := Bool.eq_false_iff.mpr c5
    subst c5
    have H1 : (some ((⟨#[]⟩ : ByteArray), ([] : List (S100)), 2)) = some (r1, r2, r3) := by rw [if_neg (show ¬ (false = true) by decide)] at H; exact H
    clear H
    have H := H1
    clear H1
    simp only [Option.some.injEq, Prod.mk.injEq] at H
    obtain ⟨rfl, rfl, rfl⟩ := H
    go_enter Try.func73, Try.ntmps73
    go_wp2_with (first | ((with_reducible refine gate_dst (N := 3) rfl ?_); refine box_event ?hg (N := 3) ?hd (cs := #[.string a0_0, .slice A0_1 l0_1.length c0_1]) (t := 51) ?hr ?_; (case hd => rfl); (case hg => rfl); (case hr => first | (go_simp; done) | (go_simp; rfl)); intro gb512 hg w20 hbox hb; have n0_ := Aside0.mk (below_step (by repeat (first | (with_reducible first | exact HB.out | apply below_alloc | apply pw_below_drewN | apply below_drew1) | exact HB.out)) hb); have n1_ := Aside0.mk (hbox); have n2_ := Aside0.mk ((by rw [hg]; exact (below_size (by repeat (first | (with_reducible first | exact HB.out | apply below_alloc | apply pw_below_drewN | apply below_drew1) | exact HB.out))) : w.heap.size ≤ gb512)); have n3_ := Aside0.mk ((by rw [hg]; exact (below_size (by repeat (first | (with_reducible first | exact HB.out | apply below_alloc | apply pw_below_drewN | apply below_drew1) | exact HB.out))) : w.heap.size ≤ gb512)); clear HB; have HB := n0_; have BK512 := n1_; have GW512 := n2_; have GE512 := n3_; clear n0_ n1_ n2_ n3_; clear hb hbox hg) | ((with_reducible refine gate_dst (N := 6) rfl ?_); refine box_event ?hg (N := 6) ?hd (cs := #[.string (⟨#[]⟩ : ByteArray), .slice none 0 0]) (t := 51) ?hr ?_; (case hd => rfl); (case hg => rfl); (case hr => first | (go_simp; done) | (go_simp; rfl)); intro gb513 hg w21 hbox hb; have n0_ := Aside0.mk (blk_below (g := gb512) (o := .cells #[.string a0_0, .slice A0_1 l0_1.length c0_1] 51 (0, 0)) (by (with_reducible repeat (first | refine blk_drewN ?_ _ | refine blk_drew ?_ | refine blk_alloc ?_ _)); exact BK512.out) hb); have n1_ := Aside0.mk (below_step (by repeat (first | (with_reducible first | exact HB.out | apply below_alloc | apply pw_below_drewN | apply below_drew1 | refine below_set ?_ GE512.out) | exact HB.out)) hb); have n2_ := Aside0.mk (hbox); have n3_ := Aside0.mk ((by rw [hg]; exact (below_size (by repeat (first | (with_reducible first | exact HB.out | apply below_alloc | apply pw_below_drewN | apply below_drew1 | refine below_set ?_ GE512.out) | exact HB.out))) : w.heap.size ≤ gb513)); have n4_ := Aside0.mk ((by rw [hg]; exact (below_size (by repeat (first | (with_reducible first | exact HB.out | apply below_alloc | apply pw_below_drewN | apply below_drew1 | refine below_set ?_ GE512.out) | exact HB.out))) : w.heap.size ≤ gb513)); have n5_ := Aside0.mk ((by rw [hg]; exact Nat.ne_of_lt (blk_lt (g := gb512) (o := .cells #[.string a0_0, .slice A0_1 l0_1.length c0_1] 51 (0, 0)) (by (with_reducible repeat (first | refine blk_drewN ?_ _ | refine blk_drew ?_ | refine blk_alloc ?_ _)); exact BK512.out)) : gb512 ≠ gb513)); have n6_ := Aside0.mk ((by rw [hg]; exact Nat.ne_of_gt (blk_lt (g := gb512) (o := .cells #[.string a0_0, .slice A0_1 l0_1.length c0_1] 51 (0, 0)) (by (with_reducible repeat (first | refine blk_drewN ?_ _ | refine blk_drew ?_ | refine blk_alloc ?_ _)); exact BK512.out)) : gb513 ≠ gb512)); clear BK512; clear HB; have BK512 := n0_; have HB := n1_; have BK513 := n2_; have GW513 := n3_; have GE513 := n4_; have NB512_513 := n5_; have NB513_512 := n6_; clear n0_ n1_ n2_ n3_ n4_ n5_ n6_; clear hb hbox hg; have hnb22 := NB512_513.out; have hnc22 := NB513_512.out; have hcz23_0 : w21.cell? ⟨gb512, 0, none⟩ = some (.string a0_0) := (blk_cell BK512.out 0).trans rfl; have hcz23_1 : w21.cell? ⟨gb512, 1, none⟩ = some (.slice A0_1 l0_1.length c0_1) := (blk_cell BK512.out 1).trans rfl; have hfz23_0 := blk_frozen BK512.out 0; have hfz23_1 := blk_frozen BK512.out 1) | ((with_reducible refine gate_callee (f := 95) rfl ?_); refine goesL_ (some 13) rfl rfl Try.func95 (by kernel_rfl) rfl #[.agg #[.string a0_0, .slice A0_1 l0_1.length c0_1], .int .i64 a1, .int .i64 a2] rfl (by (try simp only [List.map_toArray, List.map_cons, List.map_nil]); first | done | rfl | (simp only [List.length_drop, List.length_take]; rfl)) ?_; (with_reducible refine (strip_within.calls k a0_0 _ _ l0_1 a1 a2 false _ ?side1 ?side2 A4.out).mono ?_); (case side1 => repeat (first | exact (Kd.C_below HR0_1.out HB.out) | (with_reducible refine Kd.C_alloc ?_ _) | (with_reducible refine Kd.C_drewN ?_ _) | (with_reducible refine Kd.C_drew ?_))); (case side2 => exact HC0_1.out); rintro e w24 ⟨rfl, hb⟩; refine ⟨_, rfl, ?_⟩; have n0_ := Aside0.mk (blk_below (g := gb512) (o := .cells #[.string a0_0, .slice A0_1 l0_1.length c0_1] 51 (0, 0)) (by (with_reducible repeat (first | refine blk_drewN ?_ _ | refine blk_drew ?_ | refine blk_alloc ?_ _)); exact BK512.out) hb); have n1_ := Aside0.mk (blk_below (g := gb513) (o := .cells #[.string (⟨#[]⟩ : ByteArray), .slice none 0 0] 51 (0, 0)) (by (with_reducible repeat (first | refine blk_drewN ?_ _ | refine blk_drew ?_ | refine blk_alloc ?_ _)); exact BK513.out) hb); have n2_ := Aside0.mk (below_step (by repeat (first | (with_reducible first | exact HB.out | apply below_alloc | apply pw_below_drewN | apply below_drew1 | refine below_set ?_ GE512.out | refine below_set ?_ GE513.out) | exact HB.out)) hb); clear BK512; clear BK513; clear HB; have BK512 := n0_; have BK513 := n1_; have HB := n2_; clear n0_ n1_ n2_; (try clear hb); (try clear hb2); (try clear hk); (try clear hi); have hcz25_0 : w24.cell? ⟨gb513, 0, none⟩ = some (.string (⟨#[]⟩ : ByteArray)) := (blk_cell BK513.out 0).trans rfl; have hcz25_1 : w24.cell? ⟨gb513, 1, none⟩ = some (.slice none 0 0) := (blk_cell BK513.out 1).trans rfl; have hfz25_0 := blk_frozen BK513.out 0; have hfz25_1 := blk_frozen BK513.out 1))
    refine bodyPost_ret (results_ct rfl _ _ gb513 51 #[.string (⟨#[]⟩ : ByteArray), .slice none 0 0] (0, 0) _ rfl (by (with_reducible repeat (first | refine blk_drewN ?_ _ | refine blk_drew ?_ | refine blk_alloc ?_ _)); refine blk_put (cs := #[.string (⟨#[]⟩ : ByteArray), .slice none 0 0]) ?_ 1 _ rfl; (with_reducible repeat (first | refine blk_drewN ?_ _ | refine blk_drew ?_ | refine blk_alloc ?_ _)); refine blk_put (cs := #[.string (⟨#[]⟩ : ByteArray), .slice none 0 0]) ?_ 0 _ rfl; (with_reducible repeat (first | refine blk_drewN ?_ _ | refine blk_drew ?_ | refine blk_alloc ?_ _)); exact BK513.out) Try.underlying51 rfl (by kernel_rfl)) rfl ?_
    exact ⟨_, by first | rfl | (simp [errW_none, errW_some] <;> rfl) | (simp [*, errW_none, errW_some] <;> rfl), by first | exact Kd.R_nil _ _ _ _ _ | exact Kd.N_nil _ _ _ _ _ | exact Kd.V_nil _ _ _ _ _ | exact Kd.Q_nil _ _ _ _ _ | exact Kd.S_nil _ _ _ _ _, by repeat (first | (with_reducible first | exact HB.out | apply below_alloc | apply pw_below_drewN | apply below_drew1 | refine below_set ?_ GE512.out | refine below_set ?_ GE513.out) | exact HB.out)⟩
end Go.Proofs.Ythpjagblnddjaaa.PB
end

section
namespace Go.Proofs.Ythpjagblnddjaaa.PB
open Go.RowKit Go.Proofs.YthpjagblnddjaaaW.PrintWords Go.Proofs.YthpjagblnddjaaaW.PrintLast Go.Proofs.YthpjagblnddjaaaW.PrintMore
attribute [local go_sem] max2_int min2_int max_two min_two max_three min_three max_four min_four   
set_option linter.unusedVariables false
set_option linter.unusedSimpArgs false
def edit_Apply.f (k : Nat) (a0_0 : ByteArray) (l0_1 : List (S100)) (a1_0 : Int) (a1_1 : ByteArray) (l1_2 : List (S100)) (a1_3 : ByteArray) (l1_4 : List (S100)) : Option (ByteArray × (List (S100)) × Int) := (edit_good.f k a1_0 a1_1 l1_2 a1_3 l1_4).bind fun t556 => (if t556 = true then ((strip_Cut.f k a0_0 l0_1 a1_0 (wrap64 (a1_0 + (a1_1.size : Int)))).bind fun bt557 => (if bt557.2.2 = 0 then ((strip_Same.f k bt557.1 bt557.2.1 a1_1 l1_2).bind fun t563 => (if t563 = true then ((strip_Splice.f k a0_0 l0_1 a1_0 (wrap64 (a1_0 + (a1_1.size : Int))) a1_3 l1_4).bind fun bt564 => (some (bt564.1, bt564.2.1, bt564.2.2))) else (some ((⟨#[]⟩ : ByteArray), ([] : List (S100)), 7)))) else (some ((⟨#[]⟩ : ByteArray), ([] : List (S100)), bt557.2.2)))) else (some ((⟨#[]⟩ : ByteArray), ([] : List (S100)), 2)))
theorem edit_Apply.mono : ∀ a0 a1 a2 a3 a4 a5 a6 k, LeO (edit_Apply.f k a0 a1 a2 a3 a4 a5 a6) (edit_Apply.f (k + 1) a0 a1 a2 a3 a4 a5 a6) := by
  intro a0 a1 a2 a3 a4 a5 a6 k
  unfold edit_Apply.f
  repeat' first
      | (with_reducible exact edit_good.mono _ _ _ _ _ _)
      | (with_reducible exact strip_Cut.mono _ _ _ _ _)
      | (with_reducible exact strip_Same.mono _ _ _ _ _)
      | (with_reducible exact strip_Splice.mono _ _ _ _ _ _ _)
      | (with_reducible exact LeO.refl _)
      | (with_reducible exact LeO.none _)
      | (with_reducible refine LeO.ite ?_ ?_)
      | (with_reducible refine LeO.bind ?_ (fun _ => ?_))
      | exact edit_good.mono _ _ _ _ _ _
      | exact strip_Cut.mono _ _ _ _ _
      | exact strip_Same.mono _ _ _ _ _
      | exact strip_Splice.mono _ _ _ _ _ _ _
      | exact LeO.none _
      | refine LeO.ite ?_ ?_
      | refine LeO.bind ?_ (fun _ => ?_)
set_option maxHeartbeats 8000000 in
set_option maxRecDepth 100000 in
theorem edit_Apply.calls (k : Nat) (a0_0 : ByteArray) (A0_1 : Option Addr) (c0_1 : Nat) (l0_1 : List (S100)) (a1_0 : Int) (a1_1 : ByteArray) (A1_2 : Option Addr) (c1_2 : Nat) (l1_2 : List (S100)) (a1_3 : ByteArray) (A1_4 : Option Addr) (c1_4 : Nat) (l1_4 : List (S100)) (r1 : ByteArray) (r2 : List (S100)) (r3 : Int) (w : World) (hr0_1 : Kd.C k100 w A0_1 l0_1.length l0_1) (hc0_1 : l0_1.length ≤ c0_1) (hr1_2 : Kd.C k100 w A1_2 l1_2.length l1_2) (hc1_2 : l1_2.length ≤ c1_2) (hr1_4 : Kd.C k100 w A1_4 l1_4.length l1_4) (hc1_4 : l1_4.length ≤ c1_4) (h : edit_Apply.f k a0_0 l0_1 a1_0 a1_1 l1_2 a1_3 l1_4 = some (r1, r2, r3)) :
    Calls Try.prog 65 #[.agg #[.string a0_0, .slice A0_1 l0_1.length c0_1], .agg #[.int .i64 a1_0, .string a1_1, .slice A1_2 l1_2.length c1_2, .string a1_3, .slice A1_4 l1_4.length c1_4]] w fun e w' => ∃ v1_ : Value, e = .returned (.tuple #[.agg #[.string r1, v1_], .int .i64 r3]) ∧ Kd.R k100 100 w' w.heap.size (fun _ => True) v1_ r2 ∧ Below w.heap.size w w' := by
  have hu51 := Try.underlying51
  have hu64 := Try.underlying64
  have HR0_1 := Aside0.mk hr0_1
  have HC0_1 := Aside0.mk hc0_1
  clear hr0_1 hc0_1
  have HR1_2 := Aside0.mk hr1_2
  have HC1_2 := Aside0.mk hc1_2
  clear hr1_2 hc1_2
  have HR1_4 := Aside0.mk hr1_4
  have HC1_4 := Aside0.mk hc1_4
  clear hr1_4 hc1_4
  have HB := Aside0.mk (Below.refl w.heap.size w)
  have H : ((edit_good.f k a1_0 a1_1 l1_2 a1_3 l1_4).bind fun t556 => (if t556 = true then ((strip_Cut.f k a0_0 l0_1 a1_0 (wrap64 (a1_0 + (a1_1.size : Int)))).bind fun bt557 => (if bt557.2.2 = 0 then ((strip_Same.f k bt557.1 bt557.2.1 a1_1 l1_2).bind fun t563 => (if t563 = true then ((strip_Splice.f k a0_0 l0_1 a1_0 (wrap64 (a1_0 + (a1_1.size : Int))) a1_3 l1_4).bind fun bt564 => (some (bt564.1, bt564.2.1, bt564.2.2))) else (some ((⟨#[]⟩ : ByteArray), ([] : List (S100)), 7)))) else (some ((⟨#[]⟩ : ByteArray), ([] : List (S100)), bt557.2.2)))) else (some ((⟨#[]⟩ : ByteArray), ([] : List (S100)), 2)))) = some (r1, r2, r3) := h
  clear h
  replace H := Option.bind_eq_some_iff.mp H
  obtain ⟨t556, A30, H⟩ := H
  replace H : (if t556 = true then ((strip_Cut.f k a0_0 l0_1 a1_0 (wrap64 (a1_0 + (a1_1.size : Int)))).bind fun bt557 => (if bt557.2.2 = 0 then ((strip_Same.f k bt557.1 bt557.2.1 a1_1 l1_2).bind fun t563 => (if t563 = true then ((strip_Splice.f k a0_0 l0_1 a1_0 (wrap64 (a1_0 + (a1_1.size : Int))) a1_3 l1_4).bind fun bt564 => (some (bt564.1, bt564.2.1, bt564.2.2))) else (some ((⟨#[]⟩ : ByteArray), ([] : List (S100)), 7)))) else (some ((⟨#[]⟩ : ByteArray), ([] : List (S100)), bt557.2.2)))) else (some ((⟨#[]⟩ : ByteArray), ([] : List (S100)), 2))) = some (r1, r2, r3) := H
  have A3 := Aside0.mk A30
  clear A30
  by_cases c4 : t556 = true
  · subst c4
    have H1 : ((strip_Cut.f k a0_0 l0_1 a1_0 (wrap64 (a1_0 + (a1_1.size : Int)))).bind fun bt557 => (if bt557.2.2 = 0 then ((strip_Same.f k bt557.1 bt557.2.1 a1_1 l1_2).bind fun t563 => (if t563 = true then ((strip_Splice.f k a0_0 l0_1 a1_0 (wrap64 (a1_0 + (a1_1.size : Int))) a1_3 l1_4).bind fun bt564 => (some (bt564.1, bt564.2.1, bt564.2.2))) else (some ((⟨#[]⟩ : ByteArray), ([] : List (S100)), 7)))) else (some ((⟨#[]⟩ : ByteArray), ([] : List (S100)), bt557.2.2)))) = some (r1, r2, r3) := by rw [if_pos rfl] at H; exact H
    clear H
    have H := H1
    clear H1
    replace H := Option.bind_eq_some_iff.mp H
    obtain ⟨⟨t557, t558, t561⟩, A50, H⟩ := H
    replace H : (if t561 = 0 then ((strip_Same.f k t557 t558 a1_1 l1_2).bind fun t563 => (if t563 = true then ((strip_Splice.f k a0_0 l0_1 a1_0 (wrap64 (a1_0 + (a1_1.size : Int))) a1_3 l1_4).bind fun bt564 => (some (bt564.1, bt564.2.1, bt564.2.2))) else (some ((⟨#[]⟩ : ByteArray), ([] : List (S100)), 7)))) else (some ((⟨#[]⟩ : ByteArray), ([] : List (S100)), t561))) = some (r1, r2, r3) := H
    have A5 := Aside0.mk A50
    clear A50
    by_cases c6 : t561 = 0
    · rw [if_pos c6] at H
      have c6b0 : (t561 == 0) = true := beq_iff_eq.mpr c6
      have c6b1 : (t561 != 0) = false := bne_eq_false_iff_eq.mpr c6
      clear c6
      replace H := Option.bind_eq_some_iff.mp H
      obtain ⟨t563, A70, H⟩ := H
      replace H : (if t563 = true then ((strip_Splice.f k a0_0 l0_1 a1_0 (wrap64 (a1_0 + (a1_1.size : Int))) a1_3 l1_4).bind fun bt564 => (some (bt564.1, bt564.2.1, bt564.2.2))) else (some ((⟨#[]⟩ : ByteArray), ([] : List (S100)), 7))) = some (r1, r2, r3) := H
      have A7 := Aside0.mk A70
      clear A70
      by_cases c8 : t563 = true
      · subst c8
        have H1 : ((strip_Splice.f k a0_0 l0_1 a1_0 (wrap64 (a1_0 + (a1_1.size : Int))) a1_3 l1_4).bind fun bt564 => (some (bt564.1, bt564.2.1, bt564.2.2))) = some (r1, r2, r3) := by rw [if_pos rfl] at H; exact H
        clear H
        have H := H1
        clear H1
        replace H := Option.bind_eq_some_iff.mp H
        obtain ⟨⟨t564, t565, t568⟩, A90, H⟩ := H
        replace H : (some (t564, t565, t568)) = some (r1, r2, r3) := H
        have A9 := Aside0.mk A90
        clear A90
        simp only [Option.some.injEq, Prod.mk.injEq] at H
        obtain ⟨rfl, rfl, rfl⟩ := H
        go_enter Try.func65, Try.ntmps65
        go_wp2_with (first | ((with_reducible refine gate_dst (N := 2) rfl ?_); refine box_event ?hg (N := 2) ?hd (cs := #[.string a0_0, .slice A0_1 l0_1.length c0_1]) (t := 51) ?hr ?_; (case hd => rfl); (case hg => rfl); (case hr => first | (go_simp; done) | (go_simp; rfl)); intro gb553 hg w10 hbox hb; have n0_ := Aside0.mk (below_step (by repeat (first | (with_reducible first | exact HB.out | apply below_alloc | apply pw_below_drewN | apply below_drew1) | exact HB.out)) hb); have n1_ := Aside0.mk (hbox); have n2_ := Aside0.mk ((by rw [hg]; exact (below_size (by repeat (first | (with_reducible first | exact HB.out | apply below_alloc | apply pw_below_drewN | apply below_drew1) | exact HB.out))) : w.heap.size ≤ gb553)); have n3_ := Aside0.mk ((by rw [hg]; exact (below_size (by repeat (first | (with_reducible first | exact HB.out | apply below_alloc | apply pw_below_drewN | apply below_drew1) | exact HB.out))) : w.heap.size ≤ gb553)); clear HB; have HB := n0_; have BK553 := n1_; have GW553 := n2_; have GE553 := n3_; clear n0_ n1_ n2_ n3_; clear hb hbox hg) | ((with_reducible refine gate_dst (N := 3) rfl ?_); refine box_event ?hg (N := 3) ?hd (cs := #[.int .i64 a1_0, .string a1_1, .slice A1_2 l1_2.length c1_2, .string a1_3, .slice A1_4 l1_4.length c1_4]) (t := 64) ?hr ?_; (case hd => rfl); (case hg => rfl); (case hr => first | (go_simp; done) | (go_simp; rfl)); intro gb554 hg w11 hbox hb; have n0_ := Aside0.mk (blk_below (g := gb553) (o := .cells #[.string a0_0, .slice A0_1 l0_1.length c0_1] 51 (0, 0)) (by (with_reducible repeat (first | refine blk_drewN ?_ _ | refine blk_drew ?_ | refine blk_alloc ?_ _)); exact BK553.out) hb); have n1_ := Aside0.mk (below_step (by repeat (first | (with_reducible first | exact HB.out | apply below_alloc | apply pw_below_drewN | apply below_drew1 | refine below_set ?_ GE553.out) | exact HB.out)) hb); have n2_ := Aside0.mk (hbox); have n3_ := Aside0.mk ((by rw [hg]; exact (below_size (by repeat (first | (with_reducible first | exact HB.out | apply below_alloc | apply pw_below_drewN | apply below_drew1 | refine below_set ?_ GE553.out) | exact HB.out))) : w.heap.size ≤ gb554)); have n4_ := Aside0.mk ((by rw [hg]; exact (below_size (by repeat (first | (with_reducible first | exact HB.out | apply below_alloc | apply pw_below_drewN | apply below_drew1 | refine below_set ?_ GE553.out) | exact HB.out))) : w.heap.size ≤ gb554)); have n5_ := Aside0.mk ((by rw [hg]; exact Nat.ne_of_lt (blk_lt (g := gb553) (o := .cells #[.string a0_0, .slice A0_1 l0_1.length c0_1] 51 (0, 0)) (by (with_reducible repeat (first | refine blk_drewN ?_ _ | refine blk_drew ?_ | refine blk_alloc ?_ _)); exact BK553.out)) : gb553 ≠ gb554)); have n6_ := Aside0.mk ((by rw [hg]; exact Nat.ne_of_gt (blk_lt (g := gb553) (o := .cells #[.string a0_0, .slice A0_1 l0_1.length c0_1] 51 (0, 0)) (by (with_reducible repeat (first | refine blk_drewN ?_ _ | refine blk_drew ?_ | refine blk_alloc ?_ _)); exact BK553.out)) : gb554 ≠ gb553)); clear BK553; clear HB; have BK553 := n0_; have HB := n1_; have BK554 := n2_; have GW554 := n3_; have GE554 := n4_; have NB553_554 := n5_; have NB554_553 := n6_; clear n0_ n1_ n2_ n3_ n4_ n5_ n6_; clear hb hbox hg) | ((with_reducible refine gate_dst (N := 4) rfl ?_); refine box_event ?hg (N := 4) ?hd (cs := #[.string (⟨#[]⟩ : ByteArray), .slice none 0 0]) (t := 51) ?hr ?_; (case hd => rfl); (case hg => rfl); (case hr => first | (go_simp; done) | (go_simp; rfl)); intro gb555 hg w12 hbox hb; have n0_ := Aside0.mk (blk_below (g := gb553) (o := .cells #[.string a0_0, .slice A0_1 l0_1.length c0_1] 51 (0, 0)) (by (with_reducible repeat (first | refine blk_drewN ?_ _ | refine blk_drew ?_ | refine blk_alloc ?_ _)); exact BK553.out) hb); have n1_ := Aside0.mk (blk_below (g := gb554) (o := .cells #[.int .i64 a1_0, .string a1_1, .slice A1_2 l1_2.length c1_2, .string a1_3, .slice A1_4 l1_4.length c1_4] 64 (0, 0)) (by (with_reducible repeat (first | refine blk_drewN ?_ _ | refine blk_drew ?_ | refine blk_alloc ?_ _)); exact BK554.out) hb); have n2_ := Aside0.mk (below_step (by repeat (first | (with_reducible first | exact HB.out | apply below_alloc | apply pw_below_drewN | apply below_drew1 | refine below_set ?_ GE553.out | refine below_set ?_ GE554.out) | exact HB.out)) hb); have n3_ := Aside0.mk (hbox); have n4_ := Aside0.mk ((by rw [hg]; exact (below_size (by repeat (first | (with_reducible first | exact HB.out | apply below_alloc | apply pw_below_drewN | apply below_drew1 | refine below_set ?_ GE553.out | refine below_set ?_ GE554.out) | exact HB.out))) : w.heap.size ≤ gb555)); have n5_ := Aside0.mk ((by rw [hg]; exact (below_size (by repeat (first | (with_reducible first | exact HB.out | apply below_alloc | apply pw_below_drewN | apply below_drew1 | refine below_set ?_ GE553.out | refine below_set ?_ GE554.out) | exact HB.out))) : w.heap.size ≤ gb555)); have n6_ := Aside0.mk ((by rw [hg]; exact Nat.ne_of_lt (blk_lt (g := gb553) (o := .cells #[.string a0_0, .slice A0_1 l0_1.length c0_1] 51 (0, 0)) (by (with_reducible repeat (first | refine blk_drewN ?_ _ | refine blk_drew ?_ | refine blk_alloc ?_ _)); exact BK553.out)) : gb553 ≠ gb555)); have n7_ := Aside0.mk ((by rw [hg]; exact Nat.ne_of_gt (blk_lt (g := gb553) (o := .cells #[.string a0_0, .slice A0_1 l0_1.length c0_1] 51 (0, 0)) (by (with_reducible repeat (first | refine blk_drewN ?_ _ | refine blk_drew ?_ | refine blk_alloc ?_ _)); exact BK553.out)) : gb555 ≠ gb553)); have n8_ := Aside0.mk ((by rw [hg]; exact Nat.ne_of_lt (blk_lt (g := gb554) (o := .cells #[.int .i64 a1_0, .string a1_1, .slice A1_2 l1_2.length c1_2, .string a1_3, .slice A1_4 l1_4.length c1_4] 64 (0, 0)) (by (with_reducible repeat (first | refine blk_drewN ?_ _ | refine blk_drew ?_ | refine blk_alloc ?_ _)); exact BK554.out)) : gb554 ≠ gb555)); have n9_ := Aside0.mk ((by rw [hg]; exact Nat.ne_of_gt (blk_lt (g := gb554) (o := .cells #[.int .i64 a1_0, .string a1_1, .slice A1_2 l1_2.length c1_2, .string a1_3, .slice A1_4 l1_4.length c1_4] 64 (0, 0)) (by (with_reducible repeat (first | refine blk_drewN ?_ _ | refine blk_drew ?_ | refine blk_alloc ?_ _)); exact BK554.out)) : gb555 ≠ gb554)); clear BK553; clear BK554; clear HB; have BK553 := n0_; have BK554 := n1_; have HB := n2_; have BK555 := n3_; have GW555 := n4_; have GE555 := n5_; have NB553_555 := n6_; have NB555_553 := n7_; have NB554_555 := n8_; have NB555_554 := n9_; clear n0_ n1_ n2_ n3_ n4_ n5_ n6_ n7_ n8_ n9_; clear hb hbox hg; have hnb13 := NB554_553.out; have hnc13 := NB553_554.out; have hnb14 := NB554_555.out; have hnc14 := NB555_554.out; have hcz15_0 : w12.cell? ⟨gb554, 0, none⟩ = some (.int .i64 a1_0) := (blk_cell BK554.out 0).trans rfl; have hcz15_1 : w12.cell? ⟨gb554, 1, none⟩ = some (.string a1_1) := (blk_cell BK554.out 1).trans rfl; have hcz15_2 : w12.cell? ⟨gb554, 2, none⟩ = some (.slice A1_2 l1_2.length c1_2) := (blk_cell BK554.out 2).trans rfl; have hcz15_3 : w12.cell? ⟨gb554, 3, none⟩ = some (.string a1_3) := (blk_cell BK554.out 3).trans rfl; have hcz15_4 : w12.cell? ⟨gb554, 4, none⟩ = some (.slice A1_4 l1_4.length c1_4) := (blk_cell BK554.out 4).trans rfl; have hfz15_0 := blk_frozen BK554.out 0; have hfz15_1 := blk_frozen BK554.out 1; have hfz15_2 := blk_frozen BK554.out 2; have hfz15_3 := blk_frozen BK554.out 3; have hfz15_4 := blk_frozen BK554.out 4) | ((with_reducible refine gate_callee (f := 99) rfl ?_); refine goesL_ (some 10) rfl rfl Try.func99 (by kernel_rfl) rfl #[.agg #[.int .i64 a1_0, .string a1_1, .slice A1_2 l1_2.length c1_2, .string a1_3, .slice A1_4 l1_4.length c1_4]] rfl (by (try simp only [List.map_toArray, List.map_cons, List.map_nil]); first | done | rfl | (simp only [List.length_drop, List.length_take]; rfl)) ?_; (with_reducible refine (edit_good.calls k a1_0 a1_1 _ _ l1_2 a1_3 _ _ l1_4 true _ ?side1 ?side2 ?side3 ?side4 A3.out).mono ?_); (case side1 => repeat (first | exact (Kd.C_below HR1_2.out HB.out) | (with_reducible refine Kd.C_alloc ?_ _) | (with_reducible refine Kd.C_drewN ?_ _) | (with_reducible refine Kd.C_drew ?_))); (case side2 => exact HC1_2.out); (case side3 => repeat (first | exact (Kd.C_below HR1_4.out HB.out) | (with_reducible refine Kd.C_alloc ?_ _) | (with_reducible refine Kd.C_drewN ?_ _) | (with_reducible refine Kd.C_drew ?_))); (case side4 => exact HC1_4.out); rintro e w16 ⟨rfl, hb⟩; refine ⟨_, rfl, ?_⟩; have n0_ := Aside0.mk (blk_below (g := gb553) (o := .cells #[.string a0_0, .slice A0_1 l0_1.length c0_1] 51 (0, 0)) (by (with_reducible repeat (first | refine blk_drewN ?_ _ | refine blk_drew ?_ | refine blk_alloc ?_ _)); exact BK553.out) hb); have n1_ := Aside0.mk (blk_below (g := gb554) (o := .cells #[.int .i64 a1_0, .string a1_1, .slice A1_2 l1_2.length c1_2, .string a1_3, .slice A1_4 l1_4.length c1_4] 64 (0, 0)) (by (with_reducible repeat (first | refine blk_drewN ?_ _ | refine blk_drew ?_ | refine blk_alloc ?_ _)); exact BK554.out) hb); have n2_ := Aside0.mk (blk_below (g := gb555) (o := .cells #[.string (⟨#[]⟩ : ByteArray), .slice none 0 0] 51 (0, 0)) (by (with_reducible repeat (first | refine blk_drewN ?_ _ | refine blk_drew ?_ | refine blk_alloc ?_ _)); exact BK555.out) hb); have n3_ := Aside0.mk (below_step (by repeat (first | (with_reducible first | exact HB.out | apply below_alloc | apply pw_below_drewN | apply below_drew1 | refine below_set ?_ GE553.out | refine below_set ?_ GE554.out | refine below_set ?_ GE555.out) | exact HB.out)) hb); clear BK553; clear BK554; clear BK555; clear HB; have BK553 := n0_; have BK554 := n1_; have BK555 := n2_; have HB := n3_; clear n0_ n1_ n2_ n3_; (try clear hb); (try clear hb2); (try clear hk); (try clear hi); have hcz17_0 : w16.cell? ⟨gb554, 0, none⟩ = some (.int .i64 a1_0) := (blk_cell BK554.out 0).trans rfl; have hcz17_1 : w16.cell? ⟨gb554, 1, none⟩ = some (.string a1_1) := (blk_cell BK554.out 1).trans rfl; have hcz17_2 : w16.cell? ⟨gb554, 2, none⟩ = some (.slice A1_2 l1_2.length c1_2) := (blk_cell BK554.out 2).trans rfl; have hcz17_3 : w16.cell? ⟨gb554, 3, none⟩ = some (.string a1_3) := (blk_cell BK554.out 3).trans rfl; have hcz17_4 : w16.cell? ⟨gb554, 4, none⟩ = some (.slice A1_4 l1_4.length c1_4) := (blk_cell BK554.out 4).trans rfl; have hfz17_0 := blk_frozen BK554.out 0; have hfz17_1 := blk_frozen BK554.out 1; have hfz17_2 := blk_frozen BK554.out 2; have hfz17_3 := blk_frozen BK554.out 3; have hfz17_4 := blk_frozen BK554.out 4; have hnb18 := NB553_555.out; have hnc18 := NB555_553.out; have hcz19_0 : w16.cell? ⟨gb553, 0, none⟩ = some (.string a0_0) := (blk_cell BK553.out 0).trans rfl; have hcz19_1 : w16.cell? ⟨gb553, 1, none⟩ = some (.slice A0_1 l0_1.length c0_1) := (blk_cell BK553.out 1).trans rfl; have hfz19_0 := blk_frozen BK553.out 0; have hfz19_1 := blk_frozen BK553.out 1) | ((with_reducible refine gate_callee (f := 73) rfl ?_); refine goesL_ (some 25) rfl rfl Try.func73 (by kernel_rfl) rfl #[.agg #[.string a0_0, .slice A0_1 l0_1.length c0_1], .int .i64 a1_0, .int .i64 (wrap64 (a1_0 + (a1_1.size : Int)))] rfl (by (try simp only [List.map_toArray, List.map_cons, List.map_nil]); first | done | rfl | (simp only [List.length_drop, List.length_take]; rfl)) ?_; (with_reducible refine (strip_Cut.calls k a0_0 _ _ l0_1 a1_0 (wrap64 (a1_0 + (a1_1.size : Int))) t557 t558 t561 _ ?side1 ?side2 A5.out).mono ?_); (case side1 => repeat (first | exact (Kd.C_below HR0_1.out HB.out) | (with_reducible refine Kd.C_alloc ?_ _) | (with_reducible refine Kd.C_drewN ?_ _) | (with_reducible refine Kd.C_drew ?_))); (case side2 => exact HC0_1.out); rintro e w20 ⟨v559, rfl, ho0, hb⟩; refine ⟨_, rfl, ?_⟩; have n0_ := Aside0.mk (Kd.R_lower ho0 (below_size (by repeat (first | (with_reducible first | exact HB.out | apply below_alloc | apply pw_below_drewN | apply below_drew1 | refine below_set ?_ GE553.out | refine below_set ?_ GE554.out | refine below_set ?_ GE555.out) | exact HB.out)))); have n1_ := Aside0.mk (blk_below (g := gb553) (o := .cells #[.string a0_0, .slice A0_1 l0_1.length c0_1] 51 (0, 0)) (by (with_reducible repeat (first | refine blk_drewN ?_ _ | refine blk_drew ?_ | refine blk_alloc ?_ _)); exact BK553.out) hb); have n2_ := Aside0.mk (blk_below (g := gb554) (o := .cells #[.int .i64 a1_0, .string a1_1, .slice A1_2 l1_2.length c1_2, .string a1_3, .slice A1_4 l1_4.length c1_4] 64 (0, 0)) (by (with_reducible repeat (first | refine blk_drewN ?_ _ | refine blk_drew ?_ | refine blk_alloc ?_ _)); exact BK554.out) hb); have n3_ := Aside0.mk (blk_below (g := gb555) (o := .cells #[.string (⟨#[]⟩ : ByteArray), .slice none 0 0] 51 (0, 0)) (by (with_reducible repeat (first | refine blk_drewN ?_ _ | refine blk_drew ?_ | refine blk_alloc ?_ _)); exact BK555.out) hb); have n4_ := Aside0.mk (below_step (by repeat (first | (with_reducible first | exact HB.out | apply below_alloc | apply pw_below_drewN | apply below_drew1 | refine below_set ?_ GE553.out | refine below_set ?_ GE554.out | refine below_set ?_ GE555.out) | exact HB.out)) hb); clear BK553; clear BK554; clear BK555; clear HB; have HO560 := n0_; have BK553 := n1_; have BK554 := n2_; have BK555 := n3_; have HB := n4_; clear n0_ n1_ n2_ n3_ n4_; (try clear hb); (try clear hb2); (try clear hk); (try clear hi); (try clear ho0)) | ((with_reducible refine gate_dst (N := 7) rfl ?_); refine box_event ?hg (N := 7) ?hd (cs := #[.string (⟨#[]⟩ : ByteArray), .slice none 0 0]) (t := 51) ?hr ?_; (case hd => rfl); (case hg => rfl); (case hr => first | (go_simp; done) | (go_simp; rfl)); intro gb562 hg w21 hbox hb; have n0_ := Aside0.mk (Kd.R_below (by (with_reducible repeat (first | apply Kd.R_alloc | apply Kd.R_drewN | apply Kd.R_drew)); exact HO560.out) hb); have n1_ := Aside0.mk (blk_below (g := gb553) (o := .cells #[.string a0_0, .slice A0_1 l0_1.length c0_1] 51 (0, 0)) (by (with_reducible repeat (first | refine blk_drewN ?_ _ | refine blk_drew ?_ | refine blk_alloc ?_ _)); exact BK553.out) hb); have n2_ := Aside0.mk (blk_below (g := gb554) (o := .cells #[.int .i64 a1_0, .string a1_1, .slice A1_2 l1_2.length c1_2, .string a1_3, .slice A1_4 l1_4.length c1_4] 64 (0, 0)) (by (with_reducible repeat (first | refine blk_drewN ?_ _ | refine blk_drew ?_ | refine blk_alloc ?_ _)); exact BK554.out) hb); have n3_ := Aside0.mk (blk_below (g := gb555) (o := .cells #[.string (⟨#[]⟩ : ByteArray), .slice none 0 0] 51 (0, 0)) (by (with_reducible repeat (first | refine blk_drewN ?_ _ | refine blk_drew ?_ | refine blk_alloc ?_ _)); exact BK555.out) hb); have n4_ := Aside0.mk (below_step (by repeat (first | (with_reducible first | exact HB.out | apply below_alloc | apply pw_below_drewN | apply below_drew1 | refine below_set ?_ GE553.out | refine below_set ?_ GE554.out | refine below_set ?_ GE555.out) | exact HB.out)) hb); have n5_ := Aside0.mk (hbox); have n6_ := Aside0.mk ((by rw [hg]; exact (below_size (by repeat (first | (with_reducible first | exact HB.out | apply below_alloc | apply pw_below_drewN | apply below_drew1 | refine below_set ?_ GE553.out | refine below_set ?_ GE554.out | refine below_set ?_ GE555.out) | exact HB.out))) : w.heap.size ≤ gb562)); have n7_ := Aside0.mk ((by rw [hg]; exact (below_size (by repeat (first | (with_reducible first | exact HB.out | apply below_alloc | apply pw_below_drewN | apply below_drew1 | refine below_set ?_ GE553.out | refine below_set ?_ GE554.out | refine below_set ?_ GE555.out) | exact HB.out))) : w.heap.size ≤ gb562)); have n8_ := Aside0.mk ((by rw [hg]; exact Nat.ne_of_lt (blk_lt (g := gb553) (o := .cells #[.string a0_0, .slice A0_1 l0_1.length c0_1] 51 (0, 0)) (by (with_reducible repeat (first | refine blk_drewN ?_ _ | refine blk_drew ?_ | refine blk_alloc ?_ _)); exact BK553.out)) : gb553 ≠ gb562)); have n9_ := Aside0.mk ((by rw [hg]; exact Nat.ne_of_gt (blk_lt (g := gb553) (o := .cells #[.string a0_0, .slice A0_1 l0_1.length c0_1] 51 (0, 0)) (by (with_reducible repeat (first | refine blk_drewN ?_ _ | refine blk_drew ?_ | refine blk_alloc ?_ _)); exact BK553.out)) : gb562 ≠ gb553)); have n10_ := Aside0.mk ((by rw [hg]; exact Nat.ne_of_lt (blk_lt (g := gb554) (o := .cells #[.int .i64 a1_0, .string a1_1, .slice A1_2 l1_2.length c1_2, .string a1_3, .slice A1_4 l1_4.length c1_4] 64 (0, 0)) (by (with_reducible repeat (first | refine blk_drewN ?_ _ | refine blk_drew ?_ | refine blk_alloc ?_ _)); exact BK554.out)) : gb554 ≠ gb562)); have n11_ := Aside0.mk ((by rw [hg]; exact Nat.ne_of_gt (blk_lt (g := gb554) (o := .cells #[.int .i64 a1_0, .string a1_1, .slice A1_2 l1_2.length c1_2, .string a1_3, .slice A1_4 l1_4.length c1_4] 64 (0, 0)) (by (with_reducible repeat (first | refine blk_drewN ?_ _ | refine blk_drew ?_ | refine blk_alloc ?_ _)); exact BK554.out)) : gb562 ≠ gb554)); have n12_ := Aside0.mk ((by rw [hg]; exact Nat.ne_of_lt (blk_lt (g := gb555) (o := .cells #[.string (⟨#[]⟩ : ByteArray), .slice none 0 0] 51 (0, 0)) (by (with_reducible repeat (first | refine blk_drewN ?_ _ | refine blk_drew ?_ | refine blk_alloc ?_ _)); exact BK555.out)) : gb555 ≠ gb562)); have n13_ := Aside0.mk ((by rw [hg]; exact Nat.ne_of_gt (blk_lt (g := gb555) (o := .cells #[.string (⟨#[]⟩ : ByteArray), .slice none 0 0] 51 (0, 0)) (by (with_reducible repeat (first | refine blk_drewN ?_ _ | refine blk_drew ?_ | refine blk_alloc ?_ _)); exact BK555.out)) : gb562 ≠ gb555)); clear HO560; clear BK553; clear BK554; clear BK555; clear HB; have HO560 := n0_; have BK553 := n1_; have BK554 := n2_; have BK555 := n3_; have HB := n4_; have BK562 := n5_; have GW562 := n6_; have GE562 := n7_; have NB553_562 := n8_; have NB562_553 := n9_; have NB554_562 := n10_; have NB562_554 := n11_; have NB555_562 := n12_; have NB562_555 := n13_; clear n0_ n1_ n2_ n3_ n4_ n5_ n6_ n7_ n8_ n9_ n10_ n11_ n12_ n13_; clear hb hbox hg; have hnb22 := NB562_553.out; have hnc22 := NB553_562.out; have hnb23 := NB562_554.out; have hnc23 := NB554_562.out; have hnb24 := NB562_555.out; have hnc24 := NB555_562.out; have hcz25_0 : w21.cell? ⟨gb562, 0, none⟩ = some (.string (⟨#[]⟩ : ByteArray)) := (blk_cell BK562.out 0).trans rfl; have hcz25_1 : w21.cell? ⟨gb562, 1, none⟩ = some (.slice none 0 0) := (blk_cell BK562.out 1).trans rfl; have hfz25_0 := blk_frozen BK562.out 0; have hfz25_1 := blk_frozen BK562.out 1; obtain ⟨Ao26, co26, eo26⟩ := Kd.R_slice HO560.out; subst eo26; have hcz27_0 : w21.cell? ⟨gb554, 0, none⟩ = some (.int .i64 a1_0) := (blk_cell BK554.out 0).trans rfl; have hcz27_1 : w21.cell? ⟨gb554, 1, none⟩ = some (.string a1_1) := (blk_cell BK554.out 1).trans rfl; have hcz27_2 : w21.cell? ⟨gb554, 2, none⟩ = some (.slice A1_2 l1_2.length c1_2) := (blk_cell BK554.out 2).trans rfl; have hcz27_3 : w21.cell? ⟨gb554, 3, none⟩ = some (.string a1_3) := (blk_cell BK554.out 3).trans rfl; have hcz27_4 : w21.cell? ⟨gb554, 4, none⟩ = some (.slice A1_4 l1_4.length c1_4) := (blk_cell BK554.out 4).trans rfl; have hfz27_0 := blk_frozen BK554.out 0; have hfz27_1 := blk_frozen BK554.out 1; have hfz27_2 := blk_frozen BK554.out 2; have hfz27_3 := blk_frozen BK554.out 3; have hfz27_4 := blk_frozen BK554.out 4) | ((with_reducible refine gate_callee (f := 71) rfl ?_); refine goesL_ (some 37) rfl rfl Try.func71 (by kernel_rfl) rfl #[.agg #[.string t557, .slice Ao26 t558.length co26], .agg #[.string a1_1, .slice A1_2 l1_2.length c1_2]] rfl (by (try simp only [List.map_toArray, List.map_cons, List.map_nil]); first | done | rfl | (simp only [List.length_drop, List.length_take]; rfl)) ?_; (with_reducible refine (strip_Same.calls k t557 _ _ t558 a1_1 _ _ l1_2 true _ ?side1 ?side2 ?side3 ?side4 A7.out).mono ?_); (case side1 => refine (Kd.R_reads' (e := 100) (base := w.heap.size) (ok := fun k_ => True) (n := t558.length) (c := co26) ?_).2.2; exact (by (with_reducible repeat (first | apply Kd.R_alloc | apply Kd.R_drewN | apply Kd.R_drew)); exact (Kd.R_mono (Kd.R_far (p := ⟨gb562, 1, none⟩) (Kd.R_far (p := ⟨gb562, 0, none⟩) (Kd.R_types HO560.out BK562.out (by decide)) (fun _ hk => hk.2) (.string t557)) (fun _ hk => hk.2) (.slice Ao26 t558.length co26)) (fun _ h_ => h_.1)))); (case side2 => exact (Kd.R_reads' HO560.out).2.1); (case side3 => exact Kd.C_below HR1_2.out (by repeat (first | (with_reducible first | exact HB.out | apply below_alloc | apply pw_below_drewN | apply below_drew1 | refine below_set ?_ GE553.out | refine below_set ?_ GE554.out | refine below_set ?_ GE555.out | refine below_set ?_ GE562.out) | exact HB.out))); (case side4 => exact HC1_2.out); rintro e w28 ⟨rfl, hb⟩; refine ⟨_, rfl, ?_⟩; have n0_ := Aside0.mk (Kd.R_below (by (with_reducible repeat (first | apply Kd.R_alloc | apply Kd.R_drewN | apply Kd.R_drew)); exact (Kd.R_mono (Kd.R_far (p := ⟨gb562, 1, none⟩) (Kd.R_far (p := ⟨gb562, 0, none⟩) (Kd.R_types HO560.out BK562.out (by decide)) (fun _ hk => hk.2) (.string t557)) (fun _ hk => hk.2) (.slice Ao26 t558.length co26)) (fun _ h_ => h_.1))) hb); have n1_ := Aside0.mk (blk_below (g := gb553) (o := .cells #[.string a0_0, .slice A0_1 l0_1.length c0_1] 51 (0, 0)) (by (with_reducible repeat (first | refine blk_drewN ?_ _ | refine blk_drew ?_ | refine blk_alloc ?_ _)); refine blk_far ?_ NB553_562.out _; (with_reducible repeat (first | refine blk_drewN ?_ _ | refine blk_drew ?_ | refine blk_alloc ?_ _)); refine blk_far ?_ NB553_562.out _; (with_reducible repeat (first | refine blk_drewN ?_ _ | refine blk_drew ?_ | refine blk_alloc ?_ _)); exact BK553.out) hb); have n2_ := Aside0.mk (blk_below (g := gb554) (o := .cells #[.int .i64 a1_0, .string a1_1, .slice A1_2 l1_2.length c1_2, .string a1_3, .slice A1_4 l1_4.length c1_4] 64 (0, 0)) (by (with_reducible repeat (first | refine blk_drewN ?_ _ | refine blk_drew ?_ | refine blk_alloc ?_ _)); refine blk_far ?_ NB554_562.out _; (with_reducible repeat (first | refine blk_drewN ?_ _ | refine blk_drew ?_ | refine blk_alloc ?_ _)); refine blk_far ?_ NB554_562.out _; (with_reducible repeat (first | refine blk_drewN ?_ _ | refine blk_drew ?_ | refine blk_alloc ?_ _)); exact BK554.out) hb); have n3_ := Aside0.mk (blk_below (g := gb555) (o := .cells #[.string (⟨#[]⟩ : ByteArray), .slice none 0 0] 51 (0, 0)) (by (with_reducible repeat (first | refine blk_drewN ?_ _ | refine blk_drew ?_ | refine blk_alloc ?_ _)); refine blk_far ?_ NB555_562.out _; (with_reducible repeat (first | refine blk_drewN ?_ _ | refine blk_drew ?_ | refine blk_alloc ?_ _)); refine blk_far ?_ NB555_562.out _; (with_reducible repeat (first | refine blk_drewN ?_ _ | refine blk_drew ?_ | refine blk_alloc ?_ _)); exact BK555.out) hb); have n4_ := Aside0.mk (blk_below (g := gb562) (o := .cells #[.string t557, .slice Ao26 t558.length co26] 51 (0, 0)) (by (with_reducible repeat (first | refine blk_drewN ?_ _ | refine blk_drew ?_ | refine blk_alloc ?_ _)); refine blk_put (cs := #[.string t557, .slice none 0 0]) ?_ 1 _ rfl; (with_reducible repeat (first | refine blk_drewN ?_ _ | refine blk_drew ?_ | refine blk_alloc ?_ _)); refine blk_put (cs := #[.string (⟨#[]⟩ : ByteArray), .slice none 0 0]) ?_ 0 _ rfl; (with_reducible repeat (first | refine blk_drewN ?_ _ | refine blk_drew ?_ | refine blk_alloc ?_ _)); exact BK562.out) hb); have n5_ := Aside0.mk (below_step (by repeat (first | (with_reducible first | exact HB.out | apply below_alloc | apply pw_below_drewN | apply below_drew1 | refine below_set ?_ GE553.out | refine below_set ?_ GE554.out | refine below_set ?_ GE555.out | refine below_set ?_ GE562.out) | exact HB.out)) hb); clear HO560; clear BK553; clear BK554; clear BK555; clear BK562; clear HB; have HO560 := n0_; have BK553 := n1_; have BK554 := n2_; have BK555 := n3_; have BK562 := n4_; have HB := n5_; clear n0_ n1_ n2_ n3_ n4_ n5_; (try clear hb); (try clear hb2); (try clear hk); (try clear hi); have hcz29_0 : w28.cell? ⟨gb553, 0, none⟩ = some (.string a0_0) := (blk_cell BK553.out 0).trans rfl; have hcz29_1 : w28.cell? ⟨gb553, 1, none⟩ = some (.slice A0_1 l0_1.length c0_1) := (blk_cell BK553.out 1).trans rfl; have hfz29_0 := blk_frozen BK553.out 0; have hfz29_1 := blk_frozen BK553.out 1; have hcz30_0 : w28.cell? ⟨gb554, 0, none⟩ = some (.int .i64 a1_0) := (blk_cell BK554.out 0).trans rfl; have hcz30_1 : w28.cell? ⟨gb554, 1, none⟩ = some (.string a1_1) := (blk_cell BK554.out 1).trans rfl; have hcz30_2 : w28.cell? ⟨gb554, 2, none⟩ = some (.slice A1_2 l1_2.length c1_2) := (blk_cell BK554.out 2).trans rfl; have hcz30_3 : w28.cell? ⟨gb554, 3, none⟩ = some (.string a1_3) := (blk_cell BK554.out 3).trans rfl; have hcz30_4 : w28.cell? ⟨gb554, 4, none⟩ = some (.slice A1_4 l1_4.length c1_4) := (blk_cell BK554.out 4).trans rfl; have hfz30_0 := blk_frozen BK554.out 0; have hfz30_1 := blk_frozen BK554.out 1; have hfz30_2 := blk_frozen BK554.out 2; have hfz30_3 := blk_frozen BK554.out 3; have hfz30_4 := blk_frozen BK554.out 4) | ((with_reducible refine gate_callee (f := 53) rfl ?_); refine goesL_ (some 46) rfl rfl Try.func53 (by kernel_rfl) rfl #[.agg #[.string a0_0, .slice A0_1 l0_1.length c0_1], .int .i64 a1_0, .int .i64 (wrap64 (a1_0 + (a1_1.size : Int))), .agg #[.string a1_3, .slice A1_4 l1_4.length c1_4]] rfl (by (try simp only [List.map_toArray, List.map_cons, List.map_nil]); first | done | rfl | (simp only [List.length_drop, List.length_take]; rfl)) ?_; (with_reducible refine (strip_Splice.calls k a0_0 _ _ l0_1 a1_0 (wrap64 (a1_0 + (a1_1.size : Int))) a1_3 _ _ l1_4 t564 t565 t568 _ ?side1 ?side2 ?side3 ?side4 A9.out).mono ?_); (case side1 => repeat (first | exact (Kd.C_below HR0_1.out HB.out) | (with_reducible refine Kd.C_alloc ?_ _) | (with_reducible refine Kd.C_drewN ?_ _) | (with_reducible refine Kd.C_drew ?_))); (case side2 => exact HC0_1.out); (case side3 => repeat (first | exact (Kd.C_below HR1_4.out HB.out) | (with_reducible refine Kd.C_alloc ?_ _) | (with_reducible refine Kd.C_drewN ?_ _) | (with_reducible refine Kd.C_drew ?_))); (case side4 => exact HC1_4.out); rintro e w31 ⟨v566, rfl, ho0, hb⟩; refine ⟨_, rfl, ?_⟩; have n0_ := Aside0.mk (Kd.R_elder' (by (with_reducible repeat (first | apply Kd.R_alloc | apply Kd.R_drewN | apply Kd.R_drew)); exact HO560.out) (Kd.R_base ho0) hb); have n1_ := Aside0.mk (Kd.R_lower (Kd.R_new' ho0 (Kd.R_lt (by (with_reducible repeat (first | apply Kd.R_alloc | apply Kd.R_drewN | apply Kd.R_drew)); exact HO560.out))) (below_size (by repeat (first | (with_reducible first | exact HB.out | apply below_alloc | apply pw_below_drewN | apply below_drew1 | refine below_set ?_ GE553.out | refine below_set ?_ GE554.out | refine below_set ?_ GE555.out | refine below_set ?_ GE562.out) | exact HB.out)))); have n2_ := Aside0.mk (blk_below (g := gb553) (o := .cells #[.string a0_0, .slice A0_1 l0_1.length c0_1] 51 (0, 0)) (by (with_reducible repeat (first | refine blk_drewN ?_ _ | refine blk_drew ?_ | refine blk_alloc ?_ _)); exact BK553.out) hb); have n3_ := Aside0.mk (blk_below (g := gb554) (o := .cells #[.int .i64 a1_0, .string a1_1, .slice A1_2 l1_2.length c1_2, .string a1_3, .slice A1_4 l1_4.length c1_4] 64 (0, 0)) (by (with_reducible repeat (first | refine blk_drewN ?_ _ | refine blk_drew ?_ | refine blk_alloc ?_ _)); exact BK554.out) hb); have n4_ := Aside0.mk (blk_below (g := gb555) (o := .cells #[.string (⟨#[]⟩ : ByteArray), .slice none 0 0] 51 (0, 0)) (by (with_reducible repeat (first | refine blk_drewN ?_ _ | refine blk_drew ?_ | refine blk_alloc ?_ _)); exact BK555.out) hb); have n5_ := Aside0.mk (blk_below (g := gb562) (o := .cells #[.string t557, .slice Ao26 t558.length co26] 51 (0, 0)) (by (with_reducible repeat (first | refine blk_drewN ?_ _ | refine blk_drew ?_ | refine blk_alloc ?_ _)); exact BK562.out) hb); have n6_ := Aside0.mk (below_step (by repeat (first | (with_reducible first | exact HB.out | apply below_alloc | apply pw_below_drewN | apply below_drew1 | refine below_set ?_ GE553.out | refine below_set ?_ GE554.out | refine below_set ?_ GE555.out | refine below_set ?_ GE562.out) | exact HB.out)) hb); clear HO560; clear BK553; clear BK554; clear BK555; clear BK562; clear HB; have HO560 := n0_; have HO567 := n1_; have BK553 := n2_; have BK554 := n3_; have BK555 := n4_; have BK562 := n5_; have HB := n6_; clear n0_ n1_ n2_ n3_ n4_ n5_ n6_; (try clear hb); (try clear hb2); (try clear hk); (try clear hi); (try clear ho0); have hcz32_0 : w31.cell? ⟨gb555, 0, none⟩ = some (.string (⟨#[]⟩ : ByteArray)) := (blk_cell BK555.out 0).trans rfl; have hcz32_1 : w31.cell? ⟨gb555, 1, none⟩ = some (.slice none 0 0) := (blk_cell BK555.out 1).trans rfl; have hfz32_0 := blk_frozen BK555.out 0; have hfz32_1 := blk_frozen BK555.out 1; obtain ⟨Ao33, co33, eo33⟩ := Kd.R_slice HO567.out; subst eo33))
        refine bodyPost_ret (results_ct rfl _ _ gb555 51 #[.string t564, .slice Ao33 t565.length co33] (0, 0) _ rfl (by (with_reducible repeat (first | refine blk_drewN ?_ _ | refine blk_drew ?_ | refine blk_alloc ?_ _)); refine blk_put (cs := #[.string t564, .slice none 0 0]) ?_ 1 _ rfl; (with_reducible repeat (first | refine blk_drewN ?_ _ | refine blk_drew ?_ | refine blk_alloc ?_ _)); refine blk_put (cs := #[.string (⟨#[]⟩ : ByteArray), .slice none 0 0]) ?_ 0 _ rfl; (with_reducible repeat (first | refine blk_drewN ?_ _ | refine blk_drew ?_ | refine blk_alloc ?_ _)); exact BK555.out) Try.underlying51 rfl (by kernel_rfl)) rfl ?_
        exact ⟨_, by first | rfl | (simp [errW_none, errW_some] <;> rfl) | (simp [*, errW_none, errW_some] <;> rfl), by (with_reducible repeat (first | apply Kd.R_alloc | apply Kd.R_drewN | apply Kd.R_drew)); exact Kd.R_mono (Kd.R_far (p := ⟨gb555, 1, none⟩) (Kd.R_far (p := ⟨gb555, 0, none⟩) (Kd.R_types HO567.out BK555.out (by decide)) (fun _ hk => hk.2) (.string t564)) (fun _ hk => hk.2) (.slice Ao33 t565.length co33)) (fun _ hk => trivial), by repeat (first | (with_reducible first | exact HB.out | apply below_alloc | apply pw_below_drewN | apply below_drew1 | refine below_set ?_ GE553.out | refine below_set ?_ GE554.out | refine below_set ?_ GE555.out | refine below_set ?_ GE562.out) | exact HB.out)⟩
      · replace c8 := Bool.eq_false_iff.mpr c8
        subst c8
        have H1 : (some ((⟨#[]⟩ : ByteArray), ([] : List (S100)), 7)) = some (r1, r2, r3) := by rw [if_neg (show ¬ (false = true) by decide)] at H; exact H
        clear H
        have H := H1
        clear H1
        simp only [Option.some.injEq, Prod.mk.injEq] at H
        obtain ⟨rfl, rfl, rfl⟩ := H
        go_enter Try.func65, Try.ntmps65
        go_wp2_with (first | ((with_reducible refine gate_dst (N := 2) rfl ?_); refine box_event ?hg (N := 2) ?hd (cs := #[.string a0_0, .slice A0_1 l0_1.length c0_1]) (t := 51) ?hr ?_; (case hd => rfl); (case hg => rfl); (case hr => first | (go_simp; done) | (go_simp; rfl)); intro gb553 hg w34 hbox hb; have n0_ := Aside0.mk (below_step (by repeat (first | (with_reducible first | exact HB.out | apply below_alloc | apply pw_below_drewN | apply below_drew1) | exact HB.out)) hb); have n1_ := Aside0.mk (hbox); have n2_ := Aside0.mk ((by rw [hg]; exact (below_size (by repeat (first | (with_reducible first | exact HB.out | apply below_alloc | apply pw_below_drewN | apply below_drew1) | exact HB.out))) : w.heap.size ≤ gb553)); have n3_ := Aside0.mk ((by rw [hg]; exact (below_size (by repeat (first | (with_reducible first | exact HB.out | apply below_alloc | apply pw_below_drewN | apply below_drew1) | exact HB.out))) : w.heap.size ≤ gb553)); clear HB; have HB := n0_; have BK553 := n1_; have GW553 := n2_; have GE553 := n3_; clear n0_ n1_ n2_ n3_; clear hb hbox hg) | ((with_reducible refine gate_dst (N := 3) rfl ?_); refine box_event ?hg (N := 3) ?hd (cs := #[.int .i64 a1_0, .string a1_1, .slice A1_2 l1_2.length c1_2, .string a1_3, .slice A1_4 l1_4.length c1_4]) (t := 64) ?hr ?_; (case hd => rfl); (case hg => rfl); (case hr => first | (go_simp; done) | (go_simp; rfl)); intro gb554 hg w35 hbox hb; have n0_ := Aside0.mk (blk_below (g := gb553) (o := .cells #[.string a0_0, .slice A0_1 l0_1.length c0_1] 51 (0, 0)) (by (with_reducible repeat (first | refine blk_drewN ?_ _ | refine blk_drew ?_ | refine blk_alloc ?_ _)); exact BK553.out) hb); have n1_ := Aside0.mk (below_step (by repeat (first | (with_reducible first | exact HB.out | apply below_alloc | apply pw_below_drewN | apply below_drew1 | refine below_set ?_ GE553.out) | exact HB.out)) hb); have n2_ := Aside0.mk (hbox); have n3_ := Aside0.mk ((by rw [hg]; exact (below_size (by repeat (first | (with_reducible first | exact HB.out | apply below_alloc | apply pw_below_drewN | apply below_drew1 | refine below_set ?_ GE553.out) | exact HB.out))) : w.heap.size ≤ gb554)); have n4_ := Aside0.mk ((by rw [hg]; exact (below_size (by repeat (first | (with_reducible first | exact HB.out | apply below_alloc | apply pw_below_drewN | apply below_drew1 | refine below_set ?_ GE553.out) | exact HB.out))) : w.heap.size ≤ gb554)); have n5_ := Aside0.mk ((by rw [hg]; exact Nat.ne_of_lt (blk_lt (g := gb553) (o := .cells #[.string a0_0, .slice A0_1 l0_1.length c0_1] 51 (0, 0)) (by (with_reducible repeat (first | refine blk_drewN ?_ _ | refine blk_drew ?_ | refine blk_alloc ?_ _)); exact BK553.out)) : gb553 ≠ gb554)); have n6_ := Aside0.mk ((by rw [hg]; exact Nat.ne_of_gt (blk_lt (g := gb553) (o := .cells #[.string a0_0, .slice A0_1 l0_1.length c0_1] 51 (0, 0)) (by (with_reducible repeat (first | refine blk_drewN ?_ _ | refine blk_drew ?_ | refine blk_alloc ?_ _)); exact BK553.out)) : gb554 ≠ gb553)); clear BK553; clear HB; have BK553 := n0_; have HB := n1_; have BK554 := n2_; have GW554 := n3_; have GE554 := n4_; have NB553_554 := n5_; have NB554_553 := n6_; clear n0_ n1_ n2_ n3_ n4_ n5_ n6_; clear hb hbox hg) | ((with_reducible refine gate_dst (N := 4) rfl ?_); refine box_event ?hg (N := 4) ?hd (cs := #[.string (⟨#[]⟩ : ByteArray), .slice none 0 0]) (t := 51) ?hr ?_; (case hd => rfl); (case hg => rfl); (case hr => first | (go_simp; done) | (go_simp; rfl)); intro gb555 hg w36 hbox hb; have n0_ := Aside0.mk (blk_below (g := gb553) (o := .cells #[.string a0_0, .slice A0_1 l0_1.length c0_1] 51 (0, 0)) (by (with_reducible repeat (first | refine blk_drewN ?_ _ | refine blk_drew ?_ | refine blk_alloc ?_ _)); exact BK553.out) hb); have n1_ := Aside0.mk (blk_below (g := gb554) (o := .cells #[.int .i64 a1_0, .string a1_1, .slice A1_2 l1_2.length c1_2, .string a1_3, .slice A1_4 l1_4.length c1_4] 64 (0, 0)) (by (with_reducible repeat (first | refine blk_drewN ?_ _ | refine blk_drew ?_ | refine blk_alloc ?_ _)); exact BK554.out) hb); have n2_ := Aside0.mk (below_step (by repeat (first | (with_reducible first | exact HB.out | apply below_alloc | apply pw_below_drewN | apply below_drew1 | refine below_set ?_ GE553.out | refine below_set ?_ GE554.out) | exact HB.out)) hb); have n3_ := Aside0.mk (hbox); have n4_ := Aside0.mk ((by rw [hg]; exact (below_size (by repeat (first | (with_reducible first | exact HB.out | apply below_alloc | apply pw_below_drewN | apply below_drew1 | refine below_set ?_ GE553.out | refine below_set ?_ GE554.out) | exact HB.out))) : w.heap.size ≤ gb555)); have n5_ := Aside0.mk ((by rw [hg]; exact (below_size (by repeat (first | (with_reducible first | exact HB.out | apply below_alloc | apply pw_below_drewN | apply below_drew1 | refine below_set ?_ GE553.out | refine below_set ?_ GE554.out) | exact HB.out))) : w.heap.size ≤ gb555)); have n6_ := Aside0.mk ((by rw [hg]; exact Nat.ne_of_lt (blk_lt (g := gb553) (o := .cells #[.string a0_0, .slice A0_1 l0_1.length c0_1] 51 (0, 0)) (by (with_reducible repeat (first | refine blk_drewN ?_ _ | refine blk_drew ?_ | refine blk_alloc ?_ _)); exact BK553.out)) : gb553 ≠ gb555)); have n7_ := Aside0.mk ((by rw [hg]; exact Nat.ne_of_gt (blk_lt (g := gb553) (o := .cells #[.string a0_0, .slice A0_1 l0_1.length c0_1] 51 (0, 0)) (by (with_reducible repeat (first | refine blk_drewN ?_ _ | refine blk_drew ?_ | refine blk_alloc ?_ _)); exact BK553.out)) : gb555 ≠ gb553)); have n8_ := Aside0.mk ((by rw [hg]; exact Nat.ne_of_lt (blk_lt (g := gb554) (o := .cells #[.int .i64 a1_0, .string a1_1, .slice A1_2 l1_2.length c1_2, .string a1_3, .slice A1_4 l1_4.length c1_4] 64 (0, 0)) (by (with_reducible repeat (first | refine blk_drewN ?_ _ | refine blk_drew ?_ | refine blk_alloc ?_ _)); exact BK554.out)) : gb554 ≠ gb555)); have n9_ := Aside0.mk ((by rw [hg]; exact Nat.ne_of_gt (blk_lt (g := gb554) (o := .cells #[.int .i64 a1_0, .string a1_1, .slice A1_2 l1_2.length c1_2, .string a1_3, .slice A1_4 l1_4.length c1_4] 64 (0, 0)) (by (with_reducible repeat (first | refine blk_drewN ?_ _ | refine blk_drew ?_ | refine blk_alloc ?_ _)); exact BK554.out)) : gb555 ≠ gb554)); clear BK553; clear BK554; clear HB; have BK553 := n0_; have BK554 := n1_; have HB := n2_; have BK555 := n3_; have GW555 := n4_; have GE555 := n5_; have NB553_555 := n6_; have NB555_553 := n7_; have NB554_555 := n8_; have NB555_554 := n9_; clear n0_ n1_ n2_ n3_ n4_ n5_ n6_ n7_ n8_ n9_; clear hb hbox hg; have hnb37 := NB554_553.out; have hnc37 := NB553_554.out; have hnb38 := NB554_555.out; have hnc38 := NB555_554.out; have hcz39_0 : w36.cell? ⟨gb554, 0, none⟩ = some (.int .i64 a1_0) := (blk_cell BK554.out 0).trans rfl; have hcz39_1 : w36.cell? ⟨gb554, 1, none⟩ = some (.string a1_1) := (blk_cell BK554.out 1).trans rfl; have hcz39_2 : w36.cell? ⟨gb554, 2, none⟩ = some (.slice A1_2 l1_2.length c1_2) := (blk_cell BK554.out 2).trans rfl; have hcz39_3 : w36.cell? ⟨gb554, 3, none⟩ = some (.string a1_3) := (blk_cell BK554.out 3).trans rfl; have hcz39_4 : w36.cell? ⟨gb554, 4, none⟩ = some (.slice A1_4 l1_4.length c1_4) := (blk_cell BK554.out 4).trans rfl; have hfz39_0 := blk_frozen BK554.out 0; have hfz39_1 := blk_frozen BK554.out 1; have hfz39_2 := blk_frozen BK554.out 2; have hfz39_3 := blk_frozen BK554.out 3; have hfz39_4 := blk_frozen BK554.out 4) | ((with_reducible refine gate_callee (f := 99) rfl ?_); refine goesL_ (some 10) rfl rfl Try.func99 (by kernel_rfl) rfl #[.agg #[.int .i64 a1_0, .string a1_1, .slice A1_2 l1_2.length c1_2, .string a1_3, .slice A1_4 l1_4.length c1_4]] rfl (by (try simp only [List.map_toArray, List.map_cons, List.map_nil]); first | done | rfl | (simp only [List.length_drop, List.length_take]; rfl)) ?_; (with_reducible refine (edit_good.calls k a1_0 a1_1 _ _ l1_2 a1_3 _ _ l1_4 true _ ?side1 ?side2 ?side3 ?side4 A3.out).mono ?_); (case side1 => repeat (first | exact (Kd.C_below HR1_2.out HB.out) | (with_reducible refine Kd.C_alloc ?_ _) | (with_reducible refine Kd.C_drewN ?_ _) | (with_reducible refine Kd.C_drew ?_))); (case side2 => exact HC1_2.out); (case side3 => repeat (first | exact (Kd.C_below HR1_4.out HB.out) | (with_reducible refine Kd.C_alloc ?_ _) | (with_reducible refine Kd.C_drewN ?_ _) | (with_reducible refine Kd.C_drew ?_))); (case side4 => exact HC1_4.out); rintro e w40 ⟨rfl, hb⟩; refine ⟨_, rfl, ?_⟩; have n0_ := Aside0.mk (blk_below (g := gb553) (o := .cells #[.string a0_0, .slice A0_1 l0_1.length c0_1] 51 (0, 0)) (by (with_reducible repeat (first | refine blk_drewN ?_ _ | refine blk_drew ?_ | refine blk_alloc ?_ _)); exact BK553.out) hb); have n1_ := Aside0.mk (blk_below (g := gb554) (o := .cells #[.int .i64 a1_0, .string a1_1, .slice A1_2 l1_2.length c1_2, .string a1_3, .slice A1_4 l1_4.length c1_4] 64 (0, 0)) (by (with_reducible repeat (first | refine blk_drewN ?_ _ | refine blk_drew ?_ | refine blk_alloc ?_ _)); exact BK554.out) hb); have n2_ := Aside0.mk (blk_below (g := gb555) (o := .cells #[.string (⟨#[]⟩ : ByteArray), .slice none 0 0] 51 (0, 0)) (by (with_reducible repeat (first | refine blk_drewN ?_ _ | refine blk_drew ?_ | refine blk_alloc ?_ _)); exact BK555.out) hb); have n3_ := Aside0.mk (below_step (by repeat (first | (with_reducible first | exact HB.out | apply below_alloc | apply pw_below_drewN | apply below_drew1 | refine below_set ?_ GE553.out | refine below_set ?_ GE554.out | refine below_set ?_ GE555.out) | exact HB.out)) hb); clear BK553; clear BK554; clear BK555; clear HB; have BK553 := n0_; have BK554 := n1_; have BK555 := n2_; have HB := n3_; clear n0_ n1_ n2_ n3_; (try clear hb); (try clear hb2); (try clear hk); (try clear hi); have hcz41_0 : w40.cell? ⟨gb554, 0, none⟩ = some (.int .i64 a1_0) := (blk_cell BK554.out 0).trans rfl; have hcz41_1 : w40.cell? ⟨gb554, 1, none⟩ = some (.string a1_1) := (blk_cell BK554.out 1).trans rfl; have hcz41_2 : w40.cell? ⟨gb554, 2, none⟩ = some (.slice A1_2 l1_2.length c1_2) := (blk_cell BK554.out 2).trans rfl; have hcz41_3 : w40.cell? ⟨gb554, 3, none⟩ = some (.string a1_3) := (blk_cell BK554.out 3).trans rfl; have hcz41_4 : w40.cell? ⟨gb554, 4, none⟩ = some (.slice A1_4 l1_4.length c1_4) := (blk_cell BK554.out 4).trans rfl; have hfz41_0 := blk_frozen BK554.out 0; have hfz41_1 := blk_frozen BK554.out 1; have hfz41_2 := blk_frozen BK554.out 2; have hfz41_3 := blk_frozen BK554.out 3; have hfz41_4 := blk_frozen BK554.out 4; have hnb42 := NB553_555.out; have hnc42 := NB555_553.out; have hcz43_0 : w40.cell? ⟨gb553, 0, none⟩ = some (.string a0_0) := (blk_cell BK553.out 0).trans rfl; have hcz43_1 : w40.cell? ⟨gb553, 1, none⟩ = some (.slice A0_1 l0_1.length c0_1) := (blk_cell BK553.out 1).trans rfl; have hfz43_0 := blk_frozen BK553.out 0; have hfz43_1 := blk_frozen BK553.out 1) | ((with_reducible refine gate_callee (f := 73) rfl ?_); refine goesL_ (some 25) rfl rfl Try.func73 (by kernel_rfl) rfl #[.agg #[.string a0_0, .slice A0_1 l0_1.length c0_1], .int .i64 a1_0, .int .i64 (wrap64 (a1_0 + (a1_1.size : Int)))] rfl (by (try simp only [List.map_toArray, List.map_cons, List.map_nil]); first | done | rfl | (simp only [List.length_drop, List.length_take]; rfl)) ?_; (with_reducible refine (strip_Cut.calls k a0_0 _ _ l0_1 a1_0 (wrap64 (a1_0 + (a1_1.size : Int))) t557 t558 t561 _ ?side1 ?side2 A5.out).mono ?_); (case side1 => repeat (first | exact (Kd.C_below HR0_1.out HB.out) | (with_reducible refine Kd.C_alloc ?_ _) | (with_reducible refine Kd.C_drewN ?_ _) | (with_reducible refine Kd.C_drew ?_))); (case side2 => exact HC0_1.out); rintro e w44 ⟨v559, rfl, ho0, hb⟩; refine ⟨_, rfl, ?_⟩; have n0_ := Aside0.mk (Kd.R_lower ho0 (below_size (by repeat (first | (with_reducible first | exact HB.out | apply below_alloc | apply pw_below_drewN | apply below_drew1 | refine below_set ?_ GE553.out | refine below_set ?_ GE554.out | refine below_set ?_ GE555.out) | exact HB.out)))); have n1_ := Aside0.mk (blk_below (g := gb553) (o := .cells #[.string a0_0, .slice A0_1 l0_1.length c0_1] 51 (0, 0)) (by (with_reducible repeat (first | refine blk_drewN ?_ _ | refine blk_drew ?_ | refine blk_alloc ?_ _)); exact BK553.out) hb); have n2_ := Aside0.mk (blk_below (g := gb554) (o := .cells #[.int .i64 a1_0, .string a1_1, .slice A1_2 l1_2.length c1_2, .string a1_3, .slice A1_4 l1_4.length c1_4] 64 (0, 0)) (by (with_reducible repeat (first | refine blk_drewN ?_ _ | refine blk_drew ?_ | refine blk_alloc ?_ _)); exact BK554.out) hb); have n3_ := Aside0.mk (blk_below (g := gb555) (o := .cells #[.string (⟨#[]⟩ : ByteArray), .slice none 0 0] 51 (0, 0)) (by (with_reducible repeat (first | refine blk_drewN ?_ _ | refine blk_drew ?_ | refine blk_alloc ?_ _)); exact BK555.out) hb); have n4_ := Aside0.mk (below_step (by repeat (first | (with_reducible first | exact HB.out | apply below_alloc | apply pw_below_drewN | apply below_drew1 | refine below_set ?_ GE553.out | refine below_set ?_ GE554.out | refine below_set ?_ GE555.out) | exact HB.out)) hb); clear BK553; clear BK554; clear BK555; clear HB; have HO560 := n0_; have BK553 := n1_; have BK554 := n2_; have BK555 := n3_; have HB := n4_; clear n0_ n1_ n2_ n3_ n4_; (try clear hb); (try clear hb2); (try clear hk); (try clear hi); (try clear ho0)) | ((with_reducible refine gate_dst (N := 7) rfl ?_); refine box_event ?hg (N := 7) ?hd (cs := #[.string (⟨#[]⟩ : ByteArray), .slice none 0 0]) (t := 51) ?hr ?_; (case hd => rfl); (case hg => rfl); (case hr => first | (go_simp; done) | (go_simp; rfl)); intro gb562 hg w45 hbox hb; have n0_ := Aside0.mk (Kd.R_below (by (with_reducible repeat (first | apply Kd.R_alloc | apply Kd.R_drewN | apply Kd.R_drew)); exact HO560.out) hb); have n1_ := Aside0.mk (blk_below (g := gb553) (o := .cells #[.string a0_0, .slice A0_1 l0_1.length c0_1] 51 (0, 0)) (by (with_reducible repeat (first | refine blk_drewN ?_ _ | refine blk_drew ?_ | refine blk_alloc ?_ _)); exact BK553.out) hb); have n2_ := Aside0.mk (blk_below (g := gb554) (o := .cells #[.int .i64 a1_0, .string a1_1, .slice A1_2 l1_2.length c1_2, .string a1_3, .slice A1_4 l1_4.length c1_4] 64 (0, 0)) (by (with_reducible repeat (first | refine blk_drewN ?_ _ | refine blk_drew ?_ | refine blk_alloc ?_ _)); exact BK554.out) hb); have n3_ := Aside0.mk (blk_below (g := gb555) (o := .cells #[.string (⟨#[]⟩ : ByteArray), .slice none 0 0] 51 (0, 0)) (by (with_reducible repeat (first | refine blk_drewN ?_ _ | refine blk_drew ?_ | refine blk_alloc ?_ _)); exact BK555.out) hb); have n4_ := Aside0.mk (below_step (by repeat (first | (with_reducible first | exact HB.out | apply below_alloc | apply pw_below_drewN | apply below_drew1 | refine below_set ?_ GE553.out | refine below_set ?_ GE554.out | refine below_set ?_ GE555.out) | exact HB.out)) hb); have n5_ := Aside0.mk (hbox); have n6_ := Aside0.mk ((by rw [hg]; exact (below_size (by repeat (first | (with_reducible first | exact HB.out | apply below_alloc | apply pw_below_drewN | apply below_drew1 | refine below_set ?_ GE553.out | refine below_set ?_ GE554.out | refine below_set ?_ GE555.out) | exact HB.out))) : w.heap.size ≤ gb562)); have n7_ := Aside0.mk ((by rw [hg]; exact (below_size (by repeat (first | (with_reducible first | exact HB.out | apply below_alloc | apply pw_below_drewN | apply below_drew1 | refine below_set ?_ GE553.out | refine below_set ?_ GE554.out | refine below_set ?_ GE555.out) | exact HB.out))) : w.heap.size ≤ gb562)); have n8_ := Aside0.mk ((by rw [hg]; exact Nat.ne_of_lt (blk_lt (g := gb553) (o := .cells #[.string a0_0, .slice A0_1 l0_1.length c0_1] 51 (0, 0)) (by (with_reducible repeat (first | refine blk_drewN ?_ _ | refine blk_drew ?_ | refine blk_alloc ?_ _)); exact BK553.out)) : gb553 ≠ gb562)); have n9_ := Aside0.mk ((by rw [hg]; exact Nat.ne_of_gt (blk_lt (g := gb553) (o := .cells #[.string a0_0, .slice A0_1 l0_1.length c0_1] 51 (0, 0)) (by (with_reducible repeat (first | refine blk_drewN ?_ _ | refine blk_drew ?_ | refine blk_alloc ?_ _)); exact BK553.out)) : gb562 ≠ gb553)); have n10_ := Aside0.mk ((by rw [hg]; exact Nat.ne_of_lt (blk_lt (g := gb554) (o := .cells #[.int .i64 a1_0, .string a1_1, .slice A1_2 l1_2.length c1_2, .string a1_3, .slice A1_4 l1_4.length c1_4] 64 (0, 0)) (by (with_reducible repeat (first | refine blk_drewN ?_ _ | refine blk_drew ?_ | refine blk_alloc ?_ _)); exact BK554.out)) : gb554 ≠ gb562)); have n11_ := Aside0.mk ((by rw [hg]; exact Nat.ne_of_gt (blk_lt (g := gb554) (o := .cells #[.int .i64 a1_0, .string a1_1, .slice A1_2 l1_2.length c1_2, .string a1_3, .slice A1_4 l1_4.length c1_4] 64 (0, 0)) (by (with_reducible repeat (first | refine blk_drewN ?_ _ | refine blk_drew ?_ | refine blk_alloc ?_ _)); exact BK554.out)) : gb562 ≠ gb554)); have n12_ := Aside0.mk ((by rw [hg]; exact Nat.ne_of_lt (blk_lt (g := gb555) (o := .cells #[.string (⟨#[]⟩ : ByteArray), .slice none 0 0] 51 (0, 0)) (by (with_reducible repeat (first | refine blk_drewN ?_ _ | refine blk_drew ?_ | refine blk_alloc ?_ _)); exact BK555.out)) : gb555 ≠ gb562)); have n13_ := Aside0.mk ((by rw [hg]; exact Nat.ne_of_gt (blk_lt (g := gb555) (o := .cells #[.string (⟨#[]⟩ : ByteArray), .slice none 0 0] 51 (0, 0)) (by (with_reducible repeat (first | refine blk_drewN ?_ _ | refine blk_drew ?_ | refine blk_alloc ?_ _)); exact BK555.out)) : gb562 ≠ gb555)); clear HO560; clear BK553; clear BK554; clear BK555; clear HB; have HO560 := n0_; have BK553 := n1_; have BK554 := n2_; have BK555 := n3_; have HB := n4_; have BK562 := n5_; have GW562 := n6_; have GE562 := n7_; have NB553_562 := n8_; have NB562_553 := n9_; have NB554_562 := n10_; have NB562_554 := n11_; have NB555_562 := n12_; have NB562_555 := n13_; clear n0_ n1_ n2_ n3_ n4_ n5_ n6_ n7_ n8_ n9_ n10_ n11_ n12_ n13_; clear hb hbox hg; have hnb46 := NB562_553.out; have hnc46 := NB553_562.out; have hnb47 := NB562_554.out; have hnc47 := NB554_562.out; have hnb48 := NB562_555.out; have hnc48 := NB555_562.out; have hcz49_0 : w45.cell? ⟨gb562, 0, none⟩ = some (.string (⟨#[]⟩ : ByteArray)) := (blk_cell BK562.out 0).trans rfl; have hcz49_1 : w45.cell? ⟨gb562, 1, none⟩ = some (.slice none 0 0) := (blk_cell BK562.out 1).trans rfl; have hfz49_0 := blk_frozen BK562.out 0; have hfz49_1 := blk_frozen BK562.out 1; obtain ⟨Ao50, co50, eo50⟩ := Kd.R_slice HO560.out; subst eo50; have hcz51_0 : w45.cell? ⟨gb554, 0, none⟩ = some (.int .i64 a1_0) := (blk_cell BK554.out 0).trans rfl; have hcz51_1 : w45.cell? ⟨gb554, 1, none⟩ = some (.string a1_1) := (blk_cell BK554.out 1).trans rfl; have hcz51_2 : w45.cell? ⟨gb554, 2, none⟩ = some (.slice A1_2 l1_2.length c1_2) := (blk_cell BK554.out 2).trans rfl; have hcz51_3 : w45.cell? ⟨gb554, 3, none⟩ = some (.string a1_3) := (blk_cell BK554.out 3).trans rfl; have hcz51_4 : w45.cell? ⟨gb554, 4, none⟩ = some (.slice A1_4 l1_4.length c1_4) := (blk_cell BK554.out 4).trans rfl; have hfz51_0 := blk_frozen BK554.out 0; have hfz51_1 := blk_frozen BK554.out 1; have hfz51_2 := blk_frozen BK554.out 2; have hfz51_3 := blk_frozen BK554.out 3; have hfz51_4 := blk_frozen BK554.out 4) | ((with_reducible refine gate_callee (f := 71) rfl ?_); refine goesL_ (some 37) rfl rfl Try.func71 (by kernel_rfl) rfl #[.agg #[.string t557, .slice Ao50 t558.length co50], .agg #[.string a1_1, .slice A1_2 l1_2.length c1_2]] rfl (by (try simp only [List.map_toArray, List.map_cons, List.map_nil]); first | done | rfl | (simp only [List.length_drop, List.length_take]; rfl)) ?_; (with_reducible refine (strip_Same.calls k t557 _ _ t558 a1_1 _ _ l1_2 false _ ?side1 ?side2 ?side3 ?side4 A7.out).mono ?_); (case side1 => refine (Kd.R_reads' (e := 100) (base := w.heap.size) (ok := fun k_ => True) (n := t558.length) (c := co50) ?_).2.2; exact (by (with_reducible repeat (first | apply Kd.R_alloc | apply Kd.R_drewN | apply Kd.R_drew)); exact (Kd.R_mono (Kd.R_far (p := ⟨gb562, 1, none⟩) (Kd.R_far (p := ⟨gb562, 0, none⟩) (Kd.R_types HO560.out BK562.out (by decide)) (fun _ hk => hk.2) (.string t557)) (fun _ hk => hk.2) (.slice Ao50 t558.length co50)) (fun _ h_ => h_.1)))); (case side2 => exact (Kd.R_reads' HO560.out).2.1); (case side3 => exact Kd.C_below HR1_2.out (by repeat (first | (with_reducible first | exact HB.out | apply below_alloc | apply pw_below_drewN | apply below_drew1 | refine below_set ?_ GE553.out | refine below_set ?_ GE554.out | refine below_set ?_ GE555.out | refine below_set ?_ GE562.out) | exact HB.out))); (case side4 => exact HC1_2.out); rintro e w52 ⟨rfl, hb⟩; refine ⟨_, rfl, ?_⟩; have n0_ := Aside0.mk (Kd.R_below (by (with_reducible repeat (first | apply Kd.R_alloc | apply Kd.R_drewN | apply Kd.R_drew)); exact (Kd.R_mono (Kd.R_far (p := ⟨gb562, 1, none⟩) (Kd.R_far (p := ⟨gb562, 0, none⟩) (Kd.R_types HO560.out BK562.out (by decide)) (fun _ hk => hk.2) (.string t557)) (fun _ hk => hk.2) (.slice Ao50 t558.length co50)) (fun _ h_ => h_.1))) hb); have n1_ := Aside0.mk (blk_below (g := gb553) (o := .cells #[.string a0_0, .slice A0_1 l0_1.length c0_1] 51 (0, 0)) (by (with_reducible repeat (first | refine blk_drewN ?_ _ | refine blk_drew ?_ | refine blk_alloc ?_ _)); refine blk_far ?_ NB553_562.out _; (with_reducible repeat (first | refine blk_drewN ?_ _ | refine blk_drew ?_ | refine blk_alloc ?_ _)); refine blk_far ?_ NB553_562.out _; (with_reducible repeat (first | refine blk_drewN ?_ _ | refine blk_drew ?_ | refine blk_alloc ?_ _)); exact BK553.out) hb); have n2_ := Aside0.mk (blk_below (g := gb554) (o := .cells #[.int .i64 a1_0, .string a1_1, .slice A1_2 l1_2.length c1_2, .string a1_3, .slice A1_4 l1_4.length c1_4] 64 (0, 0)) (by (with_reducible repeat (first | refine blk_drewN ?_ _ | refine blk_drew ?_ | refine blk_alloc ?_ _)); refine blk_far ?_ NB554_562.out _; (with_reducible repeat (first | refine blk_drewN ?_ _ | refine blk_drew ?_ | refine blk_alloc ?_ _)); refine blk_far ?_ NB554_562.out _; (with_reducible repeat (first | refine blk_drewN ?_ _ | refine blk_drew ?_ | refine blk_alloc ?_ _)); exact BK554.out) hb); have n3_ := Aside0.mk (blk_below (g := gb555) (o := .cells #[.string (⟨#[]⟩ : ByteArray), .slice none 0 0] 51 (0, 0)) (by (with_reducible repeat (first | refine blk_drewN ?_ _ | refine blk_drew ?_ | refine blk_alloc ?_ _)); refine blk_far ?_ NB555_562.out _; (with_reducible repeat (first | refine blk_drewN ?_ _ | refine blk_drew ?_ | refine blk_alloc ?_ _)); refine blk_far ?_ NB555_562.out _; (with_reducible repeat (first | refine blk_drewN ?_ _ | refine blk_drew ?_ | refine blk_alloc ?_ _)); exact BK555.out) hb); have n4_ := Aside0.mk (blk_below (g := gb562) (o := .cells #[.string t557, .slice Ao50 t558.length co50] 51 (0, 0)) (by (with_reducible repeat (first | refine blk_drewN ?_ _ | refine blk_drew ?_ | refine blk_alloc ?_ _)); refine blk_put (cs := #[.string t557, .slice none 0 0]) ?_ 1 _ rfl; (with_reducible repeat (first | refine blk_drewN ?_ _ | refine blk_drew ?_ | refine blk_alloc ?_ _)); refine blk_put (cs := #[.string (⟨#[]⟩ : ByteArray), .slice none 0 0]) ?_ 0 _ rfl; (with_reducible repeat (first | refine blk_drewN ?_ _ | refine blk_drew ?_ | refine blk_alloc ?_ _)); exact BK562.out) hb); have n5_ := Aside0.mk (below_step (by repeat (first | (with_reducible first | exact HB.out | apply below_alloc | apply pw_below_drewN | apply below_drew1 | refine below_set ?_ GE553.out | refine below_set ?_ GE554.out | refine below_set ?_ GE555.out | refine below_set ?_ GE562.out) | exact HB.out)) hb); clear HO560; clear BK553; clear BK554; clear BK555; clear BK562; clear HB; have HO560 := n0_; have BK553 := n1_; have BK554 := n2_; have BK555 := n3_; have BK562 := n4_; have HB := n5_; clear n0_ n1_ n2_ n3_ n4_ n5_; (try clear hb); (try clear hb2); (try clear hk); (try clear hi); have hcz53_0 : w52.cell? ⟨gb555, 0, none⟩ = some (.string (⟨#[]⟩ : ByteArray)) := (blk_cell BK555.out 0).trans rfl; have hcz53_1 : w52.cell? ⟨gb555, 1, none⟩ = some (.slice none 0 0) := (blk_cell BK555.out 1).trans rfl; have hfz53_0 := blk_frozen BK555.out 0; have hfz53_1 := blk_frozen BK555.out 1))
        refine bodyPost_ret (results_ct rfl _ _ gb555 51 #[.string (⟨#[]⟩ : ByteArray), .slice none 0 0] (0, 0) _ rfl (by (with_reducible repeat (first | refine blk_drewN ?_ _ | refine blk_drew ?_ | refine blk_alloc ?_ _)); refine blk_put (cs := #[.string (⟨#[]⟩ : ByteArray), .slice none 0 0]) ?_ 1 _ rfl; (with_reducible repeat (first | refine blk_drewN ?_ _ | refine blk_drew ?_ | refine blk_alloc ?_ _)); refine blk_put (cs := #[.string (⟨#[]⟩ : ByteArray), .slice none 0 0]) ?_ 0 _ rfl; (with_reducible repeat (first | refine blk_drewN ?_ _ | refine blk_drew ?_ | refine blk_alloc ?_ _)); exact BK555.out) Try.underlying51 rfl (by kernel_rfl)) rfl ?_
        exact ⟨_, by first | rfl | (simp [errW_none, errW_some] <;> rfl) | (simp [*, errW_none, errW_some] <;> rfl), by first | exact Kd.R_nil _ _ _ _ _ | exact Kd.N_nil _ _ _ _ _ | exact Kd.V_nil _ _ _ _ _ | exact Kd.Q_nil _ _ _ _ _ | exact Kd.S_nil _ _ _ _ _, by repeat (first | (with_reducible first | exact HB.out | apply below_alloc | apply pw_below_drewN | apply below_drew1 | refine below_set ?_ GE553.out | refine below_set ?_ GE554.out | refine below_set ?_ GE555.out | refine below_set ?_ GE562.out) | exact HB.out)⟩
    · rw [if_neg c6] at H
      have c6b0 : (t561 == 0) = false := beq_eq_false_iff_ne.mpr c6
      have c6b1 : (t561 != 0) = true := bne_iff_ne.mpr c6
      simp only [Option.some.injEq, Prod.mk.injEq] at H
      obtain ⟨rfl, rfl, rfl⟩ := H
      go_enter Try.func65, Try.ntmps65
      go_wp2_with (first | ((with_reducible refine gate_dst (N := 2) rfl ?_); refine box_event ?hg (N := 2) ?hd (cs := #[.string a0_0, .slice A0_1 l0_1.length c0_1]) (t := 51) ?hr ?_; (case hd => rfl); (case hg => rfl); (case hr => first | (go_simp; done) | (go_simp; rfl)); intro gb553 hg w54 hbox hb; have n0_ := Aside0.mk (below_step (by repeat (first | (with_reducible first | exact HB.out | apply below_alloc | apply pw_below_drewN | apply below_drew1) | exact HB.out)) hb); have n1_ := Aside0.mk (hbox); have n2_ := Aside0.mk ((by rw [hg]; exact (below_size (by repeat (first | (with_reducible first | exact HB.out | apply below_alloc | apply pw_below_drewN | apply below_drew1) | exact HB.out))) : w.heap.size ≤ gb553)); have n3_ := Aside0.mk ((by rw [hg]; exact (below_size (by repeat (first | (with_reducible first | exact HB.out | apply below_alloc | apply pw_below_drewN | apply below_drew1) | exact HB.out))) : w.heap.size ≤ gb553)); clear HB; have HB := n0_; have BK553 := n1_; have GW553 := n2_; have GE553 := n3_; clear n0_ n1_ n2_ n3_; clear hb hbox hg) | ((with_reducible refine gate_dst (N := 3) rfl ?_); refine box_event ?hg (N := 3) ?hd (cs := #[.int .i64 a1_0, .string a1_1, .slice A1_2 l1_2.length c1_2, .string a1_3, .slice A1_4 l1_4.length c1_4]) (t := 64) ?hr ?_; (case hd => rfl); (case hg => rfl); (case hr => first | (go_simp; done) | (go_simp; rfl)); intro gb554 hg w55 hbox hb; have n0_ := Aside0.mk (blk_below (g := gb553) (o := .cells #[.string a0_0, .slice A0_1 l0_1.length c0_1] 51 (0, 0)) (by (with_reducible repeat (first | refine blk_drewN ?_ _ | refine blk_drew ?_ | refine blk_alloc ?_ _)); exact BK553.out) hb); have n1_ := Aside0.mk (below_step (by repeat (first | (with_reducible first | exact HB.out | apply below_alloc | apply pw_below_drewN | apply below_drew1 | refine below_set ?_ GE553.out) | exact HB.out)) hb); have n2_ := Aside0.mk (hbox); have n3_ := Aside0.mk ((by rw [hg]; exact (below_size (by repeat (first | (with_reducible first | exact HB.out | apply below_alloc | apply pw_below_drewN | apply below_drew1 | refine below_set ?_ GE553.out) | exact HB.out))) : w.heap.size ≤ gb554)); have n4_ := Aside0.mk ((by rw [hg]; exact (below_size (by repeat (first | (with_reducible first | exact HB.out | apply below_alloc | apply pw_below_drewN | apply below_drew1 | refine below_set ?_ GE553.out) | exact HB.out))) : w.heap.size ≤ gb554)); have n5_ := Aside0.mk ((by rw [hg]; exact Nat.ne_of_lt (blk_lt (g := gb553) (o := .cells #[.string a0_0, .slice A0_1 l0_1.length c0_1] 51 (0, 0)) (by (with_reducible repeat (first | refine blk_drewN ?_ _ | refine blk_drew ?_ | refine blk_alloc ?_ _)); exact BK553.out)) : gb553 ≠ gb554)); have n6_ := Aside0.mk ((by rw [hg]; exact Nat.ne_of_gt (blk_lt (g := gb553) (o := .cells #[.string a0_0, .slice A0_1 l0_1.length c0_1] 51 (0, 0)) (by (with_reducible repeat (first | refine blk_drewN ?_ _ | refine blk_drew ?_ | refine blk_alloc ?_ _)); exact BK553.out)) : gb554 ≠ gb553)); clear BK553; clear HB; have BK553 := n0_; have HB := n1_; have BK554 := n2_; have GW554 := n3_; have GE554 := n4_; have NB553_554 := n5_; have NB554_553 := n6_; clear n0_ n1_ n2_ n3_ n4_ n5_ n6_; clear hb hbox hg) | ((with_reducible refine gate_dst (N := 4) rfl ?_); refine box_event ?hg (N := 4) ?hd (cs := #[.string (⟨#[]⟩ : ByteArray), .slice none 0 0]) (t := 51) ?hr ?_; (case hd => rfl); (case hg => rfl); (case hr => first | (go_simp; done) | (go_simp; rfl)); intro gb555 hg w56 hbox hb; have n0_ := Aside0.mk (blk_below (g := gb553) (o := .cells #[.string a0_0, .slice A0_1 l0_1.length c0_1] 51 (0, 0)) (by (with_reducible repeat (first | refine blk_drewN ?_ _ | refine blk_drew ?_ | refine blk_alloc ?_ _)); exact BK553.out) hb); have n1_ := Aside0.mk (blk_below (g := gb554) (o := .cells #[.int .i64 a1_0, .string a1_1, .slice A1_2 l1_2.length c1_2, .string a1_3, .slice A1_4 l1_4.length c1_4] 64 (0, 0)) (by (with_reducible repeat (first | refine blk_drewN ?_ _ | refine blk_drew ?_ | refine blk_alloc ?_ _)); exact BK554.out) hb); have n2_ := Aside0.mk (below_step (by repeat (first | (with_reducible first | exact HB.out | apply below_alloc | apply pw_below_drewN | apply below_drew1 | refine below_set ?_ GE553.out | refine below_set ?_ GE554.out) | exact HB.out)) hb); have n3_ := Aside0.mk (hbox); have n4_ := Aside0.mk ((by rw [hg]; exact (below_size (by repeat (first | (with_reducible first | exact HB.out | apply below_alloc | apply pw_below_drewN | apply below_drew1 | refine below_set ?_ GE553.out | refine below_set ?_ GE554.out) | exact HB.out))) : w.heap.size ≤ gb555)); have n5_ := Aside0.mk ((by rw [hg]; exact (below_size (by repeat (first | (with_reducible first | exact HB.out | apply below_alloc | apply pw_below_drewN | apply below_drew1 | refine below_set ?_ GE553.out | refine below_set ?_ GE554.out) | exact HB.out))) : w.heap.size ≤ gb555)); have n6_ := Aside0.mk ((by rw [hg]; exact Nat.ne_of_lt (blk_lt (g := gb553) (o := .cells #[.string a0_0, .slice A0_1 l0_1.length c0_1] 51 (0, 0)) (by (with_reducible repeat (first | refine blk_drewN ?_ _ | refine blk_drew ?_ | refine blk_alloc ?_ _)); exact BK553.out)) : gb553 ≠ gb555)); have n7_ := Aside0.mk ((by rw [hg]; exact Nat.ne_of_gt (blk_lt (g := gb553) (o := .cells #[.string a0_0, .slice A0_1 l0_1.length c0_1] 51 (0, 0)) (by (with_reducible repeat (first | refine blk_drewN ?_ _ | refine blk_drew ?_ | refine blk_alloc ?_ _)); exact BK553.out)) : gb555 ≠ gb553)); have n8_ := Aside0.mk ((by rw [hg]; exact Nat.ne_of_lt (blk_lt (g := gb554) (o := .cells #[.int .i64 a1_0, .string a1_1, .slice A1_2 l1_2.length c1_2, .string a1_3, .slice A1_4 l1_4.length c1_4] 64 (0, 0)) (by (with_reducible repeat (first | refine blk_drewN ?_ _ | refine blk_drew ?_ | refine blk_alloc ?_ _)); exact BK554.out)) : gb554 ≠ gb555)); have n9_ := Aside0.mk ((by rw [hg]; exact Nat.ne_of_gt (blk_lt (g := gb554) (o := .cells #[.int .i64 a1_0, .string a1_1, .slice A1_2 l1_2.length c1_2, .string a1_3, .slice A1_4 l1_4.length c1_4] 64 (0, 0)) (by (with_reducible repeat (first | refine blk_drewN ?_ _ | refine blk_drew ?_ | refine blk_alloc ?_ _)); exact BK554.out)) : gb555 ≠ gb554)); clear BK553; clear BK554; clear HB; have BK553 := n0_; have BK554 := n1_; have HB := n2_; have BK555 := n3_; have GW555 := n4_; have GE555 := n5_; have NB553_555 := n6_; have NB555_553 := n7_; have NB554_555 := n8_; have NB555_554 := n9_; clear n0_ n1_ n2_ n3_ n4_ n5_ n6_ n7_ n8_ n9_; clear hb hbox hg; have hnb57 := NB554_553.out; have hnc57 := NB553_554.out; have hnb58 := NB554_555.out; have hnc58 := NB555_554.out; have hcz59_0 : w56.cell? ⟨gb554, 0, none⟩ = some (.int .i64 a1_0) := (blk_cell BK554.out 0).trans rfl; have hcz59_1 : w56.cell? ⟨gb554, 1, none⟩ = some (.string a1_1) := (blk_cell BK554.out 1).trans rfl; have hcz59_2 : w56.cell? ⟨gb554, 2, none⟩ = some (.slice A1_2 l1_2.length c1_2) := (blk_cell BK554.out 2).trans rfl; have hcz59_3 : w56.cell? ⟨gb554, 3, none⟩ = some (.string a1_3) := (blk_cell BK554.out 3).trans rfl; have hcz59_4 : w56.cell? ⟨gb554, 4, none⟩ = some (.slice A1_4 l1_4.length c1_4) := (blk_cell BK554.out 4).trans rfl; have hfz59_0 := blk_frozen BK554.out 0; have hfz59_1 := blk_frozen BK554.out 1; have hfz59_2 := blk_frozen BK554.out 2; have hfz59_3 := blk_frozen BK554.out 3; have hfz59_4 := blk_frozen BK554.out 4) | ((with_reducible refine gate_callee (f := 99) rfl ?_); refine goesL_ (some 10) rfl rfl Try.func99 (by kernel_rfl) rfl #[.agg #[.int .i64 a1_0, .string a1_1, .slice A1_2 l1_2.length c1_2, .string a1_3, .slice A1_4 l1_4.length c1_4]] rfl (by (try simp only [List.map_toArray, List.map_cons, List.map_nil]); first | done | rfl | (simp only [List.length_drop, List.length_take]; rfl)) ?_; (with_reducible refine (edit_good.calls k a1_0 a1_1 _ _ l1_2 a1_3 _ _ l1_4 true _ ?side1 ?side2 ?side3 ?side4 A3.out).mono ?_); (case side1 => repeat (first | exact (Kd.C_below HR1_2.out HB.out) | (with_reducible refine Kd.C_alloc ?_ _) | (with_reducible refine Kd.C_drewN ?_ _) | (with_reducible refine Kd.C_drew ?_))); (case side2 => exact HC1_2.out); (case side3 => repeat (first | exact (Kd.C_below HR1_4.out HB.out) | (with_reducible refine Kd.C_alloc ?_ _) | (with_reducible refine Kd.C_drewN ?_ _) | (with_reducible refine Kd.C_drew ?_))); (case side4 => exact HC1_4.out); rintro e w60 ⟨rfl, hb⟩; refine ⟨_, rfl, ?_⟩; have n0_ := Aside0.mk (blk_below (g := gb553) (o := .cells #[.string a0_0, .slice A0_1 l0_1.length c0_1] 51 (0, 0)) (by (with_reducible repeat (first | refine blk_drewN ?_ _ | refine blk_drew ?_ | refine blk_alloc ?_ _)); exact BK553.out) hb); have n1_ := Aside0.mk (blk_below (g := gb554) (o := .cells #[.int .i64 a1_0, .string a1_1, .slice A1_2 l1_2.length c1_2, .string a1_3, .slice A1_4 l1_4.length c1_4] 64 (0, 0)) (by (with_reducible repeat (first | refine blk_drewN ?_ _ | refine blk_drew ?_ | refine blk_alloc ?_ _)); exact BK554.out) hb); have n2_ := Aside0.mk (blk_below (g := gb555) (o := .cells #[.string (⟨#[]⟩ : ByteArray), .slice none 0 0] 51 (0, 0)) (by (with_reducible repeat (first | refine blk_drewN ?_ _ | refine blk_drew ?_ | refine blk_alloc ?_ _)); exact BK555.out) hb); have n3_ := Aside0.mk (below_step (by repeat (first | (with_reducible first | exact HB.out | apply below_alloc | apply pw_below_drewN | apply below_drew1 | refine below_set ?_ GE553.out | refine below_set ?_ GE554.out | refine below_set ?_ GE555.out) | exact HB.out)) hb); clear BK553; clear BK554; clear BK555; clear HB; have BK553 := n0_; have BK554 := n1_; have BK555 := n2_; have HB := n3_; clear n0_ n1_ n2_ n3_; (try clear hb); (try clear hb2); (try clear hk); (try clear hi); have hcz61_0 : w60.cell? ⟨gb554, 0, none⟩ = some (.int .i64 a1_0) := (blk_cell BK554.out 0).trans rfl; have hcz61_1 : w60.cell? ⟨gb554, 1, none⟩ = some (.string a1_1) := (blk_cell BK554.out 1).trans rfl; have hcz61_2 : w60.cell? ⟨gb554, 2, none⟩ = some (.slice A1_2 l1_2.length c1_2) := (blk_cell BK554.out 2).trans rfl; have hcz61_3 : w60.cell? ⟨gb554, 3, none⟩ = some (.string a1_3) := (blk_cell BK554.out 3).trans rfl; have hcz61_4 : w60.cell? ⟨gb554, 4, none⟩ = some (.slice A1_4 l1_4.length c1_4) := (blk_cell BK554.out 4).trans rfl; have hfz61_0 := blk_frozen BK554.out 0; have hfz61_1 := blk_frozen BK554.out 1; have hfz61_2 := blk_frozen BK554.out 2; have hfz61_3 := blk_frozen BK554.out 3; have hfz61_4 := blk_frozen BK554.out 4; have hnb62 := NB553_555.out; have hnc62 := NB555_553.out; have hcz63_0 : w60.cell? ⟨gb553, 0, none⟩ = some (.string a0_0) := (blk_cell BK553.out 0).trans rfl; have hcz63_1 : w60.cell? ⟨gb553, 1, none⟩ = some (.slice A0_1 l0_1.length c0_1) := (blk_cell BK553.out 1).trans rfl; have hfz63_0 := blk_frozen BK553.out 0; have hfz63_1 := blk_frozen BK553.out 1) | ((with_reducible refine gate_callee (f := 73) rfl ?_); refine goesL_ (some 25) rfl rfl Try.func73 (by kernel_rfl) rfl #[.agg #[.string a0_0, .slice A0_1 l0_1.length c0_1], .int .i64 a1_0, .int .i64 (wrap64 (a1_0 + (a1_1.size : Int)))] rfl (by (try simp only [List.map_toArray, List.map_cons, List.map_nil]); first | done | rfl | (simp only [List.length_drop, List.length_take]; rfl)) ?_; (with_reducible refine (strip_Cut.calls k a0_0 _ _ l0_1 a1_0 (wrap64 (a1_0 + (a1_1.size : Int))) t557 t558 t561 _ ?side1 ?side2 A5.out).mono ?_); (case side1 => repeat (first | exact (Kd.C_below HR0_1.out HB.out) | (with_reducible refine Kd.C_alloc ?_ _) | (with_reducible refine Kd.C_drewN ?_ _) | (with_reducible refine Kd.C_drew ?_))); (case side2 => exact HC0_1.out); rintro e w64 ⟨v559, rfl, ho0, hb⟩; refine ⟨_, rfl, ?_⟩; have n0_ := Aside0.mk (Kd.R_lower ho0 (below_size (by repeat (first | (with_reducible first | exact HB.out | apply below_alloc | apply pw_below_drewN | apply below_drew1 | refine below_set ?_ GE553.out | refine below_set ?_ GE554.out | refine below_set ?_ GE555.out) | exact HB.out)))); have n1_ := Aside0.mk (blk_below (g := gb553) (o := .cells #[.string a0_0, .slice A0_1 l0_1.length c0_1] 51 (0, 0)) (by (with_reducible repeat (first | refine blk_drewN ?_ _ | refine blk_drew ?_ | refine blk_alloc ?_ _)); exact BK553.out) hb); have n2_ := Aside0.mk (blk_below (g := gb554) (o := .cells #[.int .i64 a1_0, .string a1_1, .slice A1_2 l1_2.length c1_2, .string a1_3, .slice A1_4 l1_4.length c1_4] 64 (0, 0)) (by (with_reducible repeat (first | refine blk_drewN ?_ _ | refine blk_drew ?_ | refine blk_alloc ?_ _)); exact BK554.out) hb); have n3_ := Aside0.mk (blk_below (g := gb555) (o := .cells #[.string (⟨#[]⟩ : ByteArray), .slice none 0 0] 51 (0, 0)) (by (with_reducible repeat (first | refine blk_drewN ?_ _ | refine blk_drew ?_ | refine blk_alloc ?_ _)); exact BK555.out) hb); have n4_ := Aside0.mk (below_step (by repeat (first | (with_reducible first | exact HB.out | apply below_alloc | apply pw_below_drewN | apply below_drew1 | refine below_set ?_ GE553.out | refine below_set ?_ GE554.out | refine below_set ?_ GE555.out) | exact HB.out)) hb); clear BK553; clear BK554; clear BK555; clear HB; have HO560 := n0_; have BK553 := n1_; have BK554 := n2_; have BK555 := n3_; have HB := n4_; clear n0_ n1_ n2_ n3_ n4_; (try clear hb); (try clear hb2); (try clear hk); (try clear hi); (try clear ho0)) | ((with_reducible refine gate_dst (N := 7) rfl ?_); refine box_event ?hg (N := 7) ?hd (cs := #[.string (⟨#[]⟩ : ByteArray), .slice none 0 0]) (t := 51) ?hr ?_; (case hd => rfl); (case hg => rfl); (case hr => first | (go_simp; done) | (go_simp; rfl)); intro gb562 hg w65 hbox hb; have n0_ := Aside0.mk (Kd.R_below (by (with_reducible repeat (first | apply Kd.R_alloc | apply Kd.R_drewN | apply Kd.R_drew)); exact HO560.out) hb); have n1_ := Aside0.mk (blk_below (g := gb553) (o := .cells #[.string a0_0, .slice A0_1 l0_1.length c0_1] 51 (0, 0)) (by (with_reducible repeat (first | refine blk_drewN ?_ _ | refine blk_drew ?_ | refine blk_alloc ?_ _)); exact BK553.out) hb); have n2_ := Aside0.mk (blk_below (g := gb554) (o := .cells #[.int .i64 a1_0, .string a1_1, .slice A1_2 l1_2.length c1_2, .string a1_3, .slice A1_4 l1_4.length c1_4] 64 (0, 0)) (by (with_reducible repeat (first | refine blk_drewN ?_ _ | refine blk_drew ?_ | refine blk_alloc ?_ _)); exact BK554.out) hb); have n3_ := Aside0.mk (blk_below (g := gb555) (o := .cells #[.string (⟨#[]⟩ : ByteArray), .slice none 0 0] 51 (0, 0)) (by (with_reducible repeat (first | refine blk_drewN ?_ _ | refine blk_drew ?_ | refine blk_alloc ?_ _)); exact BK555.out) hb); have n4_ := Aside0.mk (below_step (by repeat (first | (with_reducible first | exact HB.out | apply below_alloc | apply pw_below_drewN | apply below_drew1 | refine below_set ?_ GE553.out | refine below_set ?_ GE554.out | refine below_set ?_ GE555.out) | exact HB.out)) hb); have n5_ := Aside0.mk (hbox); have n6_ := Aside0.mk ((by rw [hg]; exact (below_size (by repeat (first | (with_reducible first | exact HB.out | apply below_alloc | apply pw_below_drewN | apply below_drew1 | refine below_set ?_ GE553.out | refine below_set ?_ GE554.out | refine below_set ?_ GE555.out) | exact HB.out))) : w.heap.size ≤ gb562)); have n7_ := Aside0.mk ((by rw [hg]; exact (below_size (by repeat (first | (with_reducible first | exact HB.out | apply below_alloc | apply pw_below_drewN | apply below_drew1 | refine below_set ?_ GE553.out | refine below_set ?_ GE554.out | refine below_set ?_ GE555.out) | exact HB.out))) : w.heap.size ≤ gb562)); have n8_ := Aside0.mk ((by rw [hg]; exact Nat.ne_of_lt (blk_lt (g := gb553) (o := .cells #[.string a0_0, .slice A0_1 l0_1.length c0_1] 51 (0, 0)) (by (with_reducible repeat (first | refine blk_drewN ?_ _ | refine blk_drew ?_ | refine blk_alloc ?_ _)); exact BK553.out)) : gb553 ≠ gb562)); have n9_ := Aside0.mk ((by rw [hg]; exact Nat.ne_of_gt (blk_lt (g := gb553) (o := .cells #[.string a0_0, .slice A0_1 l0_1.length c0_1] 51 (0, 0)) (by (with_reducible repeat (first | refine blk_drewN ?_ _ | refine blk_drew ?_ | refine blk_alloc ?_ _)); exact BK553.out)) : gb562 ≠ gb553)); have n10_ := Aside0.mk ((by rw [hg]; exact Nat.ne_of_lt (blk_lt (g := gb554) (o := .cells #[.int .i64 a1_0, .string a1_1, .slice A1_2 l1_2.length c1_2, .string a1_3, .slice A1_4 l1_4.length c1_4] 64 (0, 0)) (by (with_reducible repeat (first | refine blk_drewN ?_ _ | refine blk_drew ?_ | refine blk_alloc ?_ _)); exact BK554.out)) : gb554 ≠ gb562)); have n11_ := Aside0.mk ((by rw [hg]; exact Nat.ne_of_gt (blk_lt (g := gb554) (o := .cells #[.int .i64 a1_0, .string a1_1, .slice A1_2 l1_2.length c1_2, .string a1_3, .slice A1_4 l1_4.length c1_4] 64 (0, 0)) (by (with_reducible repeat (first | refine blk_drewN ?_ _ | refine blk_drew ?_ | refine blk_alloc ?_ _)); exact BK554.out)) : gb562 ≠ gb554)); have n12_ := Aside0.mk ((by rw [hg]; exact Nat.ne_of_lt (blk_lt (g := gb555) (o := .cells #[.string (⟨#[]⟩ : ByteArray), .slice none 0 0] 51 (0, 0)) (by (with_reducible repeat (first | refine blk_drewN ?_ _ | refine blk_drew ?_ | refine blk_alloc ?_ _)); exact BK555.out)) : gb555 ≠ gb562)); have n13_ := Aside0.mk ((by rw [hg]; exact Nat.ne_of_gt (blk_lt (g := gb555) (o := .cells #[.string (⟨#[]⟩ : ByteArray), .slice none 0 0] 51 (0, 0)) (by (with_reducible repeat (first | refine blk_drewN ?_ _ | refine blk_drew ?_ | refine blk_alloc ?_ _)); exact BK555.out)) : gb562 ≠ gb555)); clear HO560; clear BK553; clear BK554; clear BK555; clear HB; have HO560 := n0_; have BK553 := n1_; have BK554 := n2_; have BK555 := n3_; have HB := n4_; have BK562 := n5_; have GW562 := n6_; have GE562 := n7_; have NB553_562 := n8_; have NB562_553 := n9_; have NB554_562 := n10_; have NB562_554 := n11_; have NB555_562 := n12_; have NB562_555 := n13_; clear n0_ n1_ n2_ n3_ n4_ n5_ n6_ n7_ n8_ n9_ n10_ n11_ n12_ n13_; clear hb hbox hg; have hnb66 := NB562_553.out; have hnc66 := NB553_562.out; have hnb67 := NB562_554.out; have hnc67 := NB554_562.out; have hnb68 := NB562_555.out; have hnc68 := NB555_562.out; have hcz69_0 : w65.cell? ⟨gb562, 0, none⟩ = some (.string (⟨#[]⟩ : ByteArray)) := (blk_cell BK562.out 0).trans rfl; have hcz69_1 : w65.cell? ⟨gb562, 1, none⟩ = some (.slice none 0 0) := (blk_cell BK562.out 1).trans rfl; have hfz69_0 := blk_frozen BK562.out 0; have hfz69_1 := blk_frozen BK562.out 1; obtain ⟨Ao70, co70, eo70⟩ := Kd.R_slice HO560.out; subst eo70; have hcz71_0 : w65.cell? ⟨gb555, 0, none⟩ = some (.string (⟨#[]⟩ : ByteArray)) := (blk_cell BK555.out 0).trans rfl; have hcz71_1 : w65.cell? ⟨gb555, 1, none⟩ = some (.slice none 0 0) := (blk_cell BK555.out 1).trans rfl; have hfz71_0 := blk_frozen BK555.out 0; have hfz71_1 := blk_frozen BK555.out 1))
      refine bodyPost_ret (results_ct rfl _ _ gb555 51 #[.string (⟨#[]⟩ : ByteArray), .slice none 0 0] (0, 0) _ rfl (by (with_reducible repeat (first | refine blk_drewN ?_ _ | refine blk_drew ?_ | refine blk_alloc ?_ _)); refine blk_put (cs := #[.string (⟨#[]⟩ : ByteArray), .slice none 0 0]) ?_ 1 _ rfl; (with_reducible repeat (first | refine blk_drewN ?_ _ | refine blk_drew ?_ | refine blk_alloc ?_ _)); refine blk_put (cs := #[.string (⟨#[]⟩ : ByteArray), .slice none 0 0]) ?_ 0 _ rfl; (with_reducible repeat (first | refine blk_drewN ?_ _ | refine blk_drew ?_ | refine blk_alloc ?_ _)); refine blk_far ?_ NB555_562.out _; (with_reducible repeat (first | refine blk_drewN ?_ _ | refine blk_drew ?_ | refine blk_alloc ?_ _)); refine blk_far ?_ NB555_562.out _; (with_reducible repeat (first | refine blk_drewN ?_ _ | refine blk_drew ?_ | refine blk_alloc ?_ _)); exact BK555.out) Try.underlying51 rfl (by kernel_rfl)) rfl ?_
      exact ⟨_, by first | rfl | (simp [errW_none, errW_some] <;> rfl) | (simp [*, errW_none, errW_some] <;> rfl), by first | exact Kd.R_nil _ _ _ _ _ | exact Kd.N_nil _ _ _ _ _ | exact Kd.V_nil _ _ _ _ _ | exact Kd.Q_nil _ _ _ _ _ | exact Kd.S_nil _ _ _ _ _, by repeat (first | (with_reducible first | exact HB.out | apply below_alloc | apply pw_below_drewN | apply below_drew1 | refine below_set ?_ GE553.out | refine below_set ?_ GE554.out | refine below_set ?_ GE555.out | refine below_set ?_ GE562.out) | exact HB.out)⟩
  · replace c4 := Bool.eq_false_iff.mpr c4
    subst c4
    have H1 : (some ((⟨#[]⟩ : ByteArray), ([] : List (S100)), 2)) = some (r1, r2, r3) := by rw [if_neg (show ¬ (false = true) by decide)] at H; exact H
    clear H
    have H := H1
    clear H1
    simp only [Option.some.injEq, Prod.mk.injEq] at H
    obtain ⟨rfl, rfl, rfl⟩ := H
    go_enter Try.func65, Try.ntmps65
    go_wp2_with (first | ((with_reducible refine gate_dst (N := 2) rfl ?_); refine box_event ?hg (N := 2) ?hd (cs := #[.string a0_0, .slice A0_1 l0_1.length c0_1]) (t := 51) ?hr ?_; (case hd => rfl); (case hg => rfl); (case hr => first | (go_simp; done) | (go_simp; rfl)); intro gb553 hg w72 hbox hb; have n0_ := Aside0.mk (below_step (by repeat (first | (with_reducible first | exact HB.out | apply below_alloc | apply pw_below_drewN | apply below_drew1) | exact HB.out)) hb); have n1_ := Aside0.mk (hbox); have n2_ := Aside0.mk ((by rw [hg]; exact (below_size (by repeat (first | (with_reducible first | exact HB.out | apply below_alloc | apply pw_below_drewN | apply below_drew1) | exact HB.out))) : w.heap.size ≤ gb553)); have n3_ := Aside0.mk ((by rw [hg]; exact (below_size (by repeat (first | (with_reducible first | exact HB.out | apply below_alloc | apply pw_below_drewN | apply below_drew1) | exact HB.out))) : w.heap.size ≤ gb553)); clear HB; have HB := n0_; have BK553 := n1_; have GW553 := n2_; have GE553 := n3_; clear n0_ n1_ n2_ n3_; clear hb hbox hg) | ((with_reducible refine gate_dst (N := 3) rfl ?_); refine box_event ?hg (N := 3) ?hd (cs := #[.int .i64 a1_0, .string a1_1, .slice A1_2 l1_2.length c1_2, .string a1_3, .slice A1_4 l1_4.length c1_4]) (t := 64) ?hr ?_; (case hd => rfl); (case hg => rfl); (case hr => first | (go_simp; done) | (go_simp; rfl)); intro gb554 hg w73 hbox hb; have n0_ := Aside0.mk (blk_below (g := gb553) (o := .cells #[.string a0_0, .slice A0_1 l0_1.length c0_1] 51 (0, 0)) (by (with_reducible repeat (first | refine blk_drewN ?_ _ | refine blk_drew ?_ | refine blk_alloc ?_ _)); exact BK553.out) hb); have n1_ := Aside0.mk (below_step (by repeat (first | (with_reducible first | exact HB.out | apply below_alloc | apply pw_below_drewN | apply below_drew1 | refine below_set ?_ GE553.out) | exact HB.out)) hb); have n2_ := Aside0.mk (hbox); have n3_ := Aside0.mk ((by rw [hg]; exact (below_size (by repeat (first | (with_reducible first | exact HB.out | apply below_alloc | apply pw_below_drewN | apply below_drew1 | refine below_set ?_ GE553.out) | exact HB.out))) : w.heap.size ≤ gb554)); have n4_ := Aside0.mk ((by rw [hg]; exact (below_size (by repeat (first | (with_reducible first | exact HB.out | apply below_alloc | apply pw_below_drewN | apply below_drew1 | refine below_set ?_ GE553.out) | exact HB.out))) : w.heap.size ≤ gb554)); have n5_ := Aside0.mk ((by rw [hg]; exact Nat.ne_of_lt (blk_lt (g := gb553) (o := .cells #[.string a0_0, .slice A0_1 l0_1.length c0_1] 51 (0, 0)) (by (with_reducible repeat (first | refine blk_drewN ?_ _ | refine blk_drew ?_ | refine blk_alloc ?_ _)); exact BK553.out)) : gb553 ≠ gb554)); have n6_ := Aside0.mk ((by rw [hg]; exact Nat.ne_of_gt (blk_lt (g := gb553) (o := .cells #[.string a0_0, .slice A0_1 l0_1.length c0_1] 51 (0, 0)) (by (with_reducible repeat (first | refine blk_drewN ?_ _ | refine blk_drew ?_ | refine blk_alloc ?_ _)); exact BK553.out)) : gb554 ≠ gb553)); clear BK553; clear HB; have BK553 := n0_; have HB := n1_; have BK554 := n2_; have GW554 := n3_; have GE554 := n4_; have NB553_554 := n5_; have NB554_553 := n6_; clear n0_ n1_ n2_ n3_ n4_ n5_ n6_; clear hb hbox hg) | ((with_reducible refine gate_dst (N := 4) rfl ?_); refine box_event ?hg (N := 4) ?hd (cs := #[.string (⟨#[]⟩ : ByteArray), .slice none 0 0]) (t := 51) ?hr ?_; (case hd => rfl); (case hg => rfl); (case hr => first | (go_simp; done) | (go_simp; rfl)); intro gb555 hg w74 hbox hb; have n0_ := Aside0.mk (blk_below (g := gb553) (o := .cells #[.string a0_0, .slice A0_1 l0_1.length c0_1] 51 (0, 0)) (by (with_reducible repeat (first | refine blk_drewN ?_ _ | refine blk_drew ?_ | refine blk_alloc ?_ _)); exact BK553.out) hb); have n1_ := Aside0.mk (blk_below (g := gb554) (o := .cells #[.int .i64 a1_0, .string a1_1, .slice A1_2 l1_2.length c1_2, .string a1_3, .slice A1_4 l1_4.length c1_4] 64 (0, 0)) (by (with_reducible repeat (first | refine blk_drewN ?_ _ | refine blk_drew ?_ | refine blk_alloc ?_ _)); exact BK554.out) hb); have n2_ := Aside0.mk (below_step (by repeat (first | (with_reducible first | exact HB.out | apply below_alloc | apply pw_below_drewN | apply below_drew1 | refine below_set ?_ GE553.out | refine below_set ?_ GE554.out) | exact HB.out)) hb); have n3_ := Aside0.mk (hbox); have n4_ := Aside0.mk ((by rw [hg]; exact (below_size (by repeat (first | (with_reducible first | exact HB.out | apply below_alloc | apply pw_below_drewN | apply below_drew1 | refine below_set ?_ GE553.out | refine below_set ?_ GE554.out) | exact HB.out))) : w.heap.size ≤ gb555)); have n5_ := Aside0.mk ((by rw [hg]; exact (below_size (by repeat (first | (with_reducible first | exact HB.out | apply below_alloc | apply pw_below_drewN | apply below_drew1 | refine below_set ?_ GE553.out | refine below_set ?_ GE554.out) | exact HB.out))) : w.heap.size ≤ gb555)); have n6_ := Aside0.mk ((by rw [hg]; exact Nat.ne_of_lt (blk_lt (g := gb553) (o := .cells #[.string a0_0, .slice A0_1 l0_1.length c0_1] 51 (0, 0)) (by (with_reducible repeat (first | refine blk_drewN ?_ _ | refine blk_drew ?_ | refine blk_alloc ?_ _)); exact BK553.out)) : gb553 ≠ gb555)); have n7_ := Aside0.mk ((by rw [hg]; exact Nat.ne_of_gt (blk_lt (g := gb553) (o := .cells #[.string a0_0, .slice A0_1 l0_1.length c0_1] 51 (0, 0)) (by (with_reducible repeat (first | refine blk_drewN ?_ _ | refine blk_drew ?_ | refine blk_alloc ?_ _)); exact BK553.out)) : gb555 ≠ gb553)); have n8_ := Aside0.mk ((by rw [hg]; exact Nat.ne_of_lt (blk_lt (g := gb554) (o := .cells #[.int .i64 a1_0, .string a1_1, .slice A1_2 l1_2.length c1_2, .string a1_3, .slice A1_4 l1_4.length c1_4] 64 (0, 0)) (by (with_reducible repeat (first | refine blk_drewN ?_ _ | refine blk_drew ?_ | refine blk_alloc ?_ _)); exact BK554.out)) : gb554 ≠ gb555)); have n9_ := Aside0.mk ((by rw [hg]; exact Nat.ne_of_gt (blk_lt (g := gb554) (o := .cells #[.int .i64 a1_0, .string a1_1, .slice A1_2 l1_2.length c1_2, .string a1_3, .slice A1_4 l1_4.length c1_4] 64 (0, 0)) (by (with_reducible repeat (first | refine blk_drewN ?_ _ | refine blk_drew ?_ | refine blk_alloc ?_ _)); exact BK554.out)) : gb555 ≠ gb554)); clear BK553; clear BK554; clear HB; have BK553 := n0_; have BK554 := n1_; have HB := n2_; have BK555 := n3_; have GW555 := n4_; have GE555 := n5_; have NB553_555 := n6_; have NB555_553 := n7_; have NB554_555 := n8_; have NB555_554 := n9_; clear n0_ n1_ n2_ n3_ n4_ n5_ n6_ n7_ n8_ n9_; clear hb hbox hg; have hnb75 := NB554_553.out; have hnc75 := NB553_554.out; have hnb76 := NB554_555.out; have hnc76 := NB555_554.out; have hcz77_0 : w74.cell? ⟨gb554, 0, none⟩ = some (.int .i64 a1_0) := (blk_cell BK554.out 0).trans rfl; have hcz77_1 : w74.cell? ⟨gb554, 1, none⟩ = some (.string a1_1) := (blk_cell BK554.out 1).trans rfl; have hcz77_2 : w74.cell? ⟨gb554, 2, none⟩ = some (.slice A1_2 l1_2.length c1_2) := (blk_cell BK554.out 2).trans rfl; have hcz77_3 : w74.cell? ⟨gb554, 3, none⟩ = some (.string a1_3) := (blk_cell BK554.out 3).trans rfl; have hcz77_4 : w74.cell? ⟨gb554, 4, none⟩ = some (.slice A1_4 l1_4.length c1_4) := (blk_cell BK554.out 4).trans rfl; have hfz77_0 := blk_frozen BK554.out 0; have hfz77_1 := blk_frozen BK554.out 1; have hfz77_2 := blk_frozen BK554.out 2; have hfz77_3 := blk_frozen BK554.out 3; have hfz77_4 := blk_frozen BK554.out 4) | ((with_reducible refine gate_callee (f := 99) rfl ?_); refine goesL_ (some 10) rfl rfl Try.func99 (by kernel_rfl) rfl #[.agg #[.int .i64 a1_0, .string a1_1, .slice A1_2 l1_2.length c1_2, .string a1_3, .slice A1_4 l1_4.length c1_4]] rfl (by (try simp only [List.map_toArray, List.map_cons, List.map_nil]); first | done | rfl | (simp only [List.length_drop, List.length_take]; rfl)) ?_; (with_reducible refine (edit_good.calls k a1_0 a1_1 _ _ l1_2 a1_3 _ _ l1_4 false _ ?side1 ?side2 ?side3 ?side4 A3.out).mono ?_); (case side1 => repeat (first | exact (Kd.C_below HR1_2.out HB.out) | (with_reducible refine Kd.C_alloc ?_ _) | (with_reducible refine Kd.C_drewN ?_ _) | (with_reducible refine Kd.C_drew ?_))); (case side2 => exact HC1_2.out); (case side3 => repeat (first | exact (Kd.C_below HR1_4.out HB.out) | (with_reducible refine Kd.C_alloc ?_ _) | (with_reducible refine Kd.C_drewN ?_ _) | (with_reducible refine Kd.C_drew ?_))); (case side4 => exact HC1_4.out); rintro e w78 ⟨rfl, hb⟩; refine ⟨_, rfl, ?_⟩; have n0_ := Aside0.mk (blk_below (g := gb553) (o := .cells #[.string a0_0, .slice A0_1 l0_1.length c0_1] 51 (0, 0)) (by (with_reducible repeat (first | refine blk_drewN ?_ _ | refine blk_drew ?_ | refine blk_alloc ?_ _)); exact BK553.out) hb); have n1_ := Aside0.mk (blk_below (g := gb554) (o := .cells #[.int .i64 a1_0, .string a1_1, .slice A1_2 l1_2.length c1_2, .string a1_3, .slice A1_4 l1_4.length c1_4] 64 (0, 0)) (by (with_reducible repeat (first | refine blk_drewN ?_ _ | refine blk_drew ?_ | refine blk_alloc ?_ _)); exact BK554.out) hb); have n2_ := Aside0.mk (blk_below (g := gb555) (o := .cells #[.string (⟨#[]⟩ : ByteArray), .slice none 0 0] 51 (0, 0)) (by (with_reducible repeat (first | refine blk_drewN ?_ _ | refine blk_drew ?_ | refine blk_alloc ?_ _)); exact BK555.out) hb); have n3_ := Aside0.mk (below_step (by repeat (first | (with_reducible first | exact HB.out | apply below_alloc | apply pw_below_drewN | apply below_drew1 | refine below_set ?_ GE553.out | refine below_set ?_ GE554.out | refine below_set ?_ GE555.out) | exact HB.out)) hb); clear BK553; clear BK554; clear BK555; clear HB; have BK553 := n0_; have BK554 := n1_; have BK555 := n2_; have HB := n3_; clear n0_ n1_ n2_ n3_; (try clear hb); (try clear hb2); (try clear hk); (try clear hi); have hnb79 := NB555_553.out; have hnc79 := NB553_555.out; have hcz80_0 : w78.cell? ⟨gb555, 0, none⟩ = some (.string (⟨#[]⟩ : ByteArray)) := (blk_cell BK555.out 0).trans rfl; have hcz80_1 : w78.cell? ⟨gb555, 1, none⟩ = some (.slice none 0 0) := (blk_cell BK555.out 1).trans rfl; have hfz80_0 := blk_frozen BK555.out 0; have hfz80_1 := blk_frozen BK555.out 1))
    refine bodyPost_ret (results_ct rfl _ _ gb555 51 #[.string (⟨#[]⟩ : ByteArray), .slice none 0 0] (0, 0) _ rfl (by (with_reducible repeat (first | refine blk_drewN ?_ _ | refine blk_drew ?_ | refine blk_alloc ?_ _)); refine blk_put (cs := #[.string (⟨#[]⟩ : ByteArray), .slice none 0 0]) ?_ 1 _ rfl; (with_reducible repeat (first | refine blk_drewN ?_ _ | refine blk_drew ?_ | refine blk_alloc ?_ _)); refine blk_put (cs := #[.string (⟨#[]⟩ : ByteArray), .slice none 0 0]) ?_ 0 _ rfl; (with_reducible repeat (first | refine blk_drewN ?_ _ | refine blk_drew ?_ | refine blk_alloc ?_ _)); exact BK555.out) Try.underlying51 rfl (by kernel_rfl)) rfl ?_
    exact ⟨_, by first | rfl | (simp [errW_none, errW_some] <;> rfl) | (simp [*, errW_none, errW_some] <;> rfl), by first | exact Kd.R_nil _ _ _ _ _ | exact Kd.N_nil _ _ _ _ _ | exact Kd.V_nil _ _ _ _ _ | exact Kd.Q_nil _ _ _ _ _ | exact Kd.S_nil _ _ _ _ _, by repeat (first | (with_reducible first | exact HB.out | apply below_alloc | apply pw_below_drewN | apply below_drew1 | refine below_set ?_ GE553.out | refine below_set ?_ GE554.out | refine below_set ?_ GE555.out) | exact HB.out)⟩
end Go.Proofs.Ythpjagblnddjaaa.PB
end
