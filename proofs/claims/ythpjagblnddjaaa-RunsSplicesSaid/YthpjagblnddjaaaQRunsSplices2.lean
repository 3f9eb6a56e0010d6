/- What the row hangs on, part 2. -/
import Derived.Test.YthpjagblnddjaaaProg
import Derived.Test.YthpjagblnddjaaaQRunsSplices1
section
namespace Go.Proofs.Ythpjagblnddjaaa.PB
open Go.RowKit Go.Proofs.YthpjagblnddjaaaW.PrintWords Go.Proofs.YthpjagblnddjaaaW.PrintLast Go.Proofs.YthpjagblnddjaaaW.PrintMore
attribute [local go_sem] max2_int min2_int max_two min_two max_three min_three max_four min_four   
set_option linter.unusedVariables false
set_option linter.unusedSimpArgs false
def errW : Option Int → Value
  | none => .nilIface
  | some c => .iface 0 (.int .i64 c)
theorem errW_none : errW none = .nilIface := rfl
theorem errW_some (c : Int) : errW (some c) = .iface 0 (.int .i64 c) := rfl
theorem info36 : (Try.prog.info? 36).map (fun i => (i.zero, i.size, i.bytes)) = some (some (.int .u64 0), 1, 8) := by kernel_rfl
theorem info100 : (Try.prog.info? 100).map (fun i => (i.zero, i.size, i.bytes)) = some (some (.agg #[(.int .u64 0), (.int .i64 0)]), 2, 16) := by kernel_rfl
structure S100 where
  f0 : Int
  f1 : Int
def z100 : S100 := ⟨(0 : Int), (0 : Int)⟩
def k100 : Kd S100 := Kd.iso (Kd.pair (Kd.int .u64) (Kd.int .i64)) (fun x : S100 => (x.f0, x.f1))
theorem k100_open {w : World} {x : S100} {cs : List Value} (h : k100.K w x cs) : cs = [.int .u64 x.f0, .int .i64 x.f1] := by
  obtain ⟨_, _, rfl, rfl, rfl⟩ := h
  exact rfl
theorem k100_openM {w : World} {base : Nat} {ok : Nat → Prop} {x : S100} {cs : List Value} (h : k100.M w base ok x cs) : cs = [.int .u64 x.f0, .int .i64 x.f1] := by
  obtain ⟨_, _, rfl, rfl, rfl⟩ := h
  exact rfl
theorem k100_mkM (w : World) (base : Nat) (ok : Nat → Prop) (x : S100)  : k100.M w base ok x [.int .u64 x.f0, .int .i64 x.f1] := ⟨[.int .u64 x.f0], [.int .i64 x.f1], rfl, rfl, rfl⟩
def rd_T100 (xs : List S100) (i : Int) : S100 := xs.getD i.toNat z100
theorem at_T100 {w : World} {A : Option Addr} {n : Nat} {xs : List S100} (h : Kd.C k100 w A n xs) (i : Int) (h0 : 0 ≤ i) (h1 : i < n) : ∃ ad , A = some ad ∧ w.cell? (ad.add (i.toNat * 2)) = some (.int .u64 (rd_T100 xs i).f0) ∧ w.cell? ⟨(ad.add (i.toNat * 2)).block, (ad.add (i.toNat * 2)).off + 1, none⟩ = some (.int .i64 (rd_T100 xs i).f1) := by
  obtain ⟨ad, c, e, _, hK, hc0⟩ := Kd.C_get h z100 i h0 h1
  have hc : ∀ j u, c[j]? = some u → w.cell? (ad.add (i.toNat * 2 + j)) = some u := hc0
  obtain rfl := k100_open hK
  exact ⟨ad, e, hc 0 _ rfl, by rw [← add_field _ _ 1 (by omega)]; exact hc 1 _ rfl⟩
structure S51 where
  f0 : ByteArray
  f1 : (List S100)
end Go.Proofs.Ythpjagblnddjaaa.PB
end

section
namespace Go.Proofs.Ythpjagblnddjaaa.PB
open Go.RowKit Go.Proofs.YthpjagblnddjaaaW.PrintWords Go.Proofs.YthpjagblnddjaaaW.PrintLast Go.Proofs.YthpjagblnddjaaaW.PrintMore
attribute [local go_sem] max2_int min2_int max_two min_two max_three min_three max_four min_four   
set_option linter.unusedVariables false
set_option linter.unusedSimpArgs false
theorem eqA100 (d : Nat) (w : World) (x0 y0 : Int) (x1 y1 : Int) :
    (Op.equalIn (d + 2) 100 (.agg #[.int .u64 x0, .int .i64 x1]) (.agg #[.int .u64 y0, .int .i64 y1])).run Try.prog w = .ok (x0 == y0 && (x1 == y1)) w := by
  refine eqA_of Try.underlying100 (by kernel_rfl) ?_
  refine eqf_cons (by rfl) (by go_simp; rfl) (by go_simp; rfl) (by go_simp) ?_
  exact eqf_last (by rfl) (by go_simp; rfl) (by go_simp; rfl) (by go_simp)
end Go.Proofs.Ythpjagblnddjaaa.PB
end

section
namespace Go.Proofs.Ythpjagblnddjaaa.PB
open Go.RowKit Go.Proofs.YthpjagblnddjaaaW.PrintWords Go.Proofs.YthpjagblnddjaaaW.PrintLast Go.Proofs.YthpjagblnddjaaaW.PrintMore
attribute [local go_sem] max2_int min2_int max_two min_two max_three min_three max_four min_four   
set_option linter.unusedVariables false
set_option linter.unusedSimpArgs false
attribute [local go_sem high] eqA100
def runs_Total.l0 : Nat → Int → List (S100) → Int → Int → Option (Int)
  | 0, _, _, _, _ => none
  | k + 1, x3, x6, x7, x8 => if x8 < x7 then (if 0 ≤ x8 then (if x8 < (x6.length : Int) then (if ((rd_T100 x6 x8).f1) > (wrap64 (4096 - x3)) then (some 4097) else (runs_Total.l0 k (wrap64 (x3 + (mx ((rd_T100 x6 x8).f1) 0))) x6 x7 (wrap64 (x8 + 1)))) else (none)) else (none)) else (some x3)
def runs_Total.f (k : Nat) (l0 : List (S100)) : Option (Int) := runs_Total.l0 k 0 l0 (l0.length : Int) 0
theorem runs_Total.mono_l : ∀ k, (∀ y0 y1 y2 y3, LeO (runs_Total.l0 k y0 y1 y2 y3) (runs_Total.l0 (k + 1) y0 y1 y2 y3))
  | 0 => fun _ _ _ _ r h => by simp [runs_Total.l0] at h
  | k + 1 => by
    have ih0 := runs_Total.mono_l k
    · intro y0 y1 y2 y3
      unfold runs_Total.l0
      repeat' first
      | (with_reducible exact ih0 _ _ _ _)
      | (with_reducible exact LeO.refl _)
      | (with_reducible exact LeO.none _)
      | (with_reducible refine LeO.ite ?_ ?_)
      | (with_reducible refine LeO.bind ?_ (fun _ => ?_))
      | exact ih0 _ _ _ _
      | exact LeO.none _
      | refine LeO.ite ?_ ?_
      | refine LeO.bind ?_ (fun _ => ?_)
theorem runs_Total.mono : ∀ a0 k, LeO (runs_Total.f k a0) (runs_Total.f (k + 1) a0) := by
  intro a0 k
  have ih0 := runs_Total.mono_l k
  unfold runs_Total.f
  repeat' first
      | (with_reducible exact ih0 _ _ _ _)
      | (with_reducible exact LeO.refl _)
      | (with_reducible exact LeO.none _)
      | (with_reducible refine LeO.ite ?_ ?_)
      | (with_reducible refine LeO.bind ?_ (fun _ => ?_))
      | exact ih0 _ _ _ _
      | exact LeO.none _
      | refine LeO.ite ?_ ?_
      | refine LeO.bind ?_ (fun _ => ?_)
set_option maxHeartbeats 8000000 in
set_option maxRecDepth 100000 in
theorem runs_Total.calls (k : Nat) (A0 : Option Addr) (c0 : Nat) (l0 : List (S100)) (r : Int) (w : World) (hr0 : Kd.C k100 w A0 l0.length l0) (hc0 : l0.length ≤ c0) (h : runs_Total.f k l0 = some r) :
    Calls Try.prog 30 #[.slice A0 l0.length c0] w fun e w' => e = .returned (.int .i64 r) ∧ Below w.heap.size w w' := by
  have hu100 := Try.underlying100
  have HR0 := Aside0.mk hr0
  have HC0 := Aside0.mk hc0
  clear hr0 hc0
  have HB := Aside0.mk (Below.refl w.heap.size w)
  have H : (runs_Total.l0 k 0 l0 (l0.length : Int) 0) = some r := h
  clear h
  have H' := Aside0.mk H
  clear H
  go_enter Try.func30, Try.ntmps30
  go_wp2
  go_loopg [3, 8] k (fun kq v3 v8 w' => ∃ (x3_1 : Int) (x8_1 : Int), v3 = .int .i64 x3_1 ∧ v8 = .int .i64 x8_1 ∧ Aside0 (runs_Total.l0 kq x3_1 l0 (l0.length : Int) x8_1 = some r) ∧ Aside0 (kq ≤ k) ∧ Aside0 (Below w.heap.size w w'))
  case atStart => exact ⟨(0), (0), (by first | rfl | (simp; done) | (simp [*]; done)), (by first | rfl | (simp; done) | (simp [*]; done)), H', ⟨Nat.le_refl _⟩, ⟨by repeat (first | (with_reducible first | exact HB.out | apply below_alloc | apply pw_below_drewN | apply below_drew1) | exact HB.out)⟩⟩
  case round =>
    clear H'
    obtain ⟨x3_1, x8_1, rfl, rfl, HA, HK1, HB⟩ := hrel
    cases gk with
    | zero => exact absurd HA.out (by simp [runs_Total.l0])
    | succ k1 =>
      have H := HA.out
      clear HA
      simp only [runs_Total.l0] at H
      by_cases c2 : x8_1 < (l0.length : Int)
      · rw [if_pos c2] at H
        have c2b0 : decide (x8_1 < (l0.length : Int)) = true := decide_eq_true c2
        clear c2
        by_cases c3 : 0 ≤ x8_1
        · rw [if_pos c3] at H
          have c3b0 : decide (0 ≤ x8_1) = true := decide_eq_true c3
          clear c3
          by_cases c4 : x8_1 < (l0.length : Int)
          · rw [if_pos c4] at H
            have c4b0 : decide (x8_1 < (l0.length : Int)) = true := decide_eq_true c4
            clear c4
            by_cases c5 : ((rd_T100 l0 x8_1).f1) > (wrap64 (4096 - x3_1))
            · rw [if_pos c5] at H
              have c5b0 : decide ((wrap64 (4096 - x3_1)) < ((rd_T100 l0 x8_1).f1)) = true := decide_eq_true c5
              clear c5
              obtain rfl := Option.some.inj H
              have p101 : 0 ≤ (x8_1 : Int) := of_decide_eq_true (by first | (with_reducible assumption) | assumption)
              have q101 : x8_1 < (l0.length : Int) := of_decide_eq_true (by first | (with_reducible assumption) | assumption)
              obtain ⟨ad101, e101, hx101_0, hx101_1⟩ := at_T100 HR0.out x8_1 p101 q101
              cases e101
              replace hx101_0 := (HB.out.cell (World.block_lt_of_cell? w _ hx101_0)).trans hx101_0
              replace hx101_1 := (HB.out.cell (World.block_lt_of_cell? w _ hx101_1)).trans hx101_1
              replace p101 := eq_true p101
              replace q101 := eq_true q101
              go_wp2_with (first | ((with_reducible refine gate_dst (N := 5) rfl ?_); refine box_event ?hg (N := 5) ?hd (cs := #[.int .u64 0, .int .i64 0]) (t := 100) ?hr ?_; (case hd => rfl); (case hg => rfl); (case hr => first | (go_simp; done) | (go_simp; rfl)); intro gb102 hg w6 hbox hb; have n0_ := Aside0.mk (below_step (by repeat (first | (with_reducible first | exact HB.out | apply below_alloc | apply pw_below_drewN | apply below_drew1) | exact HB.out)) hb); have n1_ := Aside0.mk (hbox); have n2_ := Aside0.mk ((by rw [hg]; exact (below_size (by repeat (first | (with_reducible first | exact HB.out | apply below_alloc | apply pw_below_drewN | apply below_drew1) | exact HB.out))) : w.heap.size ≤ gb102)); have n3_ := Aside0.mk ((by rw [hg]; exact (below_size (by repeat (first | (with_reducible first | exact HB.out | apply below_alloc | apply pw_below_drewN | apply below_drew1) | exact HB.out))) : w.heap.size ≤ gb102)); clear HB; have HB := n0_; have BK102 := n1_; have GW102 := n2_; have GE102 := n3_; clear n0_ n1_ n2_ n3_; clear hb hbox hg; have hcz7_0 : w6.cell? ⟨gb102, 0, none⟩ = some (.int .u64 0) := (blk_cell BK102.out 0).trans rfl; have hcz7_1 : w6.cell? ⟨gb102, 1, none⟩ = some (.int .i64 0) := (blk_cell BK102.out 1).trans rfl; have hfz7_0 := blk_frozen BK102.out 0; have hfz7_1 := blk_frozen BK102.out 1))
              go_ret
              exact ⟨by first | rfl | (simp [errW_none, errW_some] <;> rfl) | (simp [*, errW_none, errW_some] <;> rfl), by repeat (first | (with_reducible first | exact HB.out | apply below_alloc | apply pw_below_drewN | apply below_drew1 | refine below_set ?_ GE102.out) | exact HB.out)⟩
            · rw [if_neg c5] at H
              have c5b0 : decide ((wrap64 (4096 - x3_1)) < ((rd_T100 l0 x8_1).f1)) = false := decide_eq_false c5
              clear c5
              obtain ⟨ji8, hji8⟩ : ∃ j_ : Int, (mx ((rd_T100 l0 x8_1).f1) 0) = j_ := ⟨_, rfl⟩
              replace H : (runs_Total.l0 k1 (wrap64 (x3_1 + (ji8))) l0 (l0.length : Int) (wrap64 (x8_1 + 1))) = some r := by first | (rw [hji8] at H; exact H) | (simp only [hji8] at H ⊢; exact H)
              have hji8_ : (if ((rd_T100 l0 x8_1).f1) < 0 then 0 else ((rd_T100 l0 x8_1).f1)) = ji8 := hji8
              have H' := Aside0.mk H
              clear H
              have p101 : 0 ≤ (x8_1 : Int) := of_decide_eq_true (by first | (with_reducible assumption) | assumption)
              have q101 : x8_1 < (l0.length : Int) := of_decide_eq_true (by first | (with_reducible assumption) | assumption)
              obtain ⟨ad101, e101, hx101_0, hx101_1⟩ := at_T100 HR0.out x8_1 p101 q101
              cases e101
              replace hx101_0 := (HB.out.cell (World.block_lt_of_cell? w _ hx101_0)).trans hx101_0
              replace hx101_1 := (HB.out.cell (World.block_lt_of_cell? w _ hx101_1)).trans hx101_1
              replace p101 := eq_true p101
              replace q101 := eq_true q101
              go_wp2_with (first | ((with_reducible refine gate_dst (N := 5) rfl ?_); refine box_event ?hg (N := 5) ?hd (cs := #[.int .u64 0, .int .i64 0]) (t := 100) ?hr ?_; (case hd => rfl); (case hg => rfl); (case hr => first | (go_simp; done) | (go_simp; rfl)); intro gb102 hg w9 hbox hb; have n0_ := Aside0.mk (below_step (by repeat (first | (with_reducible first | exact HB.out | apply below_alloc | apply pw_below_drewN | apply below_drew1) | exact HB.out)) hb); have n1_ := Aside0.mk (hbox); have n2_ := Aside0.mk ((by rw [hg]; exact (below_size (by repeat (first | (with_reducible first | exact HB.out | apply below_alloc | apply pw_below_drewN | apply below_drew1) | exact HB.out))) : w.heap.size ≤ gb102)); have n3_ := Aside0.mk ((by rw [hg]; exact (below_size (by repeat (first | (with_reducible first | exact HB.out | apply below_alloc | apply pw_below_drewN | apply below_drew1) | exact HB.out))) : w.heap.size ≤ gb102)); clear HB; have HB := n0_; have BK102 := n1_; have GW102 := n2_; have GE102 := n3_; clear n0_ n1_ n2_ n3_; clear hb hbox hg; have hcz10_0 : w9.cell? ⟨gb102, 0, none⟩ = some (.int .u64 0) := (blk_cell BK102.out 0).trans rfl; have hcz10_1 : w9.cell? ⟨gb102, 1, none⟩ = some (.int .i64 0) := (blk_cell BK102.out 1).trans rfl; have hfz10_0 := blk_frozen BK102.out 0; have hfz10_1 := blk_frozen BK102.out 1))
              go_roundg k1
              case measure => have := HK1.out; omega
              case rel => exact ⟨(wrap64 (x3_1 + (ji8))), (wrap64 (x8_1 + 1)), (by first | rfl | (simp; done) | (simp only [← hji8] <;> (first | rfl | simp)) | (simp [*]; done)), (by first | rfl | (simp; done) | (simp [*]; done)), H', ⟨by have := HK1.out; omega⟩, ⟨by repeat (first | (with_reducible first | exact HB.out | apply below_alloc | apply pw_below_drewN | apply below_drew1 | refine below_set ?_ GE102.out) | exact HB.out)⟩⟩
          · rw [if_neg c4] at H
            exact absurd H (by simp)
        · rw [if_neg c3] at H
          exact absurd H (by simp)
      · rw [if_neg c2] at H
        have c2b0 : decide (x8_1 < (l0.length : Int)) = false := decide_eq_false c2
        clear c2
        obtain rfl := Option.some.inj H
        go_wp2
        go_ret
        exact ⟨by first | rfl | (simp [errW_none, errW_some] <;> rfl) | (simp [*, errW_none, errW_some] <;> rfl), by repeat (first | (with_reducible first | exact HB.out | apply below_alloc | apply pw_below_drewN | apply below_drew1) | exact HB.out)⟩
def bureauref03_Same.l0 : Nat → List (S100) → List (S100) → Int → Option (Bool)
  | 0, _, _, _ => none
  | k + 1, x0, x1, x5 => if x5 < (x0.length : Int) then (if 0 ≤ x5 then (if x5 < (x1.length : Int) then (if (!(((rd_T100 x0 x5).f0) == ((rd_T100 x1 x5).f0)) || (!(((rd_T100 x0 x5).f1) == ((rd_T100 x1 x5).f1)))) = true then (some false) else (bureauref03_Same.l0 k x0 x1 (wrap64 (x5 + 1)))) else (none)) else (none)) else (some true)
def bureauref03_Same.f (k : Nat) (l0 : List (S100)) (l1 : List (S100)) : Option (Bool) := if (l0.length : Int) = (l1.length : Int) then (bureauref03_Same.l0 k l0 l1 0) else (some false)
theorem bureauref03_Same.mono_l : ∀ k, (∀ y0 y1 y2, LeO (bureauref03_Same.l0 k y0 y1 y2) (bureauref03_Same.l0 (k + 1) y0 y1 y2))
  | 0 => fun _ _ _ r h => by simp [bureauref03_Same.l0] at h
  | k + 1 => by
    have ih0 := bureauref03_Same.mono_l k
    · intro y0 y1 y2
      unfold bureauref03_Same.l0
      repeat' first
      | (with_reducible exact ih0 _ _ _)
      | (with_reducible exact LeO.refl _)
      | (with_reducible exact LeO.none _)
      | (with_reducible refine LeO.ite ?_ ?_)
      | (with_reducible refine LeO.bind ?_ (fun _ => ?_))
      | exact ih0 _ _ _
      | exact LeO.none _
      | refine LeO.ite ?_ ?_
      | refine LeO.bind ?_ (fun _ => ?_)
theorem bureauref03_Same.mono : ∀ a0 a1 k, LeO (bureauref03_Same.f k a0 a1) (bureauref03_Same.f (k + 1) a0 a1) := by
  intro a0 a1 k
  have ih0 := bureauref03_Same.mono_l k
  unfold bureauref03_Same.f
  repeat' first
      | (with_reducible exact ih0 _ _ _)
      | (with_reducible exact LeO.refl _)
      | (with_reducible exact LeO.none _)
      | (with_reducible refine LeO.ite ?_ ?_)
      | (with_reducible refine LeO.bind ?_ (fun _ => ?_))
      | exact ih0 _ _ _
      | exact LeO.none _
      | refine LeO.ite ?_ ?_
      | refine LeO.bind ?_ (fun _ => ?_)
set_option maxHeartbeats 8000000 in
set_option maxRecDepth 100000 in
theorem bureauref03_Same.calls (k : Nat) (A0 : Option Addr) (c0 : Nat) (l0 : List (S100)) (A1 : Option Addr) (c1 : Nat) (l1 : List (S100)) (r : Bool) (w : World) (hr0 : Kd.C k100 w A0 l0.length l0) (hc0 : l0.length ≤ c0) (hr1 : Kd.C k100 w A1 l1.length l1) (hc1 : l1.length ≤ c1) (h : bureauref03_Same.f k l0 l1 = some r) :
    Calls Try.prog 27 #[.slice A0 l0.length c0, .slice A1 l1.length c1] w fun e w' => e = .returned (.bool r) ∧ Drawn0 w w' := by
  have hu100 := Try.underlying100
  have HR0 := Aside0.mk hr0
  have HC0 := Aside0.mk hc0
  clear hr0 hc0
  have HR1 := Aside0.mk hr1
  have HC1 := Aside0.mk hc1
  clear hr1 hc1
  have H : (if (l0.length : Int) = (l1.length : Int) then (bureauref03_Same.l0 k l0 l1 0) else (some false)) = some r := h
  clear h
  by_cases c3 : (l0.length : Int) = (l1.length : Int)
  · rw [if_pos c3] at H
    have c3b0 : ((l0.length : Int) == (l1.length : Int)) = true := beq_iff_eq.mpr c3
    have c3b1 : ((l0.length : Int) != (l1.length : Int)) = false := bne_eq_false_iff_eq.mpr c3
    have c3b2 : (l0.length == l1.length) = true := by first | simpa using c3 | (simp at c3 ⊢; omega)
    clear c3
    have H' := Aside0.mk H
    clear H
    go_enter Try.func27, Try.ntmps27
    go_wp2
    repeat (go_quiet (fail); try go_wp2)
    go_loopg [5] k (fun kq v5 w' => ∃ (x5_1 : Int), v5 = .int .i64 x5_1 ∧ Aside0 (bureauref03_Same.l0 kq l0 l1 x5_1 = some r) ∧ Aside0 (kq ≤ k) ∧ Drawn0 w w')
    case atStart => exact ⟨(0), (by first | rfl | (simp; done) | (simp [*]; done)), H', ⟨Nat.le_refl _⟩, by repeat (first | exact Drawn0.refl _ | apply Drawn0.step)⟩
    case round =>
      clear H'
      try clear c1
      try clear c2
      try clear p2
      try clear c3
      try clear c3b0
      try clear c3b1
      try clear c3b2
      obtain ⟨x5_1, rfl, HA, HK1, ⟨m1, rfl⟩⟩ := hrel
      cases gk with
      | zero => exact absurd HA.out (by simp [bureauref03_Same.l0])
      | succ k1 =>
        have H := HA.out
        clear HA
        simp only [bureauref03_Same.l0] at H
        by_cases c4 : x5_1 < (l0.length : Int)
        · rw [if_pos c4] at H
          have c4b0 : decide (x5_1 < (l0.length : Int)) = true := decide_eq_true c4
          clear c4
          by_cases c5 : 0 ≤ x5_1
          · rw [if_pos c5] at H
            have c5b0 : decide (0 ≤ x5_1) = true := decide_eq_true c5
            clear c5
            by_cases c6 : x5_1 < (l1.length : Int)
            · rw [if_pos c6] at H
              have c6b0 : decide (x5_1 < (l1.length : Int)) = true := decide_eq_true c6
              clear c6
              by_cases c7 : (!(((rd_T100 l0 x5_1).f0) == ((rd_T100 l1 x5_1).f0)) || (!(((rd_T100 l0 x5_1).f1) == ((rd_T100 l1 x5_1).f1)))) = true
              · rw [if_pos c7] at H
                have c7b0 : (!(((rd_T100 l0 x5_1).f0) == ((rd_T100 l1 x5_1).f0)) || (!(((rd_T100 l0 x5_1).f1) == ((rd_T100 l1 x5_1).f1)))) = true := c7
                clear c7
                obtain rfl := Option.some.inj H
                have p103 : 0 ≤ (x5_1 : Int) := of_decide_eq_true (by first | (with_reducible assumption) | assumption)
                have q103 : x5_1 < (l0.length : Int) := of_decide_eq_true (by first | (with_reducible assumption) | assumption)
                obtain ⟨ad103, e103, hx103_0, hx103_1⟩ := at_T100 HR0.out x5_1 p103 q103
                cases e103
                replace p103 := eq_true p103
                replace q103 := eq_true q103
                have p104 : 0 ≤ (x5_1 : Int) := of_decide_eq_true (by first | (with_reducible assumption) | assumption)
                have q104 : x5_1 < (l1.length : Int) := of_decide_eq_true (by first | (with_reducible assumption) | assumption)
                obtain ⟨ad104, e104, hx104_0, hx104_1⟩ := at_T100 HR1.out x5_1 p104 q104
                cases e104
                replace p104 := eq_true p104
                replace q104 := eq_true q104
                go_wp2
                repeat (go_quiet (fail); try go_wp2)
                go_ret
                exact ⟨by first | rfl | (simp; done) | (simp [*]; done), by repeat (first | exact Drawn0.refl _ | apply Drawn0.step)⟩
              · rw [if_neg c7] at H
                have c7b0 : (!(((rd_T100 l0 x5_1).f0) == ((rd_T100 l1 x5_1).f0)) || (!(((rd_T100 l0 x5_1).f1) == ((rd_T100 l1 x5_1).f1)))) = false := by simpa using c7
                clear c7
                have H' := Aside0.mk H
                clear H
                have p103 : 0 ≤ (x5_1 : Int) := of_decide_eq_true (by first | (with_reducible assumption) | assumption)
                have q103 : x5_1 < (l0.length : Int) := of_decide_eq_true (by first | (with_reducible assumption) | assumption)
                obtain ⟨ad103, e103, hx103_0, hx103_1⟩ := at_T100 HR0.out x5_1 p103 q103
                cases e103
                replace p103 := eq_true p103
                replace q103 := eq_true q103
                have p104 : 0 ≤ (x5_1 : Int) := of_decide_eq_true (by first | (with_reducible assumption) | assumption)
                have q104 : x5_1 < (l1.length : Int) := of_decide_eq_true (by first | (with_reducible assumption) | assumption)
                obtain ⟨ad104, e104, hx104_0, hx104_1⟩ := at_T100 HR1.out x5_1 p104 q104
                cases e104
                replace p104 := eq_true p104
                replace q104 := eq_true q104
                go_wp2
                repeat (go_quiet (fail); try go_wp2)
                go_roundg k1
                case measure => have := HK1.out; omega
                case rel => exact ⟨(wrap64 (x5_1 + 1)), (by first | rfl | (simp; done) | (simp [*]; done)), H', ⟨by have := HK1.out; omega⟩, by repeat (first | exact Drawn0.refl _ | apply Drawn0.step)⟩
            · rw [if_neg c6] at H
              exact absurd H (by simp)
          · rw [if_neg c5] at H
            exact absurd H (by simp)
        · rw [if_neg c4] at H
          have c4b0 : decide (x5_1 < (l0.length : Int)) = false := decide_eq_false c4
          clear c4
          obtain rfl := Option.some.inj H
          go_wp2
          repeat (go_quiet (fail); try go_wp2)
          go_ret
          exact ⟨by first | rfl | (simp; done) | (simp [*]; done), by repeat (first | exact Drawn0.refl _ | apply Drawn0.step)⟩
  · rw [if_neg c3] at H
    have c3b0 : ((l0.length : Int) == (l1.length : Int)) = false := beq_eq_false_iff_ne.mpr c3
    have c3b1 : ((l0.length : Int) != (l1.length : Int)) = true := bne_iff_ne.mpr c3
    have c3b2 : (l0.length == l1.length) = false := by first | simpa using c3 | (simp at c3 ⊢; omega)
    obtain rfl := Option.some.inj H
    go_enter Try.func27, Try.ntmps27
    go_wp2
    repeat (go_quiet (fail); try go_wp2)
    go_ret
    exact ⟨by first | rfl | (simp; done) | (simp [*]; done), by repeat (first | exact Drawn0.refl _ | apply Drawn0.step)⟩
def runs_Good.l0 : Nat → List (S100) → List (S100) → Int → Int → Option (Bool)
  | 0, _, _, _, _ => none
  | k + 1, x0, x5, x6, x7 => if x7 < x6 then (if 0 ≤ x7 then (if x7 < (x5.length : Int) then (if ((rd_T100 x5 x7).f1) < 1 then (some false) else (if x7 > 0 then (if 0 ≤ (wrap64 (x7 - 1)) then (if (wrap64 (x7 - 1)) < (x0.length : Int) then (if ((rd_T100 x0 (wrap64 (x7 - 1))).f0) = ((rd_T100 x5 x7).f0) then (some false) else (runs_Good.l0 k x0 x5 x6 (wrap64 (x7 + 1)))) else (none)) else (none)) else (runs_Good.l0 k x0 x5 x6 (wrap64 (x7 + 1))))) else (none)) else (none)) else ((runs_Total.f k x0).bind fun t108 => (some (decide (t108 ≤ 4096))))
def runs_Good.f (k : Nat) (l0 : List (S100)) : Option (Bool) := runs_Good.l0 k l0 l0 (l0.length : Int) 0
theorem runs_Good.mono_l : ∀ k, (∀ y0 y1 y2 y3, LeO (runs_Good.l0 k y0 y1 y2 y3) (runs_Good.l0 (k + 1) y0 y1 y2 y3))
  | 0 => fun _ _ _ _ r h => by simp [runs_Good.l0] at h
  | k + 1 => by
    have ih0 := runs_Good.mono_l k
    · intro y0 y1 y2 y3
      unfold runs_Good.l0
      repeat' first
      | (with_reducible exact ih0 _ _ _ _)
      | (with_reducible exact runs_Total.mono _ _)
      | (with_reducible exact LeO.refl _)
      | (with_reducible exact LeO.none _)
      | (with_reducible refine LeO.ite ?_ ?_)
      | (with_reducible refine LeO.bind ?_ (fun _ => ?_))
      | exact ih0 _ _ _ _
      | exact runs_Total.mono _ _
      | exact LeO.none _
      | refine LeO.ite ?_ ?_
      | refine LeO.bind ?_ (fun _ => ?_)
theorem runs_Good.mono : ∀ a0 k, LeO (runs_Good.f k a0) (runs_Good.f (k + 1) a0) := by
  intro a0 k
  have ih0 := runs_Good.mono_l k
  unfold runs_Good.f
  repeat' first
      | (with_reducible exact ih0 _ _ _ _)
      | (with_reducible exact runs_Total.mono _ _)
      | (with_reducible exact LeO.refl _)
      | (with_reducible exact LeO.none _)
      | (with_reducible refine LeO.ite ?_ ?_)
      | (with_reducible refine LeO.bind ?_ (fun _ => ?_))
      | exact ih0 _ _ _ _
      | exact runs_Total.mono _ _
      | exact LeO.none _
      | refine LeO.ite ?_ ?_
      | refine LeO.bind ?_ (fun _ => ?_)
set_option maxHeartbeats 8000000 in
set_option maxRecDepth 100000 in
theorem runs_Good.calls (k : Nat) (A0 : Option Addr) (c0 : Nat) (l0 : List (S100)) (r : Bool) (w : World) (hr0 : Kd.C k100 w A0 l0.length l0) (hc0 : l0.length ≤ c0) (h : runs_Good.f k l0 = some r) :
    Calls Try.prog 28 #[.slice A0 l0.length c0] w fun e w' => e = .returned (.bool r) ∧ Below w.heap.size w w' := by
  have hu100 := Try.underlying100
  have HR0 := Aside0.mk hr0
  have HC0 := Aside0.mk hc0
  clear hr0 hc0
  have HB := Aside0.mk (Below.refl w.heap.size w)
  have H : (runs_Good.l0 k l0 l0 (l0.length : Int) 0) = some r := h
  clear h
  have H' := Aside0.mk H
  clear H
  go_enter Try.func28, Try.ntmps28
  go_wp2
  repeat (go_quiet (fail); try go_wp2)
  go_loopg [7] k (fun kq v7 w' => ∃ (x7_1 : Int), v7 = .int .i64 x7_1 ∧ Aside0 (runs_Good.l0 kq l0 l0 (l0.length : Int) x7_1 = some r) ∧ Aside0 (kq ≤ k) ∧ Aside0 (Below w.heap.size w w'))
  case atStart => exact ⟨(0), (by first | rfl | (simp; done) | (simp [*]; done)), H', ⟨Nat.le_refl _⟩, ⟨by repeat (first | (with_reducible first | exact HB.out | apply below_alloc | apply pw_below_drewN | apply below_drew1) | exact HB.out)⟩⟩
  case round =>
    clear H'
    obtain ⟨x7_1, rfl, HA, HK1, HB⟩ := hrel
    cases gk with
    | zero => exact absurd HA.out (by simp [runs_Good.l0])
    | succ k1 =>
      have H := HA.out
      clear HA
      simp only [runs_Good.l0] at H
      by_cases c2 : x7_1 < (l0.length : Int)
      · rw [if_pos c2] at H
        have c2b0 : decide (x7_1 < (l0.length : Int)) = true := decide_eq_true c2
        clear c2
        by_cases c3 : 0 ≤ x7_1
        · rw [if_pos c3] at H
          have c3b0 : decide (0 ≤ x7_1) = true := decide_eq_true c3
          clear c3
          by_cases c4 : x7_1 < (l0.length : Int)
          · rw [if_pos c4] at H
            have c4b0 : decide (x7_1 < (l0.length : Int)) = true := decide_eq_true c4
            clear c4
            by_cases c5 : ((rd_T100 l0 x7_1).f1) < 1
            · rw [if_pos c5] at H
              have c5b0 : decide (((rd_T100 l0 x7_1).f1) < 1) = true := decide_eq_true c5
              clear c5
              obtain rfl := Option.some.inj H
              have p105 : 0 ≤ (x7_1 : Int) := of_decide_eq_true (by first | (with_reducible assumption) | assumption)
              have q105 : x7_1 < (l0.length : Int) := of_decide_eq_true (by first | (with_reducible assumption) | assumption)
              obtain ⟨ad105, e105, hx105_0, hx105_1⟩ := at_T100 HR0.out x7_1 p105 q105
              cases e105
              replace hx105_0 := (HB.out.cell (World.block_lt_of_cell? w _ hx105_0)).trans hx105_0
              replace hx105_1 := (HB.out.cell (World.block_lt_of_cell? w _ hx105_1)).trans hx105_1
              replace p105 := eq_true p105
              replace q105 := eq_true q105
              go_wp2_with (first | ((with_reducible refine gate_dst (N := 4) rfl ?_); refine box_event ?hg (N := 4) ?hd (cs := #[.int .u64 0, .int .i64 0]) (t := 100) ?hr ?_; (case hd => rfl); (case hg => rfl); (case hr => first | (go_simp; done) | (go_simp; rfl)); intro gb106 hg w6 hbox hb; have n0_ := Aside0.mk (below_step (by repeat (first | (with_reducible first | exact HB.out | apply below_alloc | apply pw_below_drewN | apply below_drew1) | exact HB.out)) hb); have n1_ := Aside0.mk (hbox); have n2_ := Aside0.mk ((by rw [hg]; exact (below_size (by repeat (first | (with_reducible first | exact HB.out | apply below_alloc | apply pw_below_drewN | apply below_drew1) | exact HB.out))) : w.heap.size ≤ gb106)); have n3_ := Aside0.mk ((by rw [hg]; exact (below_size (by repeat (first | (with_reducible first | exact HB.out | apply below_alloc | apply pw_below_drewN | apply below_drew1) | exact HB.out))) : w.heap.size ≤ gb106)); clear HB; have HB := n0_; have BK106 := n1_; have GW106 := n2_; have GE106 := n3_; clear n0_ n1_ n2_ n3_; clear hb hbox hg; have hcz7_0 : w6.cell? ⟨gb106, 0, none⟩ = some (.int .u64 0) := (blk_cell BK106.out 0).trans rfl; have hcz7_1 : w6.cell? ⟨gb106, 1, none⟩ = some (.int .i64 0) := (blk_cell BK106.out 1).trans rfl; have hfz7_0 := blk_frozen BK106.out 0; have hfz7_1 := blk_frozen BK106.out 1))
              repeat (go_quiet (first | ((with_reducible refine gate_dst (N := 4) rfl ?_); refine box_event ?hg (N := 4) ?hd (cs := #[.int .u64 0, .int .i64 0]) (t := 100) ?hr ?_; (case hd => rfl); (case hg => rfl); (case hr => first | (go_simp; done) | (go_simp; rfl)); intro gb106 hg w6 hbox hb; have n0_ := Aside0.mk (below_step (by repeat (first | (with_reducible first | exact HB.out | apply below_alloc | apply pw_below_drewN | apply below_drew1) | exact HB.out)) hb); have n1_ := Aside0.mk (hbox); have n2_ := Aside0.mk ((by rw [hg]; exact (below_size (by repeat (first | (with_reducible first | exact HB.out | apply below_alloc | apply pw_below_drewN | apply below_drew1) | exact HB.out))) : w.heap.size ≤ gb106)); have n3_ := Aside0.mk ((by rw [hg]; exact (below_size (by repeat (first | (with_reducible first | exact HB.out | apply below_alloc | apply pw_below_drewN | apply below_drew1) | exact HB.out))) : w.heap.size ≤ gb106)); clear HB; have HB := n0_; have BK106 := n1_; have GW106 := n2_; have GE106 := n3_; clear n0_ n1_ n2_ n3_; clear hb hbox hg; have hcz7_0 : w6.cell? ⟨gb106, 0, none⟩ = some (.int .u64 0) := (blk_cell BK106.out 0).trans rfl; have hcz7_1 : w6.cell? ⟨gb106, 1, none⟩ = some (.int .i64 0) := (blk_cell BK106.out 1).trans rfl; have hfz7_0 := blk_frozen BK106.out 0; have hfz7_1 := blk_frozen BK106.out 1)); try go_wp2_with (first | ((with_reducible refine gate_dst (N := 4) rfl ?_); refine box_event ?hg (N := 4) ?hd (cs := #[.int .u64 0, .int .i64 0]) (t := 100) ?hr ?_; (case hd => rfl); (case hg => rfl); (case hr => first | (go_simp; done) | (go_simp; rfl)); intro gb106 hg w6 hbox hb; have n0_ := Aside0.mk (below_step (by repeat (first | (with_reducible first | exact HB.out | apply below_alloc | apply pw_below_drewN | apply below_drew1) | exact HB.out)) hb); have n1_ := Aside0.mk (hbox); have n2_ := Aside0.mk ((by rw [hg]; exact (below_size (by repeat (first | (with_reducible first | exact HB.out | apply below_alloc | apply pw_below_drewN | apply below_drew1) | exact HB.out))) : w.heap.size ≤ gb106)); have n3_ := Aside0.mk ((by rw [hg]; exact (below_size (by repeat (first | (with_reducible first | exact HB.out | apply below_alloc | apply pw_below_drewN | apply below_drew1) | exact HB.out))) : w.heap.size ≤ gb106)); clear HB; have HB := n0_; have BK106 := n1_; have GW106 := n2_; have GE106 := n3_; clear n0_ n1_ n2_ n3_; clear hb hbox hg; have hcz7_0 : w6.cell? ⟨gb106, 0, none⟩ = some (.int .u64 0) := (blk_cell BK106.out 0).trans rfl; have hcz7_1 : w6.cell? ⟨gb106, 1, none⟩ = some (.int .i64 0) := (blk_cell BK106.out 1).trans rfl; have hfz7_0 := blk_frozen BK106.out 0; have hfz7_1 := blk_frozen BK106.out 1)))
              go_ret
              exact ⟨by first | rfl | (simp [errW_none, errW_some] <;> rfl) | (simp [*, errW_none, errW_some] <;> rfl), by repeat (first | (with_reducible first | exact HB.out | apply below_alloc | apply pw_below_drewN | apply below_drew1 | refine below_set ?_ GE106.out) | exact HB.out)⟩
            · rw [if_neg c5] at H
              have c5b0 : decide (((rd_T100 l0 x7_1).f1) < 1) = false := decide_eq_false c5
              clear c5
              by_cases c8 : x7_1 > 0
              · rw [if_pos c8] at H
                have c8b0 : decide (0 < x7_1) = true := decide_eq_true c8
                clear c8
                obtain ⟨ji9, hji9⟩ : ∃ j_ : Int, (wrap64 (x7_1 - 1)) = j_ := ⟨_, rfl⟩
                replace H : (if 0 ≤ (ji9) then (if (ji9) < (l0.length : Int) then (if ((rd_T100 l0 (ji9)).f0) = ((rd_T100 l0 x7_1).f0) then (some false) else (runs_Good.l0 k1 l0 l0 (l0.length : Int) (wrap64 (x7_1 + 1)))) else (none)) else (none)) = some r := by first | (rw [hji9] at H; exact H) | (simp only [hji9] at H ⊢; exact H)
                have hji9w : (IntKind.i64.wrap (x7_1 - 1)) = ji9 := (i64_w _).trans hji9
                by_cases c10 : 0 ≤ (ji9)
                · rw [if_pos c10] at H
                  have c10b0 : decide (0 ≤ (ji9)) = true := decide_eq_true c10
                  clear c10
                  by_cases c11 : (ji9) < (l0.length : Int)
                  · rw [if_pos c11] at H
                    have c11b0 : decide ((ji9) < (l0.length : Int)) = true := decide_eq_true c11
                    clear c11
                    by_cases c12 : ((rd_T100 l0 (ji9)).f0) = ((rd_T100 l0 x7_1).f0)
                    · rw [if_pos c12] at H
                      have c12b0 : (((rd_T100 l0 (ji9)).f0) == ((rd_T100 l0 x7_1).f0)) = true := beq_iff_eq.mpr c12
                      have c12b1 : (((rd_T100 l0 (ji9)).f0) != ((rd_T100 l0 x7_1).f0)) = false := bne_eq_false_iff_eq.mpr c12
                      clear c12
                      obtain rfl := Option.some.inj H
                      have p105 : 0 ≤ (x7_1 : Int) := of_decide_eq_true (by first | (with_reducible assumption) | assumption)
                      have q105 : x7_1 < (l0.length : Int) := of_decide_eq_true (by first | (with_reducible assumption) | assumption)
                      obtain ⟨ad105, e105, hx105_0, hx105_1⟩ := at_T100 HR0.out x7_1 p105 q105
                      cases e105
                      replace hx105_0 := (HB.out.cell (World.block_lt_of_cell? w _ hx105_0)).trans hx105_0
                      replace hx105_1 := (HB.out.cell (World.block_lt_of_cell? w _ hx105_1)).trans hx105_1
                      replace p105 := eq_true p105
                      replace q105 := eq_true q105
                      go_wp2_with (first | ((with_reducible refine gate_dst (N := 4) rfl ?_); refine box_event ?hg (N := 4) ?hd (cs := #[.int .u64 0, .int .i64 0]) (t := 100) ?hr ?_; (case hd => rfl); (case hg => rfl); (case hr => first | (go_simp; done) | (go_simp; rfl)); intro gb106 hg w13 hbox hb; have n0_ := Aside0.mk (below_step (by repeat (first | (with_reducible first | exact HB.out | apply below_alloc | apply pw_below_drewN | apply below_drew1) | exact HB.out)) hb); have n1_ := Aside0.mk (hbox); have n2_ := Aside0.mk ((by rw [hg]; exact (below_size (by repeat (first | (with_reducible first | exact HB.out | apply below_alloc | apply pw_below_drewN | apply below_drew1) | exact HB.out))) : w.heap.size ≤ gb106)); have n3_ := Aside0.mk ((by rw [hg]; exact (below_size (by repeat (first | (with_reducible first | exact HB.out | apply below_alloc | apply pw_below_drewN | apply below_drew1) | exact HB.out))) : w.heap.size ≤ gb106)); clear HB; have HB := n0_; have BK106 := n1_; have GW106 := n2_; have GE106 := n3_; clear n0_ n1_ n2_ n3_; clear hb hbox hg; have hcz14_0 : w13.cell? ⟨gb106, 0, none⟩ = some (.int .u64 0) := (blk_cell BK106.out 0).trans rfl; have hcz14_1 : w13.cell? ⟨gb106, 1, none⟩ = some (.int .i64 0) := (blk_cell BK106.out 1).trans rfl; have hfz14_0 := blk_frozen BK106.out 0; have hfz14_1 := blk_frozen BK106.out 1; have p107 : 0 ≤ ((ji9) : Int) := of_decide_eq_true (by first | (with_reducible assumption) | assumption); have q107 : (ji9) < (l0.length : Int) := of_decide_eq_true (by first | (with_reducible assumption) | assumption); obtain ⟨ad107, e107, hx107_0, hx107_1⟩ := at_T100 HR0.out (ji9) p107 q107; obtain rfl : ad105 = ad107 := (by injection e107); have hn107_0 : ad105.block ≠ gb106 := Nat.ne_of_lt (Nat.lt_of_lt_of_le (by have := World.block_lt_of_cell? _ _ hx107_0; first | rwa [add_block] at this | exact this) GW106.out); have hn107_1 : ad105.block ≠ gb106 := Nat.ne_of_lt (Nat.lt_of_lt_of_le (by have := World.block_lt_of_cell? _ _ hx107_0; first | rwa [add_block] at this | exact this) GW106.out); replace hx107_0 := (HB.out.cell (World.block_lt_of_cell? w _ hx107_0)).trans hx107_0; replace hx107_1 := (HB.out.cell (World.block_lt_of_cell? w _ hx107_1)).trans hx107_1; replace hx107_0 := (cell_far (p := ⟨gb106, 0, none⟩) (by first | (rw [add_block]; exact hn107_0) | (show (Addr.add _ _).block ≠ _; rw [add_block]; exact hn107_0) | exact hn107_0) (.int .u64 ((rd_T100 l0 x7_1).f0))).trans hx107_0; replace hx107_1 := (cell_far (p := ⟨gb106, 0, none⟩) (by first | (rw [add_block]; exact hn107_0) | (show (Addr.add _ _).block ≠ _; rw [add_block]; exact hn107_0) | exact hn107_0) (.int .u64 ((rd_T100 l0 x7_1).f0))).trans hx107_1; replace hx107_0 := (cell_far (p := ⟨gb106, 1, none⟩) (by first | (rw [add_block]; exact hn107_1) | (show (Addr.add _ _).block ≠ _; rw [add_block]; exact hn107_1) | exact hn107_1) (.int .i64 ((rd_T100 l0 x7_1).f1))).trans hx107_0; replace hx107_1 := (cell_far (p := ⟨gb106, 1, none⟩) (by first | (rw [add_block]; exact hn107_1) | (show (Addr.add _ _).block ≠ _; rw [add_block]; exact hn107_1) | exact hn107_1) (.int .i64 ((rd_T100 l0 x7_1).f1))).trans hx107_1; (try have hy107_0 := fun (n_ : Nat) => (show ((((w13.drewN n_).setCell ⟨gb106, 0, none⟩ (.int .u64 ((rd_T100 l0 x7_1).f0))).setCell ⟨gb106, 1, none⟩ (.int .i64 ((rd_T100 l0 x7_1).f1)))).cell? _ = some _ from hx107_0)); (try have hy107_1 := fun (n_ : Nat) => (show ((((w13.drewN n_).setCell ⟨gb106, 0, none⟩ (.int .u64 ((rd_T100 l0 x7_1).f0))).setCell ⟨gb106, 1, none⟩ (.int .i64 ((rd_T100 l0 x7_1).f1)))).cell? _ = some _ from hx107_1)); clear hn107_0; clear hn107_1; replace p107 := eq_true p107; replace q107 := eq_true q107))
                      repeat (go_quiet (first | ((with_reducible refine gate_dst (N := 4) rfl ?_); refine box_event ?hg (N := 4) ?hd (cs := #[.int .u64 0, .int .i64 0]) (t := 100) ?hr ?_; (case hd => rfl); (case hg => rfl); (case hr => first | (go_simp; done) | (go_simp; rfl)); intro gb106 hg w13 hbox hb; have n0_ := Aside0.mk (below_step (by repeat (first | (with_reducible first | exact HB.out | apply below_alloc | apply pw_below_drewN | apply below_drew1) | exact HB.out)) hb); have n1_ := Aside0.mk (hbox); have n2_ := Aside0.mk ((by rw [hg]; exact (below_size (by repeat (first | (with_reducible first | exact HB.out | apply below_alloc | apply pw_below_drewN | apply below_drew1) | exact HB.out))) : w.heap.size ≤ gb106)); have n3_ := Aside0.mk ((by rw [hg]; exact (below_size (by repeat (first | (with_reducible first | exact HB.out | apply below_alloc | apply pw_below_drewN | apply below_drew1) | exact HB.out))) : w.heap.size ≤ gb106)); clear HB; have HB := n0_; have BK106 := n1_; have GW106 := n2_; have GE106 := n3_; clear n0_ n1_ n2_ n3_; clear hb hbox hg; have hcz14_0 : w13.cell? ⟨gb106, 0, none⟩ = some (.int .u64 0) := (blk_cell BK106.out 0).trans rfl; have hcz14_1 : w13.cell? ⟨gb106, 1, none⟩ = some (.int .i64 0) := (blk_cell BK106.out 1).trans rfl; have hfz14_0 := blk_frozen BK106.out 0; have hfz14_1 := blk_frozen BK106.out 1; have p107 : 0 ≤ ((ji9) : Int) := of_decide_eq_true (by first | (with_reducible assumption) | assumption); have q107 : (ji9) < (l0.length : Int) := of_decide_eq_true (by first | (with_reducible assumption) | assumption); obtain ⟨ad107, e107, hx107_0, hx107_1⟩ := at_T100 HR0.out (ji9) p107 q107; obtain rfl : ad105 = ad107 := (by injection e107); have hn107_0 : ad105.block ≠ gb106 := Nat.ne_of_lt (Nat.lt_of_lt_of_le (by have := World.block_lt_of_cell? _ _ hx107_0; first | rwa [add_block] at this | exact this) GW106.out); have hn107_1 : ad105.block ≠ gb106 := Nat.ne_of_lt (Nat.lt_of_lt_of_le (by have := World.block_lt_of_cell? _ _ hx107_0; first | rwa [add_block] at this | exact this) GW106.out); replace hx107_0 := (HB.out.cell (World.block_lt_of_cell? w _ hx107_0)).trans hx107_0; replace hx107_1 := (HB.out.cell (World.block_lt_of_cell? w _ hx107_1)).trans hx107_1; replace hx107_0 := (cell_far (p := ⟨gb106, 0, none⟩) (by first | (rw [add_block]; exact hn107_0) | (show (Addr.add _ _).block ≠ _; rw [add_block]; exact hn107_0) | exact hn107_0) (.int .u64 ((rd_T100 l0 x7_1).f0))).trans hx107_0; replace hx107_1 := (cell_far (p := ⟨gb106, 0, none⟩) (by first | (rw [add_block]; exact hn107_0) | (show (Addr.add _ _).block ≠ _; rw [add_block]; exact hn107_0) | exact hn107_0) (.int .u64 ((rd_T100 l0 x7_1).f0))).trans hx107_1; replace hx107_0 := (cell_far (p := ⟨gb106, 1, none⟩) (by first | (rw [add_block]; exact hn107_1) | (show (Addr.add _ _).block ≠ _; rw [add_block]; exact hn107_1) | exact hn107_1) (.int .i64 ((rd_T100 l0 x7_1).f1))).trans hx107_0; replace hx107_1 := (cell_far (p := ⟨gb106, 1, none⟩) (by first | (rw [add_block]; exact hn107_1) | (show (Addr.add _ _).block ≠ _; rw [add_block]; exact hn107_1) | exact hn107_1) (.int .i64 ((rd_T100 l0 x7_1).f1))).trans hx107_1; (try have hy107_0 := fun (n_ : Nat) => (show ((((w13.drewN n_).setCell ⟨gb106, 0, none⟩ (.int .u64 ((rd_T100 l0 x7_1).f0))).setCell ⟨gb106, 1, none⟩ (.int .i64 ((rd_T100 l0 x7_1).f1)))).cell? _ = some _ from hx107_0)); (try have hy107_1 := fun (n_ : Nat) => (show ((((w13.drewN n_).setCell ⟨gb106, 0, none⟩ (.int .u64 ((rd_T100 l0 x7_1).f0))).setCell ⟨gb106, 1, none⟩ (.int .i64 ((rd_T100 l0 x7_1).f1)))).cell? _ = some _ from hx107_1)); clear hn107_0; clear hn107_1; replace p107 := eq_true p107; replace q107 := eq_true q107)); try go_wp2_with (first | ((with_reducible refine gate_dst (N := 4) rfl ?_); refine box_event ?hg (N := 4) ?hd (cs := #[.int .u64 0, .int .i64 0]) (t := 100) ?hr ?_; (case hd => rfl); (case hg => rfl); (case hr => first | (go_simp; done) | (go_simp; rfl)); intro gb106 hg w13 hbox hb; have n0_ := Aside0.mk (below_step (by repeat (first | (with_reducible first | exact HB.out | apply below_alloc | apply pw_below_drewN | apply below_drew1) | exact HB.out)) hb); have n1_ := Aside0.mk (hbox); have n2_ := Aside0.mk ((by rw [hg]; exact (below_size (by repeat (first | (with_reducible first | exact HB.out | apply below_alloc | apply pw_below_drewN | apply below_drew1) | exact HB.out))) : w.heap.size ≤ gb106)); have n3_ := Aside0.mk ((by rw [hg]; exact (below_size (by repeat (first | (with_reducible first | exact HB.out | apply below_alloc | apply pw_below_drewN | apply below_drew1) | exact HB.out))) : w.heap.size ≤ gb106)); clear HB; have HB := n0_; have BK106 := n1_; have GW106 := n2_; have GE106 := n3_; clear n0_ n1_ n2_ n3_; clear hb hbox hg; have hcz14_0 : w13.cell? ⟨gb106, 0, none⟩ = some (.int .u64 0) := (blk_cell BK106.out 0).trans rfl; have hcz14_1 : w13.cell? ⟨gb106, 1, none⟩ = some (.int .i64 0) := (blk_cell BK106.out 1).trans rfl; have hfz14_0 := blk_frozen BK106.out 0; have hfz14_1 := blk_frozen BK106.out 1; have p107 : 0 ≤ ((ji9) : Int) := of_decide_eq_true (by first | (with_reducible assumption) | assumption); have q107 : (ji9) < (l0.length : Int) := of_decide_eq_true (by first | (with_reducible assumption) | assumption); obtain ⟨ad107, e107, hx107_0, hx107_1⟩ := at_T100 HR0.out (ji9) p107 q107; obtain rfl : ad105 = ad107 := (by injection e107); have hn107_0 : ad105.block ≠ gb106 := Nat.ne_of_lt (Nat.lt_of_lt_of_le (by have := World.block_lt_of_cell? _ _ hx107_0; first | rwa [add_block] at this | exact this) GW106.out); have hn107_1 : ad105.block ≠ gb106 := Nat.ne_of_lt (Nat.lt_of_lt_of_le (by have := World.block_lt_of_cell? _ _ hx107_0; first | rwa [add_block] at this | exact this) GW106.out); replace hx107_0 := (HB.out.cell (World.block_lt_of_cell? w _ hx107_0)).trans hx107_0; replace hx107_1 := (HB.out.cell (World.block_lt_of_cell? w _ hx107_1)).trans hx107_1; replace hx107_0 := (cell_far (p := ⟨gb106, 0, none⟩) (by first | (rw [add_block]; exact hn107_0) | (show (Addr.add _ _).block ≠ _; rw [add_block]; exact hn107_0) | exact hn107_0) (.int .u64 ((rd_T100 l0 x7_1).f0))).trans hx107_0; replace hx107_1 := (cell_far (p := ⟨gb106, 0, none⟩) (by first | (rw [add_block]; exact hn107_0) | (show (Addr.add _ _).block ≠ _; rw [add_block]; exact hn107_0) | exact hn107_0) (.int .u64 ((rd_T100 l0 x7_1).f0))).trans hx107_1; replace hx107_0 := (cell_far (p := ⟨gb106, 1, none⟩) (by first | (rw [add_block]; exact hn107_1) | (show (Addr.add _ _).block ≠ _; rw [add_block]; exact hn107_1) | exact hn107_1) (.int .i64 ((rd_T100 l0 x7_1).f1))).trans hx107_0; replace hx107_1 := (cell_far (p := ⟨gb106, 1, none⟩) (by first | (rw [add_block]; exact hn107_1) | (show (Addr.add _ _).block ≠ _; rw [add_block]; exact hn107_1) | exact hn107_1) (.int .i64 ((rd_T100 l0 x7_1).f1))).trans hx107_1; (try have hy107_0 := fun (n_ : Nat) => (show ((((w13.drewN n_).setCell ⟨gb106, 0, none⟩ (.int .u64 ((rd_T100 l0 x7_1).f0))).setCell ⟨gb106, 1, none⟩ (.int .i64 ((rd_T100 l0 x7_1).f1)))).cell? _ = some _ from hx107_0)); (try have hy107_1 := fun (n_ : Nat) => (show ((((w13.drewN n_).setCell ⟨gb106, 0, none⟩ (.int .u64 ((rd_T100 l0 x7_1).f0))).setCell ⟨gb106, 1, none⟩ (.int .i64 ((rd_T100 l0 x7_1).f1)))).cell? _ = some _ from hx107_1)); clear hn107_0; clear hn107_1; replace p107 := eq_true p107; replace q107 := eq_true q107)))
                      go_ret
                      exact ⟨by first | rfl | (simp [errW_none, errW_some] <;> rfl) | (simp only [← hji9]; first | rfl | (simp [errW_none, errW_some] <;> rfl)) | (simp [*, errW_none, errW_some] <;> rfl), by repeat (first | (with_reducible first | exact HB.out | apply below_alloc | apply pw_below_drewN | apply below_drew1 | refine below_set ?_ GE106.out) | exact HB.out)⟩
                    · rw [if_neg c12] at H
                      have c12b0 : (((rd_T100 l0 (ji9)).f0) == ((rd_T100 l0 x7_1).f0)) = false := beq_eq_false_iff_ne.mpr c12
                      have c12b1 : (((rd_T100 l0 (ji9)).f0) != ((rd_T100 l0 x7_1).f0)) = true := bne_iff_ne.mpr c12
                      have H' := Aside0.mk H
                      clear H
                      have p105 : 0 ≤ (x7_1 : Int) := of_decide_eq_true (by first | (with_reducible assumption) | assumption)
                      have q105 : x7_1 < (l0.length : Int) := of_decide_eq_true (by first | (with_reducible assumption) | assumption)
                      obtain ⟨ad105, e105, hx105_0, hx105_1⟩ := at_T100 HR0.out x7_1 p105 q105
                      cases e105
                      replace hx105_0 := (HB.out.cell (World.block_lt_of_cell? w _ hx105_0)).trans hx105_0
                      replace hx105_1 := (HB.out.cell (World.block_lt_of_cell? w _ hx105_1)).trans hx105_1
                      replace p105 := eq_true p105
                      replace q105 := eq_true q105
                      go_wp2_with (first | ((with_reducible refine gate_dst (N := 4) rfl ?_); refine box_event ?hg (N := 4) ?hd (cs := #[.int .u64 0, .int .i64 0]) (t := 100) ?hr ?_; (case hd => rfl); (case hg => rfl); (case hr => first | (go_simp; done) | (go_simp; rfl)); intro gb106 hg w15 hbox hb; have n0_ := Aside0.mk (below_step (by repeat (first | (with_reducible first | exact HB.out | apply below_alloc | apply pw_below_drewN | apply below_drew1) | exact HB.out)) hb); have n1_ := Aside0.mk (hbox); have n2_ := Aside0.mk ((by rw [hg]; exact (below_size (by repeat (first | (with_reducible first | exact HB.out | apply below_alloc | apply pw_below_drewN | apply below_drew1) | exact HB.out))) : w.heap.size ≤ gb106)); have n3_ := Aside0.mk ((by rw [hg]; exact (below_size (by repeat (first | (with_reducible first | exact HB.out | apply below_alloc | apply pw_below_drewN | apply below_drew1) | exact HB.out))) : w.heap.size ≤ gb106)); clear HB; have HB := n0_; have BK106 := n1_; have GW106 := n2_; have GE106 := n3_; clear n0_ n1_ n2_ n3_; clear hb hbox hg; have hcz16_0 : w15.cell? ⟨gb106, 0, none⟩ = some (.int .u64 0) := (blk_cell BK106.out 0).trans rfl; have hcz16_1 : w15.cell? ⟨gb106, 1, none⟩ = some (.int .i64 0) := (blk_cell BK106.out 1).trans rfl; have hfz16_0 := blk_frozen BK106.out 0; have hfz16_1 := blk_frozen BK106.out 1; have p107 : 0 ≤ ((ji9) : Int) := of_decide_eq_true (by first | (with_reducible assumption) | assumption); have q107 : (ji9) < (l0.length : Int) := of_decide_eq_true (by first | (with_reducible assumption) | assumption); obtain ⟨ad107, e107, hx107_0, hx107_1⟩ := at_T100 HR0.out (ji9) p107 q107; obtain rfl : ad105 = ad107 := (by injection e107); have hn107_0 : ad105.block ≠ gb106 := Nat.ne_of_lt (Nat.lt_of_lt_of_le (by have := World.block_lt_of_cell? _ _ hx107_0; first | rwa [add_block] at this | exact this) GW106.out); have hn107_1 : ad105.block ≠ gb106 := Nat.ne_of_lt (Nat.lt_of_lt_of_le (by have := World.block_lt_of_cell? _ _ hx107_0; first | rwa [add_block] at this | exact this) GW106.out); replace hx107_0 := (HB.out.cell (World.block_lt_of_cell? w _ hx107_0)).trans hx107_0; replace hx107_1 := (HB.out.cell (World.block_lt_of_cell? w _ hx107_1)).trans hx107_1; replace hx107_0 := (cell_far (p := ⟨gb106, 0, none⟩) (by first | (rw [add_block]; exact hn107_0) | (show (Addr.add _ _).block ≠ _; rw [add_block]; exact hn107_0) | exact hn107_0) (.int .u64 ((rd_T100 l0 x7_1).f0))).trans hx107_0; replace hx107_1 := (cell_far (p := ⟨gb106, 0, none⟩) (by first | (rw [add_block]; exact hn107_0) | (show (Addr.add _ _).block ≠ _; rw [add_block]; exact hn107_0) | exact hn107_0) (.int .u64 ((rd_T100 l0 x7_1).f0))).trans hx107_1; replace hx107_0 := (cell_far (p := ⟨gb106, 1, none⟩) (by first | (rw [add_block]; exact hn107_1) | (show (Addr.add _ _).block ≠ _; rw [add_block]; exact hn107_1) | exact hn107_1) (.int .i64 ((rd_T100 l0 x7_1).f1))).trans hx107_0; replace hx107_1 := (cell_far (p := ⟨gb106, 1, none⟩) (by first | (rw [add_block]; exact hn107_1) | (show (Addr.add _ _).block ≠ _; rw [add_block]; exact hn107_1) | exact hn107_1) (.int .i64 ((rd_T100 l0 x7_1).f1))).trans hx107_1; (try have hy107_0 := fun (n_ : Nat) => (show ((((w15.drewN n_).setCell ⟨gb106, 0, none⟩ (.int .u64 ((rd_T100 l0 x7_1).f0))).setCell ⟨gb106, 1, none⟩ (.int .i64 ((rd_T100 l0 x7_1).f1)))).cell? _ = some _ from hx107_0)); (try have hy107_1 := fun (n_ : Nat) => (show ((((w15.drewN n_).setCell ⟨gb106, 0, none⟩ (.int .u64 ((rd_T100 l0 x7_1).f0))).setCell ⟨gb106, 1, none⟩ (.int .i64 ((rd_T100 l0 x7_1).f1)))).cell? _ = some _ from hx107_1)); clear hn107_0; clear hn107_1; replace p107 := eq_true p107; replace q107 := eq_true q107))
                      repeat (go_quiet (first | ((with_reducible refine gate_dst (N := 4) rfl ?_); refine box_event ?hg (N := 4) ?hd (cs := #[.int .u64 0, .int .i64 0]) (t := 100) ?hr ?_; (case hd => rfl); (case hg => rfl); (case hr => first | (go_simp; done) | (go_simp; rfl)); intro gb106 hg w15 hbox hb; have n0_ := Aside0.mk (below_step (by repeat (first | (with_reducible first | exact HB.out | apply below_alloc | apply pw_below_drewN | apply below_drew1) | exact HB.out)) hb); have n1_ := Aside0.mk (hbox); have n2_ := Aside0.mk ((by rw [hg]; exact (below_size (by repeat (first | (with_reducible first | exact HB.out | apply below_alloc | apply pw_below_drewN | apply below_drew1) | exact HB.out))) : w.heap.size ≤ gb106)); have n3_ := Aside0.mk ((by rw [hg]; exact (below_size (by repeat (first | (with_reducible first | exact HB.out | apply below_alloc | apply pw_below_drewN | apply below_drew1) | exact HB.out))) : w.heap.size ≤ gb106)); clear HB; have HB := n0_; have BK106 := n1_; have GW106 := n2_; have GE106 := n3_; clear n0_ n1_ n2_ n3_; clear hb hbox hg; have hcz16_0 : w15.cell? ⟨gb106, 0, none⟩ = some (.int .u64 0) := (blk_cell BK106.out 0).trans rfl; have hcz16_1 : w15.cell? ⟨gb106, 1, none⟩ = some (.int .i64 0) := (blk_cell BK106.out 1).trans rfl; have hfz16_0 := blk_frozen BK106.out 0; have hfz16_1 := blk_frozen BK106.out 1; have p107 : 0 ≤ ((ji9) : Int) := of_decide_eq_true (by first | (with_reducible assumption) | assumption); have q107 : (ji9) < (l0.length : Int) := of_decide_eq_true (by first | (with_reducible assumption) | assumption); obtain ⟨ad107, e107, hx107_0, hx107_1⟩ := at_T100 HR0.out (ji9) p107 q107; obtain rfl : ad105 = ad107 := (by injection e107); have hn107_0 : ad105.block ≠ gb106 := Nat.ne_of_lt (Nat.lt_of_lt_of_le (by have := World.block_lt_of_cell? _ _ hx107_0; first | rwa [add_block] at this | exact this) GW106.out); have hn107_1 : ad105.block ≠ gb106 := Nat.ne_of_lt (Nat.lt_of_lt_of_le (by have := World.block_lt_of_cell? _ _ hx107_0; first | rwa [add_block] at this | exact this) GW106.out); replace hx107_0 := (HB.out.cell (World.block_lt_of_cell? w _ hx107_0)).trans hx107_0; replace hx107_1 := (HB.out.cell (World.block_lt_of_cell? w _ hx107_1)).trans hx107_1; replace hx107_0 := (cell_far (p := ⟨gb106, 0, none⟩) (by first | (rw [add_block]; exact hn107_0) | (show (Addr.add _ _).block ≠ _; rw [add_block]; exact hn107_0) | exact hn107_0) (.int .u64 ((rd_T100 l0 x7_1).f0))).trans hx107_0; replace hx107_1 := (cell_far (p := ⟨gb106, 0, none⟩) (by first | (rw [add_block]; exact hn107_0) | (show (Addr.add _ _).block ≠ _; rw [add_block]; exact hn107_0) | exact hn107_0) (.int .u64 ((rd_T100 l0 x7_1).f0))).trans hx107_1; replace hx107_0 := (cell_far (p := ⟨gb106, 1, none⟩) (by first | (rw [add_block]; exact hn107_1) | (show (Addr.add _ _).block ≠ _; rw [add_block]; exact hn107_1) | exact hn107_1) (.int .i64 ((rd_T100 l0 x7_1).f1))).trans hx107_0; replace hx107_1 := (cell_far (p := ⟨gb106, 1, none⟩) (by first | (rw [add_block]; exact hn107_1) | (show (Addr.add _ _).block ≠ _; rw [add_block]; exact hn107_1) | exact hn107_1) (.int .i64 ((rd_T100 l0 x7_1).f1))).trans hx107_1; (try have hy107_0 := fun (n_ : Nat) => (show ((((w15.drewN n_).setCell ⟨gb106, 0, none⟩ (.int .u64 ((rd_T100 l0 x7_1).f0))).setCell ⟨gb106, 1, none⟩ (.int .i64 ((rd_T100 l0 x7_1).f1)))).cell? _ = some _ from hx107_0)); (try have hy107_1 := fun (n_ : Nat) => (show ((((w15.drewN n_).setCell ⟨gb106, 0, none⟩ (.int .u64 ((rd_T100 l0 x7_1).f0))).setCell ⟨gb106, 1, none⟩ (.int .i64 ((rd_T100 l0 x7_1).f1)))).cell? _ = some _ from hx107_1)); clear hn107_0; clear hn107_1; replace p107 := eq_true p107; replace q107 := eq_true q107)); try go_wp2_with (first | ((with_reducible refine gate_dst (N := 4) rfl ?_); refine box_event ?hg (N := 4) ?hd (cs := #[.int .u64 0, .int .i64 0]) (t := 100) ?hr ?_; (case hd => rfl); (case hg => rfl); (case hr => first | (go_simp; done) | (go_simp; rfl)); intro gb106 hg w15 hbox hb; have n0_ := Aside0.mk (below_step (by repeat (first | (with_reducible first | exact HB.out | apply below_alloc | apply pw_below_drewN | apply below_drew1) | exact HB.out)) hb); have n1_ := Aside0.mk (hbox); have n2_ := Aside0.mk ((by rw [hg]; exact (below_size (by repeat (first | (with_reducible first | exact HB.out | apply below_alloc | apply pw_below_drewN | apply below_drew1) | exact HB.out))) : w.heap.size ≤ gb106)); have n3_ := Aside0.mk ((by rw [hg]; exact (below_size (by repeat (first | (with_reducible first | exact HB.out | apply below_alloc | apply pw_below_drewN | apply below_drew1) | exact HB.out))) : w.heap.size ≤ gb106)); clear HB; have HB := n0_; have BK106 := n1_; have GW106 := n2_; have GE106 := n3_; clear n0_ n1_ n2_ n3_; clear hb hbox hg; have hcz16_0 : w15.cell? ⟨gb106, 0, none⟩ = some (.int .u64 0) := (blk_cell BK106.out 0).trans rfl; have hcz16_1 : w15.cell? ⟨gb106, 1, none⟩ = some (.int .i64 0) := (blk_cell BK106.out 1).trans rfl; have hfz16_0 := blk_frozen BK106.out 0; have hfz16_1 := blk_frozen BK106.out 1; have p107 : 0 ≤ ((ji9) : Int) := of_decide_eq_true (by first | (with_reducible assumption) | assumption); have q107 : (ji9) < (l0.length : Int) := of_decide_eq_true (by first | (with_reducible assumption) | assumption); obtain ⟨ad107, e107, hx107_0, hx107_1⟩ := at_T100 HR0.out (ji9) p107 q107; obtain rfl : ad105 = ad107 := (by injection e107); have hn107_0 : ad105.block ≠ gb106 := Nat.ne_of_lt (Nat.lt_of_lt_of_le (by have := World.block_lt_of_cell? _ _ hx107_0; first | rwa [add_block] at this | exact this) GW106.out); have hn107_1 : ad105.block ≠ gb106 := Nat.ne_of_lt (Nat.lt_of_lt_of_le (by have := World.block_lt_of_cell? _ _ hx107_0; first | rwa [add_block] at this | exact this) GW106.out); replace hx107_0 := (HB.out.cell (World.block_lt_of_cell? w _ hx107_0)).trans hx107_0; replace hx107_1 := (HB.out.cell (World.block_lt_of_cell? w _ hx107_1)).trans hx107_1; replace hx107_0 := (cell_far (p := ⟨gb106, 0, none⟩) (by first | (rw [add_block]; exact hn107_0) | (show (Addr.add _ _).block ≠ _; rw [add_block]; exact hn107_0) | exact hn107_0) (.int .u64 ((rd_T100 l0 x7_1).f0))).trans hx107_0; replace hx107_1 := (cell_far (p := ⟨gb106, 0, none⟩) (by first | (rw [add_block]; exact hn107_0) | (show (Addr.add _ _).block ≠ _; rw [add_block]; exact hn107_0) | exact hn107_0) (.int .u64 ((rd_T100 l0 x7_1).f0))).trans hx107_1; replace hx107_0 := (cell_far (p := ⟨gb106, 1, none⟩) (by first | (rw [add_block]; exact hn107_1) | (show (Addr.add _ _).block ≠ _; rw [add_block]; exact hn107_1) | exact hn107_1) (.int .i64 ((rd_T100 l0 x7_1).f1))).trans hx107_0; replace hx107_1 := (cell_far (p := ⟨gb106, 1, none⟩) (by first | (rw [add_block]; exact hn107_1) | (show (Addr.add _ _).block ≠ _; rw [add_block]; exact hn107_1) | exact hn107_1) (.int .i64 ((rd_T100 l0 x7_1).f1))).trans hx107_1; (try have hy107_0 := fun (n_ : Nat) => (show ((((w15.drewN n_).setCell ⟨gb106, 0, none⟩ (.int .u64 ((rd_T100 l0 x7_1).f0))).setCell ⟨gb106, 1, none⟩ (.int .i64 ((rd_T100 l0 x7_1).f1)))).cell? _ = some _ from hx107_0)); (try have hy107_1 := fun (n_ : Nat) => (show ((((w15.drewN n_).setCell ⟨gb106, 0, none⟩ (.int .u64 ((rd_T100 l0 x7_1).f0))).setCell ⟨gb106, 1, none⟩ (.int .i64 ((rd_T100 l0 x7_1).f1)))).cell? _ = some _ from hx107_1)); clear hn107_0; clear hn107_1; replace p107 := eq_true p107; replace q107 := eq_true q107)))
                      go_roundg k1
                      case measure => have := HK1.out; omega
                      case rel => exact ⟨(wrap64 (x7_1 + 1)), (by first | rfl | (simp; done) | (simp [*]; done)), H', ⟨by have := HK1.out; omega⟩, ⟨by repeat (first | (with_reducible first | exact HB.out | apply below_alloc | apply pw_below_drewN | apply below_drew1 | refine below_set ?_ GE106.out) | exact HB.out)⟩⟩
                  · rw [if_neg c11] at H
                    exact absurd H (by simp)
                · rw [if_neg c10] at H
                  exact absurd H (by simp)
              · rw [if_neg c8] at H
                have c8b0 : decide (0 < x7_1) = false := decide_eq_false c8
                clear c8
                have H' := Aside0.mk H
                clear H
                have p105 : 0 ≤ (x7_1 : Int) := of_decide_eq_true (by first | (with_reducible assumption) | assumption)
                have q105 : x7_1 < (l0.length : Int) := of_decide_eq_true (by first | (with_reducible assumption) | assumption)
                obtain ⟨ad105, e105, hx105_0, hx105_1⟩ := at_T100 HR0.out x7_1 p105 q105
                cases e105
                replace hx105_0 := (HB.out.cell (World.block_lt_of_cell? w _ hx105_0)).trans hx105_0
                replace hx105_1 := (HB.out.cell (World.block_lt_of_cell? w _ hx105_1)).trans hx105_1
                replace p105 := eq_true p105
                replace q105 := eq_true q105
                go_wp2_with (first | ((with_reducible refine gate_dst (N := 4) rfl ?_); refine box_event ?hg (N := 4) ?hd (cs := #[.int .u64 0, .int .i64 0]) (t := 100) ?hr ?_; (case hd => rfl); (case hg => rfl); (case hr => first | (go_simp; done) | (go_simp; rfl)); intro gb106 hg w17 hbox hb; have n0_ := Aside0.mk (below_step (by repeat (first | (with_reducible first | exact HB.out | apply below_alloc | apply pw_below_drewN | apply below_drew1) | exact HB.out)) hb); have n1_ := Aside0.mk (hbox); have n2_ := Aside0.mk ((by rw [hg]; exact (below_size (by repeat (first | (with_reducible first | exact HB.out | apply below_alloc | apply pw_below_drewN | apply below_drew1) | exact HB.out))) : w.heap.size ≤ gb106)); have n3_ := Aside0.mk ((by rw [hg]; exact (below_size (by repeat (first | (with_reducible first | exact HB.out | apply below_alloc | apply pw_below_drewN | apply below_drew1) | exact HB.out))) : w.heap.size ≤ gb106)); clear HB; have HB := n0_; have BK106 := n1_; have GW106 := n2_; have GE106 := n3_; clear n0_ n1_ n2_ n3_; clear hb hbox hg; have hcz18_0 : w17.cell? ⟨gb106, 0, none⟩ = some (.int .u64 0) := (blk_cell BK106.out 0).trans rfl; have hcz18_1 : w17.cell? ⟨gb106, 1, none⟩ = some (.int .i64 0) := (blk_cell BK106.out 1).trans rfl; have hfz18_0 := blk_frozen BK106.out 0; have hfz18_1 := blk_frozen BK106.out 1))
                repeat (go_quiet (first | ((with_reducible refine gate_dst (N := 4) rfl ?_); refine box_event ?hg (N := 4) ?hd (cs := #[.int .u64 0, .int .i64 0]) (t := 100) ?hr ?_; (case hd => rfl); (case hg => rfl); (case hr => first | (go_simp; done) | (go_simp; rfl)); intro gb106 hg w17 hbox hb; have n0_ := Aside0.mk (below_step (by repeat (first | (with_reducible first | exact HB.out | apply below_alloc | apply pw_below_drewN | apply below_drew1) | exact HB.out)) hb); have n1_ := Aside0.mk (hbox); have n2_ := Aside0.mk ((by rw [hg]; exact (below_size (by repeat (first | (with_reducible first | exact HB.out | apply below_alloc | apply pw_below_drewN | apply below_drew1) | exact HB.out))) : w.heap.size ≤ gb106)); have n3_ := Aside0.mk ((by rw [hg]; exact (below_size (by repeat (first | (with_reducible first | exact HB.out | apply below_alloc | apply pw_below_drewN | apply below_drew1) | exact HB.out))) : w.heap.size ≤ gb106)); clear HB; have HB := n0_; have BK106 := n1_; have GW106 := n2_; have GE106 := n3_; clear n0_ n1_ n2_ n3_; clear hb hbox hg; have hcz18_0 : w17.cell? ⟨gb106, 0, none⟩ = some (.int .u64 0) := (blk_cell BK106.out 0).trans rfl; have hcz18_1 : w17.cell? ⟨gb106, 1, none⟩ = some (.int .i64 0) := (blk_cell BK106.out 1).trans rfl; have hfz18_0 := blk_frozen BK106.out 0; have hfz18_1 := blk_frozen BK106.out 1)); try go_wp2_with (first | ((with_reducible refine gate_dst (N := 4) rfl ?_); refine box_event ?hg (N := 4) ?hd (cs := #[.int .u64 0, .int .i64 0]) (t := 100) ?hr ?_; (case hd => rfl); (case hg => rfl); (case hr => first | (go_simp; done) | (go_simp; rfl)); intro gb106 hg w17 hbox hb; have n0_ := Aside0.mk (below_step (by repeat (first | (with_reducible first | exact HB.out | apply below_alloc | apply pw_below_drewN | apply below_drew1) | exact HB.out)) hb); have n1_ := Aside0.mk (hbox); have n2_ := Aside0.mk ((by rw [hg]; exact (below_size (by repeat (first | (with_reducible first | exact HB.out | apply below_alloc | apply pw_below_drewN | apply below_drew1) | exact HB.out))) : w.heap.size ≤ gb106)); have n3_ := Aside0.mk ((by rw [hg]; exact (below_size (by repeat (first | (with_reducible first | exact HB.out | apply below_alloc | apply pw_below_drewN | apply below_drew1) | exact HB.out))) : w.heap.size ≤ gb106)); clear HB; have HB := n0_; have BK106 := n1_; have GW106 := n2_; have GE106 := n3_; clear n0_ n1_ n2_ n3_; clear hb hbox hg; have hcz18_0 : w17.cell? ⟨gb106, 0, none⟩ = some (.int .u64 0) := (blk_cell BK106.out 0).trans rfl; have hcz18_1 : w17.cell? ⟨gb106, 1, none⟩ = some (.int .i64 0) := (blk_cell BK106.out 1).trans rfl; have hfz18_0 := blk_frozen BK106.out 0; have hfz18_1 := blk_frozen BK106.out 1)))
                go_roundg k1
                case measure => have := HK1.out; omega
                case rel => exact ⟨(wrap64 (x7_1 + 1)), (by first | rfl | (simp; done) | (simp [*]; done)), H', ⟨by have := HK1.out; omega⟩, ⟨by repeat (first | (with_reducible first | exact HB.out | apply below_alloc | apply pw_below_drewN | apply below_drew1 | refine below_set ?_ GE106.out) | exact HB.out)⟩⟩
          · rw [if_neg c4] at H
            exact absurd H (by simp)
        · rw [if_neg c3] at H
          exact absurd H (by simp)
      · rw [if_neg c2] at H
        have c2b0 : decide (x7_1 < (l0.length : Int)) = false := decide_eq_false c2
        clear c2
        replace H := Option.bind_eq_some_iff.mp H
        obtain ⟨t108, A190, H⟩ := H
        replace H : (some (decide (t108 ≤ 4096))) = some r := H
        have A19 := Aside0.mk A190
        clear A190
        obtain rfl := Option.some.inj H
        go_wp2_with (first | (go_at_call 30; (with_reducible refine (runs_Total.calls k1 _ _ l0 t108 _ ?side1 ?side2 A19.out).mono ?_); (case side1 => repeat (first | exact (Kd.C_below HR0.out HB.out) | (with_reducible refine Kd.C_alloc ?_ _) | (with_reducible refine Kd.C_drewN ?_ _) | (with_reducible refine Kd.C_drew ?_))); (case side2 => exact HC0.out); rintro e w20 ⟨rfl, hb⟩; have n0_ := Aside0.mk (below_step (by repeat (first | (with_reducible first | exact HB.out | apply below_alloc | apply pw_below_drewN | apply below_drew1) | exact HB.out)) hb); clear HB; have HB := n0_; clear n0_; (try clear hb); (try clear hb2); (try clear hk); (try clear hi)))
        repeat (go_quiet (first | (go_at_call 30; (with_reducible refine (runs_Total.calls k1 _ _ l0 t108 _ ?side1 ?side2 A19.out).mono ?_); (case side1 => repeat (first | exact (Kd.C_below HR0.out HB.out) | (with_reducible refine Kd.C_alloc ?_ _) | (with_reducible refine Kd.C_drewN ?_ _) | (with_reducible refine Kd.C_drew ?_))); (case side2 => exact HC0.out); rintro e w20 ⟨rfl, hb⟩; have n0_ := Aside0.mk (below_step (by repeat (first | (with_reducible first | exact HB.out | apply below_alloc | apply pw_below_drewN | apply below_drew1) | exact HB.out)) hb); clear HB; have HB := n0_; clear n0_; (try clear hb); (try clear hb2); (try clear hk); (try clear hi))); try go_wp2_with (first | (go_at_call 30; (with_reducible refine (runs_Total.calls k1 _ _ l0 t108 _ ?side1 ?side2 A19.out).mono ?_); (case side1 => repeat (first | exact (Kd.C_below HR0.out HB.out) | (with_reducible refine Kd.C_alloc ?_ _) | (with_reducible refine Kd.C_drewN ?_ _) | (with_reducible refine Kd.C_drew ?_))); (case side2 => exact HC0.out); rintro e w20 ⟨rfl, hb⟩; have n0_ := Aside0.mk (below_step (by repeat (first | (with_reducible first | exact HB.out | apply below_alloc | apply pw_below_drewN | apply below_drew1) | exact HB.out)) hb); clear HB; have HB := n0_; clear n0_; (try clear hb); (try clear hb2); (try clear hk); (try clear hi))))
        go_ret
        exact ⟨by first | rfl | (simp [errW_none, errW_some] <;> rfl) | (simp [*, errW_none, errW_some] <;> rfl), by repeat (first | (with_reducible first | exact HB.out | apply below_alloc | apply pw_below_drewN | apply below_drew1) | exact HB.out)⟩
end Go.Proofs.Ythpjagblnddjaaa.PB
end

section
namespace Go.Proofs.Ythpjagblnddjaaa.PB
open Go.RowKit Go.Proofs.YthpjagblnddjaaaW.PrintWords Go.Proofs.YthpjagblnddjaaaW.PrintLast Go.Proofs.YthpjagblnddjaaaW.PrintMore
attribute [local go_sem] max2_int min2_int max_two min_two max_three min_three max_four min_four   
set_option linter.unusedVariables false
set_option linter.unusedSimpArgs false
mutual
def runs_At.j0 : Nat → List (S100) → Int → Bool → Option (Int × Bool)
  | 0, _, _, _ => none
  | k + 1, x0, x1, x14 => if x14 = true then (some (0, false)) else (runs_At.l0 k x1 x0 (x0.length : Int) 0)
def runs_At.l0 : Nat → Int → List (S100) → Int → Int → Option (Int × Bool)
  | 0, _, _, _, _ => none
  | k + 1, x1, x15, x16, x17 => if x17 < x16 then (if 0 ≤ x17 then (if x17 < (x15.length : Int) then (if x1 < ((rd_T100 x15 x17).f1) then (some ((rd_T100 x15 x17).f0, true)) else (runs_At.l0 k (wrap64 (x1 - ((rd_T100 x15 x17).f1))) x15 x16 (wrap64 (x17 + 1)))) else (none)) else (none)) else (some (0, false))
end
def runs_At.f (k : Nat) (l0 : List (S100)) (a1 : Int) : Option (Int × Bool) := (runs_Good.f k l0).bind fun t109 => (if t109 = true then (runs_At.j0 k l0 a1 (decide (a1 < 0))) else (runs_At.j0 k l0 a1 true))
theorem runs_At.mono_l : ∀ k, (∀ y0 y1 y2, LeO (runs_At.j0 k y0 y1 y2) (runs_At.j0 (k + 1) y0 y1 y2)) ∧ (∀ y0 y1 y2 y3, LeO (runs_At.l0 k y0 y1 y2 y3) (runs_At.l0 (k + 1) y0 y1 y2 y3))
  | 0 => ⟨fun _ _ _ r h => by simp [runs_At.j0] at h, fun _ _ _ _ r h => by simp [runs_At.l0] at h⟩
  | k + 1 => by
    obtain ⟨ih0, ih1⟩ := runs_At.mono_l k
    refine ⟨?_, ?_⟩
    · intro y0 y1 y2
      unfold runs_At.j0
      repeat' first
      | (with_reducible exact ih0 _ _ _)
      | (with_reducible exact ih1 _ _ _ _)
      | (with_reducible exact runs_Good.mono _ _)
      | (with_reducible exact LeO.refl _)
      | (with_reducible exact LeO.none _)
      | (with_reducible refine LeO.ite ?_ ?_)
      | (with_reducible refine LeO.bind ?_ (fun _ => ?_))
      | exact ih0 _ _ _
      | exact ih1 _ _ _ _
      | exact runs_Good.mono _ _
      | exact LeO.none _
      | refine LeO.ite ?_ ?_
      | refine LeO.bind ?_ (fun _ => ?_)
    · intro y0 y1 y2 y3
      unfold runs_At.l0
      repeat' first
      | (with_reducible exact ih0 _ _ _)
      | (with_reducible exact ih1 _ _ _ _)
      | (with_reducible exact runs_Good.mono _ _)
      | (with_reducible exact LeO.refl _)
      | (with_reducible exact LeO.none _)
      | (with_reducible refine LeO.ite ?_ ?_)
      | (with_reducible refine LeO.bind ?_ (fun _ => ?_))
      | exact ih0 _ _ _
      | exact ih1 _ _ _ _
      | exact runs_Good.mono _ _
      | exact LeO.none _
      | refine LeO.ite ?_ ?_
      | refine LeO.bind ?_ (fun _ => ?_)
theorem runs_At.mono : ∀ a0 a1 k, LeO (runs_At.f k a0 a1) (runs_At.f (k + 1) a0 a1) := by
  intro a0 a1 k
  obtain ⟨ih0, ih1⟩ := runs_At.mono_l k
  unfold runs_At.f
  repeat' first
      | (with_reducible exact ih0 _ _ _)
      | (with_reducible exact ih1 _ _ _ _)
      | (with_reducible exact runs_Good.mono _ _)
      | (with_reducible exact LeO.refl _)
      | (with_reducible exact LeO.none _)
      | (with_reducible refine LeO.ite ?_ ?_)
      | (with_reducible refine LeO.bind ?_ (fun _ => ?_))
      | exact ih0 _ _ _
      | exact ih1 _ _ _ _
      | exact runs_Good.mono _ _
      | exact LeO.none _
      | refine LeO.ite ?_ ?_
      | refine LeO.bind ?_ (fun _ => ?_)
set_option maxHeartbeats 8000000 in
set_option maxRecDepth 100000 in
theorem runs_At.calls (k : Nat) (A0 : Option Addr) (c0 : Nat) (l0 : List (S100)) (a1 : Int) (r1 : Int) (r2 : Bool) (w : World) (hr0 : Kd.C k100 w A0 l0.length l0) (hc0 : l0.length ≤ c0) (h : runs_At.f k l0 a1 = some (r1, r2)) :
    Calls Try.prog 34 #[.slice A0 l0.length c0, .int .i64 a1] w fun e w' => e = .returned (.tuple #[.int .u64 r1, .bool r2]) ∧ Below w.heap.size w w' := by
  have hu100 := Try.underlying100
  have HR0 := Aside0.mk hr0
  have HC0 := Aside0.mk hc0
  clear hr0 hc0
  have HB := Aside0.mk (Below.refl w.heap.size w)
  have H : ((runs_Good.f k l0).bind fun t109 => (if t109 = true then (runs_At.j0 k l0 a1 (decide (a1 < 0))) else (runs_At.j0 k l0 a1 true))) = some (r1, r2) := h
  clear h
  have HC3 := Aside0.mk H
  clear H
  go_enter Try.func34, Try.ntmps34
  go_upto_region 1 with (fail)
  go_cut [14] (fun v14 wc => ∃ (kq : Nat) (x14_2 : Bool), v14 = .bool x14_2 ∧ Aside0 (runs_At.j0 kq l0 a1 x14_2 = some (r1, r2)) ∧ Aside0 (kq ≤ k) ∧ Aside0 (Below w.heap.size w wc))
  case first =>
    have H := HC3.out
    clear HC3
    replace H := Option.bind_eq_some_iff.mp H
    obtain ⟨t109, A40, H⟩ := H
    replace H : (if t109 = true then (runs_At.j0 k l0 a1 (decide (a1 < 0))) else (runs_At.j0 k l0 a1 true)) = some (r1, r2) := H
    have A4 := Aside0.mk A40
    clear A40
    by_cases c5 : t109 = true
    · subst c5
      have H1 : (runs_At.j0 k l0 a1 (decide (a1 < 0))) = some (r1, r2) := by rw [if_pos rfl] at H; exact H
      clear H
      have H := H1
      clear H1
      have H' := Aside0.mk H
      clear H
      go_wp2_with (first | ((with_reducible refine gate_callee (f := 28) rfl ?_); refine goesL_ (some 9) rfl rfl Try.func28 (by kernel_rfl) rfl #[.slice A0 l0.length c0] rfl (by (try simp only [List.map_toArray, List.map_cons, List.map_nil]); first | done | rfl | (simp only [List.length_drop, List.length_take]; rfl)) ?_; (with_reducible refine (runs_Good.calls k _ _ l0 true _ ?side1 ?side2 A4.out).mono ?_); (case side1 => repeat (first | exact (Kd.C_below HR0.out HB.out) | (with_reducible refine Kd.C_alloc ?_ _) | (with_reducible refine Kd.C_drewN ?_ _) | (with_reducible refine Kd.C_drew ?_))); (case side2 => exact HC0.out); rintro e w6 ⟨rfl, hb⟩; refine ⟨_, rfl, ?_⟩; have n0_ := Aside0.mk (below_step (by repeat (first | (with_reducible first | exact HB.out | apply below_alloc | apply pw_below_drewN | apply below_drew1) | exact HB.out)) hb); clear HB; have HB := n0_; clear n0_; (try clear hb); (try clear hb2); (try clear hk); (try clear hi)))
      go_meet
      case rel => exact ⟨_, (decide (a1 < 0)), (by first | rfl | (simp; done) | (simp [*]; done)), H', ⟨by first | omega | exact Nat.le_refl _⟩, ⟨by repeat (first | (with_reducible first | exact HB.out | apply below_alloc | apply pw_below_drewN | apply below_drew1) | exact HB.out)⟩⟩
    · replace c5 := Bool.eq_false_iff.mpr c5
      subst c5
      have H1 : (runs_At.j0 k l0 a1 true) = some (r1, r2) := by rw [if_neg (show ¬ (false = true) by decide)] at H; exact H
      clear H
      have H := H1
      clear H1
      have H' := Aside0.mk H
      clear H
      go_wp2_with (first | ((with_reducible refine gate_callee (f := 28) rfl ?_); refine goesL_ (some 9) rfl rfl Try.func28 (by kernel_rfl) rfl #[.slice A0 l0.length c0] rfl (by (try simp only [List.map_toArray, List.map_cons, List.map_nil]); first | done | rfl | (simp only [List.length_drop, List.length_take]; rfl)) ?_; (with_reducible refine (runs_Good.calls k _ _ l0 false _ ?side1 ?side2 A4.out).mono ?_); (case side1 => repeat (first | exact (Kd.C_below HR0.out HB.out) | (with_reducible refine Kd.C_alloc ?_ _) | (with_reducible refine Kd.C_drewN ?_ _) | (with_reducible refine Kd.C_drew ?_))); (case side2 => exact HC0.out); rintro e w7 ⟨rfl, hb⟩; refine ⟨_, rfl, ?_⟩; have n0_ := Aside0.mk (below_step (by repeat (first | (with_reducible first | exact HB.out | apply below_alloc | apply pw_below_drewN | apply below_drew1) | exact HB.out)) hb); clear HB; have HB := n0_; clear n0_; (try clear hb); (try clear hb2); (try clear hk); (try clear hi)))
      go_meet
      case rel => exact ⟨_, (true), (by first | rfl | (simp; done) | (simp [*]; done)), H', ⟨by first | omega | exact Nat.le_refl _⟩, ⟨by repeat (first | (with_reducible first | exact HB.out | apply below_alloc | apply pw_below_drewN | apply below_drew1) | exact HB.out)⟩⟩
  case rest =>
    clear HC3
    try clear c2
    try clear p2
    try clear c3
    try clear c5
    obtain ⟨kq, x14_2, rfl, HA, HJ2, HB⟩ := hcut
    cases kq with
    | zero => exact absurd HA.out (by simp [runs_At.j0])
    | succ kj2 =>
      have H := HA.out
      clear HA
      simp only [runs_At.j0] at H
      by_cases c8 : x14_2 = true
      · subst c8
        have H1 : (some (0, false)) = some (r1, r2) := by rw [if_pos rfl] at H; exact H
        clear H
        have H := H1
        clear H1
        simp only [Option.some.injEq, Prod.mk.injEq] at H
        obtain ⟨rfl, rfl⟩ := H
        go_wp2
        go_ret2
        exact ⟨by first | rfl | (simp [errW_none, errW_some] <;> rfl) | (simp [*, errW_none, errW_some] <;> rfl), by repeat (first | (with_reducible first | exact HB.out | apply below_alloc | apply pw_below_drewN | apply below_drew1) | exact HB.out)⟩
      · replace c8 := Bool.eq_false_iff.mpr c8
        subst c8
        have H1 : (runs_At.l0 kj2 a1 l0 (l0.length : Int) 0) = some (r1, r2) := by rw [if_neg (show ¬ (false = true) by decide)] at H; exact H
        clear H
        have H := H1
        clear H1
        have H' := Aside0.mk H
        clear H
        go_wp2
        go_loopg [1, 17] kj2 (fun kq v1 v17 w' => ∃ (x1_2 : Int) (x17_2 : Int), v1 = .int .i64 x1_2 ∧ v17 = .int .i64 x17_2 ∧ Aside0 (runs_At.l0 kq x1_2 l0 (l0.length : Int) x17_2 = some (r1, r2)) ∧ Aside0 (kq ≤ kj2) ∧ Aside0 (Below w.heap.size w w'))
        case atStart => exact ⟨(a1), (0), (by first | rfl | (simp; done) | (simp [*]; done)), (by first | rfl | (simp; done) | (simp [*]; done)), H', ⟨Nat.le_refl _⟩, ⟨by repeat (first | (with_reducible first | exact HB.out | apply below_alloc | apply pw_below_drewN | apply below_drew1) | exact HB.out)⟩⟩
        case round =>
          clear H'
          try clear c2
          try clear p2
          try clear c3
          try clear c5
          try clear c8
          try clear p2
          obtain ⟨x1_2, x17_2, rfl, rfl, HA, HK2, HB⟩ := hrel
          cases gk with
          | zero => exact absurd HA.out (by simp [runs_At.l0])
          | succ k2 =>
            have H := HA.out
            clear HA
            simp only [runs_At.l0] at H
            by_cases c9 : x17_2 < (l0.length : Int)
            · rw [if_pos c9] at H
              have c9b0 : decide (x17_2 < (l0.length : Int)) = true := decide_eq_true c9
              clear c9
              by_cases c10 : 0 ≤ x17_2
              · rw [if_pos c10] at H
                have c10b0 : decide (0 ≤ x17_2) = true := decide_eq_true c10
                clear c10
                by_cases c11 : x17_2 < (l0.length : Int)
                · rw [if_pos c11] at H
                  have c11b0 : decide (x17_2 < (l0.length : Int)) = true := decide_eq_true c11
                  clear c11
                  by_cases c12 : x1_2 < ((rd_T100 l0 x17_2).f1)
                  · rw [if_pos c12] at H
                    have c12b0 : decide (x1_2 < ((rd_T100 l0 x17_2).f1)) = true := decide_eq_true c12
                    clear c12
                    simp only [Option.some.injEq, Prod.mk.injEq] at H
                    obtain ⟨rfl, rfl⟩ := H
                    have p110 : 0 ≤ (x17_2 : Int) := of_decide_eq_true (by first | (with_reducible assumption) | assumption)
                    have q110 : x17_2 < (l0.length : Int) := of_decide_eq_true (by first | (with_reducible assumption) | assumption)
                    obtain ⟨ad110, e110, hx110_0, hx110_1⟩ := at_T100 HR0.out x17_2 p110 q110
                    cases e110
                    replace hx110_0 := (HB.out.cell (World.block_lt_of_cell? w _ hx110_0)).trans hx110_0
                    replace hx110_1 := (HB.out.cell (World.block_lt_of_cell? w _ hx110_1)).trans hx110_1
                    replace p110 := eq_true p110
                    replace q110 := eq_true q110
                    go_wp2_with (first | ((with_reducible refine gate_dst (N := 7) rfl ?_); refine box_event ?hg (N := 7) ?hd (cs := #[.int .u64 0, .int .i64 0]) (t := 100) ?hr ?_; (case hd => rfl); (case hg => rfl); (case hr => first | (go_simp; done) | (go_simp; rfl)); intro gb111 hg w13 hbox hb; have n0_ := Aside0.mk (below_step (by repeat (first | (with_reducible first | exact HB.out | apply below_alloc | apply pw_below_drewN | apply below_drew1) | exact HB.out)) hb); have n1_ := Aside0.mk (hbox); have n2_ := Aside0.mk ((by rw [hg]; exact (below_size (by repeat (first | (with_reducible first | exact HB.out | apply below_alloc | apply pw_below_drewN | apply below_drew1) | exact HB.out))) : w.heap.size ≤ gb111)); have n3_ := Aside0.mk ((by rw [hg]; exact (below_size (by repeat (first | (with_reducible first | exact HB.out | apply below_alloc | apply pw_below_drewN | apply below_drew1) | exact HB.out))) : w.heap.size ≤ gb111)); clear HB; have HB := n0_; have BK111 := n1_; have GW111 := n2_; have GE111 := n3_; clear n0_ n1_ n2_ n3_; clear hb hbox hg; have hcz14_0 : w13.cell? ⟨gb111, 0, none⟩ = some (.int .u64 0) := (blk_cell BK111.out 0).trans rfl; have hcz14_1 : w13.cell? ⟨gb111, 1, none⟩ = some (.int .i64 0) := (blk_cell BK111.out 1).trans rfl; have hfz14_0 := blk_frozen BK111.out 0; have hfz14_1 := blk_frozen BK111.out 1))
                    go_ret2
                    exact ⟨by first | rfl | (simp [errW_none, errW_some] <;> rfl) | (simp [*, errW_none, errW_some] <;> rfl), by repeat (first | (with_reducible first | exact HB.out | apply below_alloc | apply pw_below_drewN | apply below_drew1 | refine below_set ?_ GE111.out) | exact HB.out)⟩
                  · rw [if_neg c12] at H
                    have c12b0 : decide (x1_2 < ((rd_T100 l0 x17_2).f1)) = false := decide_eq_false c12
                    clear c12
                    have H' := Aside0.mk H
                    clear H
                    have p110 : 0 ≤ (x17_2 : Int) := of_decide_eq_true (by first | (with_reducible assumption) | assumption)
                    have q110 : x17_2 < (l0.length : Int) := of_decide_eq_true (by first | (with_reducible assumption) | assumption)
                    obtain ⟨ad110, e110, hx110_0, hx110_1⟩ := at_T100 HR0.out x17_2 p110 q110
                    cases e110
                    replace hx110_0 := (HB.out.cell (World.block_lt_of_cell? w _ hx110_0)).trans hx110_0
                    replace hx110_1 := (HB.out.cell (World.block_lt_of_cell? w _ hx110_1)).trans hx110_1
                    replace p110 := eq_true p110
                    replace q110 := eq_true q110
                    go_wp2_with (first | ((with_reducible refine gate_dst (N := 7) rfl ?_); refine box_event ?hg (N := 7) ?hd (cs := #[.int .u64 0, .int .i64 0]) (t := 100) ?hr ?_; (case hd => rfl); (case hg => rfl); (case hr => first | (go_simp; done) | (go_simp; rfl)); intro gb111 hg w15 hbox hb; have n0_ := Aside0.mk (below_step (by repeat (first | (with_reducible first | exact HB.out | apply below_alloc | apply pw_below_drewN | apply below_drew1) | exact HB.out)) hb); have n1_ := Aside0.mk (hbox); have n2_ := Aside0.mk ((by rw [hg]; exact (below_size (by repeat (first | (with_reducible first | exact HB.out | apply below_alloc | apply pw_below_drewN | apply below_drew1) | exact HB.out))) : w.heap.size ≤ gb111)); have n3_ := Aside0.mk ((by rw [hg]; exact (below_size (by repeat (first | (with_reducible first | exact HB.out | apply below_alloc | apply pw_below_drewN | apply below_drew1) | exact HB.out))) : w.heap.size ≤ gb111)); clear HB; have HB := n0_; have BK111 := n1_; have GW111 := n2_; have GE111 := n3_; clear n0_ n1_ n2_ n3_; clear hb hbox hg; have hcz16_0 : w15.cell? ⟨gb111, 0, none⟩ = some (.int .u64 0) := (blk_cell BK111.out 0).trans rfl; have hcz16_1 : w15.cell? ⟨gb111, 1, none⟩ = some (.int .i64 0) := (blk_cell BK111.out 1).trans rfl; have hfz16_0 := blk_frozen BK111.out 0; have hfz16_1 := blk_frozen BK111.out 1))
                    go_roundg k2
                    case measure => have := HJ2.out; have := HK2.out; omega
                    case rel => exact ⟨(wrap64 (x1_2 - ((rd_T100 l0 x17_2).f1))), (wrap64 (x17_2 + 1)), (by first | rfl | (simp; done) | (simp [*]; done)), (by first | rfl | (simp; done) | (simp [*]; done)), H', ⟨by have := HJ2.out; have := HK2.out; omega⟩, ⟨by repeat (first | (with_reducible first | exact HB.out | apply below_alloc | apply pw_below_drewN | apply below_drew1 | refine below_set ?_ GE111.out) | exact HB.out)⟩⟩
                · rw [if_neg c11] at H
                  exact absurd H (by simp)
              · rw [if_neg c10] at H
                exact absurd H (by simp)
            · rw [if_neg c9] at H
              have c9b0 : decide (x17_2 < (l0.length : Int)) = false := decide_eq_false c9
              clear c9
              simp only [Option.some.injEq, Prod.mk.injEq] at H
              obtain ⟨rfl, rfl⟩ := H
              go_wp2
              go_ret2
              exact ⟨by first | rfl | (simp [errW_none, errW_some] <;> rfl) | (simp [*, errW_none, errW_some] <;> rfl), by repeat (first | (with_reducible first | exact HB.out | apply below_alloc | apply pw_below_drewN | apply below_drew1) | exact HB.out)⟩
def bureauref03_Total.l0 : Nat → List (S100) → Int → Int → Option (Int)
  | 0, _, _, _ => none
  | k + 1, x0, x3, x4 => if x4 < (x0.length : Int) then (if 0 ≤ x4 then (if ((rd_T100 x0 x4).f1) > (wrap64 (4096 - x3)) then (some 4097) else (if ((rd_T100 x0 x4).f1) > 0 then (bureauref03_Total.l0 k x0 (wrap64 (x3 + ((rd_T100 x0 x4).f1))) (wrap64 (x4 + 1))) else (bureauref03_Total.l0 k x0 x3 (wrap64 (x4 + 1))))) else (none)) else (some x3)
def bureauref03_Total.f (k : Nat) (l0 : List (S100)) : Option (Int) := bureauref03_Total.l0 k l0 0 0
set_option maxHeartbeats 8000000 in
set_option maxRecDepth 100000 in
theorem bureauref03_Total.calls (k : Nat) (A0 : Option Addr) (c0 : Nat) (l0 : List (S100)) (r : Int) (w : World) (hr0 : Kd.C k100 w A0 l0.length l0) (hc0 : l0.length ≤ c0) (h : bureauref03_Total.f k l0 = some r) :
    Calls Try.prog 31 #[.slice A0 l0.length c0] w fun e w' => e = .returned (.int .i64 r) ∧ Drawn0 w w' := by
  have HR0 := Aside0.mk hr0
  have HC0 := Aside0.mk hc0
  clear hr0 hc0
  have H : (bureauref03_Total.l0 k l0 0 0) = some r := h
  clear h
  have H' := Aside0.mk H
  clear H
  go_enter Try.func31, Try.ntmps31
  go_wp2
  go_loopg [3, 4] k (fun kq v3 v4 w' => ∃ (x3_1 : Int) (x4_1 : Int), v3 = .int .i64 x3_1 ∧ v4 = .int .i64 x4_1 ∧ Aside0 (bureauref03_Total.l0 kq l0 x3_1 x4_1 = some r) ∧ Aside0 (kq ≤ k) ∧ Drawn0 w w')
  case atStart => exact ⟨(0), (0), (by first | rfl | (simp; done) | (simp [*]; done)), (by first | rfl | (simp; done) | (simp [*]; done)), H', ⟨Nat.le_refl _⟩, by repeat (first | exact Drawn0.refl _ | apply Drawn0.step)⟩
  case round =>
    clear H'
    obtain ⟨x3_1, x4_1, rfl, rfl, HA, HK1, ⟨m1, rfl⟩⟩ := hrel
    cases gk with
    | zero => exact absurd HA.out (by simp [bureauref03_Total.l0])
    | succ k1 =>
      have H := HA.out
      clear HA
      simp only [bureauref03_Total.l0] at H
      by_cases c2 : x4_1 < (l0.length : Int)
      · rw [if_pos c2] at H
        have c2b0 : decide (x4_1 < (l0.length : Int)) = true := decide_eq_true c2
        clear c2
        by_cases c3 : 0 ≤ x4_1
        · rw [if_pos c3] at H
          have c3b0 : decide (0 ≤ x4_1) = true := decide_eq_true c3
          clear c3
          by_cases c4 : ((rd_T100 l0 x4_1).f1) > (wrap64 (4096 - x3_1))
          · rw [if_pos c4] at H
            have c4b0 : decide ((wrap64 (4096 - x3_1)) < ((rd_T100 l0 x4_1).f1)) = true := decide_eq_true c4
            clear c4
            obtain rfl := Option.some.inj H
            have p126 : 0 ≤ (x4_1 : Int) := of_decide_eq_true (by first | (with_reducible assumption) | assumption)
            have q126 : x4_1 < (l0.length : Int) := of_decide_eq_true (by first | (with_reducible assumption) | assumption)
            obtain ⟨ad126, e126, hx126_0, hx126_1⟩ := at_T100 HR0.out x4_1 p126 q126
            cases e126
            replace p126 := eq_true p126
            replace q126 := eq_true q126
            go_wp2
            go_ret
            exact ⟨by first | rfl | (simp; done) | (simp [*]; done), by repeat (first | exact Drawn0.refl _ | apply Drawn0.step)⟩
          · rw [if_neg c4] at H
            have c4b0 : decide ((wrap64 (4096 - x3_1)) < ((rd_T100 l0 x4_1).f1)) = false := decide_eq_false c4
            clear c4
            by_cases c5 : ((rd_T100 l0 x4_1).f1) > 0
            · rw [if_pos c5] at H
              have c5b0 : decide (0 < ((rd_T100 l0 x4_1).f1)) = true := decide_eq_true c5
              clear c5
              have H' := Aside0.mk H
              clear H
              have p126 : 0 ≤ (x4_1 : Int) := of_decide_eq_true (by first | (with_reducible assumption) | assumption)
              have q126 : x4_1 < (l0.length : Int) := of_decide_eq_true (by first | (with_reducible assumption) | assumption)
              obtain ⟨ad126, e126, hx126_0, hx126_1⟩ := at_T100 HR0.out x4_1 p126 q126
              cases e126
              replace p126 := eq_true p126
              replace q126 := eq_true q126
              have p127 : 0 ≤ (x4_1 : Int) := of_decide_eq_true (by first | (with_reducible assumption) | assumption)
              have q127 : x4_1 < (l0.length : Int) := of_decide_eq_true (by first | (with_reducible assumption) | assumption)
              obtain ⟨ad127, e127, hx127_0, hx127_1⟩ := at_T100 HR0.out x4_1 p127 q127
              obtain rfl : ad126 = ad127 := (by injection e127)
              replace p127 := eq_true p127
              replace q127 := eq_true q127
              have p128 : 0 ≤ (x4_1 : Int) := of_decide_eq_true (by first | (with_reducible assumption) | assumption)
              have q128 : x4_1 < (l0.length : Int) := of_decide_eq_true (by first | (with_reducible assumption) | assumption)
              obtain ⟨ad128, e128, hx128_0, hx128_1⟩ := at_T100 HR0.out x4_1 p128 q128
              obtain rfl : ad126 = ad128 := (by injection e128)
              replace p128 := eq_true p128
              replace q128 := eq_true q128
              go_wp2
              go_roundg k1
              case measure => have := HK1.out; omega
              case rel => exact ⟨(wrap64 (x3_1 + ((rd_T100 l0 x4_1).f1))), (wrap64 (x4_1 + 1)), (by first | rfl | (simp; done) | (simp [*]; done)), (by first | rfl | (simp; done) | (simp [*]; done)), H', ⟨by have := HK1.out; omega⟩, by repeat (first | exact Drawn0.refl _ | apply Drawn0.step)⟩
            · rw [if_neg c5] at H
              have c5b0 : decide (0 < ((rd_T100 l0 x4_1).f1)) = false := decide_eq_false c5
              clear c5
              have H' := Aside0.mk H
              clear H
              have p126 : 0 ≤ (x4_1 : Int) := of_decide_eq_true (by first | (with_reducible assumption) | assumption)
              have q126 : x4_1 < (l0.length : Int) := of_decide_eq_true (by first | (with_reducible assumption) | assumption)
              obtain ⟨ad126, e126, hx126_0, hx126_1⟩ := at_T100 HR0.out x4_1 p126 q126
              cases e126
              replace p126 := eq_true p126
              replace q126 := eq_true q126
              have p127 : 0 ≤ (x4_1 : Int) := of_decide_eq_true (by first | (with_reducible assumption) | assumption)
              have q127 : x4_1 < (l0.length : Int) := of_decide_eq_true (by first | (with_reducible assumption) | assumption)
              obtain ⟨ad127, e127, hx127_0, hx127_1⟩ := at_T100 HR0.out x4_1 p127 q127
              obtain rfl : ad126 = ad127 := (by injection e127)
              replace p127 := eq_true p127
              replace q127 := eq_true q127
              go_wp2
              go_roundg k1
              case measure => have := HK1.out; omega
              case rel => exact ⟨(x3_1), (wrap64 (x4_1 + 1)), (by first | rfl | (simp; done) | (simp [*]; done)), (by first | rfl | (simp; done) | (simp [*]; done)), H', ⟨by have := HK1.out; omega⟩, by repeat (first | exact Drawn0.refl _ | apply Drawn0.step)⟩
        · rw [if_neg c3] at H
          exact absurd H (by simp)
      · rw [if_neg c2] at H
        have c2b0 : decide (x4_1 < (l0.length : Int)) = false := decide_eq_false c2
        clear c2
        obtain rfl := Option.some.inj H
        go_wp2
        go_ret
        exact ⟨by first | rfl | (simp; done) | (simp [*]; done), by repeat (first | exact Drawn0.refl _ | apply Drawn0.step)⟩
def bureauref03_Pack.l0 : Nat → List Int → List (S100) → Int → Option ((List (S100)))
  | 0, _, _, _ => none
  | k + 1, x0, x3, x4 => if x4 < (x0.length : Int) then (if (x3.length : Int) > 0 then (if 0 ≤ (wrap64 ((x3.length : Int) - 1)) then (if (wrap64 ((x3.length : Int) - 1)) < (x3.length : Int) then (if 0 ≤ x4 then (if ((rd_T100 x3 (wrap64 ((x3.length : Int) - 1))).f0) = (rd x0 x4) then (bureauref03_Pack.l0 k x0 (x3.set ((wrap64 ((x3.length : Int) - 1)) : Int).toNat (⟨(rd_T100 x3 (wrap64 ((x3.length : Int) - 1))).f0, wrap64 (((rd_T100 x3 (wrap64 ((x3.length : Int) - 1))).f1) + 1)⟩ : S100)) (wrap64 (x4 + 1))) else (if x3.length < 8796093022208 then (bureauref03_Pack.l0 k x0 (x3 ++ [(⟨rd x0 x4, 1⟩ : S100)]) (wrap64 (x4 + 1))) else (none))) else (none)) else (none)) else (none)) else (if 0 ≤ x4 then (if x3.length < 8796093022208 then (bureauref03_Pack.l0 k x0 (x3 ++ [(⟨rd x0 x4, 1⟩ : S100)]) (wrap64 (x4 + 1))) else (none)) else (none))) else (some x3)
def bureauref03_Pack.f (k : Nat) (l0 : List Int) : Option ((List (S100))) := bureauref03_Pack.l0 k l0 ([] : List (S100)) 0
set_option maxHeartbeats 8000000 in
set_option maxRecDepth 100000 in
theorem bureauref03_Pack.calls (k : Nat) (A0 : Option Addr) (c0 : Nat) (l0 : List Int) (r : List (S100)) (w : World) (hr0 : Kd.C (Kd.int .u64) w A0 l0.length l0) (hc0 : l0.length ≤ c0) (h : bureauref03_Pack.f k l0 = some r) :
    Calls Try.prog 83 #[.slice A0 l0.length c0] w fun e w' => ∃ v0_ : Value, e = .returned (v0_) ∧ Kd.R k100 100 w' w.heap.size (fun _ => True) v0_ r ∧ Below w.heap.size w w' := by
  have hu100 := Try.underlying100
  have HR0 := Aside0.mk hr0
  have HC0 := Aside0.mk hc0
  clear hr0 hc0
  have HB := Aside0.mk (Below.refl w.heap.size w)
  have H : (bureauref03_Pack.l0 k l0 ([] : List (S100)) 0) = some r := h
  clear h
  have H' := Aside0.mk H
  clear H
  go_enter Try.func83, Try.ntmps83
  go_wp2
  repeat (go_quiet (fail); try go_wp2)
  go_loopg [3, 4] k (fun kq v3 v4 w' => ∃ (x3_1 : List (S100)) (x4_1 : Int), v4 = .int .i64 x4_1 ∧ Aside0 (bureauref03_Pack.l0 kq l0 x3_1 x4_1 = some r) ∧ Aside0 (kq ≤ k) ∧ Aside0 (Kd.R k100 100 w' w.heap.size (fun _ => True) v3 x3_1) ∧ Aside0 (Below w.heap.size w w'))
  case atStart => exact ⟨(([] : List (S100))), (0), (by first | rfl | (simp; done) | (simp [*]; done)), H', ⟨Nat.le_refl _⟩, ⟨by first | exact Kd.R_nil _ _ _ _ _ | exact Kd.N_nil _ _ _ _ _ | exact Kd.V_nil _ _ _ _ _ | exact Kd.Q_nil _ _ _ _ _ | exact Kd.S_nil _ _ _ _ _⟩, ⟨by repeat (first | (with_reducible first | exact HB.out | apply below_alloc | apply pw_below_drewN | apply below_drew1) | exact HB.out)⟩⟩
  case round =>
    clear H'
    obtain ⟨x3_1, x4_1, rfl, HA, HK1, HO_3, HB⟩ := hrel
    cases gk with
    | zero => exact absurd HA.out (by simp [bureauref03_Pack.l0])
    | succ k1 =>
      have H := HA.out
      clear HA
      simp only [bureauref03_Pack.l0] at H
      by_cases c2 : x4_1 < (l0.length : Int)
      · rw [if_pos c2] at H
        have c2b0 : decide (x4_1 < (l0.length : Int)) = true := decide_eq_true c2
        clear c2
        by_cases c3 : (x3_1.length : Int) > 0
        · rw [if_pos c3] at H
          have c3b0 : decide (0 < (x3_1.length : Int)) = true := decide_eq_true c3
          have c3b1 : decide (0 < x3_1.length) = true := decide_eq_true (by omega)
          clear c3
          obtain ⟨ji4, hji4⟩ : ∃ j_ : Int, (wrap64 ((x3_1.length : Int) - 1)) = j_ := ⟨_, rfl⟩
          replace H : (if 0 ≤ (ji4) then (if (ji4) < (x3_1.length : Int) then (if 0 ≤ x4_1 then (if ((rd_T100 x3_1 (ji4)).f0) = (rd l0 x4_1) then (bureauref03_Pack.l0 k1 l0 (x3_1.set ((ji4) : Int).toNat (⟨(rd_T100 x3_1 (ji4)).f0, wrap64 (((rd_T100 x3_1 (ji4)).f1) + 1)⟩ : S100)) (wrap64 (x4_1 + 1))) else (if x3_1.length < 8796093022208 then (bureauref03_Pack.l0 k1 l0 (x3_1 ++ [(⟨rd l0 x4_1, 1⟩ : S100)]) (wrap64 (x4_1 + 1))) else (none))) else (none)) else (none)) else (none)) = some r := by first | (rw [hji4] at H; exact H) | (simp only [hji4] at H ⊢; exact H)
          have hji4w : (IntKind.i64.wrap ((x3_1.length : Int) - 1)) = ji4 := (i64_w _).trans hji4
          by_cases c5 : 0 ≤ (ji4)
          · rw [if_pos c5] at H
            have c5b0 : decide (0 ≤ (ji4)) = true := decide_eq_true c5
            clear c5
            by_cases c6 : (ji4) < (x3_1.length : Int)
            · rw [if_pos c6] at H
              have c6b0 : decide ((ji4) < (x3_1.length : Int)) = true := decide_eq_true c6
              clear c6
              by_cases c7 : 0 ≤ x4_1
              · rw [if_pos c7] at H
                have c7b0 : decide (0 ≤ x4_1) = true := decide_eq_true c7
                clear c7
                by_cases c8 : ((rd_T100 x3_1 (ji4)).f0) = (rd l0 x4_1)
                · rw [if_pos c8] at H
                  have c8b0 : (((rd_T100 x3_1 (ji4)).f0) == (rd l0 x4_1)) = true := beq_iff_eq.mpr c8
                  have c8b1 : (((rd_T100 x3_1 (ji4)).f0) != (rd l0 x4_1)) = false := bne_eq_false_iff_eq.mpr c8
                  clear c8
                  obtain ⟨y132, hy132⟩ : ∃ y_ : List (S100), y_ = (x3_1.set ((ji4) : Int).toNat (⟨(rd_T100 x3_1 (ji4)).f0, wrap64 (((rd_T100 x3_1 (ji4)).f1) + 1)⟩ : S100)) := ⟨_, rfl⟩
                  replace H : (bureauref03_Pack.l0 k1 l0 y132 (wrap64 (x4_1 + 1))) = some r := by first | (rw [hy132]; with_reducible exact H) | (have H2_ := (Option.bind_some _ _).symm.trans H; rw [hy132]; with_reducible exact H2_) | (have H2_ := (Option.bind_some _ _).symm.trans H; with_reducible exact H2_) | with_reducible exact H | (rw [hy132]; exact H) | exact H
                  have Ny132 := Aside0.mk hy132
                  clear hy132
                  have H' := Aside0.mk H
                  clear H
                  obtain ⟨Ao10, co10, eo10⟩ := Kd.R_slice HO_3.out
                  subst eo10
                  have p129 : 0 ≤ ((ji4) : Int) := of_decide_eq_true (by first | (with_reducible assumption) | assumption)
                  have q129 : (ji4) < (x3_1.length : Int) := of_decide_eq_true (by first | (with_reducible assumption) | assumption)
                  obtain ⟨ad129, e129, hx129_0, hx129_1⟩ := at_T100 (Kd.R_reads' HO_3.out).2.2 (ji4) p129 q129
                  cases e129
                  replace p129 := eq_true p129
                  replace q129 := eq_true q129
                  have p130 : 0 ≤ (x4_1 : Int) := of_decide_eq_true (by first | (with_reducible assumption) | assumption)
                  have q130 : x4_1 < (l0.length : Int) := of_decide_eq_true (by first | (with_reducible assumption) | assumption)
                  obtain ⟨ad130, e130, hx130_0⟩ := Kd.at_int HR0.out x4_1 p130 q130
                  cases e130
                  replace hx130_0 := (HB.out.cell (World.block_lt_of_cell? w _ hx130_0)).trans hx130_0
                  replace p130 := eq_true p130
                  replace q130 := eq_true q130
                  have p131 : 0 ≤ ((ji4) : Int) := of_decide_eq_true (by first | (with_reducible assumption) | assumption)
                  have q131 : (ji4) < (x3_1.length : Int) := of_decide_eq_true (by first | (with_reducible assumption) | assumption)
                  obtain ⟨ad131, e131, hx131_0, hx131_1⟩ := at_T100 (Kd.R_reads' HO_3.out).2.2 (ji4) p131 q131
                  obtain rfl : ad129 = ad131 := (by injection e131)
                  replace p131 := eq_true p131
                  replace q131 := eq_true q131
                  have p9 : 0 ≤ ((ji4) : Int) := of_decide_eq_true (by first | (with_reducible assumption) | assumption)
                  have q9 : ((ji4) : Int) < ((x3_1.length : Int) : Int) := of_decide_eq_true (by first | (with_reducible assumption) | assumption)
                  obtain ⟨go9, co9, eo9, gb9, gl9, cl9, HG9⟩ := Kd.R_form HO_3.out (by omega)
                  (first | cases eo9 | (injection eo9 with ea_ en_ ec_; (first | subst ea_ | (injection ea_ with ea_; subst ea_)); subst ec_; clear en_))
                  have GB9 := Aside0.mk gb9
                  have GG9 := Aside0.mk HG9
                  clear gb9 gl9 HG9
                  (first | simp only [add_plain] at hx129_0 | skip)
                  (first | simp only [add_plain] at hx129_1 | skip)
                  (first | simp only [add_plain] at hx131_0 | skip)
                  (first | simp only [add_plain] at hx131_1 | skip)
                  obtain ⟨ce9, hcl9, hM9, hcc9, hfr9⟩ := Kd.R_elem HO_3.out z100 ((ji4) : Int) p9 q9
                  obtain rfl := k100_openM hM9
                  have hx9_0 : wr.cell? ⟨go9, ((ji4) : Int).toNat * 2, none⟩ = some (.int .u64 ((rd_T100 x3_1 (ji4)).f0)) := hcc9 0 _ rfl
                  have hx9_1 : wr.cell? ⟨go9, ((ji4) : Int).toNat * 2 + 1, none⟩ = some (.int .i64 ((rd_T100 x3_1 (ji4)).f1)) := hcc9 1 _ rfl
                  have hf9_0 : wr.frozen? ⟨go9, ((ji4) : Int).toNat * 2, none⟩ = false := hfr9 0
                  have hf9_1 : wr.frozen? ⟨go9, ((ji4) : Int).toNat * 2 + 1, none⟩ = false := hfr9 1
                  clear hcl9 hcc9 hfr9 hM9
                  replace p9 := eq_true p9
                  replace q9 := eq_true q9
                  have HX11 := Aside0.mk (show Kd.R k100 100 wr w.heap.size (fun _ => True) (.slice (some ⟨go9, 0, none⟩) x3_1.length co10) x3_1 from (by (with_reducible repeat (first | apply Kd.R_alloc | apply Kd.R_drewN | apply Kd.R_drew)); exact HO_3.out))
                  obtain ⟨ce11, hcl11, hM11, hcc11, hfr11⟩ := Kd.R_elem HX11.out z100 ((ji4) : Int) (of_decide_eq_true (by first | (with_reducible assumption) | assumption)) (by have h_ : ((ji4) : Int) < ((x3_1.length : Int) : Int) := of_decide_eq_true (by first | (with_reducible assumption) | assumption); first | exact h_ | (have e_ := (Kd.R_reads' HO_3.out).1; omega) | simpa using h_)
                  obtain rfl := k100_openM hM11
                  have HP11 := Kd.R_seg HX11.out ((ji4) : Int) (of_decide_eq_true (by first | (with_reducible assumption) | assumption)) (by have h_ : ((ji4) : Int) < ((x3_1.length : Int) : Int) := of_decide_eq_true (by first | (with_reducible assumption) | assumption); first | exact h_ | (have e_ := (Kd.R_reads' HO_3.out).1; omega) | simpa using h_) (seg := [.int .i64 (wrap64 (((rd_T100 x3_1 (ji4)).f1) + 1))]) (j := 1) hcl11 hcc11 (show 2 ≤ 2 from by decide) (x' := (⟨(rd_T100 x3_1 (ji4)).f0, wrap64 (((rd_T100 x3_1 (ji4)).f1) + 1)⟩ : S100)) (k100_mkM _ _ _ (⟨(rd_T100 x3_1 (ji4)).f0, wrap64 (((rd_T100 x3_1 (ji4)).f1) + 1)⟩ : S100) ) (fun _ hk => hk)
                  have hx11_1 := hcc11 1 _ rfl
                  (try simp only [show (k100).sz = 2 from rfl, Nat.mul_one, Nat.add_zero] at hx11_1)
                  have hf11_1 := hfr11 1
                  (try simp only [show (k100).sz = 2 from rfl, Nat.mul_one, Nat.add_zero] at hf11_1)
                  clear hcl11 hcc11 hfr11 hM11
                  go_wp2_with (first | ((with_reducible refine gate_store (t := 3) (p := 37) rfl ?_); (try (rw [drewN_self wr]; generalize hq_ : World.drewN wr _ = wr; have n0_ := Aside0.mk (Kd.R_at hq_ HO_3.out); have n1_ := Aside0.mk (below_at hq_ HB.out); clear hq_ HO_3 HB; have HO_3 := n0_; have HB := n1_; clear n0_ n1_; (try (have HX11 := Aside0.mk (show Kd.R k100 100 wr w.heap.size (fun _ => True) (.slice (some ⟨go9, 0, none⟩) x3_1.length co10) x3_1 from (by (with_reducible repeat (first | apply Kd.R_alloc | apply Kd.R_drewN | apply Kd.R_drew)); exact HO_3.out)))); (try (obtain ⟨ce11, hcl11, hM11, hcc11, hfr11⟩ := Kd.R_elem HX11.out z100 ((ji4) : Int) (of_decide_eq_true (by first | (with_reducible assumption) | assumption)) (by have h_ : ((ji4) : Int) < ((x3_1.length : Int) : Int) := of_decide_eq_true (by first | (with_reducible assumption) | assumption); first | exact h_ | (have e_ := (Kd.R_reads' HO_3.out).1; omega) | simpa using h_))); (try (obtain rfl := k100_openM hM11)); (try (have HP11 := Kd.R_seg HX11.out ((ji4) : Int) (of_decide_eq_true (by first | (with_reducible assumption) | assumption)) (by have h_ : ((ji4) : Int) < ((x3_1.length : Int) : Int) := of_decide_eq_true (by first | (with_reducible assumption) | assumption); first | exact h_ | (have e_ := (Kd.R_reads' HO_3.out).1; omega) | simpa using h_) (seg := [.int .i64 (wrap64 (((rd_T100 x3_1 (ji4)).f1) + 1))]) (j := 1) hcl11 hcc11 (show 2 ≤ 2 from by decide) (x' := (⟨(rd_T100 x3_1 (ji4)).f0, wrap64 (((rd_T100 x3_1 (ji4)).f1) + 1)⟩ : S100)) (k100_mkM _ _ _ (⟨(rd_T100 x3_1 (ji4)).f0, wrap64 (((rd_T100 x3_1 (ji4)).f1) + 1)⟩ : S100) ) (fun _ hk => hk))); (try (have hx11_1 := hcc11 1 _ rfl)); (try (try simp only [show (k100).sz = 2 from rfl, Nat.mul_one, Nat.add_zero] at hx11_1)); (try (have hf11_1 := hfr11 1)); (try (try simp only [show (k100).sz = 2 from rfl, Nat.mul_one, Nat.add_zero] at hf11_1)); (try (clear hcl11 hcc11 hfr11 hM11)))); refine store_event (t := 3) (p := 37) (v := ?vo_w12) (w1 := (wr.setCell ⟨go9, ((ji4) : Int).toNat * 2 + 1, none⟩ (.int .i64 (wrap64 (((rd_T100 x3_1 (ji4)).f1) + 1))))) ?hg ?ho ?hn ?hr ?_; (case ho => rfl); (case hg => rfl); (case hn => rfl); (case hr => first | (go_simp; done) | (go_simp; rfl)); intro w12 hw; have hg : wr.grownBy w12 (some go9) := (by rw [hw]; exact HP11.2); have hp_ : Kd.R k100 100 w12 w.heap.size (fun _ => True) (.slice (some ⟨go9, 0, none⟩) x3_1.length co10) y132 := (by rw [hw, Ny132.out]; exact HP11.1); clear HP11; have n0_ := Aside0.mk (hp_); have n1_ := Aside0.mk ((by rw [hw]; exact below_set (HB.out) GB9.out : Below w.heap.size w w12)); clear HO_3; clear HB; have HO_3 := n0_; have HB := n1_; clear n0_ n1_; clear hg hw hp_))
                  repeat (go_quiet (first | ((with_reducible refine gate_store (t := 3) (p := 37) rfl ?_); (try (rw [drewN_self wr]; generalize hq_ : World.drewN wr _ = wr; have n0_ := Aside0.mk (Kd.R_at hq_ HO_3.out); have n1_ := Aside0.mk (below_at hq_ HB.out); clear hq_ HO_3 HB; have HO_3 := n0_; have HB := n1_; clear n0_ n1_; (try (have HX11 := Aside0.mk (show Kd.R k100 100 wr w.heap.size (fun _ => True) (.slice (some ⟨go9, 0, none⟩) x3_1.length co10) x3_1 from (by (with_reducible repeat (first | apply Kd.R_alloc | apply Kd.R_drewN | apply Kd.R_drew)); exact HO_3.out)))); (try (obtain ⟨ce11, hcl11, hM11, hcc11, hfr11⟩ := Kd.R_elem HX11.out z100 ((ji4) : Int) (of_decide_eq_true (by first | (with_reducible assumption) | assumption)) (by have h_ : ((ji4) : Int) < ((x3_1.length : Int) : Int) := of_decide_eq_true (by first | (with_reducible assumption) | assumption); first | exact h_ | (have e_ := (Kd.R_reads' HO_3.out).1; omega) | simpa using h_))); (try (obtain rfl := k100_openM hM11)); (try (have HP11 := Kd.R_seg HX11.out ((ji4) : Int) (of_decide_eq_true (by first | (with_reducible assumption) | assumption)) (by have h_ : ((ji4) : Int) < ((x3_1.length : Int) : Int) := of_decide_eq_true (by first | (with_reducible assumption) | assumption); first | exact h_ | (have e_ := (Kd.R_reads' HO_3.out).1; omega) | simpa using h_) (seg := [.int .i64 (wrap64 (((rd_T100 x3_1 (ji4)).f1) + 1))]) (j := 1) hcl11 hcc11 (show 2 ≤ 2 from by decide) (x' := (⟨(rd_T100 x3_1 (ji4)).f0, wrap64 (((rd_T100 x3_1 (ji4)).f1) + 1)⟩ : S100)) (k100_mkM _ _ _ (⟨(rd_T100 x3_1 (ji4)).f0, wrap64 (((rd_T100 x3_1 (ji4)).f1) + 1)⟩ : S100) ) (fun _ hk => hk))); (try (have hx11_1 := hcc11 1 _ rfl)); (try (try simp only [show (k100).sz = 2 from rfl, Nat.mul_one, Nat.add_zero] at hx11_1)); (try (have hf11_1 := hfr11 1)); (try (try simp only [show (k100).sz = 2 from rfl, Nat.mul_one, Nat.add_zero] at hf11_1)); (try (clear hcl11 hcc11 hfr11 hM11)))); refine store_event (t := 3) (p := 37) (v := ?vo_w12) (w1 := (wr.setCell ⟨go9, ((ji4) : Int).toNat * 2 + 1, none⟩ (.int .i64 (wrap64 (((rd_T100 x3_1 (ji4)).f1) + 1))))) ?hg ?ho ?hn ?hr ?_; (case ho => rfl); (case hg => rfl); (case hn => rfl); (case hr => first | (go_simp; done) | (go_simp; rfl)); intro w12 hw; have hg : wr.grownBy w12 (some go9) := (by rw [hw]; exact HP11.2); have hp_ : Kd.R k100 100 w12 w.heap.size (fun _ => True) (.slice (some ⟨go9, 0, none⟩) x3_1.length co10) y132 := (by rw [hw, Ny132.out]; exact HP11.1); clear HP11; have n0_ := Aside0.mk (hp_); have n1_ := Aside0.mk ((by rw [hw]; exact below_set (HB.out) GB9.out : Below w.heap.size w w12)); clear HO_3; clear HB; have HO_3 := n0_; have HB := n1_; clear n0_ n1_; clear hg hw hp_)); try go_wp2_with (first | ((with_reducible refine gate_store (t := 3) (p := 37) rfl ?_); (try (rw [drewN_self wr]; generalize hq_ : World.drewN wr _ = wr; have n0_ := Aside0.mk (Kd.R_at hq_ HO_3.out); have n1_ := Aside0.mk (below_at hq_ HB.out); clear hq_ HO_3 HB; have HO_3 := n0_; have HB := n1_; clear n0_ n1_; (try (have HX11 := Aside0.mk (show Kd.R k100 100 wr w.heap.size (fun _ => True) (.slice (some ⟨go9, 0, none⟩) x3_1.length co10) x3_1 from (by (with_reducible repeat (first | apply Kd.R_alloc | apply Kd.R_drewN | apply Kd.R_drew)); exact HO_3.out)))); (try (obtain ⟨ce11, hcl11, hM11, hcc11, hfr11⟩ := Kd.R_elem HX11.out z100 ((ji4) : Int) (of_decide_eq_true (by first | (with_reducible assumption) | assumption)) (by have h_ : ((ji4) : Int) < ((x3_1.length : Int) : Int) := of_decide_eq_true (by first | (with_reducible assumption) | assumption); first | exact h_ | (have e_ := (Kd.R_reads' HO_3.out).1; omega) | simpa using h_))); (try (obtain rfl := k100_openM hM11)); (try (have HP11 := Kd.R_seg HX11.out ((ji4) : Int) (of_decide_eq_true (by first | (with_reducible assumption) | assumption)) (by have h_ : ((ji4) : Int) < ((x3_1.length : Int) : Int) := of_decide_eq_true (by first | (with_reducible assumption) | assumption); first | exact h_ | (have e_ := (Kd.R_reads' HO_3.out).1; omega) | simpa using h_) (seg := [.int .i64 (wrap64 (((rd_T100 x3_1 (ji4)).f1) + 1))]) (j := 1) hcl11 hcc11 (show 2 ≤ 2 from by decide) (x' := (⟨(rd_T100 x3_1 (ji4)).f0, wrap64 (((rd_T100 x3_1 (ji4)).f1) + 1)⟩ : S100)) (k100_mkM _ _ _ (⟨(rd_T100 x3_1 (ji4)).f0, wrap64 (((rd_T100 x3_1 (ji4)).f1) + 1)⟩ : S100) ) (fun _ hk => hk))); (try (have hx11_1 := hcc11 1 _ rfl)); (try (try simp only [show (k100).sz = 2 from rfl, Nat.mul_one, Nat.add_zero] at hx11_1)); (try (have hf11_1 := hfr11 1)); (try (try simp only [show (k100).sz = 2 from rfl, Nat.mul_one, Nat.add_zero] at hf11_1)); (try (clear hcl11 hcc11 hfr11 hM11)))); refine store_event (t := 3) (p := 37) (v := ?vo_w12) (w1 := (wr.setCell ⟨go9, ((ji4) : Int).toNat * 2 + 1, none⟩ (.int .i64 (wrap64 (((rd_T100 x3_1 (ji4)).f1) + 1))))) ?hg ?ho ?hn ?hr ?_; (case ho => rfl); (case hg => rfl); (case hn => rfl); (case hr => first | (go_simp; done) | (go_simp; rfl)); intro w12 hw; have hg : wr.grownBy w12 (some go9) := (by rw [hw]; exact HP11.2); have hp_ : Kd.R k100 100 w12 w.heap.size (fun _ => True) (.slice (some ⟨go9, 0, none⟩) x3_1.length co10) y132 := (by rw [hw, Ny132.out]; exact HP11.1); clear HP11; have n0_ := Aside0.mk (hp_); have n1_ := Aside0.mk ((by rw [hw]; exact below_set (HB.out) GB9.out : Below w.heap.size w w12)); clear HO_3; clear HB; have HO_3 := n0_; have HB := n1_; clear n0_ n1_; clear hg hw hp_)))
                  go_roundg k1
                  case measure => have := HK1.out; omega
                  case rel => exact ⟨(y132), (wrap64 (x4_1 + 1)), (by first | rfl | (simp; done) | (simp [*]; done)), H', ⟨by have := HK1.out; omega⟩, ⟨by (with_reducible repeat (first | apply Kd.R_alloc | apply Kd.R_drewN | apply Kd.R_drew)); exact HO_3.out⟩, ⟨by repeat (first | (with_reducible first | exact HB.out | apply below_alloc | apply pw_below_drewN | apply below_drew1) | exact HB.out)⟩⟩
                · rw [if_neg c8] at H
                  have c8b0 : (((rd_T100 x3_1 (ji4)).f0) == (rd l0 x4_1)) = false := beq_eq_false_iff_ne.mpr c8
                  have c8b1 : (((rd_T100 x3_1 (ji4)).f0) != (rd l0 x4_1)) = true := bne_iff_ne.mpr c8
                  by_cases c13 : x3_1.length < 8796093022208
                  · rw [if_pos c13] at H
                    have LMc13 := Aside0.mk c13
                    clear c13
                    obtain ⟨y134, hy134⟩ : ∃ y_ : List (S100), y_ = (x3_1 ++ [(⟨rd l0 x4_1, 1⟩ : S100)]) := ⟨_, rfl⟩
                    replace H : (bureauref03_Pack.l0 k1 l0 y134 (wrap64 (x4_1 + 1))) = some r := by first | (rw [hy134]; with_reducible exact H) | (have H2_ := (Option.bind_some _ _).symm.trans H; rw [hy134]; with_reducible exact H2_) | (have H2_ := (Option.bind_some _ _).symm.trans H; with_reducible exact H2_) | with_reducible exact H | (rw [hy134]; exact H) | exact H
                    have Ny134 := Aside0.mk hy134
                    clear hy134
                    have H' := Aside0.mk H
                    clear H
                    obtain ⟨Ao14, co14, eo14⟩ := Kd.R_slice HO_3.out
                    subst eo14
                    have p129 : 0 ≤ ((ji4) : Int) := of_decide_eq_true (by first | (with_reducible assumption) | assumption)
                    have q129 : (ji4) < (x3_1.length : Int) := of_decide_eq_true (by first | (with_reducible assumption) | assumption)
                    obtain ⟨ad129, e129, hx129_0, hx129_1⟩ := at_T100 (Kd.R_reads' HO_3.out).2.2 (ji4) p129 q129
                    cases e129
                    replace p129 := eq_true p129
                    replace q129 := eq_true q129
                    have p130 : 0 ≤ (x4_1 : Int) := of_decide_eq_true (by first | (with_reducible assumption) | assumption)
                    have q130 : x4_1 < (l0.length : Int) := of_decide_eq_true (by first | (with_reducible assumption) | assumption)
                    obtain ⟨ad130, e130, hx130_0⟩ := Kd.at_int HR0.out x4_1 p130 q130
                    cases e130
                    replace hx130_0 := (HB.out.cell (World.block_lt_of_cell? w _ hx130_0)).trans hx130_0
                    replace p130 := eq_true p130
                    replace q130 := eq_true q130
                    have p133 : 0 ≤ (x4_1 : Int) := of_decide_eq_true (by first | (with_reducible assumption) | assumption)
                    have q133 : x4_1 < (l0.length : Int) := of_decide_eq_true (by first | (with_reducible assumption) | assumption)
                    obtain ⟨ad133, e133, hx133_0⟩ := Kd.at_int HR0.out x4_1 p133 q133
                    obtain rfl : ad130 = ad133 := (by injection e133)
                    replace hx133_0 := (HB.out.cell (World.block_lt_of_cell? w _ hx133_0)).trans hx133_0
                    replace p133 := eq_true p133
                    replace q133 := eq_true q133
                    go_wp2_with (first | ((with_reducible refine gate_builtin (b := .append) (xs := #[.tmp 38, .tmp 44]) rfl ?_); at_builtin; refine Kd.R_append k100 (w0 := w) w.heap.size rfl (.tmp 38) (.tmp 44) 22 100 (.agg #[(.int .u64 0), (.int .i64 0)]) 16 rfl Try.underlying22 info100 rfl (by decide) (by omega) (.slice (some ad129) x3_1.length co14) x3_1 (⟨rd l0 x4_1, 1⟩ : S100) [.int .u64 (rd l0 x4_1), .int .i64 1] (fun _ => True) (fun _ => False) rfl rfl ?aP (fun _ hk => hk.elim) ?aF ?aO ?aB ?aS ?aL ?_; (case aP => exact k100_mkM _ _ _ (⟨rd l0 x4_1, 1⟩ : S100)); (case aB => exact (by repeat (first | (with_reducible first | exact HB.out | apply below_alloc | apply pw_below_drewN | apply below_drew1) | exact HB.out))); (case aF => exact (fun _ _ => trivial)); (case aO => exact (by (with_reducible repeat (first | apply Kd.R_alloc | apply Kd.R_drewN | apply Kd.R_drew)); exact HO_3.out)); (case aS => exact (below_size (by repeat (first | (with_reducible first | exact HB.out | apply below_alloc | apply pw_below_drewN | apply below_drew1) | exact HB.out)))); (case aL => have := LMc13.out; omega); intro v135 w15 ho hb hg hat; rw [← Ny134.out] at ho; have n0_ := Aside0.mk (hb); have n1_ := Aside0.mk (ho); clear HB; clear HO_3; have HB := n0_; have HO136 := n1_; clear n0_ n1_; clear ho hb hg hat))
                    repeat (go_quiet (first | ((with_reducible refine gate_builtin (b := .append) (xs := #[.tmp 38, .tmp 44]) rfl ?_); at_builtin; refine Kd.R_append k100 (w0 := w) w.heap.size rfl (.tmp 38) (.tmp 44) 22 100 (.agg #[(.int .u64 0), (.int .i64 0)]) 16 rfl Try.underlying22 info100 rfl (by decide) (by omega) (.slice (some ad129) x3_1.length co14) x3_1 (⟨rd l0 x4_1, 1⟩ : S100) [.int .u64 (rd l0 x4_1), .int .i64 1] (fun _ => True) (fun _ => False) rfl rfl ?aP (fun _ hk => hk.elim) ?aF ?aO ?aB ?aS ?aL ?_; (case aP => exact k100_mkM _ _ _ (⟨rd l0 x4_1, 1⟩ : S100)); (case aB => exact (by repeat (first | (with_reducible first | exact HB.out | apply below_alloc | apply pw_below_drewN | apply below_drew1) | exact HB.out))); (case aF => exact (fun _ _ => trivial)); (case aO => exact (by (with_reducible repeat (first | apply Kd.R_alloc | apply Kd.R_drewN | apply Kd.R_drew)); exact HO_3.out)); (case aS => exact (below_size (by repeat (first | (with_reducible first | exact HB.out | apply below_alloc | apply pw_below_drewN | apply below_drew1) | exact HB.out)))); (case aL => have := LMc13.out; omega); intro v135 w15 ho hb hg hat; rw [← Ny134.out] at ho; have n0_ := Aside0.mk (hb); have n1_ := Aside0.mk (ho); clear HB; clear HO_3; have HB := n0_; have HO136 := n1_; clear n0_ n1_; clear ho hb hg hat)); try go_wp2_with (first | ((with_reducible refine gate_builtin (b := .append) (xs := #[.tmp 38, .tmp 44]) rfl ?_); at_builtin; refine Kd.R_append k100 (w0 := w) w.heap.size rfl (.tmp 38) (.tmp 44) 22 100 (.agg #[(.int .u64 0), (.int .i64 0)]) 16 rfl Try.underlying22 info100 rfl (by decide) (by omega) (.slice (some ad129) x3_1.length co14) x3_1 (⟨rd l0 x4_1, 1⟩ : S100) [.int .u64 (rd l0 x4_1), .int .i64 1] (fun _ => True) (fun _ => False) rfl rfl ?aP (fun _ hk => hk.elim) ?aF ?aO ?aB ?aS ?aL ?_; (case aP => exact k100_mkM _ _ _ (⟨rd l0 x4_1, 1⟩ : S100)); (case aB => exact (by repeat (first | (with_reducible first | exact HB.out | apply below_alloc | apply pw_below_drewN | apply below_drew1) | exact HB.out))); (case aF => exact (fun _ _ => trivial)); (case aO => exact (by (with_reducible repeat (first | apply Kd.R_alloc | apply Kd.R_drewN | apply Kd.R_drew)); exact HO_3.out)); (case aS => exact (below_size (by repeat (first | (with_reducible first | exact HB.out | apply below_alloc | apply pw_below_drewN | apply below_drew1) | exact HB.out)))); (case aL => have := LMc13.out; omega); intro v135 w15 ho hb hg hat; rw [← Ny134.out] at ho; have n0_ := Aside0.mk (hb); have n1_ := Aside0.mk (ho); clear HB; clear HO_3; have HB := n0_; have HO136 := n1_; clear n0_ n1_; clear ho hb hg hat)))
                    go_roundg k1
                    case measure => have := HK1.out; omega
                    case rel => exact ⟨(y134), (wrap64 (x4_1 + 1)), (by first | rfl | (simp; done) | (simp [*]; done)), H', ⟨by have := HK1.out; omega⟩, ⟨by (with_reducible repeat (first | apply Kd.R_alloc | apply Kd.R_drewN | apply Kd.R_drew)); exact HO136.out⟩, ⟨by repeat (first | (with_reducible first | exact HB.out | apply below_alloc | apply pw_below_drewN | apply below_drew1) | exact HB.out)⟩⟩
                  · rw [if_neg c13] at H
                    exact absurd H (by simp)
              · rw [if_neg c7] at H
                exact absurd H (by simp)
            · rw [if_neg c6] at H
              exact absurd H (by simp)
          · rw [if_neg c5] at H
            exact absurd H (by simp)
        · rw [if_neg c3] at H
          have c3b0 : decide (0 < (x3_1.length : Int)) = false := decide_eq_false c3
          have c3b1 : decide (0 < x3_1.length) = false := decide_eq_false (by omega)
          clear c3
          by_cases c16 : 0 ≤ x4_1
          · rw [if_pos c16] at H
            have c16b0 : decide (0 ≤ x4_1) = true := decide_eq_true c16
            clear c16
            by_cases c17 : x3_1.length < 8796093022208
            · rw [if_pos c17] at H
              have LMc17 := Aside0.mk c17
              clear c17
              obtain ⟨y138, hy138⟩ : ∃ y_ : List (S100), y_ = (x3_1 ++ [(⟨rd l0 x4_1, 1⟩ : S100)]) := ⟨_, rfl⟩
              replace H : (bureauref03_Pack.l0 k1 l0 y138 (wrap64 (x4_1 + 1))) = some r := by first | (rw [hy138]; with_reducible exact H) | (have H2_ := (Option.bind_some _ _).symm.trans H; rw [hy138]; with_reducible exact H2_) | (have H2_ := (Option.bind_some _ _).symm.trans H; with_reducible exact H2_) | with_reducible exact H | (rw [hy138]; exact H) | exact H
              have Ny138 := Aside0.mk hy138
              clear hy138
              have H' := Aside0.mk H
              clear H
              obtain ⟨Ao18, co18, eo18⟩ := Kd.R_slice HO_3.out
              subst eo18
              have p137 : 0 ≤ (x4_1 : Int) := of_decide_eq_true (by first | (with_reducible assumption) | assumption)
              have q137 : x4_1 < (l0.length : Int) := of_decide_eq_true (by first | (with_reducible assumption) | assumption)
              obtain ⟨ad137, e137, hx137_0⟩ := Kd.at_int HR0.out x4_1 p137 q137
              cases e137
              replace hx137_0 := (HB.out.cell (World.block_lt_of_cell? w _ hx137_0)).trans hx137_0
              replace p137 := eq_true p137
              replace q137 := eq_true q137
              go_wp2_with (first | ((with_reducible refine gate_builtin (b := .append) (xs := #[.tmp 38, .tmp 44]) rfl ?_); at_builtin; refine Kd.R_append k100 (w0 := w) w.heap.size rfl (.tmp 38) (.tmp 44) 22 100 (.agg #[(.int .u64 0), (.int .i64 0)]) 16 rfl Try.underlying22 info100 rfl (by decide) (by omega) (.slice Ao18 x3_1.length co18) x3_1 (⟨rd l0 x4_1, 1⟩ : S100) [.int .u64 (rd l0 x4_1), .int .i64 1] (fun _ => True) (fun _ => False) rfl rfl ?aP (fun _ hk => hk.elim) ?aF ?aO ?aB ?aS ?aL ?_; (case aP => exact k100_mkM _ _ _ (⟨rd l0 x4_1, 1⟩ : S100)); (case aB => exact (by repeat (first | (with_reducible first | exact HB.out | apply below_alloc | apply pw_below_drewN | apply below_drew1) | exact HB.out))); (case aF => exact (fun _ _ => trivial)); (case aO => exact (by (with_reducible repeat (first | apply Kd.R_alloc | apply Kd.R_drewN | apply Kd.R_drew)); exact HO_3.out)); (case aS => exact (below_size (by repeat (first | (with_reducible first | exact HB.out | apply below_alloc | apply pw_below_drewN | apply below_drew1) | exact HB.out)))); (case aL => have := LMc17.out; omega); intro v139 w19 ho hb hg hat; rw [← Ny138.out] at ho; have n0_ := Aside0.mk (hb); have n1_ := Aside0.mk (ho); clear HB; clear HO_3; have HB := n0_; have HO140 := n1_; clear n0_ n1_; clear ho hb hg hat))
              repeat (go_quiet (first | ((with_reducible refine gate_builtin (b := .append) (xs := #[.tmp 38, .tmp 44]) rfl ?_); at_builtin; refine Kd.R_append k100 (w0 := w) w.heap.size rfl (.tmp 38) (.tmp 44) 22 100 (.agg #[(.int .u64 0), (.int .i64 0)]) 16 rfl Try.underlying22 info100 rfl (by decide) (by omega) (.slice Ao18 x3_1.length co18) x3_1 (⟨rd l0 x4_1, 1⟩ : S100) [.int .u64 (rd l0 x4_1), .int .i64 1] (fun _ => True) (fun _ => False) rfl rfl ?aP (fun _ hk => hk.elim) ?aF ?aO ?aB ?aS ?aL ?_; (case aP => exact k100_mkM _ _ _ (⟨rd l0 x4_1, 1⟩ : S100)); (case aB => exact (by repeat (first | (with_reducible first | exact HB.out | apply below_alloc | apply pw_below_drewN | apply below_drew1) | exact HB.out))); (case aF => exact (fun _ _ => trivial)); (case aO => exact (by (with_reducible repeat (first | apply Kd.R_alloc | apply Kd.R_drewN | apply Kd.R_drew)); exact HO_3.out)); (case aS => exact (below_size (by repeat (first | (with_reducible first | exact HB.out | apply below_alloc | apply pw_below_drewN | apply below_drew1) | exact HB.out)))); (case aL => have := LMc17.out; omega); intro v139 w19 ho hb hg hat; rw [← Ny138.out] at ho; have n0_ := Aside0.mk (hb); have n1_ := Aside0.mk (ho); clear HB; clear HO_3; have HB := n0_; have HO140 := n1_; clear n0_ n1_; clear ho hb hg hat)); try go_wp2_with (first | ((with_reducible refine gate_builtin (b := .append) (xs := #[.tmp 38, .tmp 44]) rfl ?_); at_builtin; refine Kd.R_append k100 (w0 := w) w.heap.size rfl (.tmp 38) (.tmp 44) 22 100 (.agg #[(.int .u64 0), (.int .i64 0)]) 16 rfl Try.underlying22 info100 rfl (by decide) (by omega) (.slice Ao18 x3_1.length co18) x3_1 (⟨rd l0 x4_1, 1⟩ : S100) [.int .u64 (rd l0 x4_1), .int .i64 1] (fun _ => True) (fun _ => False) rfl rfl ?aP (fun _ hk => hk.elim) ?aF ?aO ?aB ?aS ?aL ?_; (case aP => exact k100_mkM _ _ _ (⟨rd l0 x4_1, 1⟩ : S100)); (case aB => exact (by repeat (first | (with_reducible first | exact HB.out | apply below_alloc | apply pw_below_drewN | apply below_drew1) | exact HB.out))); (case aF => exact (fun _ _ => trivial)); (case aO => exact (by (with_reducible repeat (first | apply Kd.R_alloc | apply Kd.R_drewN | apply Kd.R_drew)); exact HO_3.out)); (case aS => exact (below_size (by repeat (first | (with_reducible first | exact HB.out | apply below_alloc | apply pw_below_drewN | apply below_drew1) | exact HB.out)))); (case aL => have := LMc17.out; omega); intro v139 w19 ho hb hg hat; rw [← Ny138.out] at ho; have n0_ := Aside0.mk (hb); have n1_ := Aside0.mk (ho); clear HB; clear HO_3; have HB := n0_; have HO140 := n1_; clear n0_ n1_; clear ho hb hg hat)))
              go_roundg k1
              case measure => have := HK1.out; omega
              case rel => exact ⟨(y138), (wrap64 (x4_1 + 1)), (by first | rfl | (simp; done) | (simp [*]; done)), H', ⟨by have := HK1.out; omega⟩, ⟨by (with_reducible repeat (first | apply Kd.R_alloc | apply Kd.R_drewN | apply Kd.R_drew)); exact HO140.out⟩, ⟨by repeat (first | (with_reducible first | exact HB.out | apply below_alloc | apply pw_below_drewN | apply below_drew1) | exact HB.out)⟩⟩
            · rw [if_neg c17] at H
              exact absurd H (by simp)
          · rw [if_neg c16] at H
            exact absurd H (by simp)
      · rw [if_neg c2] at H
        have c2b0 : decide (x4_1 < (l0.length : Int)) = false := decide_eq_false c2
        clear c2
        obtain rfl := Option.some.inj H
        go_wp2
        repeat (go_quiet (fail); try go_wp2)
        go_ret
        exact ⟨_, by first | rfl | (simp [errW_none, errW_some] <;> rfl) | (simp [*, errW_none, errW_some] <;> rfl), by (with_reducible repeat (first | apply Kd.R_alloc | apply Kd.R_drewN | apply Kd.R_drew)); exact HO_3.out, by repeat (first | (with_reducible first | exact HB.out | apply below_alloc | apply pw_below_drewN | apply below_drew1) | exact HB.out)⟩
end Go.Proofs.Ythpjagblnddjaaa.PB
end

section
namespace Go.Proofs.Ythpjagblnddjaaa.PB
open Go.RowKit Go.Proofs.YthpjagblnddjaaaW.PrintWords Go.Proofs.YthpjagblnddjaaaW.PrintLast Go.Proofs.YthpjagblnddjaaaW.PrintMore
attribute [local go_sem] max2_int min2_int max_two min_two max_three min_three max_four min_four   
set_option linter.unusedVariables false
set_option linter.unusedSimpArgs false
mutual
def bureauref03_Bytes.l0 : Nat → List (S100) → List Int → Int → Option (List Int)
  | 0, _, _, _ => none
  | k + 1, x0, x3, x4 => if x4 < (x0.length : Int) then (bureauref03_Bytes.l1 k x0 x3 x4 0) else (some x3)
def bureauref03_Bytes.l1 : Nat → List (S100) → List Int → Int → Int → Option (List Int)
  | 0, _, _, _, _ => none
  | k + 1, x0, x3, x4, x5 => if 0 ≤ x4 then (if x4 < (x0.length : Int) then (if x5 < ((rd_T100 x0 x4).f1) then (if x3.length < 17592186044416 then (bureauref03_Bytes.l1 k x0 (x3 ++ [(rd_T100 x0 x4).f0]) x4 (wrap64 (x5 + 1))) else (none)) else (bureauref03_Bytes.l0 k x0 x3 (wrap64 (x4 + 1)))) else (none)) else (none)
end
def bureauref03_Bytes.f (k : Nat) (l0 : List (S100)) : Option (List Int) := bureauref03_Bytes.l0 k l0 ([] : List Int) 0
set_option maxHeartbeats 8000000 in
set_option maxRecDepth 100000 in
theorem bureauref03_Bytes.calls (k : Nat) (A0 : Option Addr) (c0 : Nat) (l0 : List (S100)) (r : List Int) (w : World) (hr0 : Kd.C k100 w A0 l0.length l0) (hc0 : l0.length ≤ c0) (h : bureauref03_Bytes.f k l0 = some r) :
    Calls Try.prog 84 #[.slice A0 l0.length c0] w fun e w' => ∃ v0_ : Value, e = .returned (v0_) ∧ Kd.R (Kd.int .u64) 36 w' w.heap.size (fun _ => True) v0_ r ∧ Below w.heap.size w w' := by
  have HR0 := Aside0.mk hr0
  have HC0 := Aside0.mk hc0
  clear hr0 hc0
  have HB := Aside0.mk (Below.refl w.heap.size w)
  have H : (bureauref03_Bytes.l0 k l0 ([] : List Int) 0) = some r := h
  clear h
  have H' := Aside0.mk H
  clear H
  go_enter Try.func84, Try.ntmps84
  go_wp2
  go_loopg [3, 4] k (fun kq v3 v4 w' => ∃ (x3_1 : List Int) (x4_1 : Int), v4 = .int .i64 x4_1 ∧ Aside0 (bureauref03_Bytes.l0 kq l0 x3_1 x4_1 = some r) ∧ Aside0 (kq ≤ k) ∧ Aside0 (Kd.R (Kd.int .u64) 36 w' w.heap.size (fun _ => True) v3 x3_1) ∧ Aside0 (Below w.heap.size w w'))
  case atStart => exact ⟨(([] : List Int)), (0), (by first | rfl | (simp; done) | (simp [*]; done)), H', ⟨Nat.le_refl _⟩, ⟨by first | exact Kd.R_nil _ _ _ _ _ | exact Kd.N_nil _ _ _ _ _ | exact Kd.V_nil _ _ _ _ _ | exact Kd.Q_nil _ _ _ _ _ | exact Kd.S_nil _ _ _ _ _⟩, ⟨by repeat (first | (with_reducible first | exact HB.out | apply below_alloc | apply pw_below_drewN | apply below_drew1) | exact HB.out)⟩⟩
  case round =>
    clear H'
    obtain ⟨x3_1, x4_1, rfl, HA, HK1, HO_3, HB⟩ := hrel
    cases gk with
    | zero => exact absurd HA.out (by simp [bureauref03_Bytes.l0])
    | succ k1 =>
      have H := HA.out
      clear HA
      simp only [bureauref03_Bytes.l0] at H
      by_cases c2 : x4_1 < (l0.length : Int)
      · rw [if_pos c2] at H
        have c2b0 : decide (x4_1 < (l0.length : Int)) = true := decide_eq_true c2
        clear c2
        have H' := Aside0.mk H
        clear H
        go_wp2
        go_loopg [3, 5] k1 (fun kq v3 v5 w' => ∃ (x3_2 : List Int) (x5_2 : Int), v5 = .int .i64 x5_2 ∧ Aside0 (bureauref03_Bytes.l1 kq l0 x3_2 x4_1 x5_2 = some r) ∧ Aside0 (kq ≤ k1) ∧ Aside0 (Kd.R (Kd.int .u64) 36 w' w.heap.size (fun _ => True) v3 x3_2) ∧ Aside0 (Below w.heap.size w w'))
        case atStart => exact ⟨(x3_1), (0), (by first | rfl | (simp; done) | (simp [*]; done)), H', ⟨Nat.le_refl _⟩, ⟨by (with_reducible repeat (first | apply Kd.R_alloc | apply Kd.R_drewN | apply Kd.R_drew)); exact HO_3.out⟩, ⟨by repeat (first | (with_reducible first | exact HB.out | apply below_alloc | apply pw_below_drewN | apply below_drew1) | exact HB.out)⟩⟩
        case round =>
          clear H'
          try clear c2
          try clear c2b0
          try clear p2
          obtain ⟨x3_2, x5_2, rfl, HA, HK2, HO_3, HB⟩ := hrel
          cases gk with
          | zero => exact absurd HA.out (by simp [bureauref03_Bytes.l1])
          | succ k2 =>
            have H := HA.out
            clear HA
            simp only [bureauref03_Bytes.l1] at H
            by_cases c3 : 0 ≤ x4_1
            · rw [if_pos c3] at H
              have c3b0 : decide (0 ≤ x4_1) = true := decide_eq_true c3
              clear c3
              by_cases c4 : x4_1 < (l0.length : Int)
              · rw [if_pos c4] at H
                have c4b0 : decide (x4_1 < (l0.length : Int)) = true := decide_eq_true c4
                clear c4
                by_cases c5 : x5_2 < ((rd_T100 l0 x4_1).f1)
                · rw [if_pos c5] at H
                  have c5b0 : decide (x5_2 < ((rd_T100 l0 x4_1).f1)) = true := decide_eq_true c5
                  clear c5
                  by_cases c6 : x3_2.length < 17592186044416
                  · rw [if_pos c6] at H
                    have LMc6 := Aside0.mk c6
                    clear c6
                    obtain ⟨y143, hy143⟩ : ∃ y_ : List Int, y_ = (x3_2 ++ [(rd_T100 l0 x4_1).f0]) := ⟨_, rfl⟩
                    replace H : (bureauref03_Bytes.l1 k2 l0 y143 x4_1 (wrap64 (x5_2 + 1))) = some r := by first | (rw [hy143]; with_reducible exact H) | (have H2_ := (Option.bind_some _ _).symm.trans H; rw [hy143]; with_reducible exact H2_) | (have H2_ := (Option.bind_some _ _).symm.trans H; with_reducible exact H2_) | with_reducible exact H | (rw [hy143]; exact H) | exact H
                    have Ny143 := Aside0.mk hy143
                    clear hy143
                    have H' := Aside0.mk H
                    clear H
                    have p141 : 0 ≤ (x4_1 : Int) := of_decide_eq_true (by first | (with_reducible assumption) | assumption)
                    have q141 : x4_1 < (l0.length : Int) := of_decide_eq_true (by first | (with_reducible assumption) | assumption)
                    obtain ⟨ad141, e141, hx141_0, hx141_1⟩ := at_T100 HR0.out x4_1 p141 q141
                    cases e141
                    replace hx141_0 := (HB.out.cell (World.block_lt_of_cell? w _ hx141_0)).trans hx141_0
                    replace hx141_1 := (HB.out.cell (World.block_lt_of_cell? w _ hx141_1)).trans hx141_1
                    replace p141 := eq_true p141
                    replace q141 := eq_true q141
                    have p142 : 0 ≤ (x4_1 : Int) := of_decide_eq_true (by first | (with_reducible assumption) | assumption)
                    have q142 : x4_1 < (l0.length : Int) := of_decide_eq_true (by first | (with_reducible assumption) | assumption)
                    obtain ⟨ad142, e142, hx142_0, hx142_1⟩ := at_T100 HR0.out x4_1 p142 q142
                    obtain rfl : ad141 = ad142 := (by injection e142)
                    replace hx142_0 := (HB.out.cell (World.block_lt_of_cell? w _ hx142_0)).trans hx142_0
                    replace hx142_1 := (HB.out.cell (World.block_lt_of_cell? w _ hx142_1)).trans hx142_1
                    replace p142 := eq_true p142
                    replace q142 := eq_true q142
                    go_wp2_with (first | ((with_reducible refine gate_builtin (b := .append) (xs := #[.tmp 21, .tmp 27]) rfl ?_); at_builtin; refine Kd.R_append (Kd.int .u64) (w0 := w) w.heap.size rfl (.tmp 21) (.tmp 27) 106 36 (.int .u64 0) 8 rfl Try.underlying106 info36 rfl (by decide) (by omega) u3 x3_2 ((rd_T100 l0 x4_1).f0) [.int .u64 ((rd_T100 l0 x4_1).f0)] (fun _ => True) (fun _ => False) rfl rfl ?aP (fun _ hk => hk.elim) ?aF ?aO ?aB ?aS ?aL ?_; (case aP => exact rfl); (case aB => exact (by repeat (first | (with_reducible first | exact HB.out | apply below_alloc | apply pw_below_drewN | apply below_drew1) | exact HB.out))); (case aF => exact (fun _ _ => trivial)); (case aO => exact (by (with_reducible repeat (first | apply Kd.R_alloc | apply Kd.R_drewN | apply Kd.R_drew)); exact HO_3.out)); (case aS => exact (below_size (by repeat (first | (with_reducible first | exact HB.out | apply below_alloc | apply pw_below_drewN | apply below_drew1) | exact HB.out)))); (case aL => have := LMc6.out; omega); intro v144 w7 ho hb hg hat; rw [← Ny143.out] at ho; have n0_ := Aside0.mk (hb); have n1_ := Aside0.mk (ho); clear HB; clear HO_3; have HB := n0_; have HO145 := n1_; clear n0_ n1_; clear ho hb hg hat))
                    go_roundg k2
                    case measure => have := HK1.out; have := HK2.out; omega
                    case rel => exact ⟨(y143), (wrap64 (x5_2 + 1)), (by first | rfl | (simp; done) | (simp [*]; done)), H', ⟨by have := HK1.out; have := HK2.out; omega⟩, ⟨by (with_reducible repeat (first | apply Kd.R_alloc | apply Kd.R_drewN | apply Kd.R_drew)); exact HO145.out⟩, ⟨by repeat (first | (with_reducible first | exact HB.out | apply below_alloc | apply pw_below_drewN | apply below_drew1) | exact HB.out)⟩⟩
                  · rw [if_neg c6] at H
                    exact absurd H (by simp)
                · rw [if_neg c5] at H
                  have c5b0 : decide (x5_2 < ((rd_T100 l0 x4_1).f1)) = false := decide_eq_false c5
                  clear c5
                  have H' := Aside0.mk H
                  clear H
                  have p141 : 0 ≤ (x4_1 : Int) := of_decide_eq_true (by first | (with_reducible assumption) | assumption)
                  have q141 : x4_1 < (l0.length : Int) := of_decide_eq_true (by first | (with_reducible assumption) | assumption)
                  obtain ⟨ad141, e141, hx141_0, hx141_1⟩ := at_T100 HR0.out x4_1 p141 q141
                  cases e141
                  replace hx141_0 := (HB.out.cell (World.block_lt_of_cell? w _ hx141_0)).trans hx141_0
                  replace hx141_1 := (HB.out.cell (World.block_lt_of_cell? w _ hx141_1)).trans hx141_1
                  replace p141 := eq_true p141
                  replace q141 := eq_true q141
                  go_wp2
                  go_roundg k2
                  case measure => have := HK1.out; have := HK2.out; omega
                  case rel => exact ⟨(x3_2), (wrap64 (x4_1 + 1)), (by first | rfl | (simp; done) | (simp [*]; done)), H', ⟨by have := HK1.out; have := HK2.out; omega⟩, ⟨by (with_reducible repeat (first | apply Kd.R_alloc | apply Kd.R_drewN | apply Kd.R_drew)); exact HO_3.out⟩, ⟨by repeat (first | (with_reducible first | exact HB.out | apply below_alloc | apply pw_below_drewN | apply below_drew1) | exact HB.out)⟩⟩
              · rw [if_neg c4] at H
                exact absurd H (by simp)
            · rw [if_neg c3] at H
              exact absurd H (by simp)
      · rw [if_neg c2] at H
        have c2b0 : decide (x4_1 < (l0.length : Int)) = false := decide_eq_false c2
        clear c2
        obtain rfl := Option.some.inj H
        go_wp2
        go_ret
        exact ⟨_, by first | rfl | (simp [errW_none, errW_some] <;> rfl) | (simp [*, errW_none, errW_some] <;> rfl), by (with_reducible repeat (first | apply Kd.R_alloc | apply Kd.R_drewN | apply Kd.R_drew)); exact HO_3.out, by repeat (first | (with_reducible first | exact HB.out | apply below_alloc | apply pw_below_drewN | apply below_drew1) | exact HB.out)⟩
def bureauref03_Good.f (k : Nat) (l0 : List (S100)) : Option (Bool) := (bureauref03_Total.f k l0).bind fun t154 => (if t154 > 4096 then (some false) else ((bureauref03_Bytes.f k l0).bind fun t155 => ((bureauref03_Pack.f k t155).bind fun t158 => ((bureauref03_Same.f k l0 t158).bind fun t161 => (some t161)))))
set_option maxHeartbeats 8000000 in
set_option maxRecDepth 100000 in
theorem bureauref03_Good.calls (k : Nat) (A0 : Option Addr) (c0 : Nat) (l0 : List (S100)) (r : Bool) (w : World) (hr0 : Kd.C k100 w A0 l0.length l0) (hc0 : l0.length ≤ c0) (h : bureauref03_Good.f k l0 = some r) :
    Calls Try.prog 29 #[.slice A0 l0.length c0] w fun e w' => e = .returned (.bool r) ∧ Below w.heap.size w w' := by
  have HR0 := Aside0.mk hr0
  have HC0 := Aside0.mk hc0
  clear hr0 hc0
  have HB := Aside0.mk (Below.refl w.heap.size w)
  have H : ((bureauref03_Total.f k l0).bind fun t154 => (if t154 > 4096 then (some false) else ((bureauref03_Bytes.f k l0).bind fun t155 => ((bureauref03_Pack.f k t155).bind fun t158 => ((bureauref03_Same.f k l0 t158).bind fun t161 => (some t161)))))) = some r := h
  clear h
  replace H := Option.bind_eq_some_iff.mp H
  obtain ⟨t154, A20, H⟩ := H
  replace H : (if t154 > 4096 then (some false) else ((bureauref03_Bytes.f k l0).bind fun t155 => ((bureauref03_Pack.f k t155).bind fun t158 => ((bureauref03_Same.f k l0 t158).bind fun t161 => (some t161))))) = some r := H
  have A2 := Aside0.mk A20
  clear A20
  by_cases c3 : t154 > 4096
  · rw [if_pos c3] at H
    have c3b0 : decide (4096 < t154) = true := decide_eq_true c3
    clear c3
    obtain rfl := Option.some.inj H
    go_enter Try.func29, Try.ntmps29
    go_wp2_with (first | ((with_reducible refine gate_callee (f := 31) rfl ?_); refine goesL_ (some 4) rfl rfl Try.func31 (by kernel_rfl) rfl #[.slice A0 l0.length c0] rfl (by (try simp only [List.map_toArray, List.map_cons, List.map_nil]); first | done | rfl | (simp only [List.length_drop, List.length_take]; rfl)) ?_; (with_reducible refine (bureauref03_Total.calls k _ _ l0 t154 _ ?side1 ?side2 A2.out).mono ?_); (case side1 => repeat (first | exact HR0.out | (with_reducible refine Kd.C_alloc ?_ _) | (with_reducible refine Kd.C_drewN ?_ _) | (with_reducible refine Kd.C_drew ?_))); (case side2 => exact HC0.out); rintro e w' ⟨rfl, ⟨nd, rfl⟩⟩; refine ⟨_, rfl, ?_⟩))
    go_ret
    exact ⟨by first | rfl | (simp [errW_none, errW_some] <;> rfl) | (simp [*, errW_none, errW_some] <;> rfl), by repeat (first | (with_reducible first | exact HB.out | apply below_alloc | apply pw_below_drewN | apply below_drew1) | exact HB.out)⟩
  · rw [if_neg c3] at H
    have c3b0 : decide (4096 < t154) = false := decide_eq_false c3
    clear c3
    replace H := Option.bind_eq_some_iff.mp H
    obtain ⟨t155, A40, H⟩ := H
    replace H : ((bureauref03_Pack.f k t155).bind fun t158 => ((bureauref03_Same.f k l0 t158).bind fun t161 => (some t161))) = some r := H
    have A4 := Aside0.mk A40
    clear A40
    replace H := Option.bind_eq_some_iff.mp H
    obtain ⟨t158, A50, H⟩ := H
    replace H : ((bureauref03_Same.f k l0 t158).bind fun t161 => (some t161)) = some r := H
    have A5 := Aside0.mk A50
    clear A50
    replace H := Option.bind_eq_some_iff.mp H
    obtain ⟨t161, A60, H⟩ := H
    replace H : (some t161) = some r := H
    have A6 := Aside0.mk A60
    clear A60
    obtain rfl := Option.some.inj H
    go_enter Try.func29, Try.ntmps29
    go_wp2_with (first | ((with_reducible refine gate_callee (f := 31) rfl ?_); refine goesL_ (some 4) rfl rfl Try.func31 (by kernel_rfl) rfl #[.slice A0 l0.length c0] rfl (by (try simp only [List.map_toArray, List.map_cons, List.map_nil]); first | done | rfl | (simp only [List.length_drop, List.length_take]; rfl)) ?_; (with_reducible refine (bureauref03_Total.calls k _ _ l0 t154 _ ?side1 ?side2 A2.out).mono ?_); (case side1 => repeat (first | exact HR0.out | (with_reducible refine Kd.C_alloc ?_ _) | (with_reducible refine Kd.C_drewN ?_ _) | (with_reducible refine Kd.C_drew ?_))); (case side2 => exact HC0.out); rintro e w' ⟨rfl, ⟨nd, rfl⟩⟩; refine ⟨_, rfl, ?_⟩) | ((with_reducible refine gate_callee (f := 84) rfl ?_); refine goesL_ (some 8) rfl rfl Try.func84 (by kernel_rfl) rfl #[.slice A0 l0.length c0] rfl (by (try simp only [List.map_toArray, List.map_cons, List.map_nil]); first | done | rfl | (simp only [List.length_drop, List.length_take]; rfl)) ?_; (with_reducible refine (bureauref03_Bytes.calls k _ _ l0 t155 _ ?side1 ?side2 A4.out).mono ?_); (case side1 => repeat (first | exact HR0.out | (with_reducible refine Kd.C_alloc ?_ _) | (with_reducible refine Kd.C_drewN ?_ _) | (with_reducible refine Kd.C_drew ?_))); (case side2 => exact HC0.out); rintro e w7 ⟨v156, rfl, ho0, hb⟩; refine ⟨_, rfl, ?_⟩; have n0_ := Aside0.mk (Kd.R_lower ho0 (below_size (by repeat (first | (with_reducible first | exact HB.out | apply below_alloc | apply pw_below_drewN | apply below_drew1) | exact HB.out)))); have n1_ := Aside0.mk (below_step (by repeat (first | (with_reducible first | exact HB.out | apply below_alloc | apply pw_below_drewN | apply below_drew1) | exact HB.out)) hb); clear HB; have HO157 := n0_; have HB := n1_; clear n0_ n1_; (try clear hb); (try clear hb2); (try clear hk); (try clear hi); (try clear ho0); obtain ⟨Ao8, co8, eo8⟩ := Kd.R_slice HO157.out; subst eo8) | ((with_reducible refine gate_callee (f := 83) rfl ?_); refine goesL_ (some 9) rfl rfl Try.func83 (by kernel_rfl) rfl #[.slice Ao8 t155.length co8] rfl (by (try simp only [List.map_toArray, List.map_cons, List.map_nil]); first | done | rfl | (simp only [List.length_drop, List.length_take]; rfl)) ?_; (with_reducible refine (bureauref03_Pack.calls k _ _ t155 t158 _ ?side1 ?side2 A5.out).mono ?_); (case side1 => repeat (first | exact (Kd.R_reads' HO157.out).2.2 | (with_reducible refine Kd.C_alloc ?_ _) | (with_reducible refine Kd.C_drewN ?_ _) | (with_reducible refine Kd.C_drew ?_))); (case side2 => exact (Kd.R_reads' HO157.out).2.1); rintro e w9 ⟨v159, rfl, ho0, hb⟩; refine ⟨_, rfl, ?_⟩; have n0_ := Aside0.mk (Kd.R_below (by (with_reducible repeat (first | apply Kd.R_alloc | apply Kd.R_drewN | apply Kd.R_drew)); exact HO157.out) hb); have n1_ := Aside0.mk (Kd.R_lower ho0 (below_size (by repeat (first | (with_reducible first | exact HB.out | apply below_alloc | apply pw_below_drewN | apply below_drew1) | exact HB.out)))); have n2_ := Aside0.mk (below_step (by repeat (first | (with_reducible first | exact HB.out | apply below_alloc | apply pw_below_drewN | apply below_drew1) | exact HB.out)) hb); clear HO157; clear HB; have HO157 := n0_; have HO160 := n1_; have HB := n2_; clear n0_ n1_ n2_; (try clear hb); (try clear hb2); (try clear hk); (try clear hi); (try clear ho0); obtain ⟨Ao10, co10, eo10⟩ := Kd.R_slice HO160.out; subst eo10) | ((with_reducible refine gate_callee (f := 27) rfl ?_); refine goesL_ (some 10) rfl rfl Try.func27 (by kernel_rfl) rfl #[.slice A0 l0.length c0, .slice Ao10 t158.length co10] rfl (by (try simp only [List.map_toArray, List.map_cons, List.map_nil]); first | done | rfl | (simp only [List.length_drop, List.length_take]; rfl)) ?_; (with_reducible refine (bureauref03_Same.calls k _ _ l0 _ _ t158 t161 _ ?side1 ?side2 ?side3 ?side4 A6.out).mono ?_); (case side1 => repeat (first | exact (Kd.C_below HR0.out HB.out) | (with_reducible refine Kd.C_alloc ?_ _) | (with_reducible refine Kd.C_drewN ?_ _) | (with_reducible refine Kd.C_drew ?_))); (case side2 => exact HC0.out); (case side3 => repeat (first | exact (Kd.R_reads' HO160.out).2.2 | (with_reducible refine Kd.C_alloc ?_ _) | (with_reducible refine Kd.C_drewN ?_ _) | (with_reducible refine Kd.C_drew ?_))); (case side4 => exact (Kd.R_reads' HO160.out).2.1); rintro e w' ⟨rfl, ⟨nd, rfl⟩⟩; refine ⟨_, rfl, ?_⟩))
    go_ret
    exact ⟨by first | rfl | (simp [errW_none, errW_some] <;> rfl) | (simp [*, errW_none, errW_some] <;> rfl), by repeat (first | (with_reducible first | exact HB.out | apply below_alloc | apply pw_below_drewN | apply below_drew1) | exact HB.out)⟩
def runs_within.f (k : Nat) (l0 : List (S100)) (a1 : Int) (a2 : Int) : Option (Bool) := (runs_Good.f k l0).bind fun t176 => (if t176 = true then (if a1 ≥ 0 then (if a1 ≤ a2 then ((runs_Total.f k l0).bind fun t177 => (some (decide (a2 ≤ t177)))) else (some false)) else (some false)) else (some false))
set_option maxHeartbeats 8000000 in
set_option maxRecDepth 100000 in
theorem runs_within.calls (k : Nat) (A0 : Option Addr) (c0 : Nat) (l0 : List (S100)) (a1 : Int) (a2 : Int) (r : Bool) (w : World) (hr0 : Kd.C k100 w A0 l0.length l0) (hc0 : l0.length ≤ c0) (h : runs_within.f k l0 a1 a2 = some r) :
    Calls Try.prog 85 #[.slice A0 l0.length c0, .int .i64 a1, .int .i64 a2] w fun e w' => e = .returned (.bool r) ∧ Below w.heap.size w w' := by
  have HR0 := Aside0.mk hr0
  have HC0 := Aside0.mk hc0
  clear hr0 hc0
  have HB := Aside0.mk (Below.refl w.heap.size w)
  have H : ((runs_Good.f k l0).bind fun t176 => (if t176 = true then (if a1 ≥ 0 then (if a1 ≤ a2 then ((runs_Total.f k l0).bind fun t177 => (some (decide (a2 ≤ t177)))) else (some false)) else (some false)) else (some false))) = some r := h
  clear h
  replace H := Option.bind_eq_some_iff.mp H
  obtain ⟨t176, A40, H⟩ := H
  replace H : (if t176 = true then (if a1 ≥ 0 then (if a1 ≤ a2 then ((runs_Total.f k l0).bind fun t177 => (some (decide (a2 ≤ t177)))) else (some false)) else (some false)) else (some false)) = some r := H
  have A4 := Aside0.mk A40
  clear A40
  by_cases c5 : t176 = true
  · subst c5
    have H1 : (if a1 ≥ 0 then (if a1 ≤ a2 then ((runs_Total.f k l0).bind fun t177 => (some (decide (a2 ≤ t177)))) else (some false)) else (some false)) = some r := by rw [if_pos rfl] at H; exact H
    clear H
    have H := H1
    clear H1
    by_cases c6 : a1 ≥ 0
    · rw [if_pos c6] at H
      have c6b0 : decide (0 ≤ a1) = true := decide_eq_true c6
      clear c6
      by_cases c7 : a1 ≤ a2
      · rw [if_pos c7] at H
        have c7b0 : decide (a1 ≤ a2) = true := decide_eq_true c7
        clear c7
        replace H := Option.bind_eq_some_iff.mp H
        obtain ⟨t177, A80, H⟩ := H
        replace H : (some (decide (a2 ≤ t177))) = some r := H
        have A8 := Aside0.mk A80
        clear A80
        obtain rfl := Option.some.inj H
        go_enter Try.func85, Try.ntmps85
        go_wp2_with (first | ((with_reducible refine gate_callee (f := 28) rfl ?_); refine goesL_ (some 8) rfl rfl Try.func28 (by kernel_rfl) rfl #[.slice A0 l0.length c0] rfl (by (try simp only [List.map_toArray, List.map_cons, List.map_nil]); first | done | rfl | (simp only [List.length_drop, List.length_take]; rfl)) ?_; (with_reducible refine (runs_Good.calls k _ _ l0 true _ ?side1 ?side2 A4.out).mono ?_); (case side1 => repeat (first | exact HR0.out | (with_reducible refine Kd.C_alloc ?_ _) | (with_reducible refine Kd.C_drewN ?_ _) | (with_reducible refine Kd.C_drew ?_))); (case side2 => exact HC0.out); rintro e w9 ⟨rfl, hb⟩; refine ⟨_, rfl, ?_⟩; have n0_ := Aside0.mk (below_step (by repeat (first | (with_reducible first | exact HB.out | apply below_alloc | apply pw_below_drewN | apply below_drew1) | exact HB.out)) hb); clear HB; have HB := n0_; clear n0_; (try clear hb); (try clear hb2); (try clear hk); (try clear hi)) | (go_at_call 30; (with_reducible refine (runs_Total.calls k _ _ l0 t177 _ ?side1 ?side2 A8.out).mono ?_); (case side1 => repeat (first | exact (Kd.C_below HR0.out HB.out) | (with_reducible refine Kd.C_alloc ?_ _) | (with_reducible refine Kd.C_drewN ?_ _) | (with_reducible refine Kd.C_drew ?_))); (case side2 => exact HC0.out); rintro e w10 ⟨rfl, hb⟩; have n0_ := Aside0.mk (below_step (by repeat (first | (with_reducible first | exact HB.out | apply below_alloc | apply pw_below_drewN | apply below_drew1) | exact HB.out)) hb); clear HB; have HB := n0_; clear n0_; (try clear hb); (try clear hb2); (try clear hk); (try clear hi)))
        go_ret
        exact ⟨by first | rfl | (simp [errW_none, errW_some] <;> rfl) | (simp [*, errW_none, errW_some] <;> rfl), by repeat (first | (with_reducible first | exact HB.out | apply below_alloc | apply pw_below_drewN | apply below_drew1) | exact HB.out)⟩
      · rw [if_neg c7] at H
        have c7b0 : decide (a1 ≤ a2) = false := decide_eq_false c7
        clear c7
        obtain rfl := Option.some.inj H
        go_enter Try.func85, Try.ntmps85
        go_wp2_with (first | ((with_reducible refine gate_callee (f := 28) rfl ?_); refine goesL_ (some 8) rfl rfl Try.func28 (by kernel_rfl) rfl #[.slice A0 l0.length c0] rfl (by (try simp only [List.map_toArray, List.map_cons, List.map_nil]); first | done | rfl | (simp only [List.length_drop, List.length_take]; rfl)) ?_; (with_reducible refine (runs_Good.calls k _ _ l0 true _ ?side1 ?side2 A4.out).mono ?_); (case side1 => repeat (first | exact HR0.out | (with_reducible refine Kd.C_alloc ?_ _) | (with_reducible refine Kd.C_drewN ?_ _) | (with_reducible refine Kd.C_drew ?_))); (case side2 => exact HC0.out); rintro e w11 ⟨rfl, hb⟩; refine ⟨_, rfl, ?_⟩; have n0_ := Aside0.mk (below_step (by repeat (first | (with_reducible first | exact HB.out | apply below_alloc | apply pw_below_drewN | apply below_drew1) | exact HB.out)) hb); clear HB; have HB := n0_; clear n0_; (try clear hb); (try clear hb2); (try clear hk); (try clear hi)))
        go_ret
        exact ⟨by first | rfl | (simp [errW_none, errW_some] <;> rfl) | (simp [*, errW_none, errW_some] <;> rfl), by repeat (first | (with_reducible first | exact HB.out | apply below_alloc | apply pw_below_drewN | apply below_drew1) | exact HB.out)⟩
    · rw [if_neg c6] at H
      have c6b0 : decide (0 ≤ a1) = false := decide_eq_false c6
      clear c6
      obtain rfl := Option.some.inj H
      go_enter Try.func85, Try.ntmps85
      go_wp2_with (first | ((with_reducible refine gate_callee (f := 28) rfl ?_); refine goesL_ (some 8) rfl rfl Try.func28 (by kernel_rfl) rfl #[.slice A0 l0.length c0] rfl (by (try simp only [List.map_toArray, List.map_cons, List.map_nil]); first | done | rfl | (simp only [List.length_drop, List.length_take]; rfl)) ?_; (with_reducible refine (runs_Good.calls k _ _ l0 true _ ?side1 ?side2 A4.out).mono ?_); (case side1 => repeat (first | exact HR0.out | (with_reducible refine Kd.C_alloc ?_ _) | (with_reducible refine Kd.C_drewN ?_ _) | (with_reducible refine Kd.C_drew ?_))); (case side2 => exact HC0.out); rintro e w12 ⟨rfl, hb⟩; refine ⟨_, rfl, ?_⟩; have n0_ := Aside0.mk (below_step (by repeat (first | (with_reducible first | exact HB.out | apply below_alloc | apply pw_below_drewN | apply below_drew1) | exact HB.out)) hb); clear HB; have HB := n0_; clear n0_; (try clear hb); (try clear hb2); (try clear hk); (try clear hi)))
      go_ret
      exact ⟨by first | rfl | (simp [errW_none, errW_some] <;> rfl) | (simp [*, errW_none, errW_some] <;> rfl), by repeat (first | (with_reducible first | exact HB.out | apply below_alloc | apply pw_below_drewN | apply below_drew1) | exact HB.out)⟩
  · replace c5 := Bool.eq_false_iff.mpr c5
    subst c5
    have H1 : (some false) = some r := by rw [if_neg (show ¬ (false = true) by decide)] at H; exact H
    clear H
    have H := H1
    clear H1
    obtain rfl := Option.some.inj H
    go_enter Try.func85, Try.ntmps85
    go_wp2_with (first | ((with_reducible refine gate_callee (f := 28) rfl ?_); refine goesL_ (some 8) rfl rfl Try.func28 (by kernel_rfl) rfl #[.slice A0 l0.length c0] rfl (by (try simp only [List.map_toArray, List.map_cons, List.map_nil]); first | done | rfl | (simp only [List.length_drop, List.length_take]; rfl)) ?_; (with_reducible refine (runs_Good.calls k _ _ l0 false _ ?side1 ?side2 A4.out).mono ?_); (case side1 => repeat (first | exact HR0.out | (with_reducible refine Kd.C_alloc ?_ _) | (with_reducible refine Kd.C_drewN ?_ _) | (with_reducible refine Kd.C_drew ?_))); (case side2 => exact HC0.out); rintro e w13 ⟨rfl, hb⟩; refine ⟨_, rfl, ?_⟩; have n0_ := Aside0.mk (below_step (by repeat (first | (with_reducible first | exact HB.out | apply below_alloc | apply pw_below_drewN | apply below_drew1) | exact HB.out)) hb); clear HB; have HB := n0_; clear n0_; (try clear hb); (try clear hb2); (try clear hk); (try clear hi)))
    go_ret
    exact ⟨by first | rfl | (simp [errW_none, errW_some] <;> rfl) | (simp [*, errW_none, errW_some] <;> rfl), by repeat (first | (with_reducible first | exact HB.out | apply below_alloc | apply pw_below_drewN | apply below_drew1) | exact HB.out)⟩
def bureauref03_within.f (k : Nat) (l0 : List (S100)) (a1 : Int) (a2 : Int) : Option (Bool) := (bureauref03_Good.f k l0).bind fun t178 => (if t178 = true then (if a1 ≥ 0 then (if a1 ≤ a2 then ((bureauref03_Total.f k l0).bind fun t179 => (some (decide (a2 ≤ t179)))) else (some false)) else (some false)) else (some false))
set_option maxHeartbeats 8000000 in
set_option maxRecDepth 100000 in
theorem bureauref03_within.calls (k : Nat) (A0 : Option Addr) (c0 : Nat) (l0 : List (S100)) (a1 : Int) (a2 : Int) (r : Bool) (w : World) (hr0 : Kd.C k100 w A0 l0.length l0) (hc0 : l0.length ≤ c0) (h : bureauref03_within.f k l0 a1 a2 = some r) :
    Calls Try.prog 87 #[.slice A0 l0.length c0, .int .i64 a1, .int .i64 a2] w fun e w' => e = .returned (.bool r) ∧ Below w.heap.size w w' := by
  have HR0 := Aside0.mk hr0
  have HC0 := Aside0.mk hc0
  clear hr0 hc0
  have HB := Aside0.mk (Below.refl w.heap.size w)
  have H : ((bureauref03_Good.f k l0).bind fun t178 => (if t178 = true then (if a1 ≥ 0 then (if a1 ≤ a2 then ((bureauref03_Total.f k l0).bind fun t179 => (some (decide (a2 ≤ t179)))) else (some false)) else (some false)) else (some false))) = some r := h
  clear h
  replace H := Option.bind_eq_some_iff.mp H
  obtain ⟨t178, A40, H⟩ := H
  replace H : (if t178 = true then (if a1 ≥ 0 then (if a1 ≤ a2 then ((bureauref03_Total.f k l0).bind fun t179 => (some (decide (a2 ≤ t179)))) else (some false)) else (some false)) else (some false)) = some r := H
  have A4 := Aside0.mk A40
  clear A40
  by_cases c5 : t178 = true
  · subst c5
    have H1 : (if a1 ≥ 0 then (if a1 ≤ a2 then ((bureauref03_Total.f k l0).bind fun t179 => (some (decide (a2 ≤ t179)))) else (some false)) else (some false)) = some r := by rw [if_pos rfl] at H; exact H
    clear H
    have H := H1
    clear H1
    by_cases c6 : a1 ≥ 0
    · rw [if_pos c6] at H
      have c6b0 : decide (0 ≤ a1) = true := decide_eq_true c6
      clear c6
      by_cases c7 : a1 ≤ a2
      · rw [if_pos c7] at H
        have c7b0 : decide (a1 ≤ a2) = true := decide_eq_true c7
        clear c7
        replace H := Option.bind_eq_some_iff.mp H
        obtain ⟨t179, A80, H⟩ := H
        replace H : (some (decide (a2 ≤ t179))) = some r := H
        have A8 := Aside0.mk A80
        clear A80
        obtain rfl := Option.some.inj H
        go_enter Try.func87, Try.ntmps87
        go_wp2_with (first | ((with_reducible refine gate_callee (f := 29) rfl ?_); refine goesL_ (some 8) rfl rfl Try.func29 (by kernel_rfl) rfl #[.slice A0 l0.length c0] rfl (by (try simp only [List.map_toArray, List.map_cons, List.map_nil]); first | done | rfl | (simp only [List.length_drop, List.length_take]; rfl)) ?_; (with_reducible refine (bureauref03_Good.calls k _ _ l0 true _ ?side1 ?side2 A4.out).mono ?_); (case side1 => repeat (first | exact HR0.out | (with_reducible refine Kd.C_alloc ?_ _) | (with_reducible refine Kd.C_drewN ?_ _) | (with_reducible refine Kd.C_drew ?_))); (case side2 => exact HC0.out); rintro e w9 ⟨rfl, hb⟩; refine ⟨_, rfl, ?_⟩; have n0_ := Aside0.mk (below_step (by repeat (first | (with_reducible first | exact HB.out | apply below_alloc | apply pw_below_drewN | apply below_drew1) | exact HB.out)) hb); clear HB; have HB := n0_; clear n0_; (try clear hb); (try clear hb2); (try clear hk); (try clear hi)) | (go_at_call 31; (with_reducible refine (bureauref03_Total.calls k _ _ l0 t179 _ ?side1 ?side2 A8.out).mono ?_); (case side1 => repeat (first | exact (Kd.C_below HR0.out HB.out) | (with_reducible refine Kd.C_alloc ?_ _) | (with_reducible refine Kd.C_drewN ?_ _) | (with_reducible refine Kd.C_drew ?_))); (case side2 => exact HC0.out); rintro e w' ⟨rfl, ⟨nd, rfl⟩⟩))
        go_ret
        exact ⟨by first | rfl | (simp [errW_none, errW_some] <;> rfl) | (simp [*, errW_none, errW_some] <;> rfl), by repeat (first | (with_reducible first | exact HB.out | apply below_alloc | apply pw_below_drewN | apply below_drew1) | exact HB.out)⟩
      · rw [if_neg c7] at H
        have c7b0 : decide (a1 ≤ a2) = false := decide_eq_false c7
        clear c7
        obtain rfl := Option.some.inj H
        go_enter Try.func87, Try.ntmps87
        go_wp2_with (first | ((with_reducible refine gate_callee (f := 29) rfl ?_); refine goesL_ (some 8) rfl rfl Try.func29 (by kernel_rfl) rfl #[.slice A0 l0.length c0] rfl (by (try simp only [List.map_toArray, List.map_cons, List.map_nil]); first | done | rfl | (simp only [List.length_drop, List.length_take]; rfl)) ?_; (with_reducible refine (bureauref03_Good.calls k _ _ l0 true _ ?side1 ?side2 A4.out).mono ?_); (case side1 => repeat (first | exact HR0.out | (with_reducible refine Kd.C_alloc ?_ _) | (with_reducible refine Kd.C_drewN ?_ _) | (with_reducible refine Kd.C_drew ?_))); (case side2 => exact HC0.out); rintro e w10 ⟨rfl, hb⟩; refine ⟨_, rfl, ?_⟩; have n0_ := Aside0.mk (below_step (by repeat (first | (with_reducible first | exact HB.out | apply below_alloc | apply pw_below_drewN | apply below_drew1) | exact HB.out)) hb); clear HB; have HB := n0_; clear n0_; (try clear hb); (try clear hb2); (try clear hk); (try clear hi)))
        go_ret
        exact ⟨by first | rfl | (simp [errW_none, errW_some] <;> rfl) | (simp [*, errW_none, errW_some] <;> rfl), by repeat (first | (with_reducible first | exact HB.out | apply below_alloc | apply pw_below_drewN | apply below_drew1) | exact HB.out)⟩
    · rw [if_neg c6] at H
      have c6b0 : decide (0 ≤ a1) = false := decide_eq_false c6
      clear c6
      obtain rfl := Option.some.inj H
      go_enter Try.func87, Try.ntmps87
      go_wp2_with (first | ((with_reducible refine gate_callee (f := 29) rfl ?_); refine goesL_ (some 8) rfl rfl Try.func29 (by kernel_rfl) rfl #[.slice A0 l0.length c0] rfl (by (try simp only [List.map_toArray, List.map_cons, List.map_nil]); first | done | rfl | (simp only [List.length_drop, List.length_take]; rfl)) ?_; (with_reducible refine (bureauref03_Good.calls k _ _ l0 true _ ?side1 ?side2 A4.out).mono ?_); (case side1 => repeat (first | exact HR0.out | (with_reducible refine Kd.C_alloc ?_ _) | (with_reducible refine Kd.C_drewN ?_ _) | (with_reducible refine Kd.C_drew ?_))); (case side2 => exact HC0.out); rintro e w11 ⟨rfl, hb⟩; refine ⟨_, rfl, ?_⟩; have n0_ := Aside0.mk (below_step (by repeat (first | (with_reducible first | exact HB.out | apply below_alloc | apply pw_below_drewN | apply below_drew1) | exact HB.out)) hb); clear HB; have HB := n0_; clear n0_; (try clear hb); (try clear hb2); (try clear hk); (try clear hi)))
      go_ret
      exact ⟨by first | rfl | (simp [errW_none, errW_some] <;> rfl) | (simp [*, errW_none, errW_some] <;> rfl), by repeat (first | (with_reducible first | exact HB.out | apply below_alloc | apply pw_below_drewN | apply below_drew1) | exact HB.out)⟩
  · replace c5 := Bool.eq_false_iff.mpr c5
    subst c5
    have H1 : (some false) = some r := by rw [if_neg (show ¬ (false = true) by decide)] at H; exact H
    clear H
    have H := H1
    clear H1
    obtain rfl := Option.some.inj H
    go_enter Try.func87, Try.ntmps87
    go_wp2_with (first | ((with_reducible refine gate_callee (f := 29) rfl ?_); refine goesL_ (some 8) rfl rfl Try.func29 (by kernel_rfl) rfl #[.slice A0 l0.length c0] rfl (by (try simp only [List.map_toArray, List.map_cons, List.map_nil]); first | done | rfl | (simp only [List.length_drop, List.length_take]; rfl)) ?_; (with_reducible refine (bureauref03_Good.calls k _ _ l0 false _ ?side1 ?side2 A4.out).mono ?_); (case side1 => repeat (first | exact HR0.out | (with_reducible refine Kd.C_alloc ?_ _) | (with_reducible refine Kd.C_drewN ?_ _) | (with_reducible refine Kd.C_drew ?_))); (case side2 => exact HC0.out); rintro e w12 ⟨rfl, hb⟩; refine ⟨_, rfl, ?_⟩; have n0_ := Aside0.mk (below_step (by repeat (first | (with_reducible first | exact HB.out | apply below_alloc | apply pw_below_drewN | apply below_drew1) | exact HB.out)) hb); clear HB; have HB := n0_; clear n0_; (try clear hb); (try clear hb2); (try clear hk); (try clear hi)))
    go_ret
    exact ⟨by first | rfl | (simp [errW_none, errW_some] <;> rfl) | (simp [*, errW_none, errW_some] <;> rfl), by repeat (first | (with_reducible first | exact HB.out | apply below_alloc | apply pw_below_drewN | apply below_drew1) | exact HB.out)⟩
end Go.Proofs.Ythpjagblnddjaaa.PB
end

section
namespace Go.Proofs.Ythpjagblnddjaaa.PB
open Go.RowKit Go.Proofs.YthpjagblnddjaaaW.PrintWords Go.Proofs.YthpjagblnddjaaaW.PrintLast Go.Proofs.YthpjagblnddjaaaW.PrintMore
attribute [local go_sem] max2_int min2_int max_two min_two max_three min_three max_four min_four   
set_option linter.unusedVariables false
set_option linter.unusedSimpArgs false
mutual
def bureauref03_joined.l0 : Nat → List Int → List Int → List Int → Int → Option (List Int)
  | 0, _, _, _, _ => none
  | k + 1, x0, x1, x5, x6 => if x6 < (x0.length : Int) then (if 0 ≤ x6 then (if x5.length < 17592186044416 then (bureauref03_joined.l0 k x0 x1 (x5 ++ [rd x0 x6]) (wrap64 (x6 + 1))) else (none)) else (none)) else (bureauref03_joined.l1 k x1 x5 0)
def bureauref03_joined.l1 : Nat → List Int → List Int → Int → Option (List Int)
  | 0, _, _, _ => none
  | k + 1, x1, x5, x7 => if x7 < (x1.length : Int) then (if 0 ≤ x7 then (if x5.length < 17592186044416 then (bureauref03_joined.l1 k x1 (x5 ++ [rd x1 x7]) (wrap64 (x7 + 1))) else (none)) else (none)) else (some x5)
end
def bureauref03_joined.f (k : Nat) (l0 : List Int) (l1 : List Int) : Option (List Int) := bureauref03_joined.l0 k l0 l1 ([] : List Int) 0
set_option maxHeartbeats 8000000 in
set_option maxRecDepth 100000 in
theorem bureauref03_joined.calls (k : Nat) (A0 : Option Addr) (c0 : Nat) (l0 : List Int) (A1 : Option Addr) (c1 : Nat) (l1 : List Int) (r : List Int) (w : World) (hr0 : Kd.C (Kd.int .u64) w A0 l0.length l0) (hc0 : l0.length ≤ c0) (hr1 : Kd.C (Kd.int .u64) w A1 l1.length l1) (hc1 : l1.length ≤ c1) (h : bureauref03_joined.f k l0 l1 = some r) :
    Calls Try.prog 94 #[.slice A0 l0.length c0, .slice A1 l1.length c1] w fun e w' => ∃ v0_ : Value, e = .returned (v0_) ∧ Kd.R (Kd.int .u64) 36 w' w.heap.size (fun _ => True) v0_ r ∧ Below w.heap.size w w' := by
  have HR0 := Aside0.mk hr0
  have HC0 := Aside0.mk hc0
  clear hr0 hc0
  have HR1 := Aside0.mk hr1
  have HC1 := Aside0.mk hc1
  clear hr1 hc1
  have HB := Aside0.mk (Below.refl w.heap.size w)
  have H : (bureauref03_joined.l0 k l0 l1 ([] : List Int) 0) = some r := h
  clear h
  have H' := Aside0.mk H
  clear H
  go_enter Try.func94, Try.ntmps94
  go_wp2
  go_loopg [5, 6] k (fun kq v5 v6 w' => ∃ (x5_1 : List Int) (x6_1 : Int), v6 = .int .i64 x6_1 ∧ Aside0 (bureauref03_joined.l0 kq l0 l1 x5_1 x6_1 = some r) ∧ Aside0 (kq ≤ k) ∧ Aside0 (Kd.R (Kd.int .u64) 36 w' w.heap.size (fun _ => True) v5 x5_1) ∧ Aside0 (Below w.heap.size w w'))
  case atStart => exact ⟨(([] : List Int)), (0), (by first | rfl | (simp; done) | (simp [*]; done)), H', ⟨Nat.le_refl _⟩, ⟨by first | exact Kd.R_nil _ _ _ _ _ | exact Kd.N_nil _ _ _ _ _ | exact Kd.V_nil _ _ _ _ _ | exact Kd.Q_nil _ _ _ _ _ | exact Kd.S_nil _ _ _ _ _⟩, ⟨by repeat (first | (with_reducible first | exact HB.out | apply below_alloc | apply pw_below_drewN | apply below_drew1) | exact HB.out)⟩⟩
  case round =>
    clear H'
    try clear c1
    try clear p2
    obtain ⟨x5_1, x6_1, rfl, HA, HK1, HO_5, HB⟩ := hrel
    cases gk with
    | zero => exact absurd HA.out (by simp [bureauref03_joined.l0])
    | succ k1 =>
      have H := HA.out
      clear HA
      simp only [bureauref03_joined.l0] at H
      by_cases c3 : x6_1 < (l0.length : Int)
      · rw [if_pos c3] at H
        have c3b0 : decide (x6_1 < (l0.length : Int)) = true := decide_eq_true c3
        clear c3
        by_cases c4 : 0 ≤ x6_1
        · rw [if_pos c4] at H
          have c4b0 : decide (0 ≤ x6_1) = true := decide_eq_true c4
          clear c4
          by_cases c5 : x5_1.length < 17592186044416
          · rw [if_pos c5] at H
            have LMc5 := Aside0.mk c5
            clear c5
            obtain ⟨y245, hy245⟩ : ∃ y_ : List Int, y_ = (x5_1 ++ [rd l0 x6_1]) := ⟨_, rfl⟩
            replace H : (bureauref03_joined.l0 k1 l0 l1 y245 (wrap64 (x6_1 + 1))) = some r := by first | (rw [hy245]; with_reducible exact H) | (have H2_ := (Option.bind_some _ _).symm.trans H; rw [hy245]; with_reducible exact H2_) | (have H2_ := (Option.bind_some _ _).symm.trans H; with_reducible exact H2_) | with_reducible exact H | (rw [hy245]; exact H) | exact H
            have Ny245 := Aside0.mk hy245
            clear hy245
            have H' := Aside0.mk H
            clear H
            have p244 : 0 ≤ (x6_1 : Int) := of_decide_eq_true (by first | (with_reducible assumption) | assumption)
            have q244 : x6_1 < (l0.length : Int) := of_decide_eq_true (by first | (with_reducible assumption) | assumption)
            obtain ⟨ad244, e244, hx244_0⟩ := Kd.at_int HR0.out x6_1 p244 q244
            cases e244
            replace hx244_0 := (HB.out.cell (World.block_lt_of_cell? w _ hx244_0)).trans hx244_0
            replace p244 := eq_true p244
            replace q244 := eq_true q244
            go_wp2_with (first | ((with_reducible refine gate_builtin (b := .append) (xs := #[.tmp 14, .tmp 19]) rfl ?_); at_builtin; refine Kd.R_append (Kd.int .u64) (w0 := w) w.heap.size rfl (.tmp 14) (.tmp 19) 106 36 (.int .u64 0) 8 rfl Try.underlying106 info36 rfl (by decide) (by omega) u5 x5_1 (rd l0 x6_1) [.int .u64 (rd l0 x6_1)] (fun _ => True) (fun _ => False) rfl rfl ?aP (fun _ hk => hk.elim) ?aF ?aO ?aB ?aS ?aL ?_; (case aP => exact rfl); (case aB => exact (by repeat (first | (with_reducible first | exact HB.out | apply below_alloc | apply pw_below_drewN | apply below_drew1) | exact HB.out))); (case aF => exact (fun _ _ => trivial)); (case aO => exact (by (with_reducible repeat (first | apply Kd.R_alloc | apply Kd.R_drewN | apply Kd.R_drew)); exact HO_5.out)); (case aS => exact (below_size (by repeat (first | (with_reducible first | exact HB.out | apply below_alloc | apply pw_below_drewN | apply below_drew1) | exact HB.out)))); (case aL => have := LMc5.out; omega); intro v246 w6 ho hb hg hat; rw [← Ny245.out] at ho; have n0_ := Aside0.mk (hb); have n1_ := Aside0.mk (ho); clear HB; clear HO_5; have HB := n0_; have HO247 := n1_; clear n0_ n1_; clear ho hb hg hat))
            go_roundg k1
            case measure => have := HK1.out; omega
            case rel => exact ⟨(y245), (wrap64 (x6_1 + 1)), (by first | rfl | (simp; done) | (simp [*]; done)), H', ⟨by have := HK1.out; omega⟩, ⟨by (with_reducible repeat (first | apply Kd.R_alloc | apply Kd.R_drewN | apply Kd.R_drew)); exact HO247.out⟩, ⟨by repeat (first | (with_reducible first | exact HB.out | apply below_alloc | apply pw_below_drewN | apply below_drew1) | exact HB.out)⟩⟩
          · rw [if_neg c5] at H
            exact absurd H (by simp)
        · rw [if_neg c4] at H
          exact absurd H (by simp)
      · rw [if_neg c3] at H
        have c3b0 : decide (x6_1 < (l0.length : Int)) = false := decide_eq_false c3
        clear c3
        have H' := Aside0.mk H
        clear H
        go_wp2
        go_loopg [5, 7] k1 (fun kq v5 v7 w' => ∃ (x5_2 : List Int) (x7_2 : Int), v7 = .int .i64 x7_2 ∧ Aside0 (bureauref03_joined.l1 kq l1 x5_2 x7_2 = some r) ∧ Aside0 (kq ≤ k1) ∧ Aside0 (Kd.R (Kd.int .u64) 36 w' w.heap.size (fun _ => True) v5 x5_2) ∧ Aside0 (Below w.heap.size w w'))
        case atStart => exact ⟨(x5_1), (0), (by first | rfl | (simp; done) | (simp [*]; done)), H', ⟨Nat.le_refl _⟩, ⟨by (with_reducible repeat (first | apply Kd.R_alloc | apply Kd.R_drewN | apply Kd.R_drew)); exact HO_5.out⟩, ⟨by repeat (first | (with_reducible first | exact HB.out | apply below_alloc | apply pw_below_drewN | apply below_drew1) | exact HB.out)⟩⟩
        case round =>
          clear H'
          try clear c1
          try clear p2
          try clear q2
          try clear hx2
          try clear c3
          try clear c3b0
          try clear c4
          try clear c4b0
          try clear c5
          try clear p6
          try clear hx244_0
          try clear p2
          try clear p244
          try clear q244
          obtain ⟨x5_2, x7_2, rfl, HA, HK2, HO_5, HB⟩ := hrel
          cases gk with
          | zero => exact absurd HA.out (by simp [bureauref03_joined.l1])
          | succ k2 =>
            have H := HA.out
            clear HA
            simp only [bureauref03_joined.l1] at H
            by_cases c7 : x7_2 < (l1.length : Int)
            · rw [if_pos c7] at H
              have c7b0 : decide (x7_2 < (l1.length : Int)) = true := decide_eq_true c7
              clear c7
              by_cases c8 : 0 ≤ x7_2
              · rw [if_pos c8] at H
                have c8b0 : decide (0 ≤ x7_2) = true := decide_eq_true c8
                clear c8
                by_cases c9 : x5_2.length < 17592186044416
                · rw [if_pos c9] at H
                  have LMc9 := Aside0.mk c9
                  clear c9
                  obtain ⟨y249, hy249⟩ : ∃ y_ : List Int, y_ = (x5_2 ++ [rd l1 x7_2]) := ⟨_, rfl⟩
                  replace H : (bureauref03_joined.l1 k2 l1 y249 (wrap64 (x7_2 + 1))) = some r := by first | (rw [hy249]; with_reducible exact H) | (have H2_ := (Option.bind_some _ _).symm.trans H; rw [hy249]; with_reducible exact H2_) | (have H2_ := (Option.bind_some _ _).symm.trans H; with_reducible exact H2_) | with_reducible exact H | (rw [hy249]; exact H) | exact H
                  have Ny249 := Aside0.mk hy249
                  clear hy249
                  have H' := Aside0.mk H
                  clear H
                  have p248 : 0 ≤ (x7_2 : Int) := of_decide_eq_true (by first | (with_reducible assumption) | assumption)
                  have q248 : x7_2 < (l1.length : Int) := of_decide_eq_true (by first | (with_reducible assumption) | assumption)
                  obtain ⟨ad248, e248, hx248_0⟩ := Kd.at_int HR1.out x7_2 p248 q248
                  cases e248
                  replace hx248_0 := (HB.out.cell (World.block_lt_of_cell? w _ hx248_0)).trans hx248_0
                  replace p248 := eq_true p248
                  replace q248 := eq_true q248
                  go_wp2_with (first | ((with_reducible refine gate_builtin (b := .append) (xs := #[.tmp 27, .tmp 32]) rfl ?_); at_builtin; refine Kd.R_append (Kd.int .u64) (w0 := w) w.heap.size rfl (.tmp 27) (.tmp 32) 106 36 (.int .u64 0) 8 rfl Try.underlying106 info36 rfl (by decide) (by omega) u5 x5_2 (rd l1 x7_2) [.int .u64 (rd l1 x7_2)] (fun _ => True) (fun _ => False) rfl rfl ?aP (fun _ hk => hk.elim) ?aF ?aO ?aB ?aS ?aL ?_; (case aP => exact rfl); (case aB => exact (by repeat (first | (with_reducible first | exact HB.out | apply below_alloc | apply pw_below_drewN | apply below_drew1) | exact HB.out))); (case aF => exact (fun _ _ => trivial)); (case aO => exact (by (with_reducible repeat (first | apply Kd.R_alloc | apply Kd.R_drewN | apply Kd.R_drew)); exact HO_5.out)); (case aS => exact (below_size (by repeat (first | (with_reducible first | exact HB.out | apply below_alloc | apply pw_below_drewN | apply below_drew1) | exact HB.out)))); (case aL => have := LMc9.out; omega); intro v250 w10 ho hb hg hat; rw [← Ny249.out] at ho; have n0_ := Aside0.mk (hb); have n1_ := Aside0.mk (ho); clear HB; clear HO_5; have HB := n0_; have HO251 := n1_; clear n0_ n1_; clear ho hb hg hat))
                  go_roundg k2
                  case measure => have := HK1.out; have := HK2.out; omega
                  case rel => exact ⟨(y249), (wrap64 (x7_2 + 1)), (by first | rfl | (simp; done) | (simp [*]; done)), H', ⟨by have := HK1.out; have := HK2.out; omega⟩, ⟨by (with_reducible repeat (first | apply Kd.R_alloc | apply Kd.R_drewN | apply Kd.R_drew)); exact HO251.out⟩, ⟨by repeat (first | (with_reducible first | exact HB.out | apply below_alloc | apply pw_below_drewN | apply below_drew1) | exact HB.out)⟩⟩
                · rw [if_neg c9] at H
                  exact absurd H (by simp)
              · rw [if_neg c8] at H
                exact absurd H (by simp)
            · rw [if_neg c7] at H
              have c7b0 : decide (x7_2 < (l1.length : Int)) = false := decide_eq_false c7
              clear c7
              obtain rfl := Option.some.inj H
              go_wp2
              go_ret
              exact ⟨_, by first | rfl | (simp [errW_none, errW_some] <;> rfl) | (simp [*, errW_none, errW_some] <;> rfl), by (with_reducible repeat (first | apply Kd.R_alloc | apply Kd.R_drewN | apply Kd.R_drew)); exact HO_5.out, by repeat (first | (with_reducible first | exact HB.out | apply below_alloc | apply pw_below_drewN | apply below_drew1) | exact HB.out)⟩
end Go.Proofs.Ythpjagblnddjaaa.PB
end

section
namespace Go.Proofs.Ythpjagblnddjaaa.PB
open Go.RowKit Go.Proofs.YthpjagblnddjaaaW.PrintWords Go.Proofs.YthpjagblnddjaaaW.PrintLast Go.Proofs.YthpjagblnddjaaaW.PrintMore
attribute [local go_sem] max2_int min2_int max_two min_two max_three min_three max_four min_four   
set_option linter.unusedVariables false
set_option linter.unusedSimpArgs false
def bureauref03_Splice.j0 : Nat → List (S100) → Int → Int → List (S100) → Bool → Option ((List (S100)) × Int)
  | 0, _, _, _, _, _ => none
  | k + 1, x0, x1, x2, x3, x20 => if x20 = true then (some (([] : List (S100)), 2)) else ((bureauref03_Total.f k x0).bind fun t254 => ((bureauref03_Total.f k x3).bind fun t255 => (if (wrap64 ((wrap64 (t254 - (wrap64 (x2 - x1)))) + t255)) > 4096 then (some (([] : List (S100)), 3)) else ((bureauref03_Bytes.f k x0).bind fun t256 => (if 0 ≤ x1 then (if x1 ≤ (t256.length : Int) then ((bureauref03_Bytes.f k x3).bind fun t263 => ((bureauref03_joined.f k (t256.take (x1 : Int).toNat) t263).bind fun t266 => (if 0 ≤ x2 then (if x2 ≤ (t256.length : Int) then ((bureauref03_joined.f k t266 (t256.drop (x2 : Int).toNat)).bind fun t273 => ((bureauref03_Pack.f k t273).bind fun t276 => (some (t276, 0)))) else (none)) else (none)))) else (none)) else (none))))))
def bureauref03_Splice.f (k : Nat) (l0 : List (S100)) (a1 : Int) (a2 : Int) (l3 : List (S100)) : Option ((List (S100)) × Int) := (bureauref03_within.f k l0 a1 a2).bind fun t252 => (if t252 = true then ((bureauref03_Good.f k l3).bind fun t253 => (bureauref03_Splice.j0 k l0 a1 a2 l3 (!t253))) else (bureauref03_Splice.j0 k l0 a1 a2 l3 true))
def bureauref03_Splice.T6 : Bool × List (List Nat × List Nat) := (true, [([], []), ([], []), ([0, 1], [0, 1]), ([], []), ([3], [3]), ([2, 4, 4], [2, 4]), ([], []), ([], []), ([6, 7], [6, 7]), ([5, 8, 5], [5, 8]), ([9, 9], [9]), ([10, 10, 0, 1, 2, 3, 4, 5, 6, 7, 8, 9, 10], [10]), ([11, 0, 1, 2, 3, 4, 5, 6, 7, 8, 9, 10, 11], [])])
def bureauref03_Splice.B6 : List Nat := [0, 0, 3, 0, 8, 31, 0, 0, 192, 511, 1023, 2047, 4095]
theorem bureauref03_Splice.tab6 : rtab .any (opsOf Try.f41 6) = bureauref03_Splice.T6 := by kernel_rfl
theorem bureauref03_Splice.bits6 : waitsOk bureauref03_Splice.T6.2 bureauref03_Splice.B6 = true := by kernel_rfl
set_option maxHeartbeats 8000000 in
set_option maxRecDepth 100000 in
theorem bureauref03_Splice.calls (k : Nat) (A0 : Option Addr) (c0 : Nat) (l0 : List (S100)) (a1 : Int) (a2 : Int) (A3 : Option Addr) (c3 : Nat) (l3 : List (S100)) (r1 : List (S100)) (r2 : Int) (w : World) (hr0 : Kd.C k100 w A0 l0.length l0) (hc0 : l0.length ≤ c0) (hr3 : Kd.C k100 w A3 l3.length l3) (hc3 : l3.length ≤ c3) (h : bureauref03_Splice.f k l0 a1 a2 l3 = some (r1, r2)) :
    Calls Try.prog 41 #[.slice A0 l0.length c0, .int .i64 a1, .int .i64 a2, .slice A3 l3.length c3] w fun e w' => ∃ v0_ : Value, e = .returned (.tuple #[v0_, .int .i64 r2]) ∧ Kd.R k100 100 w' w.heap.size (fun _ => True) v0_ r1 ∧ Below w.heap.size w w' := by
  have HR0 := Aside0.mk hr0
  have HC0 := Aside0.mk hc0
  clear hr0 hc0
  have HR3 := Aside0.mk hr3
  have HC3 := Aside0.mk hc3
  clear hr3 hc3
  have HB := Aside0.mk (Below.refl w.heap.size w)
  have H : ((bureauref03_within.f k l0 a1 a2).bind fun t252 => (if t252 = true then ((bureauref03_Good.f k l3).bind fun t253 => (bureauref03_Splice.j0 k l0 a1 a2 l3 (!t253))) else (bureauref03_Splice.j0 k l0 a1 a2 l3 true))) = some (r1, r2) := h
  clear h
  have HC5 := Aside0.mk H
  clear H
  go_enter Try.func41, Try.ntmps41
  go_upto_region 1 with (fail)
  go_cut [20] (fun v20 wc => ∃ (kq : Nat) (x20_4 : Bool), v20 = .bool x20_4 ∧ Aside0 (bureauref03_Splice.j0 kq l0 a1 a2 l3 x20_4 = some (r1, r2)) ∧ Aside0 (kq ≤ k) ∧ Aside0 (Below w.heap.size w wc))
  case first =>
    have H := HC5.out
    clear HC5
    replace H := Option.bind_eq_some_iff.mp H
    obtain ⟨t252, A60, H⟩ := H
    replace H : (if t252 = true then ((bureauref03_Good.f k l3).bind fun t253 => (bureauref03_Splice.j0 k l0 a1 a2 l3 (!t253))) else (bureauref03_Splice.j0 k l0 a1 a2 l3 true)) = some (r1, r2) := H
    have A6 := Aside0.mk A60
    clear A60
    by_cases c7 : t252 = true
    · subst c7
      have H1 : ((bureauref03_Good.f k l3).bind fun t253 => (bureauref03_Splice.j0 k l0 a1 a2 l3 (!t253))) = some (r1, r2) := by rw [if_pos rfl] at H; exact H
      clear H
      have H := H1
      clear H1
      replace H := Option.bind_eq_some_iff.mp H
      obtain ⟨t253, A80, H⟩ := H
      replace H : (bureauref03_Splice.j0 k l0 a1 a2 l3 (!t253)) = some (r1, r2) := H
      have A8 := Aside0.mk A80
      clear A80
      have H' := Aside0.mk H
      clear H
      go_wp2_with (first | ((with_reducible refine gate_callee (f := 87) rfl ?_); refine goesL_ (some 14) rfl rfl Try.func87 (by kernel_rfl) rfl #[.slice A0 l0.length c0, .int .i64 a1, .int .i64 a2] rfl (by (try simp only [List.map_toArray, List.map_cons, List.map_nil]); first | done | rfl | (simp only [List.length_drop, List.length_take]; rfl)) ?_; (with_reducible refine (bureauref03_within.calls k _ _ l0 a1 a2 true _ ?side1 ?side2 A6.out).mono ?_); (case side1 => repeat (first | exact (Kd.C_below HR0.out HB.out) | (with_reducible refine Kd.C_alloc ?_ _) | (with_reducible refine Kd.C_drewN ?_ _) | (with_reducible refine Kd.C_drew ?_))); (case side2 => exact HC0.out); rintro e w9 ⟨rfl, hb⟩; refine ⟨_, rfl, ?_⟩; have n0_ := Aside0.mk (below_step (by repeat (first | (with_reducible first | exact HB.out | apply below_alloc | apply pw_below_drewN | apply below_drew1) | exact HB.out)) hb); clear HB; have HB := n0_; clear n0_; (try clear hb); (try clear hb2); (try clear hk); (try clear hi)) | (go_at_call 29; (with_reducible refine (bureauref03_Good.calls k _ _ l3 t253 _ ?side1 ?side2 A8.out).mono ?_); (case side1 => repeat (first | exact (Kd.C_below HR3.out HB.out) | (with_reducible refine Kd.C_alloc ?_ _) | (with_reducible refine Kd.C_drewN ?_ _) | (with_reducible refine Kd.C_drew ?_))); (case side2 => exact HC3.out); rintro e w10 ⟨rfl, hb⟩; have n0_ := Aside0.mk (below_step (by repeat (first | (with_reducible first | exact HB.out | apply below_alloc | apply pw_below_drewN | apply below_drew1) | exact HB.out)) hb); clear HB; have HB := n0_; clear n0_; (try clear hb); (try clear hb2); (try clear hk); (try clear hi)))
      go_meet
      case rel => exact ⟨_, (!t253), (by first | rfl | (simp; done) | (simp [*]; done)), H', ⟨by first | omega | exact Nat.le_refl _⟩, ⟨by repeat (first | (with_reducible first | exact HB.out | apply below_alloc | apply pw_below_drewN | apply below_drew1) | exact HB.out)⟩⟩
    · replace c7 := Bool.eq_false_iff.mpr c7
      subst c7
      have H1 : (bureauref03_Splice.j0 k l0 a1 a2 l3 true) = some (r1, r2) := by rw [if_neg (show ¬ (false = true) by decide)] at H; exact H
      clear H
      have H := H1
      clear H1
      have H' := Aside0.mk H
      clear H
      go_wp2_with (first | ((with_reducible refine gate_callee (f := 87) rfl ?_); refine goesL_ (some 14) rfl rfl Try.func87 (by kernel_rfl) rfl #[.slice A0 l0.length c0, .int .i64 a1, .int .i64 a2] rfl (by (try simp only [List.map_toArray, List.map_cons, List.map_nil]); first | done | rfl | (simp only [List.length_drop, List.length_take]; rfl)) ?_; (with_reducible refine (bureauref03_within.calls k _ _ l0 a1 a2 false _ ?side1 ?side2 A6.out).mono ?_); (case side1 => repeat (first | exact (Kd.C_below HR0.out HB.out) | (with_reducible refine Kd.C_alloc ?_ _) | (with_reducible refine Kd.C_drewN ?_ _) | (with_reducible refine Kd.C_drew ?_))); (case side2 => exact HC0.out); rintro e w11 ⟨rfl, hb⟩; refine ⟨_, rfl, ?_⟩; have n0_ := Aside0.mk (below_step (by repeat (first | (with_reducible first | exact HB.out | apply below_alloc | apply pw_below_drewN | apply below_drew1) | exact HB.out)) hb); clear HB; have HB := n0_; clear n0_; (try clear hb); (try clear hb2); (try clear hk); (try clear hi)))
      go_meet
      case rel => exact ⟨_, (true), (by first | rfl | (simp; done) | (simp [*]; done)), H', ⟨by first | omega | exact Nat.le_refl _⟩, ⟨by repeat (first | (with_reducible first | exact HB.out | apply below_alloc | apply pw_below_drewN | apply below_drew1) | exact HB.out)⟩⟩
  case rest =>
    clear HC5
    try clear p2
    try clear c3
    try clear c4
    try clear c7
    try clear c8
    obtain ⟨kq, x20_4, rfl, HA, HJ4, HB⟩ := hcut
    cases kq with
    | zero => exact absurd HA.out (by simp [bureauref03_Splice.j0])
    | succ kj4 =>
      have H := HA.out
      clear HA
      simp only [bureauref03_Splice.j0] at H
      by_cases c12 : x20_4 = true
      · subst c12
        have H1 : (some (([] : List (S100)), 2)) = some (r1, r2) := by rw [if_pos rfl] at H; exact H
        clear H
        have H := H1
        clear H1
        simp only [Option.some.injEq, Prod.mk.injEq] at H
        obtain ⟨rfl, rfl⟩ := H
        go_wp2
        go_ret2
        exact ⟨_, by first | rfl | (simp [errW_none, errW_some] <;> rfl) | (simp [*, errW_none, errW_some] <;> rfl), by first | exact Kd.R_nil _ _ _ _ _ | exact Kd.N_nil _ _ _ _ _ | exact Kd.V_nil _ _ _ _ _ | exact Kd.Q_nil _ _ _ _ _ | exact Kd.S_nil _ _ _ _ _, by repeat (first | (with_reducible first | exact HB.out | apply below_alloc | apply pw_below_drewN | apply below_drew1) | exact HB.out)⟩
      · replace c12 := Bool.eq_false_iff.mpr c12
        subst c12
        have H1 : ((bureauref03_Total.f kj4 l0).bind fun t254 => ((bureauref03_Total.f kj4 l3).bind fun t255 => (if (wrap64 ((wrap64 (t254 - (wrap64 (a2 - a1)))) + t255)) > 4096 then (some (([] : List (S100)), 3)) else ((bureauref03_Bytes.f kj4 l0).bind fun t256 => (if 0 ≤ a1 then (if a1 ≤ (t256.length : Int) then ((bureauref03_Bytes.f kj4 l3).bind fun t263 => ((bureauref03_joined.f kj4 (t256.take (a1 : Int).toNat) t263).bind fun t266 => (if 0 ≤ a2 then (if a2 ≤ (t256.length : Int) then ((bureauref03_joined.f kj4 t266 (t256.drop (a2 : Int).toNat)).bind fun t273 => ((bureauref03_Pack.f kj4 t273).bind fun t276 => (some (t276, 0)))) else (none)) else (none)))) else (none)) else (none)))))) = some (r1, r2) := by rw [if_neg (show ¬ (false = true) by decide)] at H; exact H
        clear H
        have H := H1
        clear H1
        replace H := Option.bind_eq_some_iff.mp H
        obtain ⟨t254, A130, H⟩ := H
        replace H : ((bureauref03_Total.f kj4 l3).bind fun t255 => (if (wrap64 ((wrap64 (t254 - (wrap64 (a2 - a1)))) + t255)) > 4096 then (some (([] : List (S100)), 3)) else ((bureauref03_Bytes.f kj4 l0).bind fun t256 => (if 0 ≤ a1 then (if a1 ≤ (t256.length : Int) then ((bureauref03_Bytes.f kj4 l3).bind fun t263 => ((bureauref03_joined.f kj4 (t256.take (a1 : Int).toNat) t263).bind fun t266 => (if 0 ≤ a2 then (if a2 ≤ (t256.length : Int) then ((bureauref03_joined.f kj4 t266 (t256.drop (a2 : Int).toNat)).bind fun t273 => ((bureauref03_Pack.f kj4 t273).bind fun t276 => (some (t276, 0)))) else (none)) else (none)))) else (none)) else (none))))) = some (r1, r2) := H
        have A13 := Aside0.mk A130
        clear A130
        replace H := Option.bind_eq_some_iff.mp H
        obtain ⟨t255, A140, H⟩ := H
        replace H : (if (wrap64 ((wrap64 (t254 - (wrap64 (a2 - a1)))) + t255)) > 4096 then (some (([] : List (S100)), 3)) else ((bureauref03_Bytes.f kj4 l0).bind fun t256 => (if 0 ≤ a1 then (if a1 ≤ (t256.length : Int) then ((bureauref03_Bytes.f kj4 l3).bind fun t263 => ((bureauref03_joined.f kj4 (t256.take (a1 : Int).toNat) t263).bind fun t266 => (if 0 ≤ a2 then (if a2 ≤ (t256.length : Int) then ((bureauref03_joined.f kj4 t266 (t256.drop (a2 : Int).toNat)).bind fun t273 => ((bureauref03_Pack.f kj4 t273).bind fun t276 => (some (t276, 0)))) else (none)) else (none)))) else (none)) else (none)))) = some (r1, r2) := H
        have A14 := Aside0.mk A140
        clear A140
        by_cases c15 : (wrap64 ((wrap64 (t254 - (wrap64 (a2 - a1)))) + t255)) > 4096
        · rw [if_pos c15] at H
          have c15b0 : decide (4096 < (wrap64 ((wrap64 (t254 - (wrap64 (a2 - a1)))) + t255))) = true := decide_eq_true c15
          clear c15
          simp only [Option.some.injEq, Prod.mk.injEq] at H
          obtain ⟨rfl, rfl⟩ := H
          go_wp2_with (first | ((with_reducible refine gate_callee (f := 31) rfl ?_); refine goesL_ (some 22) rfl rfl Try.func31 (by kernel_rfl) rfl #[.slice A0 l0.length c0] rfl (by (try simp only [List.map_toArray, List.map_cons, List.map_nil]); first | done | rfl | (simp only [List.length_drop, List.length_take]; rfl)) ?_; (with_reducible refine (bureauref03_Total.calls kj4 _ _ l0 t254 _ ?side1 ?side2 A13.out).mono ?_); (case side1 => repeat (first | exact (Kd.C_below HR0.out HB.out) | (with_reducible refine Kd.C_alloc ?_ _) | (with_reducible refine Kd.C_drewN ?_ _) | (with_reducible refine Kd.C_drew ?_))); (case side2 => exact HC0.out); rintro e w' ⟨rfl, ⟨nd, rfl⟩⟩; refine ⟨_, rfl, ?_⟩) | ((with_reducible refine gate_callee (f := 31) rfl ?_); refine goesL_ (some 28) rfl rfl Try.func31 (by kernel_rfl) rfl #[.slice A3 l3.length c3] rfl (by (try simp only [List.map_toArray, List.map_cons, List.map_nil]); first | done | rfl | (simp only [List.length_drop, List.length_take]; rfl)) ?_; (with_reducible refine (bureauref03_Total.calls kj4 _ _ l3 t255 _ ?side1 ?side2 A14.out).mono ?_); (case side1 => repeat (first | exact (Kd.C_below HR3.out (by repeat (first | (with_reducible first | exact HB.out | apply below_alloc | apply pw_below_drewN | apply below_drew1) | exact HB.out))) | (with_reducible refine Kd.C_alloc ?_ _) | (with_reducible refine Kd.C_drewN ?_ _) | (with_reducible refine Kd.C_drew ?_))); (case side2 => exact HC3.out); rintro e w' ⟨rfl, ⟨nd, rfl⟩⟩; refine ⟨_, rfl, ?_⟩))
          go_ret2
          exact ⟨_, by first | rfl | (simp [errW_none, errW_some] <;> rfl) | (simp [*, errW_none, errW_some] <;> rfl), by first | exact Kd.R_nil _ _ _ _ _ | exact Kd.N_nil _ _ _ _ _ | exact Kd.V_nil _ _ _ _ _ | exact Kd.Q_nil _ _ _ _ _ | exact Kd.S_nil _ _ _ _ _, by repeat (first | (with_reducible first | exact HB.out | apply below_alloc | apply pw_below_drewN | apply below_drew1) | exact HB.out)⟩
        · rw [if_neg c15] at H
          have c15b0 : decide (4096 < (wrap64 ((wrap64 (t254 - (wrap64 (a2 - a1)))) + t255))) = false := decide_eq_false c15
          clear c15
          replace H := Option.bind_eq_some_iff.mp H
          obtain ⟨t256, A160, H⟩ := H
          replace H : (if 0 ≤ a1 then (if a1 ≤ (t256.length : Int) then ((bureauref03_Bytes.f kj4 l3).bind fun t263 => ((bureauref03_joined.f kj4 (t256.take (a1 : Int).toNat) t263).bind fun t266 => (if 0 ≤ a2 then (if a2 ≤ (t256.length : Int) then ((bureauref03_joined.f kj4 t266 (t256.drop (a2 : Int).toNat)).bind fun t273 => ((bureauref03_Pack.f kj4 t273).bind fun t276 => (some (t276, 0)))) else (none)) else (none)))) else (none)) else (none)) = some (r1, r2) := H
          have A16 := Aside0.mk A160
          clear A160
          by_cases c17 : 0 ≤ a1
          · rw [if_pos c17] at H
            have c17b0 := eq_true c17
            have c17b1 : decide (0 ≤ a1) = true := decide_eq_true c17
            clear c17
            by_cases c18 : a1 ≤ (t256.length : Int)
            · rw [if_pos c18] at H
              have c18b0 := eq_true c18
              have c18b1 : decide (a1 ≤ (t256.length : Int)) = true := decide_eq_true c18
              clear c18
              obtain ⟨y259, hy259⟩ : ∃ y_ : List Int, y_ = (t256.take (a1 : Int).toNat) := ⟨_, rfl⟩
              replace H : ((bureauref03_Bytes.f kj4 l3).bind fun t263 => ((bureauref03_joined.f kj4 y259 t263).bind fun t266 => (if 0 ≤ a2 then (if a2 ≤ (t256.length : Int) then ((bureauref03_joined.f kj4 t266 (t256.drop (a2 : Int).toNat)).bind fun t273 => ((bureauref03_Pack.f kj4 t273).bind fun t276 => (some (t276, 0)))) else (none)) else (none)))) = some (r1, r2) := by first | (rw [hy259]; with_reducible exact H) | (have H2_ := (Option.bind_some _ _).symm.trans H; rw [hy259]; with_reducible exact H2_) | (have H2_ := (Option.bind_some _ _).symm.trans H; with_reducible exact H2_) | with_reducible exact H | (rw [hy259]; exact H) | exact H
              have Ny259 := Aside0.mk hy259
              clear hy259
              replace H := Option.bind_eq_some_iff.mp H
              obtain ⟨t263, A190, H⟩ := H
              replace H : ((bureauref03_joined.f kj4 y259 t263).bind fun t266 => (if 0 ≤ a2 then (if a2 ≤ (t256.length : Int) then ((bureauref03_joined.f kj4 t266 (t256.drop (a2 : Int).toNat)).bind fun t273 => ((bureauref03_Pack.f kj4 t273).bind fun t276 => (some (t276, 0)))) else (none)) else (none))) = some (r1, r2) := H
              have A19 := Aside0.mk A190
              clear A190
              replace H := Option.bind_eq_some_iff.mp H
              obtain ⟨t266, A200, H⟩ := H
              replace H : (if 0 ≤ a2 then (if a2 ≤ (t256.length : Int) then ((bureauref03_joined.f kj4 t266 (t256.drop (a2 : Int).toNat)).bind fun t273 => ((bureauref03_Pack.f kj4 t273).bind fun t276 => (some (t276, 0)))) else (none)) else (none)) = some (r1, r2) := H
              have A20 := Aside0.mk A200
              clear A200
              by_cases c21 : 0 ≤ a2
              · rw [if_pos c21] at H
                have c21b0 := eq_true c21
                have c21b1 : decide (0 ≤ a2) = true := decide_eq_true c21
                clear c21
                by_cases c22 : a2 ≤ (t256.length : Int)
                · rw [if_pos c22] at H
                  have c22b0 := eq_true c22
                  have c22b1 : decide (a2 ≤ (t256.length : Int)) = true := decide_eq_true c22
                  clear c22
                  obtain ⟨y269, hy269⟩ : ∃ y_ : List Int, y_ = (t256.drop (a2 : Int).toNat) := ⟨_, rfl⟩
                  replace H : ((bureauref03_joined.f kj4 t266 y269).bind fun t273 => ((bureauref03_Pack.f kj4 t273).bind fun t276 => (some (t276, 0)))) = some (r1, r2) := by first | (rw [hy269]; with_reducible exact H) | (have H2_ := (Option.bind_some _ _).symm.trans H; rw [hy269]; with_reducible exact H2_) | (have H2_ := (Option.bind_some _ _).symm.trans H; with_reducible exact H2_) | with_reducible exact H | (rw [hy269]; exact H) | exact H
                  have Ny269 := Aside0.mk hy269
                  clear hy269
                  replace H := Option.bind_eq_some_iff.mp H
                  obtain ⟨t273, A230, H⟩ := H
                  replace H : ((bureauref03_Pack.f kj4 t273).bind fun t276 => (some (t276, 0))) = some (r1, r2) := H
                  have A23 := Aside0.mk A230
                  clear A230
                  replace H := Option.bind_eq_some_iff.mp H
                  obtain ⟨t276, A240, H⟩ := H
                  replace H : (some (t276, 0)) = some (r1, r2) := H
                  have A24 := Aside0.mk A240
                  clear A240
                  simp only [Option.some.injEq, Prod.mk.injEq] at H
                  obtain ⟨rfl, rfl⟩ := H
                  try go_wp2_with (first | ((with_reducible refine gate_callee (f := 31) rfl ?_); refine goesL_ (some 22) rfl rfl Try.func31 (by kernel_rfl) rfl #[.slice A0 l0.length c0] rfl (by (try simp only [List.map_toArray, List.map_cons, List.map_nil]); first | done | rfl | (simp only [List.length_drop, List.length_take]; rfl)) ?_; (with_reducible refine (bureauref03_Total.calls kj4 _ _ l0 t254 _ ?side1 ?side2 A13.out).mono ?_); (case side1 => repeat (first | exact (Kd.C_below HR0.out HB.out) | (with_reducible refine Kd.C_alloc ?_ _) | (with_reducible refine Kd.C_drewN ?_ _) | (with_reducible refine Kd.C_drew ?_))); (case side2 => exact HC0.out); rintro e w' ⟨rfl, ⟨nd, rfl⟩⟩; refine ⟨_, rfl, ?_⟩) | ((with_reducible refine gate_callee (f := 31) rfl ?_); refine goesL_ (some 28) rfl rfl Try.func31 (by kernel_rfl) rfl #[.slice A3 l3.length c3] rfl (by (try simp only [List.map_toArray, List.map_cons, List.map_nil]); first | done | rfl | (simp only [List.length_drop, List.length_take]; rfl)) ?_; (with_reducible refine (bureauref03_Total.calls kj4 _ _ l3 t255 _ ?side1 ?side2 A14.out).mono ?_); (case side1 => repeat (first | exact (Kd.C_below HR3.out (by repeat (first | (with_reducible first | exact HB.out | apply below_alloc | apply pw_below_drewN | apply below_drew1) | exact HB.out))) | (with_reducible refine Kd.C_alloc ?_ _) | (with_reducible refine Kd.C_drewN ?_ _) | (with_reducible refine Kd.C_drew ?_))); (case side2 => exact HC3.out); rintro e w' ⟨rfl, ⟨nd, rfl⟩⟩; refine ⟨_, rfl, ?_⟩) | ((with_reducible refine gate_callee (f := 84) rfl ?_); refine goesL_ (some 32) rfl rfl Try.func84 (by kernel_rfl) rfl #[.slice A0 l0.length c0] rfl (by (try simp only [List.map_toArray, List.map_cons, List.map_nil]); first | done | rfl | (simp only [List.length_drop, List.length_take]; rfl)) ?_; (with_reducible refine (bureauref03_Bytes.calls kj4 _ _ l0 t256 _ ?side1 ?side2 A16.out).mono ?_); (case side1 => repeat (first | exact (Kd.C_below HR0.out (by repeat (first | (with_reducible first | exact HB.out | apply below_alloc | apply pw_below_drewN | apply below_drew1) | exact HB.out))) | (with_reducible refine Kd.C_alloc ?_ _) | (with_reducible refine Kd.C_drewN ?_ _) | (with_reducible refine Kd.C_drew ?_))); (case side2 => exact HC0.out); rintro e w25 ⟨v257, rfl, ho0, hb⟩; refine ⟨_, rfl, ?_⟩; have n0_ := Aside0.mk (Kd.R_lower ho0 (below_size (by repeat (first | (with_reducible first | exact HB.out | apply below_alloc | apply pw_below_drewN | apply below_drew1) | exact HB.out)))); have n1_ := Aside0.mk (below_step (by repeat (first | (with_reducible first | exact HB.out | apply below_alloc | apply pw_below_drewN | apply below_drew1) | exact HB.out)) hb); clear HB; have HO258 := n0_; have HB := n1_; clear n0_ n1_; (try clear hb); (try clear hb2); (try clear hk); (try clear hi); (try clear ho0)))
                  have n0_ := Aside0.mk (Kd.R_drew HO258.out)
                  have n1_ := Aside0.mk (below_drew1 HB.out)
                  clear HO258
                  clear HB
                  have HO258 := n0_
                  have HB := n1_
                  clear n0_ n1_
                  obtain ⟨Ao28, co28, eo28⟩ := Kd.R_slice HO258.out
                  (first | subst eo28 | (injection eo28 with f1_ f2_ f3_; have f4_ := f1_.symm; have f5_ := f3_.symm; clear f1_ f2_ f3_; subst f4_; subst f5_))
                  have q27 : (a1 : Int) ≤ ((t256.length : Int) : Int) := of_decide_eq_true (by first | (with_reducible assumption) | assumption)
                  obtain ⟨i027, hi027, _, hsz27, _⟩ := info_parts info36
                  have hroom27 : t256.length ≤ co28 := (Kd.R_reads' HO258.out).2.1
                  have hC27 : Kd.C (Kd.int .u64) _ Ao28 t256.length t256 := (Kd.R_reads' HO258.out).2.2
                  have hcut27 := cut_to (P := Try.prog) 106 36 .i64 Try.underlying106 hi027 Ao28 t256.length co28 a1 (of_decide_eq_true (by first | (with_reducible assumption) | assumption)) q27 hroom27
                  have hr27 := Kd.C_take (m := (a1 : Int).toNat) hC27 (by omega)
                  have hy27 : y259.length = (a1 : Int).toNat := (by rw [Ny259.out, List.length_take]; omega)
                  rw [← Ny259.out] at hr27
                  rw [← hy27] at hcut27
                  have HR262 := Aside0.mk hr27
                  have HC262 := Aside0.mk (show y259.length ≤ co28 from by omega)
                  clear hr27 hC27 hroom27 hi027 hsz27
                  have KY27 := Aside0.mk hy27
                  clear hy27
                  have KL27 := Aside0.mk (show (a1 : Int).toNat ≤ t256.length from by omega)
                  replace q27 := eq_true q27
                  have q29 : (a2 : Int) ≤ ((t256.length : Int) : Int) := of_decide_eq_true (by first | (with_reducible assumption) | assumption)
                  obtain ⟨i029, hi029, _, hsz29, _⟩ := info_parts info36
                  have hroom29 : t256.length ≤ co28 := (Kd.R_reads' HO258.out).2.1
                  have hC29 : Kd.C (Kd.int .u64) _ Ao28 t256.length t256 := (Kd.R_reads' HO258.out).2.2
                  have q029 : (0 : Int) ≤ (a2 : Int) := of_decide_eq_true (by first | (with_reducible assumption) | assumption)
                  have hcut29 := cut_from (P := Try.prog) 106 36 .i64 Try.underlying106 hi029 1 hsz29 Ao28 t256.length co28 a2 q029 q29
                  have hr29 := Kd.C_drop (m := (a2 : Int).toNat) (c := co28) hC29 (by omega) hroom29
                  obtain ⟨A29, hA29⟩ : ∃ A1, A1 = (if co28 = (a2 : Int).toNat then Ao28 else (Ao28 : Option Addr).map (·.add ((a2 : Int).toNat * 1))) := ⟨_, rfl⟩
                  obtain ⟨c29, hc29⟩ : ∃ c1, c1 = co28 - (a2 : Int).toNat := ⟨_, rfl⟩
                  have hy29 : y269.length = t256.length - (a2 : Int).toNat := (by rw [Ny269.out, List.length_drop] <;> omega)
                  rw [show (t256).drop (a2 : Int).toNat = y269 from Ny269.out.symm] at hr29
                  replace hr29 : Kd.C (Kd.int .u64) _ A29 y269.length y269 := (by rw [hA29]; exact hr29)
                  rw [← hy29, ← hA29, ← hc29] at hcut29
                  have HR272 := Aside0.mk hr29
                  have HC272 := Aside0.mk (show y269.length ≤ c29 from by rw [hy29, hc29]; exact Nat.sub_le_sub_right hroom29 _)
                  clear hr29 hC29 hroom29 hi029 hsz29 hc29
                  have KY29 := Aside0.mk hy29
                  have KA29 := Aside0.mk hA29
                  clear hy29 hA29
                  have KL29 := Aside0.mk (show (a2 : Int).toNat ≤ t256.length from by omega)
                  replace q29 := eq_true q29
                  refine start_ (n := 13) (S := fun w' => True) (ds := []) #[false, false, false, false, false, false, false, false, false, false, false, false, false] (by kernel_rfl) rfl rfl trivial (fun hHeld => ?_); refine with_tabW bureauref03_Splice.tab6 bureauref03_Splice.bits6 (fun HT_ HW_ => ?_)
                  generalize w25.drew = w26 at HO258 HB HR262 HR272 hHeld ⊢
                  refine pure_ (i := 0) (N := some 33) (v := ?_) (a' := ?_) #[true, false, false, false, false, false, false, false, false, false, false, false, false] rfl rfl (any_of HT_.out (by kernel_rfl)) (fun _ _ _ h => h) (Or.inl ⟨by rfl, ?_⟩) ?_ ?_
                  rotate_left
                  · intro w'
                    go_simp
                    with_reducible rfl
                  rotate_left
                  · simp only [Act.put, List.setIfInBounds_toArray, List.set_cons_zero, List.set_cons_succ, i64_w, i32_w]
                    rfl
                  refine pure_ (i := 1) (N := some 34) (v := ?_) (a' := ?_) #[true, true, false, false, false, false, false, false, false, false, false, false, false] rfl rfl (any_of HT_.out (by kernel_rfl)) (fun _ _ _ h => h) (Or.inl ⟨by rfl, ?_⟩) ?_ ?_
                  rotate_left
                  · intro w'
                    go_simp
                    with_reducible rfl
                  rotate_left
                  · simp only [Act.put, List.setIfInBounds_toArray, List.set_cons_zero, List.set_cons_succ, i64_w, i32_w]
                    rfl
                  refine pure_ (i := 2) (N := some 35) (v := ?_) (a' := ?_) #[true, true, true, false, false, false, false, false, false, false, false, false, false] rfl rfl (any_of HT_.out (by kernel_rfl)) (fun _ _ _ h => h) (Or.inl ⟨by rfl, ?_⟩) ?_ ?_
                  rotate_left
                  · intro w'
                    go_simp
                    with_reducible rfl
                  rotate_left
                  · simp only [Act.put, List.setIfInBounds_toArray, List.set_cons_zero, List.set_cons_succ, i64_w, i32_w]
                    rfl
                  refine pure_ (i := 3) (N := some 36) (v := ?_) (a' := ?_) #[true, true, true, true, false, false, false, false, false, false, false, false, false] rfl rfl (any_of HT_.out (by kernel_rfl)) (fun _ _ _ h => h) (Or.inl ⟨by rfl, ?_⟩) ?_ ?_
                  rotate_left
                  · intro w'
                    go_simp
                    with_reducible rfl
                  rotate_left
                  · simp only [Act.put, List.setIfInBounds_toArray, List.set_cons_zero, List.set_cons_succ, i64_w, i32_w]
                    rfl
                  refine pure_ (i := 6) (N := some 39) (v := ?_) (a' := ?_) #[true, true, true, true, false, false, true, false, false, false, false, false, false] rfl rfl (any_of HT_.out (by kernel_rfl)) (fun _ _ _ h => h) (Or.inl ⟨by rfl, ?_⟩) ?_ ?_
                  rotate_left
                  · intro w'
                    go_simp
                    with_reducible rfl
                  rotate_left
                  · simp only [Act.put, List.setIfInBounds_toArray, List.set_cons_zero, List.set_cons_succ, i64_w, i32_w]
                    rfl
                  refine pure_ (i := 7) (N := some 40) (v := ?_) (a' := ?_) #[true, true, true, true, false, false, true, true, false, false, false, false, false] rfl rfl (any_of HT_.out (by kernel_rfl)) (fun _ _ _ h => h) (Or.inl ⟨by rfl, ?_⟩) ?_ ?_
                  rotate_left
                  · intro w'
                    go_simp
                    with_reducible rfl
                  rotate_left
                  · simp only [Act.put, List.setIfInBounds_toArray, List.set_cons_zero, List.set_cons_succ, i64_w, i32_w]
                    rfl
                  refine pure_ (i := 8) (N := some 41) (v := ?_) (a' := ?_) #[true, true, true, true, false, false, true, true, true, false, false, false, false] rfl rfl (any_of HT_.out (by kernel_rfl)) (fun _ _ _ h => h) (Or.inl ⟨by rfl, ?_⟩) ?_ ?_
                  rotate_left
                  · intro w'
                    go_simp
                    with_reducible rfl
                  rotate_left
                  · simp only [Act.put, List.setIfInBounds_toArray, List.set_cons_zero, List.set_cons_succ, i64_w, i32_w]
                    rfl
                  refine one_ (i := 4) (N := some 37) #[true, true, true, true, true, false, true, true, true, false, false, false, false] rfl rfl (one_of HT_.out (by kernel_rfl)) (by decide) (fun K hK => ?_)
                  refine goes_ Try.func84 (by kernel_rfl) rfl #[.slice A3 l3.length c3] (by rfl) rfl rfl (by (try simp only [List.map_toArray, List.map_cons, List.map_nil]); first | done | rfl | (simp only [List.length_drop, List.length_take]; rfl)) ?_
                  with_reducible refine (bureauref03_Bytes.calls kj4 _ _ l3 t263 _ ?side1 ?side2 A19.out).mono ?_
                  (case side1 => repeat (first | exact (Kd.C_below HR3.out HB.out) | (with_reducible refine Kd.C_alloc ?_ _) | (with_reducible refine Kd.C_drewN ?_ _) | (with_reducible refine Kd.C_drew ?_)))
                  (case side2 => exact HC3.out)
                  rintro e w30 ⟨v264, rfl, ho0, hb⟩
                  refine ⟨_, rfl, ?_⟩
                  have n0_ := Aside0.mk (Kd.R_elder' (by (with_reducible repeat (first | apply Kd.R_alloc | apply Kd.R_drewN | apply Kd.R_drew)); exact HO258.out) (Kd.R_base ho0) hb)
                  have n1_ := Aside0.mk (Kd.R_lower (Kd.R_new' ho0 (Kd.R_lt (by (with_reducible repeat (first | apply Kd.R_alloc | apply Kd.R_drewN | apply Kd.R_drew)); exact HO258.out))) (below_size (by repeat (first | (with_reducible first | exact HB.out | apply below_alloc | apply pw_below_drewN | apply below_drew1) | exact HB.out))))
                  have n2_ := Aside0.mk (Kd.C_below (by repeat (first | (with_reducible exact HR262.out) | (with_reducible refine Kd.C_alloc ?_ _) | (with_reducible refine Kd.C_drewN ?_ _) | (with_reducible refine Kd.C_drew ?_) | exact HR262.out)) hb)
                  have n3_ := Aside0.mk (Kd.C_below (by repeat (first | (with_reducible exact HR272.out) | (with_reducible refine Kd.C_alloc ?_ _) | (with_reducible refine Kd.C_drewN ?_ _) | (with_reducible refine Kd.C_drew ?_) | exact HR272.out)) hb)
                  have n4_ := Aside0.mk (below_step (by repeat (first | (with_reducible first | exact HB.out | apply below_alloc | apply pw_below_drewN | apply below_drew1) | exact HB.out)) hb)
                  clear HO258
                  clear HR262
                  clear HR272
                  clear HB
                  have HO258 := n0_
                  have HO265 := n1_
                  have HR262 := n2_
                  have HR272 := n3_
                  have HB := n4_
                  clear n0_ n1_ n2_ n3_ n4_
                  (try clear hb)
                  (try clear hb2)
                  (try clear hk)
                  (try clear hi)
                  (try clear ho0)
                  obtain ⟨Ao31, co31, eo31⟩ := Kd.R_slice HO265.out
                  (first | subst eo31 | (injection eo31 with f1_ f2_ f3_; have f4_ := f1_.symm; have f5_ := f3_.symm; clear f1_ f2_ f3_; subst f4_; subst f5_))
                  refine hK.out _ _ trivial (fun hHeld => ?_)
                  clear hK K
                  refine norm_ (a' := ?_) ?_ ?_
                  rotate_left
                  · show Act.put _ (some 37) _ = _
                    simp only [Act.put, List.setIfInBounds_toArray, List.set_cons_zero, List.set_cons_succ, i64_w, i32_w]
                    rfl
                  refine one_ (i := 5) (N := some 38) #[true, true, true, true, true, true, true, true, true, false, false, false, false] rfl rfl (one_of HT_.out (by kernel_rfl)) (by decide) (fun K hK => ?_)
                  refine goes_ Try.func94 (by kernel_rfl) rfl #[.slice Ao28 y259.length co28, .slice Ao31 t263.length co31] (by rfl) rfl rfl (by (try simp only [List.map_toArray, List.map_cons, List.map_nil]); first | done | rfl | (simp only [List.length_drop, List.length_take]; rfl)) ?_
                  with_reducible refine (bureauref03_joined.calls kj4 _ _ y259 _ _ t263 t266 _ ?side1 ?side2 ?side3 ?side4 A20.out).mono ?_
                  (case side1 => repeat (first | exact (by repeat (first | (with_reducible exact HR262.out) | (with_reducible refine Kd.C_alloc ?_ _) | (with_reducible refine Kd.C_drewN ?_ _) | (with_reducible refine Kd.C_drew ?_) | exact HR262.out)) | (with_reducible refine Kd.C_alloc ?_ _) | (with_reducible refine Kd.C_drewN ?_ _) | (with_reducible refine Kd.C_drew ?_)))
                  (case side2 => exact HC262.out)
                  (case side3 => repeat (first | exact (Kd.R_reads' HO265.out).2.2 | (with_reducible refine Kd.C_alloc ?_ _) | (with_reducible refine Kd.C_drewN ?_ _) | (with_reducible refine Kd.C_drew ?_)))
                  (case side4 => exact (Kd.R_reads' HO265.out).2.1)
                  rintro e w32 ⟨v267, rfl, ho0, hb⟩
                  refine ⟨_, rfl, ?_⟩
                  have n0_ := Aside0.mk (Kd.R_elder' (by (with_reducible repeat (first | apply Kd.R_alloc | apply Kd.R_drewN | apply Kd.R_drew)); exact HO258.out) (Kd.R_base ho0) hb)
                  have n1_ := Aside0.mk (Kd.R_elder' (by (with_reducible repeat (first | apply Kd.R_alloc | apply Kd.R_drewN | apply Kd.R_drew)); exact HO265.out) (Kd.R_base ho0) hb)
                  have n2_ := Aside0.mk (Kd.R_lower (Kd.R_new' (Kd.R_new' ho0 (Kd.R_lt (by (with_reducible repeat (first | apply Kd.R_alloc | apply Kd.R_drewN | apply Kd.R_drew)); exact HO258.out))) (Kd.R_lt (by (with_reducible repeat (first | apply Kd.R_alloc | apply Kd.R_drewN | apply Kd.R_drew)); exact HO265.out))) (below_size (by repeat (first | (with_reducible first | exact HB.out | apply below_alloc | apply pw_below_drewN | apply below_drew1) | exact HB.out))))
                  have n3_ := Aside0.mk (Kd.C_below (by repeat (first | (with_reducible exact HR262.out) | (with_reducible refine Kd.C_alloc ?_ _) | (with_reducible refine Kd.C_drewN ?_ _) | (with_reducible refine Kd.C_drew ?_) | exact HR262.out)) hb)
                  have n4_ := Aside0.mk (Kd.C_below (by repeat (first | (with_reducible exact HR272.out) | (with_reducible refine Kd.C_alloc ?_ _) | (with_reducible refine Kd.C_drewN ?_ _) | (with_reducible refine Kd.C_drew ?_) | exact HR272.out)) hb)
                  have n5_ := Aside0.mk (below_step (by repeat (first | (with_reducible first | exact HB.out | apply below_alloc | apply pw_below_drewN | apply below_drew1) | exact HB.out)) hb)
                  clear HO258
                  clear HO265
                  clear HR262
                  clear HR272
                  clear HB
                  have HO258 := n0_
                  have HO265 := n1_
                  have HO268 := n2_
                  have HR262 := n3_
                  have HR272 := n4_
                  have HB := n5_
                  clear n0_ n1_ n2_ n3_ n4_ n5_
                  (try clear hb)
                  (try clear hb2)
                  (try clear hk)
                  (try clear hi)
                  (try clear ho0)
                  obtain ⟨Ao33, co33, eo33⟩ := Kd.R_slice HO268.out
                  (first | subst eo33 | (injection eo33 with f1_ f2_ f3_; have f4_ := f1_.symm; have f5_ := f3_.symm; clear f1_ f2_ f3_; subst f4_; subst f5_))
                  refine hK.out _ _ trivial (fun hHeld => ?_)
                  clear hK K
                  refine norm_ (a' := ?_) ?_ ?_
                  rotate_left
                  · show Act.put _ (some 38) _ = _
                    simp only [Act.put, List.setIfInBounds_toArray, List.set_cons_zero, List.set_cons_succ, i64_w, i32_w]
                    rfl
                  refine one_ (i := 9) (N := some 42) #[true, true, true, true, true, true, true, true, true, true, false, false, false] rfl rfl (one_of HT_.out (by kernel_rfl)) (by decide) (fun K hK => ?_)
                  refine goes_ Try.func94 (by kernel_rfl) rfl #[.slice Ao33 t266.length co33, .slice A29 y269.length c29] (by rfl) rfl rfl (by (try simp only [List.map_toArray, List.map_cons, List.map_nil]); first | done | rfl | (simp only [List.length_drop, List.length_take]; rfl)) ?_
                  with_reducible refine (bureauref03_joined.calls kj4 _ _ t266 _ _ y269 t273 _ ?side1 ?side2 ?side3 ?side4 A23.out).mono ?_
                  (case side1 => repeat (first | exact (Kd.R_reads' HO268.out).2.2 | (with_reducible refine Kd.C_alloc ?_ _) | (with_reducible refine Kd.C_drewN ?_ _) | (with_reducible refine Kd.C_drew ?_)))
                  (case side2 => exact (Kd.R_reads' HO268.out).2.1)
                  (case side3 => repeat (first | exact (by repeat (first | (with_reducible exact HR272.out) | (with_reducible refine Kd.C_alloc ?_ _) | (with_reducible refine Kd.C_drewN ?_ _) | (with_reducible refine Kd.C_drew ?_) | exact HR272.out)) | (with_reducible refine Kd.C_alloc ?_ _) | (with_reducible refine Kd.C_drewN ?_ _) | (with_reducible refine Kd.C_drew ?_)))
                  (case side4 => exact HC272.out)
                  rintro e w34 ⟨v274, rfl, ho0, hb⟩
                  refine ⟨_, rfl, ?_⟩
                  have n0_ := Aside0.mk (Kd.R_elder' (by (with_reducible repeat (first | apply Kd.R_alloc | apply Kd.R_drewN | apply Kd.R_drew)); exact HO258.out) (Kd.R_base ho0) hb)
                  have n1_ := Aside0.mk (Kd.R_elder' (by (with_reducible repeat (first | apply Kd.R_alloc | apply Kd.R_drewN | apply Kd.R_drew)); exact HO265.out) (Kd.R_base ho0) hb)
                  have n2_ := Aside0.mk (Kd.R_elder' (by (with_reducible repeat (first | apply Kd.R_alloc | apply Kd.R_drewN | apply Kd.R_drew)); exact HO268.out) (Kd.R_base ho0) hb)
                  have n3_ := Aside0.mk (Kd.R_lower (Kd.R_new' (Kd.R_new' (Kd.R_new' ho0 (Kd.R_lt (by (with_reducible repeat (first | apply Kd.R_alloc | apply Kd.R_drewN | apply Kd.R_drew)); exact HO258.out))) (Kd.R_lt (by (with_reducible repeat (first | apply Kd.R_alloc | apply Kd.R_drewN | apply Kd.R_drew)); exact HO265.out))) (Kd.R_lt (by (with_reducible repeat (first | apply Kd.R_alloc | apply Kd.R_drewN | apply Kd.R_drew)); exact HO268.out))) (below_size (by repeat (first | (with_reducible first | exact HB.out | apply below_alloc | apply pw_below_drewN | apply below_drew1) | exact HB.out))))
                  have n4_ := Aside0.mk (Kd.C_below (by repeat (first | (with_reducible exact HR262.out) | (with_reducible refine Kd.C_alloc ?_ _) | (with_reducible refine Kd.C_drewN ?_ _) | (with_reducible refine Kd.C_drew ?_) | exact HR262.out)) hb)
                  have n5_ := Aside0.mk (Kd.C_below (by repeat (first | (with_reducible exact HR272.out) | (with_reducible refine Kd.C_alloc ?_ _) | (with_reducible refine Kd.C_drewN ?_ _) | (with_reducible refine Kd.C_drew ?_) | exact HR272.out)) hb)
                  have n6_ := Aside0.mk (below_step (by repeat (first | (with_reducible first | exact HB.out | apply below_alloc | apply pw_below_drewN | apply below_drew1) | exact HB.out)) hb)
                  clear HO258
                  clear HO265
                  clear HO268
                  clear HR262
                  clear HR272
                  clear HB
                  have HO258 := n0_
                  have HO265 := n1_
                  have HO268 := n2_
                  have HO275 := n3_
                  have HR262 := n4_
                  have HR272 := n5_
                  have HB := n6_
                  clear n0_ n1_ n2_ n3_ n4_ n5_ n6_
                  (try clear hb)
                  (try clear hb2)
                  (try clear hk)
                  (try clear hi)
                  (try clear ho0)
                  obtain ⟨Ao35, co35, eo35⟩ := Kd.R_slice HO275.out
                  (first | subst eo35 | (injection eo35 with f1_ f2_ f3_; have f4_ := f1_.symm; have f5_ := f3_.symm; clear f1_ f2_ f3_; subst f4_; subst f5_))
                  refine hK.out _ _ trivial (fun hHeld => ?_)
                  clear hK K
                  refine norm_ (a' := ?_) ?_ ?_
                  rotate_left
                  · show Act.put _ (some 42) _ = _
                    simp only [Act.put, List.setIfInBounds_toArray, List.set_cons_zero, List.set_cons_succ, i64_w, i32_w]
                    rfl
                  refine one_ (i := 10) (N := some 43) #[true, true, true, true, true, true, true, true, true, true, true, false, false] rfl rfl (one_of HT_.out (by kernel_rfl)) (by decide) (fun K hK => ?_)
                  refine goes_ Try.func83 (by kernel_rfl) rfl #[.slice Ao35 t273.length co35] (by rfl) rfl rfl (by (try simp only [List.map_toArray, List.map_cons, List.map_nil]); first | done | rfl | (simp only [List.length_drop, List.length_take]; rfl)) ?_
                  with_reducible refine (bureauref03_Pack.calls kj4 _ _ t273 t276 _ ?side1 ?side2 A24.out).mono ?_
                  (case side1 => repeat (first | exact (Kd.R_reads' HO275.out).2.2 | (with_reducible refine Kd.C_alloc ?_ _) | (with_reducible refine Kd.C_drewN ?_ _) | (with_reducible refine Kd.C_drew ?_)))
                  (case side2 => exact (Kd.R_reads' HO275.out).2.1)
                  rintro e w36 ⟨v277, rfl, ho0, hb⟩
                  refine ⟨_, rfl, ?_⟩
                  have n0_ := Aside0.mk (Kd.R_below (by (with_reducible repeat (first | apply Kd.R_alloc | apply Kd.R_drewN | apply Kd.R_drew)); exact HO258.out) hb)
                  have n1_ := Aside0.mk (Kd.R_below (by (with_reducible repeat (first | apply Kd.R_alloc | apply Kd.R_drewN | apply Kd.R_drew)); exact HO265.out) hb)
                  have n2_ := Aside0.mk (Kd.R_below (by (with_reducible repeat (first | apply Kd.R_alloc | apply Kd.R_drewN | apply Kd.R_drew)); exact HO268.out) hb)
                  have n3_ := Aside0.mk (Kd.R_below (by (with_reducible repeat (first | apply Kd.R_alloc | apply Kd.R_drewN | apply Kd.R_drew)); exact HO275.out) hb)
                  have n4_ := Aside0.mk (Kd.R_lower ho0 (below_size (by repeat (first | (with_reducible first | exact HB.out | apply below_alloc | apply pw_below_drewN | apply below_drew1) | exact HB.out))))
                  have n5_ := Aside0.mk (Kd.C_below (by repeat (first | (with_reducible exact HR262.out) | (with_reducible refine Kd.C_alloc ?_ _) | (with_reducible refine Kd.C_drewN ?_ _) | (with_reducible refine Kd.C_drew ?_) | exact HR262.out)) hb)
                  have n6_ := Aside0.mk (Kd.C_below (by repeat (first | (with_reducible exact HR272.out) | (with_reducible refine Kd.C_alloc ?_ _) | (with_reducible refine Kd.C_drewN ?_ _) | (with_reducible refine Kd.C_drew ?_) | exact HR272.out)) hb)
                  have n7_ := Aside0.mk (below_step (by repeat (first | (with_reducible first | exact HB.out | apply below_alloc | apply pw_below_drewN | apply below_drew1) | exact HB.out)) hb)
                  clear HO258
                  clear HO265
                  clear HO268
                  clear HO275
                  clear HR262
                  clear HR272
                  clear HB
                  have HO258 := n0_
                  have HO265 := n1_
                  have HO268 := n2_
                  have HO275 := n3_
                  have HO278 := n4_
                  have HR262 := n5_
                  have HR272 := n6_
                  have HB := n7_
                  clear n0_ n1_ n2_ n3_ n4_ n5_ n6_ n7_
                  (try clear hb)
                  (try clear hb2)
                  (try clear hk)
                  (try clear hi)
                  (try clear ho0)
                  refine hK.out _ _ trivial (fun hHeld => ?_)
                  clear hK K
                  refine norm_ (a' := ?_) ?_ ?_
                  rotate_left
                  · show Act.put _ (some 43) _ = _
                    simp only [Act.put, List.setIfInBounds_toArray, List.set_cons_zero, List.set_cons_succ, i64_w, i32_w]
                    rfl
                  refine pure_ (i := 11) (N := some 8) (v := ?_) (a' := ?_) #[true, true, true, true, true, true, true, true, true, true, true, true, false] rfl rfl (any_of HT_.out (by kernel_rfl)) (fun _ _ _ h => h) (Or.inl ⟨by rfl, ?_⟩) ?_ ?_
                  rotate_left
                  · intro w'
                    go_simp
                    with_reducible rfl
                  rotate_left
                  · simp only [Act.put, List.setIfInBounds_toArray, List.set_cons_zero, List.set_cons_succ, i64_w, i32_w]
                    rfl
                  refine pure_ (i := 12) (N := some 9) (v := ?_) (a' := ?_) #[true, true, true, true, true, true, true, true, true, true, true, true, true] rfl rfl (any_of HT_.out (by kernel_rfl)) (fun _ _ _ h => h) (Or.inl ⟨by rfl, ?_⟩) ?_ ?_
                  rotate_left
                  · intro w'
                    go_simp
                    with_reducible rfl
                  rotate_left
                  · simp only [Act.put, List.setIfInBounds_toArray, List.set_cons_zero, List.set_cons_succ, i64_w, i32_w]
                    rfl
                  refine done_ (done_of HT_.out (by kernel_rfl)) ?_
                  try go_wp2
                  go_ret2
                  exact ⟨_, by first | rfl | (simp [errW_none, errW_some] <;> rfl) | (simp [*, errW_none, errW_some] <;> rfl), by (with_reducible repeat (first | apply Kd.R_alloc | apply Kd.R_drewN | apply Kd.R_drew)); exact HO278.out, by repeat (first | (with_reducible first | exact HB.out | apply below_alloc | apply pw_below_drewN | apply below_drew1) | exact HB.out)⟩
                · rw [if_neg c22] at H
                  exact absurd H (by simp)
              · rw [if_neg c21] at H
                exact absurd H (by simp)
            · rw [if_neg c18] at H
              exact absurd H (by simp)
          · rw [if_neg c17] at H
            exact absurd H (by simp)
end Go.Proofs.Ythpjagblnddjaaa.PB
end

section
namespace Go.Proofs.Ythpjagblnddjaaa.PB
open Go.RowKit Go.Proofs.YthpjagblnddjaaaW.PrintWords Go.Proofs.YthpjagblnddjaaaW.PrintLast Go.Proofs.YthpjagblnddjaaaW.PrintMore
attribute [local go_sem] max2_int min2_int max_two min_two max_three min_three max_four min_four
set_option linter.unusedVariables false
set_option linter.unusedSimpArgs false
structure GFrame (B g : Nat) (w w' : World) : Prop where
  below : Below B w w'
  typ : ∀ i cs t fr, i ≠ g → t ≠ 100 → w.heap[i]? = some (.cells cs t fr) → w'.heap[i]? = some (.cells cs t fr)
theorem GFrame.refl (B g : Nat) (w : World) : GFrame B g w w := ⟨Below.refl _ _, fun _ _ _ _ _ _ h => h⟩
theorem GFrame.trans {B g : Nat} {a b c : World} (h : GFrame B g a b) (k : GFrame B g b c) : GFrame B g a c :=
  ⟨h.below.trans k.below, fun i cs t fr h1 h2 h3 => k.typ i cs t fr h1 h2 (h.typ i cs t fr h1 h2 h3)⟩
theorem GFrame.alloc {B g : Nat} {a w : World} (h : GFrame B g a w) (hB : B ≤ w.heap.size) (o : Obj) : GFrame B g a (w.alloc o) :=
  h.trans ⟨(Below.refl _ _).alloc hB o, fun i cs t fr _ _ h3 => by rw [Below.heap_alloc _ _ _ (Array.getElem?_eq_some_iff.1 h3).1]; exact h3⟩
theorem GFrame.drewN {B g : Nat} {a w : World} (h : GFrame B g a w) (n : Nat) : GFrame B g a (w.drewN n) :=
  h.trans ⟨pw_below_drewN (Below.refl _ _) n, fun i cs t fr _ _ h3 => h3⟩
theorem GFrame.drew {B g : Nat} {a w : World} (h : GFrame B g a w) : GFrame B g a w.drew :=
  h.trans ⟨(Below.refl _ _).drew, fun i cs t fr _ _ h3 => h3⟩
theorem GFrame.setg {B g : Nat} {a w : World} (h : GFrame B g a w) (hB : B ≤ g) (j : Nat) (u : Value) : GFrame B g a (w.setCell ⟨g, j, none⟩ u) :=
  h.trans ⟨(Below.refl _ _).setCell hB u, fun i cs t fr h1 _ h3 => by rw [Below.heap_setCell _ _ _ _ h1]; exact h3⟩
theorem GFrame.grown {B g : Nat} {a w w' : World} {row : Option Nat} (h : GFrame B g a w) (hg : w.grownBy w' row) (hB : B ≤ w.heap.size) (hr : ∀ k, row = some k → B ≤ k ∧ ∃ cells fr, w.heap[k]? = some (.cells cells 100 fr)) : GFrame B g a w' :=
  h.trans ⟨(Below.refl _ _).grown hg hB (fun k hk => (hr k hk).1), fun i cs t fr _ h2 h3 => by
    rw [hg.block i (Array.getElem?_eq_some_iff.1 h3).1 (fun e => by
      obtain ⟨_, cells, fr', hc⟩ := hr i e.symm
      rw [hc] at h3
      injection h3 with h3
      injection h3 with _ h3
      exact h2 h3.symm)]
    exact h3⟩
def GS (B g : Nat) (w : World) (xs : List S100) : Prop := ∃ v, w.heap[g]? = some (.cells #[v] 22 (0, 0)) ∧ Kd.R k100 100 w B (fun _ => True) v xs
def addRun (xs : List S100) (r : S100) : List S100 :=
  if r.f1 < 1 then xs else if 0 < xs.length then (if (xs.getD (xs.length - 1) z100).f0 = r.f0 then xs.set (xs.length - 1) ⟨(xs.getD (xs.length - 1) z100).f0, wrap64 ((xs.getD (xs.length - 1) z100).f1 + r.f1)⟩ else xs ++ [r]) else xs ++ [r]
theorem R_typed' {B : Nat} {w : World} {v : Value} {xs : List S100} (h : Kd.R k100 100 w B (fun _ => True) v xs) : ∀ k, v.ownBlock = some k → B ≤ k ∧ ∃ cells fr, w.heap[k]? = some (.cells cells 100 fr) := fun k hk => by
  obtain ⟨cells, hc⟩ := Kd.R_typed h k hk
  exact ⟨Kd.R_base h k hk, cells, _, hc⟩
set_option maxHeartbeats 4000000 in
theorem gather1_small (L N : Int) (g : Nat) (w : World) (hN : N < 1) :
    Calls Try.prog 103 #[.agg #[.int .u64 L, .int .i64 N], .pointer (some ⟨g, 0, none⟩)] w fun e w' => e = .returned (.tuple #[]) ∧ w' = w.alloc (.cells #[.int .u64 L, .int .i64 N] 100) := by
  have hu100 := Try.underlying100
  have hN' : decide (N < 1) = true := by simpa using hN
  go_enter Try.func103, Try.ntmps103
  go_wp2
  exact bodyPost_ret (results_none rfl _ _ _) rfl ⟨rfl, rfl⟩
theorem notype : ∀ q, q ∈ 100 :: k100.E → q ≠ 22 := by
  intro q hq
  have : q = 100 := by simpa [k100, Kd.iso, Kd.pair, Kd.int, Kd.scalar] using hq
  omega
theorem GS_grown {B g : Nat} {w w1 W : World} {v : Value} {xs : List S100} (hB : B ≤ g) (hg : W.heap[g]? = some (.cells #[v] 22 (0, 0))) (hR : Kd.R k100 100 W B (fun _ => True) v xs) (hF : GFrame B g w W)
    (hg1 : W.grownBy w1 v.ownBlock) : w1.heap[g]? = some (.cells #[v] 22 (0, 0)) ∧ GFrame B g w w1 :=
  ⟨blk_grown hg hg1 (Kd.R_ne hR hg (by decide)), hF.grown hg1 (Nat.le_trans hB (Nat.le_of_lt (blk_lt hg))) (R_typed' hR)⟩
theorem GS_put {B g : Nat} {w w1 : World} {v v1 : Value} {ys : List S100} (hB : B ≤ g) (hg : w1.heap[g]? = some (.cells #[v] 22 (0, 0))) (hR : Kd.R k100 100 w1 B (fun _ => True) v1 ys) (hF : GFrame B g w w1) :
    GS B g (w1.setCell ⟨g, 0, none⟩ v1) ys ∧ GFrame B g w (w1.setCell ⟨g, 0, none⟩ v1) :=
  ⟨⟨v1, blk_set hg 0 v1, Kd.R_set hR hg notype 0 v1⟩, hF.setg hB 0 v1⟩
theorem GFrame.box {B g : Nat} {w : World} (hB : B ≤ w.heap.size) (o : Obj) (n : Nat) : GFrame B g w ((w.alloc o).drewN n) := ((GFrame.refl B g w).alloc hB o).drewN n
theorem box_heap {g : Nat} {w : World} {x : Obj} (o : Obj) (n : Nat) (h : w.heap[g]? = some x) : ((w.alloc o).drewN n).heap[g]? = some x := by
  show (w.alloc o).heap[g]? = some x
  rw [Below.heap_alloc _ _ _ (blk_lt h)]; exact h
theorem GS_same {B g n b c : Nat} {w W : World} {xs : List S100} (hB : B ≤ g) (hg : W.heap[g]? = some (.cells #[.slice (some ⟨b, 0, none⟩) (n + 1) c] 22 (0, 0))) (hR : Kd.R k100 100 W B (fun _ => True) (.slice (some ⟨b, 0, none⟩) (n + 1) c) xs)
    (hF : GFrame B g w W) (hn : xs.length = n + 1) (x : Int) :
    GS B g (W.setCell ⟨b, n * 2 + 1, none⟩ (.int .i64 x)) (xs.set n ⟨(xs.getD n z100).f0, x⟩) ∧ GFrame B g w (W.setCell ⟨b, n * 2 + 1, none⟩ (.int .i64 x)) := by
  obtain ⟨ce, hcl, hM, hcc, hfr⟩ := Kd.R_elem hR z100 (n : Int) (by omega) (by omega)
  obtain rfl := k100_openM hM
  obtain ⟨h1, h2⟩ := Kd.R_seg hR (n : Int) (by omega) (by omega) (seg := [.int .i64 x]) (j := 1) hcl hcc (show 2 ≤ 2 from by decide) (x' := (⟨(xs.getD (n : Int).toNat z100).f0, x⟩ : S100)) (k100_mkM _ _ _ (⟨(xs.getD (n : Int).toNat z100).f0, x⟩ : S100)) (fun _ hk => hk)
  have h3 : some g ≠ some b := Kd.R_ne hR hg (by decide)
  exact ⟨⟨_, blk_grown hg h2 h3, h1⟩, hF.grown h2 (Nat.le_trans hB (Nat.le_of_lt (blk_lt hg))) (R_typed' hR)⟩
set_option maxHeartbeats 4000000 in
set_option maxRecDepth 100000 in
theorem gather1_first (L N : Int) (B g : Nat) (A : Option Addr) (c : Nat) (w : World) (hN : ¬ N < 1) (hB : B ≤ g) (hg : w.heap[g]? = some (.cells #[.slice A 0 c] 22 (0, 0))) (hR : Kd.R k100 100 w B (fun _ => True) (.slice A 0 c) []) :
    Calls Try.prog 103 #[.agg #[.int .u64 L, .int .i64 N], .pointer (some ⟨g, 0, none⟩)] w fun e w' => e = .returned (.tuple #[]) ∧ GS B g w' [⟨L, N⟩] ∧ GFrame B g w w' := by
  have hu100 := Try.underlying100
  have hN' : decide (N < 1) = false := by simpa using hN
  have hc : w.cell? ⟨g, 0, none⟩ = some (.slice A 0 c) := by rw [blk_cell hg]; rfl
  have hlt := World.block_lt_of_cell? w _ hc
  have HR := Aside0.mk hR
  have HG := Aside0.mk hg
  clear hR hg
  go_enter Try.func103, Try.ntmps103
  go_wp2
  go_quiet (fail)
  go_wp2_with (at_builtin; go_loud (refine Kd.R_append k100 (w0 := w) B rfl (.tmp 33) (.tmp 35) 22 100 (.agg #[(.int .u64 0), (.int .i64 0)]) 16 rfl Try.underlying22 info100 rfl (by decide) (by omega) (.slice A 0 c) [] (⟨L, N⟩ : S100) [.int .u64 L, .int .i64 N] (fun _ => True) (fun _ => False) rfl ?aX ?aP (fun _ hk => hk.elim) ?aF ?aO ?aB ?aS ?aL ?_); (case aX => simp [Act.eval, go_sem]); (case aP => exact k100_mkM _ _ _ (⟨L, N⟩ : S100)); (case aB => exact pw_below_drewN ((Below.refl _ _).alloc (by omega) _) _); (case aF => exact (fun _ _ => trivial)); (case aO => exact (by (with_reducible repeat (first | apply Kd.R_alloc | apply Kd.R_drewN | apply Kd.R_drew)); exact HR.out)); (case aS => simp; omega); (case aL => simp); intro v1 w1 ho hb hg1 hat; obtain ⟨A1, c1, rfl⟩ := Kd.R_slice ho; go_loud (have HF := Aside0.mk (GS_grown hB (box_heap _ _ HG.out) (Kd.R_drewN (Kd.R_alloc HR.out _) _) (GFrame.box (by omega) _ _) hg1)); have HO := Aside0.mk ho; clear ho hb hg1 hat; have hcg := blk_cell HF.out.1 0; have hfg := blk_frozen HF.out.1 0)
  go_end0
  exact ⟨rfl, GS_put hB HF.out.1 HO.out HF.out.2⟩
set_option maxHeartbeats 4000000 in
set_option maxRecDepth 100000 in
theorem gather1_other (L N : Int) (B g : Nat) (v : Value) (xs : List S100) (w : World) (hN : ¬ N < 1) (hB : B ≤ g) (hg : w.heap[g]? = some (.cells #[v] 22 (0, 0))) (hR : Kd.R k100 100 w B (fun _ => True) v xs)
    (hp : 0 < xs.length) (hne : ¬ (xs.getD (xs.length - 1) z100).f0 = L) (hlen : (xs.length + 1) * 16 ≤ 140737488355328) :
    Calls Try.prog 103 #[.agg #[.int .u64 L, .int .i64 N], .pointer (some ⟨g, 0, none⟩)] w fun e w' => e = .returned (.tuple #[]) ∧ GS B g w' (xs ++ [⟨L, N⟩]) ∧ GFrame B g w w' := by
  have hu100 := Try.underlying100
  obtain ⟨b, c, rfl, hbb, hbl, _⟩ := Kd.R_form hR hp
  have hmax := (Kd.R_reads' hR).2.2.2.1
  obtain ⟨ce, hcl, hM, hcc, hfr⟩ := Kd.R_elem hR z100 ((xs.length : Int) - 1) (by omega) (by omega)
  obtain rfl := k100_openM hM
  obtain ⟨n, hn⟩ : ∃ n, xs.length = n + 1 := ⟨xs.length - 1, by omega⟩
  have en : ((xs.length : Int) - 1).toNat = n := by omega
  have hx0 : w.cell? ⟨b, n * 2, none⟩ = some (.int .u64 (xs.getD n z100).f0) := by have := hcc 0 _ rfl; rw [en] at this; exact this
  have hx1 : w.cell? ⟨b, n * 2 + 1, none⟩ = some (.int .i64 (xs.getD n z100).f1) := by have := hcc 1 _ rfl; rw [en] at this; exact this
  rw [show xs.length - 1 = n by omega] at hne
  have hb : ((xs.getD n z100).f0 == L) = false := by simpa using hne
  have hN' : decide (N < 1) = false := by simpa using hN
  rw [hn] at hg hR
  have HL := Aside0.mk hlen
  clear hlen
  have hc : w.cell? ⟨g, 0, none⟩ = some (.slice (some ⟨b, 0, none⟩) (n + 1) c) := by rw [blk_cell hg]; rfl
  have hlt := World.block_lt_of_cell? w _ hc
  have HR := Aside0.mk hR
  have HG := Aside0.mk hg
  have HN := Aside0.mk hn
  have hn2 : n ≤ 9223372036854775806 := by omega
  generalize (xs.getD n z100).f0 = L1 at *
  generalize (xs.getD n z100).f1 = N1 at *
  clear hR hg hn hne hM hcc hcl hfr en hp hmax
  go_enter Try.func103, Try.ntmps103
  go_wp2
  go_quiet (fail)
  go_wp2_with (at_builtin; go_loud (refine Kd.R_append k100 (w0 := w) B rfl (.tmp 33) (.tmp 35) 22 100 (.agg #[(.int .u64 0), (.int .i64 0)]) 16 rfl Try.underlying22 info100 rfl (by decide) (by omega) (.slice (some ⟨b, 0, none⟩) (n + 1) c) xs (⟨L, N⟩ : S100) [.int .u64 L, .int .i64 N] (fun _ => True) (fun _ => False) rfl ?aX ?aP (fun _ hk => hk.elim) ?aF ?aO ?aB ?aS ?aL ?_); (case aX => simp [Act.eval, go_sem]); (case aP => exact k100_mkM _ _ _ (⟨L, N⟩ : S100)); (case aB => exact pw_below_drewN ((Below.refl _ _).alloc (by omega) _) _); (case aF => exact (fun _ _ => trivial)); (case aO => exact (by (with_reducible repeat (first | apply Kd.R_alloc | apply Kd.R_drewN | apply Kd.R_drew)); exact HR.out)); (case aS => simp; omega); (case aL => exact HL.out); intro v1 w1 ho hb hg1 hat; obtain ⟨A1, c1, rfl⟩ := Kd.R_slice ho; go_loud (have HF := Aside0.mk (GS_grown hB (box_heap _ _ HG.out) (Kd.R_drewN (Kd.R_alloc HR.out _) _) (GFrame.box (by omega) _ _) hg1)); have HO := Aside0.mk ho; clear ho hb hg1 hat; have hcg := blk_cell HF.out.1 0; have hfg := blk_frozen HF.out.1 0)
  go_end0
  exact ⟨rfl, GS_put hB HF.out.1 (by have h := HO.out; rw [List.length_append] at h; exact h) HF.out.2⟩
set_option maxHeartbeats 4000000 in
set_option maxRecDepth 100000 in
theorem gather1_same (L N : Int) (B g : Nat) (v : Value) (xs : List S100) (w : World) (hN : ¬ N < 1) (hB : B ≤ g) (hg : w.heap[g]? = some (.cells #[v] 22 (0, 0))) (hR : Kd.R k100 100 w B (fun _ => True) v xs)
    (hp : 0 < xs.length) (hne : (xs.getD (xs.length - 1) z100).f0 = L) :
    Calls Try.prog 103 #[.agg #[.int .u64 L, .int .i64 N], .pointer (some ⟨g, 0, none⟩)] w fun e w' => e = .returned (.tuple #[]) ∧ GS B g w' (xs.set (xs.length - 1) ⟨(xs.getD (xs.length - 1) z100).f0, wrap64 ((xs.getD (xs.length - 1) z100).f1 + N)⟩) ∧ GFrame B g w w' := by
  have hu100 := Try.underlying100
  obtain ⟨b, c, rfl, hbb, hbl, _⟩ := Kd.R_form hR hp
  have hmax := (Kd.R_reads' hR).2.2.2.1
  obtain ⟨ce, hcl, hM, hcc, hfr⟩ := Kd.R_elem hR z100 ((xs.length : Int) - 1) (by omega) (by omega)
  obtain rfl := k100_openM hM
  obtain ⟨n, hn⟩ : ∃ n, xs.length = n + 1 := ⟨xs.length - 1, by omega⟩
  have en : ((xs.length : Int) - 1).toNat = n := by omega
  rw [en] at hcc hfr
  have hx0 : w.cell? ⟨b, n * 2, none⟩ = some (.int .u64 (xs.getD n z100).f0) := hcc 0 _ rfl
  have hx1 : w.cell? ⟨b, n * 2 + 1, none⟩ = some (.int .i64 (xs.getD n z100).f1) := hcc 1 _ rfl
  have hf1 : w.frozen? ⟨b, n * 2 + 1, none⟩ = false := hfr 1
  rw [show xs.length - 1 = n by omega] at hne ⊢
  have hb : ((xs.getD n z100).f0 == L) = true := by simpa using hne
  have hN' : decide (N < 1) = false := by simpa using hN
  rw [hn] at hg hR
  have hc : w.cell? ⟨g, 0, none⟩ = some (.slice (some ⟨b, 0, none⟩) (n + 1) c) := by rw [blk_cell hg]; rfl
  have hlt := World.block_lt_of_cell? w _ hc
  have HR := Aside0.mk hR
  have HG := Aside0.mk hg
  have HN := Aside0.mk hn
  have hn2 : n ≤ 9223372036854775806 := by omega
  generalize hL1 : (xs.getD n z100).f0 = L1 at *
  have HL1 := Aside0.mk hL1
  clear hL1
  generalize (xs.getD n z100).f1 = N1 at *
  clear hR hg hn hne hM hcc hcl hfr en hp hmax
  go_enter Try.func103, Try.ntmps103
  go_wp2
  go_quiet (fail)
  go_wp2
  go_region
  go_wp2
  refine bodyPost_ret (results_none rfl _ _ _) rfl ⟨rfl, ?_⟩
  obtain rfl := HL1.out
  exact GS_same hB (box_heap _ _ HG.out) (Kd.R_drewN (Kd.R_alloc HR.out _) _) (GFrame.box (by omega) _ _) HN.out (wrap64 (N1 + N))
theorem gather1 (L N : Int) (B g : Nat) (xs : List S100) (w : World) (hB : B ≤ g) (hS : GS B g w xs) (hlen : (xs.length + 1) * 16 ≤ 140737488355328) :
    Calls Try.prog 103 #[.agg #[.int .u64 L, .int .i64 N], .pointer (some ⟨g, 0, none⟩)] w fun e w' => e = .returned (.tuple #[]) ∧ GS B g w' (addRun xs ⟨L, N⟩) ∧ GFrame B g w w' := by
  obtain ⟨v, hg, hR⟩ := hS
  unfold addRun
  by_cases hN : N < 1
  · rw [if_pos hN]
    refine (gather1_small L N g w hN).mono ?_
    rintro e w' ⟨rfl, rfl⟩
    exact ⟨rfl, ⟨v, box_heap _ 0 hg, Kd.R_alloc hR _⟩, GFrame.box (Nat.le_trans hB (Nat.le_of_lt (blk_lt hg))) _ 0⟩
  rw [if_neg hN]
  by_cases hp : 0 < xs.length
  · rw [if_pos hp]
    by_cases he : (xs.getD (xs.length - 1) z100).f0 = L
    · rw [if_pos he]
      exact gather1_same L N B g v xs w hN hB hg hR hp he
    · rw [if_neg he]
      exact gather1_other L N B g v xs w hN hB hg hR hp he hlen
  · rw [if_neg hp]
    obtain rfl : xs = [] := List.eq_nil_of_length_eq_zero (by omega)
    obtain ⟨A, c, rfl⟩ := Kd.R_slice hR
    exact gather1_first L N B g A c w hN hB hg hR
def someTo (step : List S100 → S100 → List S100) (a b : Int) : List S100 → Int → List S100 → List S100
  | [], _, acc => acc
  | r :: l, p, acc => someTo step a b l (wrap64 (p + r.f1)) (step acc ⟨r.f0, wrap64 ((if b < wrap64 (p + r.f1) then b else wrap64 (p + r.f1)) - (if p < a then a else p))⟩)
theorem GS_alloc {B g : Nat} {w : World} {xs : List S100} (h : GS B g w xs) (o : Obj) : GS B g (w.alloc o) xs := by
  obtain ⟨v, hg, hR⟩ := h
  exact ⟨v, box_heap o 0 hg, Kd.R_alloc hR o⟩
theorem someTo_snoc {step : List S100 → S100 → List S100} {a b : Int} {l : List S100} {k : Nat} (hk : k < l.length) (p : Int) (acc : List S100) :
    someTo step a b (l.drop k) p acc = someTo step a b (l.drop (k + 1)) (wrap64 (p + (rd_T100 l (k : Int)).f1)) (step acc ⟨(rd_T100 l (k : Int)).f0, wrap64 ((if b < wrap64 (p + (rd_T100 l (k : Int)).f1) then b else wrap64 (p + (rd_T100 l (k : Int)).f1)) - (if p < a then a else p))⟩) := by
  rw [List.drop_eq_getElem_cons hk]
  unfold rd_T100
  rw [Int.toNat_natCast, List.getD_eq_getElem?_getD, List.getElem?_eq_getElem hk]
  rfl
set_option maxHeartbeats 4000000 in
set_option maxRecDepth 100000 in
theorem some_any (step : List S100 → S100 → List S100) (hstep : ∀ acc r, (step acc r).length ≤ acc.length + 1) (fid : Nat) (caps : Array Value)
    (hcf : ∀ (args : Array Value) (w : World), Sem.run Try.prog (callFunc fid args) w = .ok (.enter fid args) w)
    (A : Option Addr) (c : Nat) (l : List S100) (a b : Int) (g : Nat) (acc0 : List S100) (w0 w : World) (hB : w0.heap.size ≤ g)
    (hr : Kd.C k100 w0 A l.length l) (hw : Below w0.heap.size w0 w) (hS : GS w0.heap.size g w acc0) (hlen : (acc0.length + l.length) * 16 ≤ 140737488355328)
    (hadd : ∀ acc L N w1, (acc.length + 1) * 16 ≤ 140737488355328 → GS w0.heap.size g w1 acc → GFrame w0.heap.size g w w1 →
      Calls Try.prog fid (#[.agg #[.int .u64 L, .int .i64 N]] ++ caps) w1 fun e w' => e = .returned (.tuple #[]) ∧ GS w0.heap.size g w' (step acc ⟨L, N⟩) ∧ GFrame w0.heap.size g w1 w') :
    Calls Try.prog 82 #[.slice A l.length c, .int .i64 a, .int .i64 b, .func (.func fid) #[] caps] w fun e w' => e = .returned (.tuple #[]) ∧ GS w0.heap.size g w' (someTo step a b l 0 acc0) ∧ GFrame w0.heap.size g w w' := by
  have hu100 := Try.underlying100
  have hmax : l.length ≤ 9223372036854775807 := hr.2.1
  have HR := Aside0.mk hr
  have HW := Aside0.mk hw
  have HS := Aside0.mk hS
  have HA := Aside0.mk hadd
  have HL := Aside0.mk hlen
  have HP := Aside0.mk hstep
  clear hr hw hS hadd hlen hstep
  go_enter Try.func82, Try.ntmps82
  go_wp2
  go_loopw [8, 14] (fun p i wr => ∃ (k : Nat) (pz : Int) (acc : List S100), k ≤ l.length ∧ i = .int .i64 k ∧ p = .int .i64 pz ∧ Aside0 (GS w0.heap.size g wr acc) ∧ Aside0 (GFrame w0.heap.size g w wr) ∧ Aside0 (acc.length ≤ acc0.length + k) ∧ Aside0 (someTo step a b (l.drop k) pz acc = someTo step a b l 0 acc0)) (fun _ i _ => l.length - (intOf i).toNat)
  case atStart => exact ⟨0, 0, acc0, Nat.zero_le _, rfl, rfl, HS, ⟨GFrame.refl _ _ _⟩, ⟨by omega⟩, ⟨rfl⟩⟩
  case round =>
    obtain ⟨k, pz, acc, hk, rfl, rfl, HG, HF, HAL, HE⟩ := hrel
    by_cases hlt : k < l.length
    · obtain ⟨ad, rfl, hx0, hx1⟩ := at_T100 HR.out (k : Int) (by omega) (by omega)
      have hb1 : Below w0.heap.size w0 wr := HW.out.trans HF.out.below
      replace hx0 := (hb1.cell (World.block_lt_of_cell? w0 _ hx0)).trans hx0
      replace hx1 := (hb1.cell (World.block_lt_of_cell? w0 _ hx1)).trans hx1
      simp only [Int.toNat_natCast] at hx0 hx1
      have hsn := someTo_snoc (step := step) (a := a) (b := b) hlt pz acc
      generalize (rd_T100 l (k : Int)).f0 = e0 at *
      generalize (rd_T100 l (k : Int)).f1 = e1 at *
      have HB1 := Aside0.mk hb1
      have HSN := Aside0.mk hsn
      clear hsn
      clear hb1
      go_wp2_with ((with_reducible refine (HA.out acc _ _ _ ?h1 ?h2 ?h3).mono ?_); (case h1 => have h1 := HL.out; have h2 := HAL.out; omega); (case h2 => exact GS_alloc HG.out _); (case h3 => exact HF.out.alloc (by have := HB1.out.size; omega) _); rintro e w2 ⟨rfl, hg2, hf2⟩; have HG2 := Aside0.mk hg2; have HF2 := Aside0.mk hf2; clear hg2 hf2)
      go_roundw
      case rel => exact ⟨k + 1, wrap64 (pz + e1), _, by omega, by go_num, rfl, HG2, ⟨(HF.out.alloc (by have := HB1.out.size; omega) _).trans HF2.out⟩, ⟨by have h1 := HP.out acc; have h2 := HAL.out; exact Nat.le_trans (h1 _) (by omega)⟩, ⟨HSN.out.symm.trans HE.out⟩⟩
      case measure => simp [intOf]; omega
    · have hkl : k = l.length := by omega
      subst hkl
      go_wp2
      exact bodyPost_end (results_none rfl _ _ _) rfl ⟨rfl, by have h := HE.out; rw [List.drop_length] at h; rw [← h]; exact HG.out, HF.out⟩
theorem run_enter {P : Program} {f : FuncId} {fn : Func} {c : Code} (hf : P.funcs[f]? = some fn) (hname : (fn.name == "runtime.NumGoroutine") = false) (hb : fn.body = some c) (args : Array Value) (w : World) :
    Sem.run P (callFunc f args) w = .ok (.enter f args) w := by
  have h1 : fn.name ≠ "runtime.NumGoroutine" := by simpa using hname
  simp [callFunc, hf, h1, hb]
theorem hcf103 : ∀ (args : Array Value) (w : World), Sem.run Try.prog (callFunc 103 args) w = .ok (.enter 103 args) w := fun args w => run_enter Try.func103 rfl rfl args w
theorem addRun_len (acc : List S100) (r : S100) : (addRun acc r).length ≤ acc.length + 1 := by
  unfold addRun
  repeat' split
  all_goals simp
theorem some_add (A : Option Addr) (c : Nat) (l : List S100) (a b : Int) (g : Nat) (acc0 : List S100) (w0 w : World) (hB : w0.heap.size ≤ g)
    (hr : Kd.C k100 w0 A l.length l) (hw : Below w0.heap.size w0 w) (hS : GS w0.heap.size g w acc0) (hlen : (acc0.length + l.length) * 16 ≤ 140737488355328) :
    Calls Try.prog 82 #[.slice A l.length c, .int .i64 a, .int .i64 b, .func (.func 103) #[] #[.pointer (some ⟨g, 0, none⟩)]] w fun e w' => e = .returned (.tuple #[]) ∧ GS w0.heap.size g w' (someTo addRun a b l 0 acc0) ∧ GFrame w0.heap.size g w w' :=
  some_any addRun addRun_len 103 _ hcf103 A c l a b g acc0 w0 w hB hr hw hS hlen (fun acc L N w1 h1 h2 _ => gather1 L N _ g acc w1 hB h2 h1)
set_option maxHeartbeats 4000000 in
set_option maxRecDepth 100000 in
theorem gather_any (lid : Nat) (caps : Array Value) (args : Nat → Array Value) (hargs : ∀ g, #[.func (.func 103) #[] #[.pointer (some ⟨g, 0, none⟩)]] ++ caps = args g) (hcf : ∀ (args : Array Value) (w : World), Sem.run Try.prog (callFunc lid args) w = .ok (.enter lid args) w) (R : List S100) (w : World)
    (hlay : ∀ g w1, w.heap.size ≤ g → GS w.heap.size g w1 [] → Below w.heap.size w w1 →
      Calls Try.prog lid (args g) w1 fun e w' => e = .returned (.tuple #[]) ∧ GS w.heap.size g w' R ∧ GFrame w.heap.size g w1 w') :
    Calls Try.prog 80 #[.func (.func lid) #[] caps] w fun e w' => ∃ v, e = .returned v ∧ Kd.R k100 100 w' w.heap.size (fun _ => True) v R ∧ Below w.heap.size w w' := by
  have hmf : ∀ (fn : Fn) (first cap : Array Value) (w : World), (Instr.makeFunc fn first cap).run Try.prog w = .ok (.func fn first cap) w := fun _ _ _ _ => rfl
  have HY := Aside0.mk hlay
  have hargs' := hargs w.heap.size
  clear hlay hargs
  go_enter Try.func80, Try.ntmps80
  go_wp2_with ((with_reducible refine (HY.out w.heap.size _ ?h1 ?h2 ?h3).mono ?_); (case h1 => omega); (case h2 => exact ⟨_, blk_new _ _, Kd.R_nil _ _ _ _ _⟩); (case h3 => exact (Below.refl _ _).alloc (Nat.le_refl _) _); rintro e w2 ⟨rfl, hg2, hf2⟩; obtain ⟨v, hgv, hRv⟩ := hg2; have hcv : w2.cell? ⟨w.heap.size, 0, none⟩ = some v := (by rw [blk_cell hgv]; rfl); have HG2 := Aside0.mk hgv; have HR2 := Aside0.mk hRv; have HF2 := Aside0.mk hf2; clear hgv hRv hf2)
  go_ret
  exact ⟨v, rfl, HR2.out, ((Below.refl _ _).alloc (Nat.le_refl _) _).trans HF2.out.below⟩
theorem hcf81 : ∀ (args : Array Value) (w : World), Sem.run Try.prog (callFunc 81 args) w = .ok (.enter 81 args) w := fun args w => run_enter Try.func81 rfl rfl args w
theorem hcf93 : ∀ (args : Array Value) (w : World), Sem.run Try.prog (callFunc 93 args) w = .ok (.enter 93 args) w := fun args w => run_enter Try.func93 rfl rfl args w
theorem cell_later' {w0 w : World} (h : Below w0.heap.size w0 w) {p : Addr} {v : Value} (hc : w0.cell? p = some v) : w.cell? p = some v := (h.cell (World.block_lt_of_cell? w0 _ hc)).trans hc
set_option maxHeartbeats 4000000 in
set_option maxRecDepth 100000 in
theorem lay_normal (A : Option Addr) (c : Nat) (l : List S100) (bl g : Nat) (w0 w : World) (hB : w0.heap.size ≤ g) (hr : Kd.C k100 w0 A l.length l) (hbx : w0.cell? ⟨bl, 0, none⟩ = some (.slice A l.length c))
    (hw : Below w0.heap.size w0 w) (hS : GS w0.heap.size g w []) (hlen : l.length * 16 ≤ 140737488355328) :
    Calls Try.prog 81 #[.func (.func 103) #[] #[.pointer (some ⟨g, 0, none⟩)], .pointer (some ⟨bl, 0, none⟩)] w fun e w' => e = .returned (.tuple #[]) ∧ GS w0.heap.size g w' (someTo addRun 0 4096 l 0 []) ∧ GFrame w0.heap.size g w w' := by
  have hb := cell_later' hw hbx
  have HC := some_add A c l 0 4096 g [] w0 w hB hr hw hS (by simpa using hlen)
  have HC := Aside0.mk HC
  clear hr hw hS hlen hbx
  go_enter Try.func81, Try.ntmps81
  go_wp2_with ((with_reducible refine HC.out.mono ?_); rintro e w2 ⟨rfl, hg2, hf2⟩; have HG2 := Aside0.mk hg2; have HF2 := Aside0.mk hf2; clear hg2 hf2)
  go_end0
  exact ⟨rfl, HG2.out, HF2.out⟩
theorem someTo_len {step : List S100 → S100 → List S100} (hstep : ∀ acc r, (step acc r).length ≤ acc.length + 1) (a b : Int) (l : List S100) : ∀ p acc, (someTo step a b l p acc).length ≤ acc.length + l.length := by
  induction l with
  | nil => intro p acc; simp [someTo]
  | cons r l ih => intro p acc; have := ih (wrap64 (p + r.f1)) (step acc ⟨r.f0, wrap64 ((if b < wrap64 (p + r.f1) then b else wrap64 (p + r.f1)) - (if p < a then a else p))⟩); have h2 := hstep acc ⟨r.f0, wrap64 ((if b < wrap64 (p + r.f1) then b else wrap64 (p + r.f1)) - (if p < a then a else p))⟩; simp only [someTo, List.length_cons]; omega
def spliceRuns (l : List S100) (a b : Int) (m : List S100) : List S100 := someTo addRun b 4096 l 0 (someTo addRun 0 4096 m 0 (someTo addRun 0 a l 0 []))
set_option maxHeartbeats 4000000 in
set_option maxRecDepth 100000 in
theorem lay_splice (A : Option Addr) (c : Nat) (l : List S100) (a b : Int) (A2 : Option Addr) (c2 : Nat) (m : List S100) (bl ba bb bm g : Nat) (w0 w : World) (hB : w0.heap.size ≤ g) (hr : Kd.C k100 w0 A l.length l) (hrm : Kd.C k100 w0 A2 m.length m)
    (hbx : w0.cell? ⟨bl, 0, none⟩ = some (.slice A l.length c)) (hbm : w0.cell? ⟨bm, 0, none⟩ = some (.slice A2 m.length c2))
    (hba : w0.cell? ⟨ba, 0, none⟩ = some (.int .i64 a)) (hbb : w0.cell? ⟨bb, 0, none⟩ = some (.int .i64 b))
    (hw : Below w0.heap.size w0 w) (hS : GS w0.heap.size g w []) (hlen : (l.length + m.length + l.length) * 16 ≤ 140737488355328) :
    Calls Try.prog 93 #[.func (.func 103) #[] #[.pointer (some ⟨g, 0, none⟩)], .pointer (some ⟨bl, 0, none⟩), .pointer (some ⟨ba, 0, none⟩), .pointer (some ⟨bm, 0, none⟩), .pointer (some ⟨bb, 0, none⟩)] w fun e w' => e = .returned (.tuple #[]) ∧ GS w0.heap.size g w' (spliceRuns l a b m) ∧ GFrame w0.heap.size g w w' := by
  have hb := cell_later' hw hbx
  have hb1 := cell_later' hw hba
  have l1 := someTo_len addRun_len 0 a l 0 []
  have l2 := someTo_len addRun_len 0 4096 m 0 (someTo addRun 0 a l 0 [])
  simp only [List.length_nil] at l1
  have HC := some_add A c l 0 a g [] w0 w hB hr hw hS (by simp only [List.length_nil]; omega)
  have HC2 := fun W (h : Below w0.heap.size w0 W) hs => some_add A2 c2 m 0 4096 g (someTo addRun 0 a l 0 []) w0 W hB hrm h hs (by omega)
  have HC3 := fun W (h : Below w0.heap.size w0 W) hs => some_add A c l b 4096 g (someTo addRun 0 4096 m 0 (someTo addRun 0 a l 0 [])) w0 W hB hr h hs (by omega)
  have HC := Aside0.mk HC
  have HC2 := Aside0.mk HC2
  have HC3 := Aside0.mk HC3
  have HW := Aside0.mk hw
  have HBX := Aside0.mk hbx
  have HBM := Aside0.mk hbm
  have HBB := Aside0.mk hbb
  clear hr hrm hw hS hlen hbx hbm hbb hba l1 l2
  go_enter Try.func93, Try.ntmps93
  go_wp2_with fail
  refine HC.out.mono ?_
  rintro e w1 ⟨rfl, hg2, hf2⟩
  have HG2 := Aside0.mk hg2
  have HF2 := Aside0.mk hf2
  have hw1 := HW.out.trans hf2.below
  have hc1 := cell_later' hw1 HBM.out
  have hc2 := cell_later' hw1 HBX.out
  have hc3 := cell_later' hw1 HBB.out
  have HW1 := Aside0.mk hw1
  clear hg2 hf2 hw1
  go_wp2_with fail
  refine (HC2.out _ HW1.out HG2.out).mono ?_
  rintro e w2 ⟨rfl, hg2, hf2⟩
  have HG3 := Aside0.mk hg2
  have HF3 := Aside0.mk (HF2.out.trans hf2)
  have hw1 := HW1.out.trans hf2.below
  have hc4 := cell_later' hw1 HBX.out
  have hc5 := cell_later' hw1 HBB.out
  have HW2 := Aside0.mk hw1
  clear hg2 hf2 hw1
  go_wp2_with fail
  refine (HC3.out _ HW2.out HG3.out).mono ?_
  rintro e w3 ⟨rfl, hg2, hf2⟩
  have HG4 := Aside0.mk hg2
  have HF4 := Aside0.mk (HF3.out.trans hf2)
  clear hg2 hf2
  go_wp2
  go_end0
  exact ⟨rfl, HG4.out, HF4.out⟩
def runs_Normal.f (k : Nat) (l0 : List S100) : Option (List S100 × Int) :=
  if (∃ j : Nat, j < l0.length ∧ (rd_T100 l0 (j : Int)).f1 < 0) then some ([], 2) else (runs_Total.f k l0).bind fun t => if t > 4096 then some ([], 3) else if l0.length * 16 ≤ 140737488355328 then some (someTo addRun 0 4096 l0 0 [], 0) else none
theorem runs_Normal.mono : ∀ a0 k, LeO (runs_Normal.f k a0) (runs_Normal.f (k + 1) a0) := fun a0 k => LeO.ite (LeO.refl _) (LeO.bind (runs_Total.mono _ _) (fun _ => LeO.refl _))
set_option maxHeartbeats 4000000 in
set_option maxRecDepth 100000 in
theorem runs_Normal.neg (A0 : Option Addr) (c0 : Nat) (l0 : List S100) (j : Nat) (w : World) (hr0 : Kd.C k100 w A0 l0.length l0) (hj : j < l0.length) (hn : (rd_T100 l0 (j : Int)).f1 < 0) :
    Calls Try.prog 25 #[.slice A0 l0.length c0] w fun e w' => ∃ v0_ : Value, e = .returned (.tuple #[v0_, .int .i64 2]) ∧ Kd.R k100 100 w' w.heap.size (fun _ => True) v0_ [] ∧ Below w.heap.size w w' := by
  have hmf : ∀ (fn : Fn) (first cap : Array Value) (w : World), (Instr.makeFunc fn first cap).run Try.prog w = .ok (.func fn first cap) w := fun _ _ _ _ => rfl
  have hu100 := Try.underlying100
  have hmax : l0.length ≤ 9223372036854775807 := hr0.2.1
  have HR := Aside0.mk hr0
  have HN := Aside0.mk hn
  clear hr0 hn
  go_enter Try.func25, Try.ntmps25
  go_wp2
  go_loopw [8] (fun i wr => ∃ (k : Nat), k ≤ j ∧ i = .int .i64 k ∧ Aside0 (Below w.heap.size w wr)) (fun i _ => l0.length - (intOf i).toNat)
  case atStart => exact ⟨0, Nat.zero_le _, rfl, ⟨(Below.refl _ _).alloc (Nat.le_refl _) _⟩⟩
  case round =>
    obtain ⟨k, hk, rfl, HB⟩ := hrel
    have hlt : k < l0.length := by omega
    obtain ⟨ad, rfl, hx0, hx1⟩ := at_T100 HR.out (k : Int) (by omega) (by omega)
    replace hx0 := (HB.out.cell (World.block_lt_of_cell? w _ hx0)).trans hx0
    replace hx1 := (HB.out.cell (World.block_lt_of_cell? w _ hx1)).trans hx1
    simp only [Int.toNat_natCast] at hx0 hx1
    by_cases hneg : (rd_T100 l0 (k : Int)).f1 < 0
    · generalize (rd_T100 l0 (k : Int)).f0 = e0 at *
      generalize (rd_T100 l0 (k : Int)).f1 = e1 at *
      have hd : decide (e1 < 0) = true := by simpa using hneg
      go_wp2
      go_ret2
      exact ⟨_, rfl, Kd.R_nil _ _ _ _ _, HB.out.alloc HB.out.size _⟩
    · have hkj : k < j := by
        rcases Nat.lt_or_ge k j with h | h
        · exact h
        · obtain rfl : k = j := by omega
          exact absurd HN.out hneg
      generalize (rd_T100 l0 (k : Int)).f0 = e0 at *
      generalize (rd_T100 l0 (k : Int)).f1 = e1 at *
      have hd : decide (e1 < 0) = false := by simpa using hneg
      go_wp2
      go_roundw
      case rel => exact ⟨k + 1, by omega, by go_num, ⟨HB.out.alloc HB.out.size _⟩⟩
      case measure => simp [intOf]; omega
set_option maxHeartbeats 4000000 in
set_option maxRecDepth 100000 in
theorem runs_Normal.pos (k : Nat) (A0 : Option Addr) (c0 : Nat) (l0 : List S100) (r1 : List S100) (r2 : Int) (w : World) (hr0 : Kd.C k100 w A0 l0.length l0) (hc0 : l0.length ≤ c0)
    (hn : ∀ j : Nat, j < l0.length → ¬ (rd_T100 l0 (j : Int)).f1 < 0) (t : Int) (ht : runs_Total.f k l0 = some t)
    (h : (if t > 4096 then some ([], 3) else if l0.length * 16 ≤ 140737488355328 then some (someTo addRun 0 4096 l0 0 [], 0) else none) = some (r1, r2)) :
    Calls Try.prog 25 #[.slice A0 l0.length c0] w fun e w' => ∃ v0_ : Value, e = .returned (.tuple #[v0_, .int .i64 r2]) ∧ Kd.R k100 100 w' w.heap.size (fun _ => True) v0_ r1 ∧ Below w.heap.size w w' := by
  have hmf : ∀ (fn : Fn) (first cap : Array Value) (w : World), (Instr.makeFunc fn first cap).run Try.prog w = .ok (.func fn first cap) w := fun _ _ _ _ => rfl
  have hu100 := Try.underlying100
  have hmax : l0.length ≤ 9223372036854775807 := hr0.2.1
  have HR := Aside0.mk hr0
  have HN := Aside0.mk hn
  have HC := Aside0.mk (fun W (hw : Below w.heap.size w W) => runs_Total.calls k A0 c0 l0 t W (Kd.C_below hr0 hw) hc0 ht)
  have HH := Aside0.mk h
  clear hr0 hn h ht
  go_enter Try.func25, Try.ntmps25
  go_wp2
  go_loopw [8] (fun i wr => ∃ (k : Nat), k ≤ l0.length ∧ i = .int .i64 k ∧ Aside0 (Below w.heap.size w wr) ∧ Aside0 (w.heap.size + 1 ≤ wr.heap.size) ∧ wr.cell? ⟨w.heap.size, 0, none⟩ = some (.slice A0 l0.length c0)) (fun i _ => l0.length - (intOf i).toNat)
  case atStart => exact ⟨0, Nat.zero_le _, rfl, ⟨(Below.refl _ _).alloc (Nat.le_refl _) _⟩, ⟨by simp⟩, by simp [go_sem]⟩
  case round =>
    obtain ⟨k, hk, rfl, HB, HZ, hcl⟩ := hrel
    have hcl2 := World.block_lt_of_cell? wr _ hcl
    by_cases hlt : k < l0.length
    · obtain ⟨ad, rfl, hx0, hx1⟩ := at_T100 HR.out (k : Int) (by omega) (by omega)
      replace hx0 := (HB.out.cell (World.block_lt_of_cell? w _ hx0)).trans hx0
      replace hx1 := (HB.out.cell (World.block_lt_of_cell? w _ hx1)).trans hx1
      simp only [Int.toNat_natCast] at hx0 hx1
      have hneg := HN.out k hlt
      generalize (rd_T100 l0 (k : Int)).f0 = e0 at *
      generalize (rd_T100 l0 (k : Int)).f1 = e1 at *
      have hd : decide (e1 < 0) = false := by simpa using hneg
      go_wp2
      go_roundw
      case rel => exact ⟨k + 1, by omega, by go_num, ⟨HB.out.alloc HB.out.size _⟩, ⟨by have := HZ.out; simp; omega⟩, (by first | exact cell_later' ((Below.refl _ _).alloc (Nat.le_refl _) _) hcl | simp [go_sem, hcl])⟩
      case measure => simp [intOf]; omega
    · have hkl : k = l0.length := by omega
      subst hkl
      go_wp2_with fail
      refine (HC.out _ HB.out).mono ?_
      rintro e w1 ⟨rfl, hb⟩
      have c1 := cell_later' hb hcl
      have HB1 := Aside0.mk hb
      have HH1 := HH.out
      clear hb
      by_cases h4 : t > 4096
      · have hd : decide (4096 < t) = true := by simpa using h4
        rw [if_pos h4] at HH1
        injection HH1 with h
        injection h with h1 h2
        subst h1; subst h2
        clear h4
        go_wp2
        go_ret2
        exact ⟨_, rfl, Kd.R_nil _ _ _ _ _, HB.out.trans (HB1.out.mono HB.out.size)⟩
      · have hd : decide (4096 < t) = false := by simpa using h4
        rw [if_neg h4] at HH1
        by_cases hl : l0.length * 16 ≤ 140737488355328
        case neg => rw [if_neg hl] at HH1; cases HH1
        rw [if_pos hl] at HH1
        injection HH1 with h
        injection h with h1 h2
        subst h1; subst h2
        have HL := Aside0.mk hl
        clear hl h4
        have HG := Aside0.mk (gather_any 81 #[.pointer (some ⟨w.heap.size, 0, none⟩)] _ (fun g => rfl) hcf81 (someTo addRun 0 4096 l0 0 []) w1 (fun g w2 h1 h2 h3 => lay_normal A0 c0 l0 _ g w1 w2 h1 (Kd.C_below HR.out (HB.out.trans (HB1.out.mono HB.out.size))) c1 h3 h2 HL.out))
        go_wp2_with ((with_reducible refine HG.out.mono ?_); rintro e w3 ⟨v, rfl, hRv, hBv⟩; have HV := Aside0.mk hRv; have HBV := Aside0.mk hBv; clear hRv hBv)
        go_ret2
        exact ⟨_, rfl, Kd.R_lower HV.out (Nat.le_trans HB.out.size HB1.out.size), (HB.out.trans (HB1.out.mono HB.out.size)).trans (HBV.out.mono (Nat.le_trans HB.out.size HB1.out.size))⟩
theorem runs_Normal.calls (k : Nat) (A0 : Option Addr) (c0 : Nat) (l0 : List S100) (r1 : List S100) (r2 : Int) (w : World) (hr0 : Kd.C k100 w A0 l0.length l0) (hc0 : l0.length ≤ c0) (h : runs_Normal.f k l0 = some (r1, r2)) :
    Calls Try.prog 25 #[.slice A0 l0.length c0] w fun e w' => ∃ v0_ : Value, e = .returned (.tuple #[v0_, .int .i64 r2]) ∧ Kd.R k100 100 w' w.heap.size (fun _ => True) v0_ r1 ∧ Below w.heap.size w w' := by
  unfold runs_Normal.f at h
  by_cases hn : ∃ j : Nat, j < l0.length ∧ (rd_T100 l0 (j : Int)).f1 < 0
  · rw [if_pos hn] at h
    injection h with h
    injection h with h1 h2
    subst h1; subst h2
    obtain ⟨j, hj, hn⟩ := hn
    exact runs_Normal.neg A0 c0 l0 j w hr0 hj hn
  · rw [if_neg hn] at h
    obtain ⟨t, ht, h⟩ := Option.bind_eq_some_iff.1 h
    exact runs_Normal.pos k A0 c0 l0 r1 r2 w hr0 hc0 (fun j hj hh => hn ⟨j, hj, hh⟩) t ht h
def runs_Splice.f (k : Nat) (l0 : List S100) (a1 : Int) (a2 : Int) (l3 : List S100) : Option (List S100 × Int) :=
  (runs_within.f k l0 a1 a2).bind fun t => if t = true then ((runs_Good.f k l3).bind fun u => if u = true then ((runs_Total.f k l0).bind fun p => (runs_Total.f k l3).bind fun q =>
    if wrap64 (wrap64 (p - wrap64 (a2 - a1)) + q) > 4096 then some ([], 3) else if (l0.length + l3.length + l0.length) * 16 ≤ 140737488355328 then some (spliceRuns l0 a1 a2 l3, 0) else none) else some ([], 2)) else some ([], 2)
theorem splice_boxes {w w1 : World} {x0 x1 x2 x3 : Value} (hb : Below ((((w.alloc (.cells #[x0] 22)).alloc (.cells #[x1] 3)).alloc (.cells #[x2] 3)).alloc (.cells #[x3] 22)).heap.size ((((w.alloc (.cells #[x0] 22)).alloc (.cells #[x1] 3)).alloc (.cells #[x2] 3)).alloc (.cells #[x3] 22)) w1) :
    Below w.heap.size w w1 ∧ w1.cell? ⟨w.heap.size, 0, none⟩ = some x0 ∧ w1.cell? ⟨w.heap.size + 1, 0, none⟩ = some x1 ∧ w1.cell? ⟨w.heap.size + 1 + 1, 0, none⟩ = some x2 ∧ w1.cell? ⟨w.heap.size + 1 + 1 + 1, 0, none⟩ = some x3 ∧ w.heap.size + 1 + 1 + 1 + 1 ≤ w1.heap.size :=
  ⟨((((Below.refl _ _).alloc (Nat.le_refl _) _).alloc (by simp) _).alloc (by simp; omega) _ |>.alloc (by simp; omega) _).trans (hb.mono (by simp; omega)),
   cell_later' hb (by simp [go_sem]), cell_later' hb (by simp [go_sem]), cell_later' hb (by simp [go_sem]), cell_later' hb (by simp [go_sem]), by have := hb.size; simpa using this⟩
set_option maxHeartbeats 4000000 in
set_option maxRecDepth 100000 in
theorem runs_Splice.out (k : Nat) (A0 : Option Addr) (c0 : Nat) (l0 : List S100) (a1 : Int) (a2 : Int) (A3 : Option Addr) (c3 : Nat) (l3 : List S100) (w : World) (hr0 : Kd.C k100 w A0 l0.length l0) (hc0 : l0.length ≤ c0) (ht : runs_within.f k l0 a1 a2 = some false) :
    Calls Try.prog 40 #[.slice A0 l0.length c0, .int .i64 a1, .int .i64 a2, .slice A3 l3.length c3] w fun e w' => ∃ v0_ : Value, e = .returned (.tuple #[v0_, .int .i64 2]) ∧ Kd.R k100 100 w' w.heap.size (fun _ => True) v0_ [] ∧ Below w.heap.size w w' := by
  have hmf : ∀ (fn : Fn) (first cap : Array Value) (w : World), (Instr.makeFunc fn first cap).run Try.prog w = .ok (.func fn first cap) w := fun _ _ _ _ => rfl
  have HC := Aside0.mk (fun W (hw : Below w.heap.size w W) => runs_within.calls k A0 c0 l0 a1 a2 false W (Kd.C_below hr0 hw) hc0 ht)
  clear hr0 ht
  go_enter Try.func40, Try.ntmps40
  go_wp2_with fail
  refine (HC.out _ (splice_boxes (Below.refl _ _)).1).mono ?_
  rintro e w1 ⟨rfl, hb⟩
  have HB := Aside0.mk (splice_boxes hb)
  clear hb
  go_wp2
  go_ret2
  exact ⟨_, rfl, Kd.R_nil _ _ _ _ _, HB.out.1⟩
set_option maxHeartbeats 4000000 in
set_option maxRecDepth 100000 in
theorem runs_Splice.bad (k : Nat) (A0 : Option Addr) (c0 : Nat) (l0 : List S100) (a1 : Int) (a2 : Int) (A3 : Option Addr) (c3 : Nat) (l3 : List S100) (w : World) (hr0 : Kd.C k100 w A0 l0.length l0) (hc0 : l0.length ≤ c0) (hr3 : Kd.C k100 w A3 l3.length l3) (hc3 : l3.length ≤ c3)
    (ht : runs_within.f k l0 a1 a2 = some true) (hu : runs_Good.f k l3 = some false) :
    Calls Try.prog 40 #[.slice A0 l0.length c0, .int .i64 a1, .int .i64 a2, .slice A3 l3.length c3] w fun e w' => ∃ v0_ : Value, e = .returned (.tuple #[v0_, .int .i64 2]) ∧ Kd.R k100 100 w' w.heap.size (fun _ => True) v0_ [] ∧ Below w.heap.size w w' := by
  have hmf : ∀ (fn : Fn) (first cap : Array Value) (w : World), (Instr.makeFunc fn first cap).run Try.prog w = .ok (.func fn first cap) w := fun _ _ _ _ => rfl
  have HC := Aside0.mk (fun W (hw : Below w.heap.size w W) => runs_within.calls k A0 c0 l0 a1 a2 true W (Kd.C_below hr0 hw) hc0 ht)
  have HG := Aside0.mk (fun W (hw : Below w.heap.size w W) => runs_Good.calls k A3 c3 l3 false W (Kd.C_below hr3 hw) hc3 hu)
  clear hr0 ht hr3 hu
  go_enter Try.func40, Try.ntmps40
  go_wp2_with fail
  refine (HC.out _ (splice_boxes (Below.refl _ _)).1).mono ?_
  rintro e w1 ⟨rfl, hb⟩
  have HB := Aside0.mk (splice_boxes hb)
  have hc4 := (splice_boxes hb).2.2.2.2.1
  clear hb
  go_wp2_with fail
  refine (HG.out _ HB.out.1).mono ?_
  rintro e w2 ⟨rfl, hb⟩
  have HB2 := Aside0.mk (HB.out.1.trans (hb.mono (by have := HB.out.2.2.2.2.2; omega)))
  clear hb
  go_wp2
  go_ret2
  exact ⟨_, rfl, Kd.R_nil _ _ _ _ _, HB2.out⟩
set_option maxHeartbeats 4000000 in
set_option maxRecDepth 100000 in
theorem runs_Splice.rest (k : Nat) (A0 : Option Addr) (c0 : Nat) (l0 : List S100) (a1 : Int) (a2 : Int) (A3 : Option Addr) (c3 : Nat) (l3 : List S100) (r1 : List S100) (r2 : Int) (w : World) (hr0 : Kd.C k100 w A0 l0.length l0) (hc0 : l0.length ≤ c0) (hr3 : Kd.C k100 w A3 l3.length l3) (hc3 : l3.length ≤ c3)
    (ht : runs_within.f k l0 a1 a2 = some true) (hu : runs_Good.f k l3 = some true) (p q : Int) (hp : runs_Total.f k l0 = some p) (hq : runs_Total.f k l3 = some q)
    (h : (if wrap64 (wrap64 (p - wrap64 (a2 - a1)) + q) > 4096 then some ([], 3) else if (l0.length + l3.length + l0.length) * 16 ≤ 140737488355328 then some (spliceRuns l0 a1 a2 l3, 0) else none) = some (r1, r2)) :
    Calls Try.prog 40 #[.slice A0 l0.length c0, .int .i64 a1, .int .i64 a2, .slice A3 l3.length c3] w fun e w' => ∃ v0_ : Value, e = .returned (.tuple #[v0_, .int .i64 r2]) ∧ Kd.R k100 100 w' w.heap.size (fun _ => True) v0_ r1 ∧ Below w.heap.size w w' := by
  have hmf : ∀ (fn : Fn) (first cap : Array Value) (w : World), (Instr.makeFunc fn first cap).run Try.prog w = .ok (.func fn first cap) w := fun _ _ _ _ => rfl
  have HC := Aside0.mk (fun W (hw : Below w.heap.size w W) => runs_within.calls k A0 c0 l0 a1 a2 true W (Kd.C_below hr0 hw) hc0 ht)
  have HG := Aside0.mk (fun W (hw : Below w.heap.size w W) => runs_Good.calls k A3 c3 l3 true W (Kd.C_below hr3 hw) hc3 hu)
  have HT1 := Aside0.mk (fun W (hw : Below w.heap.size w W) => runs_Total.calls k A0 c0 l0 p W (Kd.C_below hr0 hw) hc0 hp)
  have HT2 := Aside0.mk (fun W (hw : Below w.heap.size w W) => runs_Total.calls k A3 c3 l3 q W (Kd.C_below hr3 hw) hc3 hq)
  have HR0 := Aside0.mk hr0
  have HR3 := Aside0.mk hr3
  have HH := Aside0.mk h
  clear hr0 ht hr3 hu hp hq h
  go_enter Try.func40, Try.ntmps40
  go_wp2_with fail
  refine (HC.out _ (splice_boxes (Below.refl _ _)).1).mono ?_
  rintro e w1 ⟨rfl, hb⟩
  have HB := Aside0.mk hb
  have hc4 := (splice_boxes hb).2.2.2.2.1
  clear hb
  go_wp2_with fail
  refine (HG.out _ (splice_boxes HB.out).1).mono ?_
  rintro e w2 ⟨rfl, hb⟩
  have HB2 := Aside0.mk (HB.out.trans (hb.mono (by have := (splice_boxes HB.out).2.2.2.2.2; simp; omega)))
  clear hb hc4
  obtain ⟨hc1, hc2, hc3', hc4, hc5⟩ := (splice_boxes HB2.out).2
  have HZ := Aside0.mk hc5
  clear hc5
  go_wp2_with fail
  go_region_held3 (fun w' => w'.cell? ⟨w.heap.size, 0, none⟩ = some (.slice A0 l0.length c0) ∧ w'.cell? ⟨w.heap.size + 1, 0, none⟩ = some (.int .i64 a1) ∧ w'.cell? ⟨w.heap.size + 1 + 1, 0, none⟩ = some (.int .i64 a2) ∧ w'.cell? ⟨w.heap.size + 1 + 1 + 1, 0, none⟩ = some (.slice A3 l3.length c3) ∧ Aside0 (Below w2.heap.size w2 w'))
    (first
      | exact ⟨hc1, hc2, hc3', hc4, ⟨below_drew (Below.refl _ _)⟩⟩
      | (go_split_ands; exact ⟨cell_later' hb (by assumption), cell_later' hb (by assumption), cell_later' hb (by assumption), cell_later' hb (by assumption), ⟨(fun (g5 : Aside0 (Below w2.heap.size w2 _)) => g5.out.trans (hb.mono g5.out.size)) (by assumption)⟩⟩))
    (first
      | (go_at_call 30; first | ((with_reducible refine (HT1.out _ ?hw).mono ?_); (case hw => go_split_ands; exact (splice_boxes HB2.out).1.trans ((by assumption : Aside0 (Below w2.heap.size w2 _)).out.mono (by have := HZ.out; omega))); rintro e w3 ⟨rfl, hb⟩) | ((with_reducible refine (HT2.out _ ?hw).mono ?_); (case hw => go_split_ands; exact (splice_boxes HB2.out).1.trans ((by assumption : Aside0 (Below w2.heap.size w2 _)).out.mono (by have := HZ.out; omega))); rintro e w3 ⟨rfl, hb⟩)))
  clear hc1 hc2 hc3' hc4
  obtain ⟨hc1, hc2, hc3', hc4, hB3⟩ := ‹_ ∧ _›
  have HB3 := Aside0.mk (HB2.out.trans (hB3.out.mono (by have := HZ.out; simp; omega)))
  clear hB3
  have HH1 := HH.out
  rw [← i64_w, ← i64_w, ← i64_w] at HH1
  generalize IntKind.i64.wrap (IntKind.i64.wrap (p - IntKind.i64.wrap (a2 - a1)) + q) = z at HH1 ⊢
  by_cases h4 : z > 4096
  · have hd : decide (4096 < z) = true := by simpa using h4
    rw [if_pos h4] at HH1
    injection HH1 with h
    injection h with h1 h2
    subst h1; subst h2
    have h4' : 4096 < z := h4
    go_wp2
    go_ret2
    exact ⟨_, rfl, Kd.R_nil _ _ _ _ _, (splice_boxes HB3.out).1⟩
  · have hd : decide (4096 < z) = false := by simpa using h4
    rw [if_neg h4] at HH1
    by_cases hl : (l0.length + l3.length + l0.length) * 16 ≤ 140737488355328
    case neg => rw [if_neg hl] at HH1; cases HH1
    rw [if_pos hl] at HH1
    injection HH1 with h
    injection h with h1 h2
    subst h1; subst h2
    have HL := Aside0.mk hl
    have h4' : ¬ 4096 < z := h4
    clear hl
    have HG := Aside0.mk (gather_any 93 #[.pointer (some ⟨w.heap.size, 0, none⟩), .pointer (some ⟨w.heap.size + 1, 0, none⟩), .pointer (some ⟨w.heap.size + 1 + 1 + 1, 0, none⟩), .pointer (some ⟨w.heap.size + 1 + 1, 0, none⟩)] _ (fun g => rfl) hcf93 (spliceRuns l0 a1 a2 l3) w3 (fun g w4 h1 h2 h3 => lay_splice A0 c0 l0 a1 a2 A3 c3 l3 _ _ _ _ g w3 w4 h1 (Kd.C_below HR0.out (splice_boxes HB3.out).1) (Kd.C_below HR3.out (splice_boxes HB3.out).1) hc1 hc4 hc2 hc3' h3 h2 HL.out))
    go_wp2_with ((with_reducible refine HG.out.mono ?_); rintro e w5 ⟨v, rfl, hRv, hBv⟩; have HV := Aside0.mk hRv; have HBV := Aside0.mk hBv; clear hRv hBv)
    go_ret2
    exact ⟨_, rfl, Kd.R_lower HV.out (by have := (splice_boxes HB3.out).1.size; omega), (splice_boxes HB3.out).1.trans (HBV.out.mono (by have := (splice_boxes HB3.out).1.size; omega))⟩
theorem runs_Splice.calls (k : Nat) (A0 : Option Addr) (c0 : Nat) (l0 : List S100) (a1 : Int) (a2 : Int) (A3 : Option Addr) (c3 : Nat) (l3 : List S100) (r1 : List S100) (r2 : Int) (w : World) (hr0 : Kd.C k100 w A0 l0.length l0) (hc0 : l0.length ≤ c0) (hr3 : Kd.C k100 w A3 l3.length l3) (hc3 : l3.length ≤ c3) (h : runs_Splice.f k l0 a1 a2 l3 = some (r1, r2)) :
    Calls Try.prog 40 #[.slice A0 l0.length c0, .int .i64 a1, .int .i64 a2, .slice A3 l3.length c3] w fun e w' => ∃ v0_ : Value, e = .returned (.tuple #[v0_, .int .i64 r2]) ∧ Kd.R k100 100 w' w.heap.size (fun _ => True) v0_ r1 ∧ Below w.heap.size w w' := by
  unfold runs_Splice.f at h
  obtain ⟨t, ht, h⟩ := Option.bind_eq_some_iff.1 h
  cases t with
  | false =>
    simp only [Bool.false_eq_true, if_false] at h
    injection h with h
    injection h with h1 h2
    subst h1; subst h2
    exact runs_Splice.out k A0 c0 l0 a1 a2 A3 c3 l3 w hr0 hc0 ht
  | true =>
    simp only [if_true] at h
    obtain ⟨u, hu, h⟩ := Option.bind_eq_some_iff.1 h
    cases u with
    | false =>
      simp only [Bool.false_eq_true, if_false] at h
      injection h with h
      injection h with h1 h2
      subst h1; subst h2
      exact runs_Splice.bad k A0 c0 l0 a1 a2 A3 c3 l3 w hr0 hc0 hr3 hc3 ht hu
    | true =>
      simp only [if_true] at h
      obtain ⟨p, hp, h⟩ := Option.bind_eq_some_iff.1 h
      obtain ⟨q, hq, h⟩ := Option.bind_eq_some_iff.1 h
      exact runs_Splice.rest k A0 c0 l0 a1 a2 A3 c3 l3 r1 r2 w hr0 hc0 hr3 hc3 ht hu p q hp hq h
end Go.Proofs.Ythpjagblnddjaaa.PB
end
