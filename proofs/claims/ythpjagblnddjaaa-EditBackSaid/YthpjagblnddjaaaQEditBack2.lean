/- What the row hangs on, part 2. -/
import Derived.Test.YthpjagblnddjaaaProg
import Derived.Test.YthpjagblnddjaaaQEditBack1
section
namespace Go.Proofs.Ythpjagblnddjaaa.PB
open Go.RowKit Go.Proofs.YthpjagblnddjaaaW.PrintWords Go.Proofs.YthpjagblnddjaaaW.PrintLast Go.Proofs.YthpjagblnddjaaaW.PrintMore
attribute [local go_sem] max2_int min2_int max_two min_two max_three min_three max_four min_four   
set_option linter.unusedVariables false
set_option linter.unusedSimpArgs false
def errW : Option Int → Value
  | none => .nilIface
  | some c => .iface 0 (.int .i64 c)
theorem errW_none : errW none = .nilIface := rfl
theorem errW_some (c : Int) : errW (some c) = .iface 0 (.int .i64 c) := rfl
theorem info100 : (Try.prog.info? 100).map (fun i => (i.zero, i.size, i.bytes)) = some (some (.agg #[(.int .u64 0), (.int .i64 0)]), 2, 16) := by kernel_rfl
structure S100 where
  f0 : Int
  f1 : Int
def z100 : S100 := ⟨(0 : Int), (0 : Int)⟩
def k100 : Kd S100 := Kd.iso (Kd.pair (Kd.int .u64) (Kd.int .i64)) (fun x : S100 => (x.f0, x.f1))
theorem k100_open {w : World} {x : S100} {cs : List Value} (h : k100.K w x cs) : cs = [.int .u64 x.f0, .int .i64 x.f1] := by
  obtain ⟨_, _, rfl, rfl, rfl⟩ := h
  exact rfl
theorem k100_openM {w : World} {base : Nat} {ok : Nat → Prop} {x : S100} {cs : List Value} (h : k100.M w base ok x cs) : cs = [.int .u64 x.f0, .int .i64 x.f1] := by
  obtain ⟨_, _, rfl, rfl, rfl⟩ := h
  exact rfl
theorem k100_mkM (w : World) (base : Nat) (ok : Nat → Prop) (x : S100)  : k100.M w base ok x [.int .u64 x.f0, .int .i64 x.f1] := ⟨[.int .u64 x.f0], [.int .i64 x.f1], rfl, rfl, rfl⟩
def rd_T100 (xs : List S100) (i : Int) : S100 := xs.getD i.toNat z100
theorem at_T100 {w : World} {A : Option Addr} {n : Nat} {xs : List S100} (h : Kd.C k100 w A n xs) (i : Int) (h0 : 0 ≤ i) (h1 : i < n) : ∃ ad , A = some ad ∧ w.cell? (ad.add (i.toNat * 2)) = some (.int .u64 (rd_T100 xs i).f0) ∧ w.cell? ⟨(ad.add (i.toNat * 2)).block, (ad.add (i.toNat * 2)).off + 1, none⟩ = some (.int .i64 (rd_T100 xs i).f1) := by
  obtain ⟨ad, c, e, _, hK, hc0⟩ := Kd.C_get h z100 i h0 h1
  have hc : ∀ j u, c[j]? = some u → w.cell? (ad.add (i.toNat * 2 + j)) = some u := hc0
  obtain rfl := k100_open hK
  exact ⟨ad, e, hc 0 _ rfl, by rw [← add_field _ _ 1 (by omega)]; exact hc 1 _ rfl⟩
structure S51 where
  f0 : ByteArray
  f1 : (List S100)
def k51 : Kd S51 := Kd.iso (Kd.pair Kd.string (Kd.slice 100 k100)) (fun x : S51 => (x.f0, x.f1))
theorem k51_open {w : World} {x : S51} {cs : List Value} (h : k51.K w x cs) : ∃ A1 c1, cs = [.string x.f0, .slice A1 x.f1.length c1] ∧ x.f1.length ≤ c1 ∧ k100.C w A1 x.f1.length x.f1 := by
  obtain ⟨_, _, rfl, rfl, ⟨A1, c1, rfl, l1, g1⟩⟩ := h
  exact ⟨A1, c1, rfl, l1, g1⟩
end Go.Proofs.Ythpjagblnddjaaa.PB
end

section
namespace Go.Proofs.Ythpjagblnddjaaa.PB
open Go.RowKit Go.Proofs.YthpjagblnddjaaaW.PrintWords Go.Proofs.YthpjagblnddjaaaW.PrintLast Go.Proofs.YthpjagblnddjaaaW.PrintMore
attribute [local go_sem] max2_int min2_int max_two min_two max_three min_three max_four min_four   
set_option linter.unusedVariables false
set_option linter.unusedSimpArgs false
theorem eqA100 (d : Nat) (w : World) (x0 y0 : Int) (x1 y1 : Int) :
    (Op.equalIn (d + 2) 100 (.agg #[.int .u64 x0, .int .i64 x1]) (.agg #[.int .u64 y0, .int .i64 y1])).run Try.prog w = .ok (x0 == y0 && (x1 == y1)) w := by
  refine eqA_of Try.underlying100 (by kernel_rfl) ?_
  refine eqf_cons (by rfl) (by go_simp; rfl) (by go_simp; rfl) (by go_simp) ?_
  exact eqf_last (by rfl) (by go_simp; rfl) (by go_simp; rfl) (by go_simp)
end Go.Proofs.Ythpjagblnddjaaa.PB
end

section
namespace Go.Proofs.Ythpjagblnddjaaa.PB
open Go.RowKit Go.Proofs.YthpjagblnddjaaaW.PrintWords Go.Proofs.YthpjagblnddjaaaW.PrintLast Go.Proofs.YthpjagblnddjaaaW.PrintMore
attribute [local go_sem] max2_int min2_int max_two min_two max_three min_three max_four min_four   
set_option linter.unusedVariables false
set_option linter.unusedSimpArgs false
attribute [local go_sem high] eqA100
def runs_Total.l0 : Nat → Int → List (S100) → Int → Int → Option (Int)
  | 0, _, _, _, _ => none
  | k + 1, x3, x6, x7, x8 => if x8 < x7 then (if 0 ≤ x8 then (if x8 < (x6.length : Int) then (if ((rd_T100 x6 x8).f1) > (wrap64 (4096 - x3)) then (some 4097) else (runs_Total.l0 k (wrap64 (x3 + (mx ((rd_T100 x6 x8).f1) 0))) x6 x7 (wrap64 (x8 + 1)))) else (none)) else (none)) else (some x3)
def runs_Total.f (k : Nat) (l0 : List (S100)) : Option (Int) := runs_Total.l0 k 0 l0 (l0.length : Int) 0
theorem runs_Total.mono_l : ∀ k, (∀ y0 y1 y2 y3, LeO (runs_Total.l0 k y0 y1 y2 y3) (runs_Total.l0 (k + 1) y0 y1 y2 y3))
  | 0 => fun _ _ _ _ r h => by simp [runs_Total.l0] at h
  | k + 1 => by
    have ih0 := runs_Total.mono_l k
    · intro y0 y1 y2 y3
      unfold runs_Total.l0
      repeat' first
      | (with_reducible exact ih0 _ _ _ _)
      | (with_reducible exact LeO.refl _)
      | (with_reducible exact LeO.none _)
      | (with_reducible refine LeO.ite ?_ ?_)
      | (with_reducible refine LeO.bind ?_ (fun _ => ?_))
      | exact ih0 _ _ _ _
      | exact LeO.none _
      | refine LeO.ite ?_ ?_
      | refine LeO.bind ?_ (fun _ => ?_)
theorem runs_Total.mono : ∀ a0 k, LeO (runs_Total.f k a0) (runs_Total.f (k + 1) a0) := by
  intro a0 k
  have ih0 := runs_Total.mono_l k
  unfold runs_Total.f
  repeat' first
      | (with_reducible exact ih0 _ _ _ _)
      | (with_reducible exact LeO.refl _)
      | (with_reducible exact LeO.none _)
      | (with_reducible refine LeO.ite ?_ ?_)
      | (with_reducible refine LeO.bind ?_ (fun _ => ?_))
      | exact ih0 _ _ _ _
      | exact LeO.none _
      | refine LeO.ite ?_ ?_
      | refine LeO.bind ?_ (fun _ => ?_)
set_option maxHeartbeats 8000000 in
set_option maxRecDepth 100000 in
theorem runs_Total.calls (k : Nat) (A0 : Option Addr) (c0 : Nat) (l0 : List (S100)) (r : Int) (w : World) (hr0 : Kd.C k100 w A0 l0.length l0) (hc0 : l0.length ≤ c0) (h : runs_Total.f k l0 = some r) :
    Calls Try.prog 30 #[.slice A0 l0.length c0] w fun e w' => e = .returned (.int .i64 r) ∧ Below w.heap.size w w' := by
  have hu100 := Try.underlying100
  have HR0 := Aside0.mk hr0
  have HC0 := Aside0.mk hc0
  clear hr0 hc0
  have HB := Aside0.mk (Below.refl w.heap.size w)
  have H : (runs_Total.l0 k 0 l0 (l0.length : Int) 0) = some r := h
  clear h
  have H' := Aside0.mk H
  clear H
  go_enter Try.func30, Try.ntmps30
  go_wp2
  go_loopg [3, 8] k (fun kq v3 v8 w' => ∃ (x3_1 : Int) (x8_1 : Int), v3 = .int .i64 x3_1 ∧ v8 = .int .i64 x8_1 ∧ Aside0 (runs_Total.l0 kq x3_1 l0 (l0.length : Int) x8_1 = some r) ∧ Aside0 (kq ≤ k) ∧ Aside0 (Below w.heap.size w w'))
  case atStart => exact ⟨(0), (0), (by first | rfl | (simp; done) | (simp [*]; done)), (by first | rfl | (simp; done) | (simp [*]; done)), H', ⟨Nat.le_refl _⟩, ⟨by repeat (first | (with_reducible first | exact HB.out | apply below_alloc | apply pw_below_drewN | apply below_drew1) | exact HB.out)⟩⟩
  case round =>
    clear H'
    obtain ⟨x3_1, x8_1, rfl, rfl, HA, HK1, HB⟩ := hrel
    cases gk with
    | zero => exact absurd HA.out (by simp [runs_Total.l0])
    | succ k1 =>
      have H := HA.out
      clear HA
      simp only [runs_Total.l0] at H
      by_cases c2 : x8_1 < (l0.length : Int)
      · rw [if_pos c2] at H
        have c2b0 : decide (x8_1 < (l0.length : Int)) = true := decide_eq_true c2
        clear c2
        by_cases c3 : 0 ≤ x8_1
        · rw [if_pos c3] at H
          have c3b0 : decide (0 ≤ x8_1) = true := decide_eq_true c3
          clear c3
          by_cases c4 : x8_1 < (l0.length : Int)
          · rw [if_pos c4] at H
            have c4b0 : decide (x8_1 < (l0.length : Int)) = true := decide_eq_true c4
            clear c4
            by_cases c5 : ((rd_T100 l0 x8_1).f1) > (wrap64 (4096 - x3_1))
            · rw [if_pos c5] at H
              have c5b0 : decide ((wrap64 (4096 - x3_1)) < ((rd_T100 l0 x8_1).f1)) = true := decide_eq_true c5
              clear c5
              obtain rfl := Option.some.inj H
              have p101 : 0 ≤ (x8_1 : Int) := of_decide_eq_true (by first | (with_reducible assumption) | assumption)
              have q101 : x8_1 < (l0.length : Int) := of_decide_eq_true (by first | (with_reducible assumption) | assumption)
              obtain ⟨ad101, e101, hx101_0, hx101_1⟩ := at_T100 HR0.out x8_1 p101 q101
              cases e101
              replace hx101_0 := (HB.out.cell (World.block_lt_of_cell? w _ hx101_0)).trans hx101_0
              replace hx101_1 := (HB.out.cell (World.block_lt_of_cell? w _ hx101_1)).trans hx101_1
              replace p101 := eq_true p101
              replace q101 := eq_true q101
              go_wp2_with (first | ((with_reducible refine gate_dst (N := 5) rfl ?_); refine box_event ?hg (N := 5) ?hd (cs := #[.int .u64 0, .int .i64 0]) (t := 100) ?hr ?_; (case hd => rfl); (case hg => rfl); (case hr => first | (go_simp; done) | (go_simp; rfl)); intro gb102 hg w6 hbox hb; have n0_ := Aside0.mk (below_step (by repeat (first | (with_reducible first | exact HB.out | apply below_alloc | apply pw_below_drewN | apply below_drew1) | exact HB.out)) hb); have n1_ := Aside0.mk (hbox); have n2_ := Aside0.mk ((by rw [hg]; exact (below_size (by repeat (first | (with_reducible first | exact HB.out | apply below_alloc | apply pw_below_drewN | apply below_drew1) | exact HB.out))) : w.heap.size ≤ gb102)); have n3_ := Aside0.mk ((by rw [hg]; exact (below_size (by repeat (first | (with_reducible first | exact HB.out | apply below_alloc | apply pw_below_drewN | apply below_drew1) | exact HB.out))) : w.heap.size ≤ gb102)); clear HB; have HB := n0_; have BK102 := n1_; have GW102 := n2_; have GE102 := n3_; clear n0_ n1_ n2_ n3_; clear hb hbox hg; have hcz7_0 : w6.cell? ⟨gb102, 0, none⟩ = some (.int .u64 0) := (blk_cell BK102.out 0).trans rfl; have hcz7_1 : w6.cell? ⟨gb102, 1, none⟩ = some (.int .i64 0) := (blk_cell BK102.out 1).trans rfl; have hfz7_0 := blk_frozen BK102.out 0; have hfz7_1 := blk_frozen BK102.out 1))
              go_ret
              exact ⟨by first | rfl | (simp [errW_none, errW_some] <;> rfl) | (simp [*, errW_none, errW_some] <;> rfl), by repeat (first | (with_reducible first | exact HB.out | apply below_alloc | apply pw_below_drewN | apply below_drew1 | refine below_set ?_ GE102.out) | exact HB.out)⟩
            · rw [if_neg c5] at H
              have c5b0 : decide ((wrap64 (4096 - x3_1)) < ((rd_T100 l0 x8_1).f1)) = false := decide_eq_false c5
              clear c5
              obtain ⟨ji8, hji8⟩ : ∃ j_ : Int, (mx ((rd_T100 l0 x8_1).f1) 0) = j_ := ⟨_, rfl⟩
              replace H : (runs_Total.l0 k1 (wrap64 (x3_1 + (ji8))) l0 (l0.length : Int) (wrap64 (x8_1 + 1))) = some r := by first | (rw [hji8] at H; exact H) | (simp only [hji8] at H ⊢; exact H)
              have hji8_ : (if ((rd_T100 l0 x8_1).f1) < 0 then 0 else ((rd_T100 l0 x8_1).f1)) = ji8 := hji8
              have H' := Aside0.mk H
              clear H
              have p101 : 0 ≤ (x8_1 : Int) := of_decide_eq_true (by first | (with_reducible assumption) | assumption)
              have q101 : x8_1 < (l0.length : Int) := of_decide_eq_true (by first | (with_reducible assumption) | assumption)
              obtain ⟨ad101, e101, hx101_0, hx101_1⟩ := at_T100 HR0.out x8_1 p101 q101
              cases e101
              replace hx101_0 := (HB.out.cell (World.block_lt_of_cell? w _ hx101_0)).trans hx101_0
              replace hx101_1 := (HB.out.cell (World.block_lt_of_cell? w _ hx101_1)).trans hx101_1
              replace p101 := eq_true p101
              replace q101 := eq_true q101
              go_wp2_with (first | ((with_reducible refine gate_dst (N := 5) rfl ?_); refine box_event ?hg (N := 5) ?hd (cs := #[.int .u64 0, .int .i64 0]) (t := 100) ?hr ?_; (case hd => rfl); (case hg => rfl); (case hr => first | (go_simp; done) | (go_simp; rfl)); intro gb102 hg w9 hbox hb; have n0_ := Aside0.mk (below_step (by repeat (first | (with_reducible first | exact HB.out | apply below_alloc | apply pw_below_drewN | apply below_drew1) | exact HB.out)) hb); have n1_ := Aside0.mk (hbox); have n2_ := Aside0.mk ((by rw [hg]; exact (below_size (by repeat (first | (with_reducible first | exact HB.out | apply below_alloc | apply pw_below_drewN | apply below_drew1) | exact HB.out))) : w.heap.size ≤ gb102)); have n3_ := Aside0.mk ((by rw [hg]; exact (below_size (by repeat (first | (with_reducible first | exact HB.out | apply below_alloc | apply pw_below_drewN | apply below_drew1) | exact HB.out))) : w.heap.size ≤ gb102)); clear HB; have HB := n0_; have BK102 := n1_; have GW102 := n2_; have GE102 := n3_; clear n0_ n1_ n2_ n3_; clear hb hbox hg; have hcz10_0 : w9.cell? ⟨gb102, 0, none⟩ = some (.int .u64 0) := (blk_cell BK102.out 0).trans rfl; have hcz10_1 : w9.cell? ⟨gb102, 1, none⟩ = some (.int .i64 0) := (blk_cell BK102.out 1).trans rfl; have hfz10_0 := blk_frozen BK102.out 0; have hfz10_1 := blk_frozen BK102.out 1))
              go_roundg k1
              case measure => have := HK1.out; omega
              case rel => exact ⟨(wrap64 (x3_1 + (ji8))), (wrap64 (x8_1 + 1)), (by first | rfl | (simp; done) | (simp only [← hji8] <;> (first | rfl | simp)) | (simp [*]; done)), (by first | rfl | (simp; done) | (simp [*]; done)), H', ⟨by have := HK1.out; omega⟩, ⟨by repeat (first | (with_reducible first | exact HB.out | apply below_alloc | apply pw_below_drewN | apply below_drew1 | refine below_set ?_ GE102.out) | exact HB.out)⟩⟩
          · rw [if_neg c4] at H
            exact absurd H (by simp)
        · rw [if_neg c3] at H
          exact absurd H (by simp)
      · rw [if_neg c2] at H
        have c2b0 : decide (x8_1 < (l0.length : Int)) = false := decide_eq_false c2
        clear c2
        obtain rfl := Option.some.inj H
        go_wp2
        go_ret
        exact ⟨by first | rfl | (simp [errW_none, errW_some] <;> rfl) | (simp [*, errW_none, errW_some] <;> rfl), by repeat (first | (with_reducible first | exact HB.out | apply below_alloc | apply pw_below_drewN | apply below_drew1) | exact HB.out)⟩
def bureauref03_Same.l0 : Nat → List (S100) → List (S100) → Int → Option (Bool)
  | 0, _, _, _ => none
  | k + 1, x0, x1, x5 => if x5 < (x0.length : Int) then (if 0 ≤ x5 then (if x5 < (x1.length : Int) then (if (!(((rd_T100 x0 x5).f0) == ((rd_T100 x1 x5).f0)) || (!(((rd_T100 x0 x5).f1) == ((rd_T100 x1 x5).f1)))) = true then (some false) else (bureauref03_Same.l0 k x0 x1 (wrap64 (x5 + 1)))) else (none)) else (none)) else (some true)
def bureauref03_Same.f (k : Nat) (l0 : List (S100)) (l1 : List (S100)) : Option (Bool) := if (l0.length : Int) = (l1.length : Int) then (bureauref03_Same.l0 k l0 l1 0) else (some false)
set_option maxHeartbeats 8000000 in
set_option maxRecDepth 100000 in
theorem bureauref03_Same.calls (k : Nat) (A0 : Option Addr) (c0 : Nat) (l0 : List (S100)) (A1 : Option Addr) (c1 : Nat) (l1 : List (S100)) (r : Bool) (w : World) (hr0 : Kd.C k100 w A0 l0.length l0) (hc0 : l0.length ≤ c0) (hr1 : Kd.C k100 w A1 l1.length l1) (hc1 : l1.length ≤ c1) (h : bureauref03_Same.f k l0 l1 = some r) :
    Calls Try.prog 27 #[.slice A0 l0.length c0, .slice A1 l1.length c1] w fun e w' => e = .returned (.bool r) ∧ Drawn0 w w' := by
  have hu100 := Try.underlying100
  have HR0 := Aside0.mk hr0
  have HC0 := Aside0.mk hc0
  clear hr0 hc0
  have HR1 := Aside0.mk hr1
  have HC1 := Aside0.mk hc1
  clear hr1 hc1
  have H : (if (l0.length : Int) = (l1.length : Int) then (bureauref03_Same.l0 k l0 l1 0) else (some false)) = some r := h
  clear h
  by_cases c3 : (l0.length : Int) = (l1.length : Int)
  · rw [if_pos c3] at H
    have c3b0 : ((l0.length : Int) == (l1.length : Int)) = true := beq_iff_eq.mpr c3
    have c3b1 : ((l0.length : Int) != (l1.length : Int)) = false := bne_eq_false_iff_eq.mpr c3
    have c3b2 : (l0.length == l1.length) = true := by first | simpa using c3 | (simp at c3 ⊢; omega)
    clear c3
    have H' := Aside0.mk H
    clear H
    go_enter Try.func27, Try.ntmps27
    go_wp2
    repeat (go_quiet (fail); try go_wp2)
    go_loopg [5] k (fun kq v5 w' => ∃ (x5_1 : Int), v5 = .int .i64 x5_1 ∧ Aside0 (bureauref03_Same.l0 kq l0 l1 x5_1 = some r) ∧ Aside0 (kq ≤ k) ∧ Drawn0 w w')
    case atStart => exact ⟨(0), (by first | rfl | (simp; done) | (simp [*]; done)), H', ⟨Nat.le_refl _⟩, by repeat (first | exact Drawn0.refl _ | apply Drawn0.step)⟩
    case round =>
      clear H'
      try clear c1
      try clear c2
      try clear p2
      try clear c3
      try clear c3b0
      try clear c3b1
      try clear c3b2
      obtain ⟨x5_1, rfl, HA, HK1, ⟨m1, rfl⟩⟩ := hrel
      cases gk with
      | zero => exact absurd HA.out (by simp [bureauref03_Same.l0])
      | succ k1 =>
        have H := HA.out
        clear HA
        simp only [bureauref03_Same.l0] at H
        by_cases c4 : x5_1 < (l0.length : Int)
        · rw [if_pos c4] at H
          have c4b0 : decide (x5_1 < (l0.length : Int)) = true := decide_eq_true c4
          clear c4
          by_cases c5 : 0 ≤ x5_1
          · rw [if_pos c5] at H
            have c5b0 : decide (0 ≤ x5_1) = true := decide_eq_true c5
            clear c5
            by_cases c6 : x5_1 < (l1.length : Int)
            · rw [if_pos c6] at H
              have c6b0 : decide (x5_1 < (l1.length : Int)) = true := decide_eq_true c6
              clear c6
              by_cases c7 : (!(((rd_T100 l0 x5_1).f0) == ((rd_T100 l1 x5_1).f0)) || (!(((rd_T100 l0 x5_1).f1) == ((rd_T100 l1 x5_1).f1)))) = true
              · rw [if_pos c7] at H
                have c7b0 : (!(((rd_T100 l0 x5_1).f0) == ((rd_T100 l1 x5_1).f0)) || (!(((rd_T100 l0 x5_1).f1) == ((rd_T100 l1 x5_1).f1)))) = true := c7
                clear c7
                obtain rfl := Option.some.inj H
                have p103 : 0 ≤ (x5_1 : Int) := of_decide_eq_true (by first | (with_reducible assumption) | assumption)
                have q103 : x5_1 < (l0.length : Int) := of_decide_eq_true (by first | (with_reducible assumption) | assumption)
                obtain ⟨ad103, e103, hx103_0, hx103_1⟩ := at_T100 HR0.out x5_1 p103 q103
                cases e103
                replace p103 := eq_true p103
                replace q103 := eq_true q103
                have p104 : 0 ≤ (x5_1 : Int) := of_decide_eq_true (by first | (with_reducible assumption) | assumption)
                have q104 : x5_1 < (l1.length : Int) := of_decide_eq_true (by first | (with_reducible assumption) | assumption)
                obtain ⟨ad104, e104, hx104_0, hx104_1⟩ := at_T100 HR1.out x5_1 p104 q104
                cases e104
                replace p104 := eq_true p104
                replace q104 := eq_true q104
                go_wp2
                repeat (go_quiet (fail); try go_wp2)
                go_ret
                exact ⟨by first | rfl | (simp; done) | (simp [*]; done), by repeat (first | exact Drawn0.refl _ | apply Drawn0.step)⟩
              · rw [if_neg c7] at H
                have c7b0 : (!(((rd_T100 l0 x5_1).f0) == ((rd_T100 l1 x5_1).f0)) || (!(((rd_T100 l0 x5_1).f1) == ((rd_T100 l1 x5_1).f1)))) = false := by simpa using c7
                clear c7
                have H' := Aside0.mk H
                clear H
                have p103 : 0 ≤ (x5_1 : Int) := of_decide_eq_true (by first | (with_reducible assumption) | assumption)
                have q103 : x5_1 < (l0.length : Int) := of_decide_eq_true (by first | (with_reducible assumption) | assumption)
                obtain ⟨ad103, e103, hx103_0, hx103_1⟩ := at_T100 HR0.out x5_1 p103 q103
                cases e103
                replace p103 := eq_true p103
                replace q103 := eq_true q103
                have p104 : 0 ≤ (x5_1 : Int) := of_decide_eq_true (by first | (with_reducible assumption) | assumption)
                have q104 : x5_1 < (l1.length : Int) := of_decide_eq_true (by first | (with_reducible assumption) | assumption)
                obtain ⟨ad104, e104, hx104_0, hx104_1⟩ := at_T100 HR1.out x5_1 p104 q104
                cases e104
                replace p104 := eq_true p104
                replace q104 := eq_true q104
                go_wp2
                repeat (go_quiet (fail); try go_wp2)
                go_roundg k1
                case measure => have := HK1.out; omega
                case rel => exact ⟨(wrap64 (x5_1 + 1)), (by first | rfl | (simp; done) | (simp [*]; done)), H', ⟨by have := HK1.out; omega⟩, by repeat (first | exact Drawn0.refl _ | apply Drawn0.step)⟩
            · rw [if_neg c6] at H
              exact absurd H (by simp)
          · rw [if_neg c5] at H
            exact absurd H (by simp)
        · rw [if_neg c4] at H
          have c4b0 : decide (x5_1 < (l0.length : Int)) = false := decide_eq_false c4
          clear c4
          obtain rfl := Option.some.inj H
          go_wp2
          repeat (go_quiet (fail); try go_wp2)
          go_ret
          exact ⟨by first | rfl | (simp; done) | (simp [*]; done), by repeat (first | exact Drawn0.refl _ | apply Drawn0.step)⟩
  · rw [if_neg c3] at H
    have c3b0 : ((l0.length : Int) == (l1.length : Int)) = false := beq_eq_false_iff_ne.mpr c3
    have c3b1 : ((l0.length : Int) != (l1.length : Int)) = true := bne_iff_ne.mpr c3
    have c3b2 : (l0.length == l1.length) = false := by first | simpa using c3 | (simp at c3 ⊢; omega)
    obtain rfl := Option.some.inj H
    go_enter Try.func27, Try.ntmps27
    go_wp2
    repeat (go_quiet (fail); try go_wp2)
    go_ret
    exact ⟨by first | rfl | (simp; done) | (simp [*]; done), by repeat (first | exact Drawn0.refl _ | apply Drawn0.step)⟩
def runs_Good.l0 : Nat → List (S100) → List (S100) → Int → Int → Option (Bool)
  | 0, _, _, _, _ => none
  | k + 1, x0, x5, x6, x7 => if x7 < x6 then (if 0 ≤ x7 then (if x7 < (x5.length : Int) then (if ((rd_T100 x5 x7).f1) < 1 then (some false) else (if x7 > 0 then (if 0 ≤ (wrap64 (x7 - 1)) then (if (wrap64 (x7 - 1)) < (x0.length : Int) then (if ((rd_T100 x0 (wrap64 (x7 - 1))).f0) = ((rd_T100 x5 x7).f0) then (some false) else (runs_Good.l0 k x0 x5 x6 (wrap64 (x7 + 1)))) else (none)) else (none)) else (runs_Good.l0 k x0 x5 x6 (wrap64 (x7 + 1))))) else (none)) else (none)) else ((runs_Total.f k x0).bind fun t108 => (some (decide (t108 ≤ 4096))))
def runs_Good.f (k : Nat) (l0 : List (S100)) : Option (Bool) := runs_Good.l0 k l0 l0 (l0.length : Int) 0
theorem runs_Good.mono_l : ∀ k, (∀ y0 y1 y2 y3, LeO (runs_Good.l0 k y0 y1 y2 y3) (runs_Good.l0 (k + 1) y0 y1 y2 y3))
  | 0 => fun _ _ _ _ r h => by simp [runs_Good.l0] at h
  | k + 1 => by
    have ih0 := runs_Good.mono_l k
    · intro y0 y1 y2 y3
      unfold runs_Good.l0
      repeat' first
      | (with_reducible exact ih0 _ _ _ _)
      | (with_reducible exact runs_Total.mono _ _)
      | (with_reducible exact LeO.refl _)
      | (with_reducible exact LeO.none _)
      | (with_reducible refine LeO.ite ?_ ?_)
      | (with_reducible refine LeO.bind ?_ (fun _ => ?_))
      | exact ih0 _ _ _ _
      | exact runs_Total.mono _ _
      | exact LeO.none _
      | refine LeO.ite ?_ ?_
      | refine LeO.bind ?_ (fun _ => ?_)
theorem runs_Good.mono : ∀ a0 k, LeO (runs_Good.f k a0) (runs_Good.f (k + 1) a0) := by
  intro a0 k
  have ih0 := runs_Good.mono_l k
  unfold runs_Good.f
  repeat' first
      | (with_reducible exact ih0 _ _ _ _)
      | (with_reducible exact runs_Total.mono _ _)
      | (with_reducible exact LeO.refl _)
      | (with_reducible exact LeO.none _)
      | (with_reducible refine LeO.ite ?_ ?_)
      | (with_reducible refine LeO.bind ?_ (fun _ => ?_))
      | exact ih0 _ _ _ _
      | exact runs_Total.mono _ _
      | exact LeO.none _
      | refine LeO.ite ?_ ?_
      | refine LeO.bind ?_ (fun _ => ?_)
set_option maxHeartbeats 8000000 in
set_option maxRecDepth 100000 in
theorem runs_Good.calls (k : Nat) (A0 : Option Addr) (c0 : Nat) (l0 : List (S100)) (r : Bool) (w : World) (hr0 : Kd.C k100 w A0 l0.length l0) (hc0 : l0.length ≤ c0) (h : runs_Good.f k l0 = some r) :
    Calls Try.prog 28 #[.slice A0 l0.length c0] w fun e w' => e = .returned (.bool r) ∧ Below w.heap.size w w' := by
  have hu100 := Try.underlying100
  have HR0 := Aside0.mk hr0
  have HC0 := Aside0.mk hc0
  clear hr0 hc0
  have HB := Aside0.mk (Below.refl w.heap.size w)
  have H : (runs_Good.l0 k l0 l0 (l0.length : Int) 0) = some r := h
  clear h
  have H' := Aside0.mk H
  clear H
  go_enter Try.func28, Try.ntmps28
  go_wp2
  repeat (go_quiet (fail); try go_wp2)
  go_loopg [7] k (fun kq v7 w' => ∃ (x7_1 : Int), v7 = .int .i64 x7_1 ∧ Aside0 (runs_Good.l0 kq l0 l0 (l0.length : Int) x7_1 = some r) ∧ Aside0 (kq ≤ k) ∧ Aside0 (Below w.heap.size w w'))
  case atStart => exact ⟨(0), (by first | rfl | (simp; done) | (simp [*]; done)), H', ⟨Nat.le_refl _⟩, ⟨by repeat (first | (with_reducible first | exact HB.out | apply below_alloc | apply pw_below_drewN | apply below_drew1) | exact HB.out)⟩⟩
  case round =>
    clear H'
    obtain ⟨x7_1, rfl, HA, HK1, HB⟩ := hrel
    cases gk with
    | zero => exact absurd HA.out (by simp [runs_Good.l0])
    | succ k1 =>
      have H := HA.out
      clear HA
      simp only [runs_Good.l0] at H
      by_cases c2 : x7_1 < (l0.length : Int)
      · rw [if_pos c2] at H
        have c2b0 : decide (x7_1 < (l0.length : Int)) = true := decide_eq_true c2
        clear c2
        by_cases c3 : 0 ≤ x7_1
        · rw [if_pos c3] at H
          have c3b0 : decide (0 ≤ x7_1) = true := decide_eq_true c3
          clear c3
          by_cases c4 : x7_1 < (l0.length : Int)
          · rw [if_pos c4] at H
            have c4b0 : decide (x7_1 < (l0.length : Int)) = true := decide_eq_true c4
            clear c4
            by_cases c5 : ((rd_T100 l0 x7_1).f1) < 1
            · rw [if_pos c5] at H
              have c5b0 : decide (((rd_T100 l0 x7_1).f1) < 1) = true := decide_eq_true c5
              clear c5
              obtain rfl := Option.some.inj H
              have p105 : 0 ≤ (x7_1 : Int) := of_decide_eq_true (by first | (with_reducible assumption) | assumption)
              have q105 : x7_1 < (l0.length : Int) := of_decide_eq_true (by first | (with_reducible assumption) | assumption)
              obtain ⟨ad105, e105, hx105_0, hx105_1⟩ := at_T100 HR0.out x7_1 p105 q105
              cases e105
              replace hx105_0 := (HB.out.cell (World.block_lt_of_cell? w _ hx105_0)).trans hx105_0
              replace hx105_1 := (HB.out.cell (World.block_lt_of_cell? w _ hx105_1)).trans hx105_1
              replace p105 := eq_true p105
              replace q105 := eq_true q105
              go_wp2_with (first | ((with_reducible refine gate_dst (N := 4) rfl ?_); refine box_event ?hg (N := 4) ?hd (cs := #[.int .u64 0, .int .i64 0]) (t := 100) ?hr ?_; (case hd => rfl); (case hg => rfl); (case hr => first | (go_simp; done) | (go_simp; rfl)); intro gb106 hg w6 hbox hb; have n0_ := Aside0.mk (below_step (by repeat (first | (with_reducible first | exact HB.out | apply below_alloc | apply pw_below_drewN | apply below_drew1) | exact HB.out)) hb); have n1_ := Aside0.mk (hbox); have n2_ := Aside0.mk ((by rw [hg]; exact (below_size (by repeat (first | (with_reducible first | exact HB.out | apply below_alloc | apply pw_below_drewN | apply below_drew1) | exact HB.out))) : w.heap.size ≤ gb106)); have n3_ := Aside0.mk ((by rw [hg]; exact (below_size (by repeat (first | (with_reducible first | exact HB.out | apply below_alloc | apply pw_below_drewN | apply below_drew1) | exact HB.out))) : w.heap.size ≤ gb106)); clear HB; have HB := n0_; have BK106 := n1_; have GW106 := n2_; have GE106 := n3_; clear n0_ n1_ n2_ n3_; clear hb hbox hg; have hcz7_0 : w6.cell? ⟨gb106, 0, none⟩ = some (.int .u64 0) := (blk_cell BK106.out 0).trans rfl; have hcz7_1 : w6.cell? ⟨gb106, 1, none⟩ = some (.int .i64 0) := (blk_cell BK106.out 1).trans rfl; have hfz7_0 := blk_frozen BK106.out 0; have hfz7_1 := blk_frozen BK106.out 1))
              repeat (go_quiet (first | ((with_reducible refine gate_dst (N := 4) rfl ?_); refine box_event ?hg (N := 4) ?hd (cs := #[.int .u64 0, .int .i64 0]) (t := 100) ?hr ?_; (case hd => rfl); (case hg => rfl); (case hr => first | (go_simp; done) | (go_simp; rfl)); intro gb106 hg w6 hbox hb; have n0_ := Aside0.mk (below_step (by repeat (first | (with_reducible first | exact HB.out | apply below_alloc | apply pw_below_drewN | apply below_drew1) | exact HB.out)) hb); have n1_ := Aside0.mk (hbox); have n2_ := Aside0.mk ((by rw [hg]; exact (below_size (by repeat (first | (with_reducible first | exact HB.out | apply below_alloc | apply pw_below_drewN | apply below_drew1) | exact HB.out))) : w.heap.size ≤ gb106)); have n3_ := Aside0.mk ((by rw [hg]; exact (below_size (by repeat (first | (with_reducible first | exact HB.out | apply below_alloc | apply pw_below_drewN | apply below_drew1) | exact HB.out))) : w.heap.size ≤ gb106)); clear HB; have HB := n0_; have BK106 := n1_; have GW106 := n2_; have GE106 := n3_; clear n0_ n1_ n2_ n3_; clear hb hbox hg; have hcz7_0 : w6.cell? ⟨gb106, 0, none⟩ = some (.int .u64 0) := (blk_cell BK106.out 0).trans rfl; have hcz7_1 : w6.cell? ⟨gb106, 1, none⟩ = some (.int .i64 0) := (blk_cell BK106.out 1).trans rfl; have hfz7_0 := blk_frozen BK106.out 0; have hfz7_1 := blk_frozen BK106.out 1)); try go_wp2_with (first | ((with_reducible refine gate_dst (N := 4) rfl ?_); refine box_event ?hg (N := 4) ?hd (cs := #[.int .u64 0, .int .i64 0]) (t := 100) ?hr ?_; (case hd => rfl); (case hg => rfl); (case hr => first | (go_simp; done) | (go_simp; rfl)); intro gb106 hg w6 hbox hb; have n0_ := Aside0.mk (below_step (by repeat (first | (with_reducible first | exact HB.out | apply below_alloc | apply pw_below_drewN | apply below_drew1) | exact HB.out)) hb); have n1_ := Aside0.mk (hbox); have n2_ := Aside0.mk ((by rw [hg]; exact (below_size (by repeat (first | (with_reducible first | exact HB.out | apply below_alloc | apply pw_below_drewN | apply below_drew1) | exact HB.out))) : w.heap.size ≤ gb106)); have n3_ := Aside0.mk ((by rw [hg]; exact (below_size (by repeat (first | (with_reducible first | exact HB.out | apply below_alloc | apply pw_below_drewN | apply below_drew1) | exact HB.out))) : w.heap.size ≤ gb106)); clear HB; have HB := n0_; have BK106 := n1_; have GW106 := n2_; have GE106 := n3_; clear n0_ n1_ n2_ n3_; clear hb hbox hg; have hcz7_0 : w6.cell? ⟨gb106, 0, none⟩ = some (.int .u64 0) := (blk_cell BK106.out 0).trans rfl; have hcz7_1 : w6.cell? ⟨gb106, 1, none⟩ = some (.int .i64 0) := (blk_cell BK106.out 1).trans rfl; have hfz7_0 := blk_frozen BK106.out 0; have hfz7_1 := blk_frozen BK106.out 1)))
              go_ret
              exact ⟨by first | rfl | (simp [errW_none, errW_some] <;> rfl) | (simp [*, errW_none, errW_some] <;> rfl), by repeat (first | (with_reducible first | exact HB.out | apply below_alloc | apply pw_below_drewN | apply below_drew1 | refine below_set ?_ GE106.out) | exact HB.out)⟩
            · rw [if_neg c5] at H
              have c5b0 : decide (((rd_T100 l0 x7_1).f1) < 1) = false := decide_eq_false c5
              clear c5
              by_cases c8 : x7_1 > 0
              · rw [if_pos c8] at H
                have c8b0 : decide (0 < x7_1) = true := decide_eq_true c8
                clear c8
                obtain ⟨ji9, hji9⟩ : ∃ j_ : Int, (wrap64 (x7_1 - 1)) = j_ := ⟨_, rfl⟩
                replace H : (if 0 ≤ (ji9) then (if (ji9) < (l0.length : Int) then (if ((rd_T100 l0 (ji9)).f0) = ((rd_T100 l0 x7_1).f0) then (some false) else (runs_Good.l0 k1 l0 l0 (l0.length : Int) (wrap64 (x7_1 + 1)))) else (none)) else (none)) = some r := by first | (rw [hji9] at H; exact H) | (simp only [hji9] at H ⊢; exact H)
                have hji9w : (IntKind.i64.wrap (x7_1 - 1)) = ji9 := (i64_w _).trans hji9
                by_cases c10 : 0 ≤ (ji9)
                · rw [if_pos c10] at H
                  have c10b0 : decide (0 ≤ (ji9)) = true := decide_eq_true c10
                  clear c10
                  by_cases c11 : (ji9) < (l0.length : Int)
                  · rw [if_pos c11] at H
                    have c11b0 : decide ((ji9) < (l0.length : Int)) = true := decide_eq_true c11
                    clear c11
                    by_cases c12 : ((rd_T100 l0 (ji9)).f0) = ((rd_T100 l0 x7_1).f0)
                    · rw [if_pos c12] at H
                      have c12b0 : (((rd_T100 l0 (ji9)).f0) == ((rd_T100 l0 x7_1).f0)) = true := beq_iff_eq.mpr c12
                      have c12b1 : (((rd_T100 l0 (ji9)).f0) != ((rd_T100 l0 x7_1).f0)) = false := bne_eq_false_iff_eq.mpr c12
                      clear c12
                      obtain rfl := Option.some.inj H
                      have p105 : 0 ≤ (x7_1 : Int) := of_decide_eq_true (by first | (with_reducible assumption) | assumption)
                      have q105 : x7_1 < (l0.length : Int) := of_decide_eq_true (by first | (with_reducible assumption) | assumption)
                      obtain ⟨ad105, e105, hx105_0, hx105_1⟩ := at_T100 HR0.out x7_1 p105 q105
                      cases e105
                      replace hx105_0 := (HB.out.cell (World.block_lt_of_cell? w _ hx105_0)).trans hx105_0
                      replace hx105_1 := (HB.out.cell (World.block_lt_of_cell? w _ hx105_1)).trans hx105_1
                      replace p105 := eq_true p105
                      replace q105 := eq_true q105
                      go_wp2_with (first | ((with_reducible refine gate_dst (N := 4) rfl ?_); refine box_event ?hg (N := 4) ?hd (cs := #[.int .u64 0, .int .i64 0]) (t := 100) ?hr ?_; (case hd => rfl); (case hg => rfl); (case hr => first | (go_simp; done) | (go_simp; rfl)); intro gb106 hg w13 hbox hb; have n0_ := Aside0.mk (below_step (by repeat (first | (with_reducible first | exact HB.out | apply below_alloc | apply pw_below_drewN | apply below_drew1) | exact HB.out)) hb); have n1_ := Aside0.mk (hbox); have n2_ := Aside0.mk ((by rw [hg]; exact (below_size (by repeat (first | (with_reducible first | exact HB.out | apply below_alloc | apply pw_below_drewN | apply below_drew1) | exact HB.out))) : w.heap.size ≤ gb106)); have n3_ := Aside0.mk ((by rw [hg]; exact (below_size (by repeat (first | (with_reducible first | exact HB.out | apply below_alloc | apply pw_below_drewN | apply below_drew1) | exact HB.out))) : w.heap.size ≤ gb106)); clear HB; have HB := n0_; have BK106 := n1_; have GW106 := n2_; have GE106 := n3_; clear n0_ n1_ n2_ n3_; clear hb hbox hg; have hcz14_0 : w13.cell? ⟨gb106, 0, none⟩ = some (.int .u64 0) := (blk_cell BK106.out 0).trans rfl; have hcz14_1 : w13.cell? ⟨gb106, 1, none⟩ = some (.int .i64 0) := (blk_cell BK106.out 1).trans rfl; have hfz14_0 := blk_frozen BK106.out 0; have hfz14_1 := blk_frozen BK106.out 1; have p107 : 0 ≤ ((ji9) : Int) := of_decide_eq_true (by first | (with_reducible assumption) | assumption); have q107 : (ji9) < (l0.length : Int) := of_decide_eq_true (by first | (with_reducible assumption) | assumption); obtain ⟨ad107, e107, hx107_0, hx107_1⟩ := at_T100 HR0.out (ji9) p107 q107; obtain rfl : ad105 = ad107 := (by injection e107); have hn107_0 : ad105.block ≠ gb106 := Nat.ne_of_lt (Nat.lt_of_lt_of_le (by have := World.block_lt_of_cell? _ _ hx107_0; first | rwa [add_block] at this | exact this) GW106.out); have hn107_1 : ad105.block ≠ gb106 := Nat.ne_of_lt (Nat.lt_of_lt_of_le (by have := World.block_lt_of_cell? _ _ hx107_0; first | rwa [add_block] at this | exact this) GW106.out); replace hx107_0 := (HB.out.cell (World.block_lt_of_cell? w _ hx107_0)).trans hx107_0; replace hx107_1 := (HB.out.cell (World.block_lt_of_cell? w _ hx107_1)).trans hx107_1; replace hx107_0 := (cell_far (p := ⟨gb106, 0, none⟩) (by first | (rw [add_block]; exact hn107_0) | (show (Addr.add _ _).block ≠ _; rw [add_block]; exact hn107_0) | exact hn107_0) (.int .u64 ((rd_T100 l0 x7_1).f0))).trans hx107_0; replace hx107_1 := (cell_far (p := ⟨gb106, 0, none⟩) (by first | (rw [add_block]; exact hn107_0) | (show (Addr.add _ _).block ≠ _; rw [add_block]; exact hn107_0) | exact hn107_0) (.int .u64 ((rd_T100 l0 x7_1).f0))).trans hx107_1; replace hx107_0 := (cell_far (p := ⟨gb106, 1, none⟩) (by first | (rw [add_block]; exact hn107_1) | (show (Addr.add _ _).block ≠ _; rw [add_block]; exact hn107_1) | exact hn107_1) (.int .i64 ((rd_T100 l0 x7_1).f1))).trans hx107_0; replace hx107_1 := (cell_far (p := ⟨gb106, 1, none⟩) (by first | (rw [add_block]; exact hn107_1) | (show (Addr.add _ _).block ≠ _; rw [add_block]; exact hn107_1) | exact hn107_1) (.int .i64 ((rd_T100 l0 x7_1).f1))).trans hx107_1; (try have hy107_0 := fun (n_ : Nat) => (show ((((w13.drewN n_).setCell ⟨gb106, 0, none⟩ (.int .u64 ((rd_T100 l0 x7_1).f0))).setCell ⟨gb106, 1, none⟩ (.int .i64 ((rd_T100 l0 x7_1).f1)))).cell? _ = some _ from hx107_0)); (try have hy107_1 := fun (n_ : Nat) => (show ((((w13.drewN n_).setCell ⟨gb106, 0, none⟩ (.int .u64 ((rd_T100 l0 x7_1).f0))).setCell ⟨gb106, 1, none⟩ (.int .i64 ((rd_T100 l0 x7_1).f1)))).cell? _ = some _ from hx107_1)); clear hn107_0; clear hn107_1; replace p107 := eq_true p107; replace q107 := eq_true q107))
                      repeat (go_quiet (first | ((with_reducible refine gate_dst (N := 4) rfl ?_); refine box_event ?hg (N := 4) ?hd (cs := #[.int .u64 0, .int .i64 0]) (t := 100) ?hr ?_; (case hd => rfl); (case hg => rfl); (case hr => first | (go_simp; done) | (go_simp; rfl)); intro gb106 hg w13 hbox hb; have n0_ := Aside0.mk (below_step (by repeat (first | (with_reducible first | exact HB.out | apply below_alloc | apply pw_below_drewN | apply below_drew1) | exact HB.out)) hb); have n1_ := Aside0.mk (hbox); have n2_ := Aside0.mk ((by rw [hg]; exact (below_size (by repeat (first | (with_reducible first | exact HB.out | apply below_alloc | apply pw_below_drewN | apply below_drew1) | exact HB.out))) : w.heap.size ≤ gb106)); have n3_ := Aside0.mk ((by rw [hg]; exact (below_size (by repeat (first | (with_reducible first | exact HB.out | apply below_alloc | apply pw_below_drewN | apply below_drew1) | exact HB.out))) : w.heap.size ≤ gb106)); clear HB; have HB := n0_; have BK106 := n1_; have GW106 := n2_; have GE106 := n3_; clear n0_ n1_ n2_ n3_; clear hb hbox hg; have hcz14_0 : w13.cell? ⟨gb106, 0, none⟩ = some (.int .u64 0) := (blk_cell BK106.out 0).trans rfl; have hcz14_1 : w13.cell? ⟨gb106, 1, none⟩ = some (.int .i64 0) := (blk_cell BK106.out 1).trans rfl; have hfz14_0 := blk_frozen BK106.out 0; have hfz14_1 := blk_frozen BK106.out 1; have p107 : 0 ≤ ((ji9) : Int) := of_decide_eq_true (by first | (with_reducible assumption) | assumption); have q107 : (ji9) < (l0.length : Int) := of_decide_eq_true (by first | (with_reducible assumption) | assumption); obtain ⟨ad107, e107, hx107_0, hx107_1⟩ := at_T100 HR0.out (ji9) p107 q107; obtain rfl : ad105 = ad107 := (by injection e107); have hn107_0 : ad105.block ≠ gb106 := Nat.ne_of_lt (Nat.lt_of_lt_of_le (by have := World.block_lt_of_cell? _ _ hx107_0; first | rwa [add_block] at this | exact this) GW106.out); have hn107_1 : ad105.block ≠ gb106 := Nat.ne_of_lt (Nat.lt_of_lt_of_le (by have := World.block_lt_of_cell? _ _ hx107_0; first | rwa [add_block] at this | exact this) GW106.out); replace hx107_0 := (HB.out.cell (World.block_lt_of_cell? w _ hx107_0)).trans hx107_0; replace hx107_1 := (HB.out.cell (World.block_lt_of_cell? w _ hx107_1)).trans hx107_1; replace hx107_0 := (cell_far (p := ⟨gb106, 0, none⟩) (by first | (rw [add_block]; exact hn107_0) | (show (Addr.add _ _).block ≠ _; rw [add_block]; exact hn107_0) | exact hn107_0) (.int .u64 ((rd_T100 l0 x7_1).f0))).trans hx107_0; replace hx107_1 := (cell_far (p := ⟨gb106, 0, none⟩) (by first | (rw [add_block]; exact hn107_0) | (show (Addr.add _ _).block ≠ _; rw [add_block]; exact hn107_0) | exact hn107_0) (.int .u64 ((rd_T100 l0 x7_1).f0))).trans hx107_1; replace hx107_0 := (cell_far (p := ⟨gb106, 1, none⟩) (by first | (rw [add_block]; exact hn107_1) | (show (Addr.add _ _).block ≠ _; rw [add_block]; exact hn107_1) | exact hn107_1) (.int .i64 ((rd_T100 l0 x7_1).f1))).trans hx107_0; replace hx107_1 := (cell_far (p := ⟨gb106, 1, none⟩) (by first | (rw [add_block]; exact hn107_1) | (show (Addr.add _ _).block ≠ _; rw [add_block]; exact hn107_1) | exact hn107_1) (.int .i64 ((rd_T100 l0 x7_1).f1))).trans hx107_1; (try have hy107_0 := fun (n_ : Nat) => (show ((((w13.drewN n_).setCell ⟨gb106, 0, none⟩ (.int .u64 ((rd_T100 l0 x7_1).f0))).setCell ⟨gb106, 1, none⟩ (.int .i64 ((rd_T100 l0 x7_1).f1)))).cell? _ = some _ from hx107_0)); (try have hy107_1 := fun (n_ : Nat) => (show ((((w13.drewN n_).setCell ⟨gb106, 0, none⟩ (.int .u64 ((rd_T100 l0 x7_1).f0))).setCell ⟨gb106, 1, none⟩ (.int .i64 ((rd_T100 l0 x7_1).f1)))).cell? _ = some _ from hx107_1)); clear hn107_0; clear hn107_1; replace p107 := eq_true p107; replace q107 := eq_true q107)); try go_wp2_with (first | ((with_reducible refine gate_dst (N := 4) rfl ?_); refine box_event ?hg (N := 4) ?hd (cs := #[.int .u64 0, .int .i64 0]) (t := 100) ?hr ?_; (case hd => rfl); (case hg => rfl); (case hr => first | (go_simp; done) | (go_simp; rfl)); intro gb106 hg w13 hbox hb; have n0_ := Aside0.mk (below_step (by repeat (first | (with_reducible first | exact HB.out | apply below_alloc | apply pw_below_drewN | apply below_drew1) | exact HB.out)) hb); have n1_ := Aside0.mk (hbox); have n2_ := Aside0.mk ((by rw [hg]; exact (below_size (by repeat (first | (with_reducible first | exact HB.out | apply below_alloc | apply pw_below_drewN | apply below_drew1) | exact HB.out))) : w.heap.size ≤ gb106)); have n3_ := Aside0.mk ((by rw [hg]; exact (below_size (by repeat (first | (with_reducible first | exact HB.out | apply below_alloc | apply pw_below_drewN | apply below_drew1) | exact HB.out))) : w.heap.size ≤ gb106)); clear HB; have HB := n0_; have BK106 := n1_; have GW106 := n2_; have GE106 := n3_; clear n0_ n1_ n2_ n3_; clear hb hbox hg; have hcz14_0 : w13.cell? ⟨gb106, 0, none⟩ = some (.int .u64 0) := (blk_cell BK106.out 0).trans rfl; have hcz14_1 : w13.cell? ⟨gb106, 1, none⟩ = some (.int .i64 0) := (blk_cell BK106.out 1).trans rfl; have hfz14_0 := blk_frozen BK106.out 0; have hfz14_1 := blk_frozen BK106.out 1; have p107 : 0 ≤ ((ji9) : Int) := of_decide_eq_true (by first | (with_reducible assumption) | assumption); have q107 : (ji9) < (l0.length : Int) := of_decide_eq_true (by first | (with_reducible assumption) | assumption); obtain ⟨ad107, e107, hx107_0, hx107_1⟩ := at_T100 HR0.out (ji9) p107 q107; obtain rfl : ad105 = ad107 := (by injection e107); have hn107_0 : ad105.block ≠ gb106 := Nat.ne_of_lt (Nat.lt_of_lt_of_le (by have := World.block_lt_of_cell? _ _ hx107_0; first | rwa [add_block] at this | exact this) GW106.out); have hn107_1 : ad105.block ≠ gb106 := Nat.ne_of_lt (Nat.lt_of_lt_of_le (by have := World.block_lt_of_cell? _ _ hx107_0; first | rwa [add_block] at this | exact this) GW106.out); replace hx107_0 := (HB.out.cell (World.block_lt_of_cell? w _ hx107_0)).trans hx107_0; replace hx107_1 := (HB.out.cell (World.block_lt_of_cell? w _ hx107_1)).trans hx107_1; replace hx107_0 := (cell_far (p := ⟨gb106, 0, none⟩) (by first | (rw [add_block]; exact hn107_0) | (show (Addr.add _ _).block ≠ _; rw [add_block]; exact hn107_0) | exact hn107_0) (.int .u64 ((rd_T100 l0 x7_1).f0))).trans hx107_0; replace hx107_1 := (cell_far (p := ⟨gb106, 0, none⟩) (by first | (rw [add_block]; exact hn107_0) | (show (Addr.add _ _).block ≠ _; rw [add_block]; exact hn107_0) | exact hn107_0) (.int .u64 ((rd_T100 l0 x7_1).f0))).trans hx107_1; replace hx107_0 := (cell_far (p := ⟨gb106, 1, none⟩) (by first | (rw [add_block]; exact hn107_1) | (show (Addr.add _ _).block ≠ _; rw [add_block]; exact hn107_1) | exact hn107_1) (.int .i64 ((rd_T100 l0 x7_1).f1))).trans hx107_0; replace hx107_1 := (cell_far (p := ⟨gb106, 1, none⟩) (by first | (rw [add_block]; exact hn107_1) | (show (Addr.add _ _).block ≠ _; rw [add_block]; exact hn107_1) | exact hn107_1) (.int .i64 ((rd_T100 l0 x7_1).f1))).trans hx107_1; (try have hy107_0 := fun (n_ : Nat) => (show ((((w13.drewN n_).setCell ⟨gb106, 0, none⟩ (.int .u64 ((rd_T100 l0 x7_1).f0))).setCell ⟨gb106, 1, none⟩ (.int .i64 ((rd_T100 l0 x7_1).f1)))).cell? _ = some _ from hx107_0)); (try have hy107_1 := fun (n_ : Nat) => (show ((((w13.drewN n_).setCell ⟨gb106, 0, none⟩ (.int .u64 ((rd_T100 l0 x7_1).f0))).setCell ⟨gb106, 1, none⟩ (.int .i64 ((rd_T100 l0 x7_1).f1)))).cell? _ = some _ from hx107_1)); clear hn107_0; clear hn107_1; replace p107 := eq_true p107; replace q107 := eq_true q107)))
                      go_ret
                      exact ⟨by first | rfl | (simp [errW_none, errW_some] <;> rfl) | (simp only [← hji9]; first | rfl | (simp [errW_none, errW_some] <;> rfl)) | (simp [*, errW_none, errW_some] <;> rfl), by repeat (first | (with_reducible first | exact HB.out | apply below_alloc | apply pw_below_drewN | apply below_drew1 | refine below_set ?_ GE106.out) | exact HB.out)⟩
                    · rw [if_neg c12] at H
                      have c12b0 : (((rd_T100 l0 (ji9)).f0) == ((rd_T100 l0 x7_1).f0)) = false := beq_eq_false_iff_ne.mpr c12
                      have c12b1 : (((rd_T100 l0 (ji9)).f0) != ((rd_T100 l0 x7_1).f0)) = true := bne_iff_ne.mpr c12
                      have H' := Aside0.mk H
                      clear H
                      have p105 : 0 ≤ (x7_1 : Int) := of_decide_eq_true (by first | (with_reducible assumption) | assumption)
                      have q105 : x7_1 < (l0.length : Int) := of_decide_eq_true (by first | (with_reducible assumption) | assumption)
                      obtain ⟨ad105, e105, hx105_0, hx105_1⟩ := at_T100 HR0.out x7_1 p105 q105
                      cases e105
                      replace hx105_0 := (HB.out.cell (World.block_lt_of_cell? w _ hx105_0)).trans hx105_0
                      replace hx105_1 := (HB.out.cell (World.block_lt_of_cell? w _ hx105_1)).trans hx105_1
                      replace p105 := eq_true p105
                      replace q105 := eq_true q105
                      go_wp2_with (first | ((with_reducible refine gate_dst (N := 4) rfl ?_); refine box_event ?hg (N := 4) ?hd (cs := #[.int .u64 0, .int .i64 0]) (t := 100) ?hr ?_; (case hd => rfl); (case hg => rfl); (case hr => first | (go_simp; done) | (go_simp; rfl)); intro gb106 hg w15 hbox hb; have n0_ := Aside0.mk (below_step (by repeat (first | (with_reducible first | exact HB.out | apply below_alloc | apply pw_below_drewN | apply below_drew1) | exact HB.out)) hb); have n1_ := Aside0.mk (hbox); have n2_ := Aside0.mk ((by rw [hg]; exact (below_size (by repeat (first | (with_reducible first | exact HB.out | apply below_alloc | apply pw_below_drewN | apply below_drew1) | exact HB.out))) : w.heap.size ≤ gb106)); have n3_ := Aside0.mk ((by rw [hg]; exact (below_size (by repeat (first | (with_reducible first | exact HB.out | apply below_alloc | apply pw_below_drewN | apply below_drew1) | exact HB.out))) : w.heap.size ≤ gb106)); clear HB; have HB := n0_; have BK106 := n1_; have GW106 := n2_; have GE106 := n3_; clear n0_ n1_ n2_ n3_; clear hb hbox hg; have hcz16_0 : w15.cell? ⟨gb106, 0, none⟩ = some (.int .u64 0) := (blk_cell BK106.out 0).trans rfl; have hcz16_1 : w15.cell? ⟨gb106, 1, none⟩ = some (.int .i64 0) := (blk_cell BK106.out 1).trans rfl; have hfz16_0 := blk_frozen BK106.out 0; have hfz16_1 := blk_frozen BK106.out 1; have p107 : 0 ≤ ((ji9) : Int) := of_decide_eq_true (by first | (with_reducible assumption) | assumption); have q107 : (ji9) < (l0.length : Int) := of_decide_eq_true (by first | (with_reducible assumption) | assumption); obtain ⟨ad107, e107, hx107_0, hx107_1⟩ := at_T100 HR0.out (ji9) p107 q107; obtain rfl : ad105 = ad107 := (by injection e107); have hn107_0 : ad105.block ≠ gb106 := Nat.ne_of_lt (Nat.lt_of_lt_of_le (by have := World.block_lt_of_cell? _ _ hx107_0; first | rwa [add_block] at this | exact this) GW106.out); have hn107_1 : ad105.block ≠ gb106 := Nat.ne_of_lt (Nat.lt_of_lt_of_le (by have := World.block_lt_of_cell? _ _ hx107_0; first | rwa [add_block] at this | exact this) GW106.out); replace hx107_0 := (HB.out.cell (World.block_lt_of_cell? w _ hx107_0)).trans hx107_0; replace hx107_1 := (HB.out.cell (World.block_lt_of_cell? w _ hx107_1)).trans hx107_1; replace hx107_0 := (cell_far (p := ⟨gb106, 0, none⟩) (by first | (rw [add_block]; exact hn107_0) | (show (Addr.add _ _).block ≠ _; rw [add_block]; exact hn107_0) | exact hn107_0) (.int .u64 ((rd_T100 l0 x7_1).f0))).trans hx107_0; replace hx107_1 := (cell_far (p := ⟨gb106, 0, none⟩) (by first | (rw [add_block]; exact hn107_0) | (show (Addr.add _ _).block ≠ _; rw [add_block]; exact hn107_0) | exact hn107_0) (.int .u64 ((rd_T100 l0 x7_1).f0))).trans hx107_1; replace hx107_0 := (cell_far (p := ⟨gb106, 1, none⟩) (by first | (rw [add_block]; exact hn107_1) | (show (Addr.add _ _).block ≠ _; rw [add_block]; exact hn107_1) | exact hn107_1) (.int .i64 ((rd_T100 l0 x7_1).f1))).trans hx107_0; replace hx107_1 := (cell_far (p := ⟨gb106, 1, none⟩) (by first | (rw [add_block]; exact hn107_1) | (show (Addr.add _ _).block ≠ _; rw [add_block]; exact hn107_1) | exact hn107_1) (.int .i64 ((rd_T100 l0 x7_1).f1))).trans hx107_1; (try have hy107_0 := fun (n_ : Nat) => (show ((((w15.drewN n_).setCell ⟨gb106, 0, none⟩ (.int .u64 ((rd_T100 l0 x7_1).f0))).setCell ⟨gb106, 1, none⟩ (.int .i64 ((rd_T100 l0 x7_1).f1)))).cell? _ = some _ from hx107_0)); (try have hy107_1 := fun (n_ : Nat) => (show ((((w15.drewN n_).setCell ⟨gb106, 0, none⟩ (.int .u64 ((rd_T100 l0 x7_1).f0))).setCell ⟨gb106, 1, none⟩ (.int .i64 ((rd_T100 l0 x7_1).f1)))).cell? _ = some _ from hx107_1)); clear hn107_0; clear hn107_1; replace p107 := eq_true p107; replace q107 := eq_true q107))
                      repeat (go_quiet (first | ((with_reducible refine gate_dst (N := 4) rfl ?_); refine box_event ?hg (N := 4) ?hd (cs := #[.int .u64 0, .int .i64 0]) (t := 100) ?hr ?_; (case hd => rfl); (case hg => rfl); (case hr => first | (go_simp; done) | (go_simp; rfl)); intro gb106 hg w15 hbox hb; have n0_ := Aside0.mk (below_step (by repeat (first | (with_reducible first | exact HB.out | apply below_alloc | apply pw_below_drewN | apply below_drew1) | exact HB.out)) hb); have n1_ := Aside0.mk (hbox); have n2_ := Aside0.mk ((by rw [hg]; exact (below_size (by repeat (first | (with_reducible first | exact HB.out | apply below_alloc | apply pw_below_drewN | apply below_drew1) | exact HB.out))) : w.heap.size ≤ gb106)); have n3_ := Aside0.mk ((by rw [hg]; exact (below_size (by repeat (first | (with_reducible first | exact HB.out | apply below_alloc | apply pw_below_drewN | apply below_drew1) | exact HB.out))) : w.heap.size ≤ gb106)); clear HB; have HB := n0_; have BK106 := n1_; have GW106 := n2_; have GE106 := n3_; clear n0_ n1_ n2_ n3_; clear hb hbox hg; have hcz16_0 : w15.cell? ⟨gb106, 0, none⟩ = some (.int .u64 0) := (blk_cell BK106.out 0).trans rfl; have hcz16_1 : w15.cell? ⟨gb106, 1, none⟩ = some (.int .i64 0) := (blk_cell BK106.out 1).trans rfl; have hfz16_0 := blk_frozen BK106.out 0; have hfz16_1 := blk_frozen BK106.out 1; have p107 : 0 ≤ ((ji9) : Int) := of_decide_eq_true (by first | (with_reducible assumption) | assumption); have q107 : (ji9) < (l0.length : Int) := of_decide_eq_true (by first | (with_reducible assumption) | assumption); obtain ⟨ad107, e107, hx107_0, hx107_1⟩ := at_T100 HR0.out (ji9) p107 q107; obtain rfl : ad105 = ad107 := (by injection e107); have hn107_0 : ad105.block ≠ gb106 := Nat.ne_of_lt (Nat.lt_of_lt_of_le (by have := World.block_lt_of_cell? _ _ hx107_0; first | rwa [add_block] at this | exact this) GW106.out); have hn107_1 : ad105.block ≠ gb106 := Nat.ne_of_lt (Nat.lt_of_lt_of_le (by have := World.block_lt_of_cell? _ _ hx107_0; first | rwa [add_block] at this | exact this) GW106.out); replace hx107_0 := (HB.out.cell (World.block_lt_of_cell? w _ hx107_0)).trans hx107_0; replace hx107_1 := (HB.out.cell (World.block_lt_of_cell? w _ hx107_1)).trans hx107_1; replace hx107_0 := (cell_far (p := ⟨gb106, 0, none⟩) (by first | (rw [add_block]; exact hn107_0) | (show (Addr.add _ _).block ≠ _; rw [add_block]; exact hn107_0) | exact hn107_0) (.int .u64 ((rd_T100 l0 x7_1).f0))).trans hx107_0; replace hx107_1 := (cell_far (p := ⟨gb106, 0, none⟩) (by first | (rw [add_block]; exact hn107_0) | (show (Addr.add _ _).block ≠ _; rw [add_block]; exact hn107_0) | exact hn107_0) (.int .u64 ((rd_T100 l0 x7_1).f0))).trans hx107_1; replace hx107_0 := (cell_far (p := ⟨gb106, 1, none⟩) (by first | (rw [add_block]; exact hn107_1) | (show (Addr.add _ _).block ≠ _; rw [add_block]; exact hn107_1) | exact hn107_1) (.int .i64 ((rd_T100 l0 x7_1).f1))).trans hx107_0; replace hx107_1 := (cell_far (p := ⟨gb106, 1, none⟩) (by first | (rw [add_block]; exact hn107_1) | (show (Addr.add _ _).block ≠ _; rw [add_block]; exact hn107_1) | exact hn107_1) (.int .i64 ((rd_T100 l0 x7_1).f1))).trans hx107_1; (try have hy107_0 := fun (n_ : Nat) => (show ((((w15.drewN n_).setCell ⟨gb106, 0, none⟩ (.int .u64 ((rd_T100 l0 x7_1).f0))).setCell ⟨gb106, 1, none⟩ (.int .i64 ((rd_T100 l0 x7_1).f1)))).cell? _ = some _ from hx107_0)); (try have hy107_1 := fun (n_ : Nat) => (show ((((w15.drewN n_).setCell ⟨gb106, 0, none⟩ (.int .u64 ((rd_T100 l0 x7_1).f0))).setCell ⟨gb106, 1, none⟩ (.int .i64 ((rd_T100 l0 x7_1).f1)))).cell? _ = some _ from hx107_1)); clear hn107_0; clear hn107_1; replace p107 := eq_true p107; replace q107 := eq_true q107)); try go_wp2_with (first | ((with_reducible refine gate_dst (N := 4) rfl ?_); refine box_event ?hg (N := 4) ?hd (cs := #[.int .u64 0, .int .i64 0]) (t := 100) ?hr ?_; (case hd => rfl); (case hg => rfl); (case hr => first | (go_simp; done) | (go_simp; rfl)); intro gb106 hg w15 hbox hb; have n0_ := Aside0.mk (below_step (by repeat (first | (with_reducible first | exact HB.out | apply below_alloc | apply pw_below_drewN | apply below_drew1) | exact HB.out)) hb); have n1_ := Aside0.mk (hbox); have n2_ := Aside0.mk ((by rw [hg]; exact (below_size (by repeat (first | (with_reducible first | exact HB.out | apply below_alloc | apply pw_below_drewN | apply below_drew1) | exact HB.out))) : w.heap.size ≤ gb106)); have n3_ := Aside0.mk ((by rw [hg]; exact (below_size (by repeat (first | (with_reducible first | exact HB.out | apply below_alloc | apply pw_below_drewN | apply below_drew1) | exact HB.out))) : w.heap.size ≤ gb106)); clear HB; have HB := n0_; have BK106 := n1_; have GW106 := n2_; have GE106 := n3_; clear n0_ n1_ n2_ n3_; clear hb hbox hg; have hcz16_0 : w15.cell? ⟨gb106, 0, none⟩ = some (.int .u64 0) := (blk_cell BK106.out 0).trans rfl; have hcz16_1 : w15.cell? ⟨gb106, 1, none⟩ = some (.int .i64 0) := (blk_cell BK106.out 1).trans rfl; have hfz16_0 := blk_frozen BK106.out 0; have hfz16_1 := blk_frozen BK106.out 1; have p107 : 0 ≤ ((ji9) : Int) := of_decide_eq_true (by first | (with_reducible assumption) | assumption); have q107 : (ji9) < (l0.length : Int) := of_decide_eq_true (by first | (with_reducible assumption) | assumption); obtain ⟨ad107, e107, hx107_0, hx107_1⟩ := at_T100 HR0.out (ji9) p107 q107; obtain rfl : ad105 = ad107 := (by injection e107); have hn107_0 : ad105.block ≠ gb106 := Nat.ne_of_lt (Nat.lt_of_lt_of_le (by have := World.block_lt_of_cell? _ _ hx107_0; first | rwa [add_block] at this | exact this) GW106.out); have hn107_1 : ad105.block ≠ gb106 := Nat.ne_of_lt (Nat.lt_of_lt_of_le (by have := World.block_lt_of_cell? _ _ hx107_0; first | rwa [add_block] at this | exact this) GW106.out); replace hx107_0 := (HB.out.cell (World.block_lt_of_cell? w _ hx107_0)).trans hx107_0; replace hx107_1 := (HB.out.cell (World.block_lt_of_cell? w _ hx107_1)).trans hx107_1; replace hx107_0 := (cell_far (p := ⟨gb106, 0, none⟩) (by first | (rw [add_block]; exact hn107_0) | (show (Addr.add _ _).block ≠ _; rw [add_block]; exact hn107_0) | exact hn107_0) (.int .u64 ((rd_T100 l0 x7_1).f0))).trans hx107_0; replace hx107_1 := (cell_far (p := ⟨gb106, 0, none⟩) (by first | (rw [add_block]; exact hn107_0) | (show (Addr.add _ _).block ≠ _; rw [add_block]; exact hn107_0) | exact hn107_0) (.int .u64 ((rd_T100 l0 x7_1).f0))).trans hx107_1; replace hx107_0 := (cell_far (p := ⟨gb106, 1, none⟩) (by first | (rw [add_block]; exact hn107_1) | (show (Addr.add _ _).block ≠ _; rw [add_block]; exact hn107_1) | exact hn107_1) (.int .i64 ((rd_T100 l0 x7_1).f1))).trans hx107_0; replace hx107_1 := (cell_far (p := ⟨gb106, 1, none⟩) (by first | (rw [add_block]; exact hn107_1) | (show (Addr.add _ _).block ≠ _; rw [add_block]; exact hn107_1) | exact hn107_1) (.int .i64 ((rd_T100 l0 x7_1).f1))).trans hx107_1; (try have hy107_0 := fun (n_ : Nat) => (show ((((w15.drewN n_).setCell ⟨gb106, 0, none⟩ (.int .u64 ((rd_T100 l0 x7_1).f0))).setCell ⟨gb106, 1, none⟩ (.int .i64 ((rd_T100 l0 x7_1).f1)))).cell? _ = some _ from hx107_0)); (try have hy107_1 := fun (n_ : Nat) => (show ((((w15.drewN n_).setCell ⟨gb106, 0, none⟩ (.int .u64 ((rd_T100 l0 x7_1).f0))).setCell ⟨gb106, 1, none⟩ (.int .i64 ((rd_T100 l0 x7_1).f1)))).cell? _ = some _ from hx107_1)); clear hn107_0; clear hn107_1; replace p107 := eq_true p107; replace q107 := eq_true q107)))
                      go_roundg k1
                      case measure => have := HK1.out; omega
                      case rel => exact ⟨(wrap64 (x7_1 + 1)), (by first | rfl | (simp; done) | (simp [*]; done)), H', ⟨by have := HK1.out; omega⟩, ⟨by repeat (first | (with_reducible first | exact HB.out | apply below_alloc | apply pw_below_drewN | apply below_drew1 | refine below_set ?_ GE106.out) | exact HB.out)⟩⟩
                  · rw [if_neg c11] at H
                    exact absurd H (by simp)
                · rw [if_neg c10] at H
                  exact absurd H (by simp)
              · rw [if_neg c8] at H
                have c8b0 : decide (0 < x7_1) = false := decide_eq_false c8
                clear c8
                have H' := Aside0.mk H
                clear H
                have p105 : 0 ≤ (x7_1 : Int) := of_decide_eq_true (by first | (with_reducible assumption) | assumption)
                have q105 : x7_1 < (l0.length : Int) := of_decide_eq_true (by first | (with_reducible assumption) | assumption)
                obtain ⟨ad105, e105, hx105_0, hx105_1⟩ := at_T100 HR0.out x7_1 p105 q105
                cases e105
                replace hx105_0 := (HB.out.cell (World.block_lt_of_cell? w _ hx105_0)).trans hx105_0
                replace hx105_1 := (HB.out.cell (World.block_lt_of_cell? w _ hx105_1)).trans hx105_1
                replace p105 := eq_true p105
                replace q105 := eq_true q105
                go_wp2_with (first | ((with_reducible refine gate_dst (N := 4) rfl ?_); refine box_event ?hg (N := 4) ?hd (cs := #[.int .u64 0, .int .i64 0]) (t := 100) ?hr ?_; (case hd => rfl); (case hg => rfl); (case hr => first | (go_simp; done) | (go_simp; rfl)); intro gb106 hg w17 hbox hb; have n0_ := Aside0.mk (below_step (by repeat (first | (with_reducible first | exact HB.out | apply below_alloc | apply pw_below_drewN | apply below_drew1) | exact HB.out)) hb); have n1_ := Aside0.mk (hbox); have n2_ := Aside0.mk ((by rw [hg]; exact (below_size (by repeat (first | (with_reducible first | exact HB.out | apply below_alloc | apply pw_below_drewN | apply below_drew1) | exact HB.out))) : w.heap.size ≤ gb106)); have n3_ := Aside0.mk ((by rw [hg]; exact (below_size (by repeat (first | (with_reducible first | exact HB.out | apply below_alloc | apply pw_below_drewN | apply below_drew1) | exact HB.out))) : w.heap.size ≤ gb106)); clear HB; have HB := n0_; have BK106 := n1_; have GW106 := n2_; have GE106 := n3_; clear n0_ n1_ n2_ n3_; clear hb hbox hg; have hcz18_0 : w17.cell? ⟨gb106, 0, none⟩ = some (.int .u64 0) := (blk_cell BK106.out 0).trans rfl; have hcz18_1 : w17.cell? ⟨gb106, 1, none⟩ = some (.int .i64 0) := (blk_cell BK106.out 1).trans rfl; have hfz18_0 := blk_frozen BK106.out 0; have hfz18_1 := blk_frozen BK106.out 1))
                repeat (go_quiet (first | ((with_reducible refine gate_dst (N := 4) rfl ?_); refine box_event ?hg (N := 4) ?hd (cs := #[.int .u64 0, .int .i64 0]) (t := 100) ?hr ?_; (case hd => rfl); (case hg => rfl); (case hr => first | (go_simp; done) | (go_simp; rfl)); intro gb106 hg w17 hbox hb; have n0_ := Aside0.mk (below_step (by repeat (first | (with_reducible first | exact HB.out | apply below_alloc | apply pw_below_drewN | apply below_drew1) | exact HB.out)) hb); have n1_ := Aside0.mk (hbox); have n2_ := Aside0.mk ((by rw [hg]; exact (below_size (by repeat (first | (with_reducible first | exact HB.out | apply below_alloc | apply pw_below_drewN | apply below_drew1) | exact HB.out))) : w.heap.size ≤ gb106)); have n3_ := Aside0.mk ((by rw [hg]; exact (below_size (by repeat (first | (with_reducible first | exact HB.out | apply below_alloc | apply pw_below_drewN | apply below_drew1) | exact HB.out))) : w.heap.size ≤ gb106)); clear HB; have HB := n0_; have BK106 := n1_; have GW106 := n2_; have GE106 := n3_; clear n0_ n1_ n2_ n3_; clear hb hbox hg; have hcz18_0 : w17.cell? ⟨gb106, 0, none⟩ = some (.int .u64 0) := (blk_cell BK106.out 0).trans rfl; have hcz18_1 : w17.cell? ⟨gb106, 1, none⟩ = some (.int .i64 0) := (blk_cell BK106.out 1).trans rfl; have hfz18_0 := blk_frozen BK106.out 0; have hfz18_1 := blk_frozen BK106.out 1)); try go_wp2_with (first | ((with_reducible refine gate_dst (N := 4) rfl ?_); refine box_event ?hg (N := 4) ?hd (cs := #[.int .u64 0, .int .i64 0]) (t := 100) ?hr ?_; (case hd => rfl); (case hg => rfl); (case hr => first | (go_simp; done) | (go_simp; rfl)); intro gb106 hg w17 hbox hb; have n0_ := Aside0.mk (below_step (by repeat (first | (with_reducible first | exact HB.out | apply below_alloc | apply pw_below_drewN | apply below_drew1) | exact HB.out)) hb); have n1_ := Aside0.mk (hbox); have n2_ := Aside0.mk ((by rw [hg]; exact (below_size (by repeat (first | (with_reducible first | exact HB.out | apply below_alloc | apply pw_below_drewN | apply below_drew1) | exact HB.out))) : w.heap.size ≤ gb106)); have n3_ := Aside0.mk ((by rw [hg]; exact (below_size (by repeat (first | (with_reducible first | exact HB.out | apply below_alloc | apply pw_below_drewN | apply below_drew1) | exact HB.out))) : w.heap.size ≤ gb106)); clear HB; have HB := n0_; have BK106 := n1_; have GW106 := n2_; have GE106 := n3_; clear n0_ n1_ n2_ n3_; clear hb hbox hg; have hcz18_0 : w17.cell? ⟨gb106, 0, none⟩ = some (.int .u64 0) := (blk_cell BK106.out 0).trans rfl; have hcz18_1 : w17.cell? ⟨gb106, 1, none⟩ = some (.int .i64 0) := (blk_cell BK106.out 1).trans rfl; have hfz18_0 := blk_frozen BK106.out 0; have hfz18_1 := blk_frozen BK106.out 1)))
                go_roundg k1
                case measure => have := HK1.out; omega
                case rel => exact ⟨(wrap64 (x7_1 + 1)), (by first | rfl | (simp; done) | (simp [*]; done)), H', ⟨by have := HK1.out; omega⟩, ⟨by repeat (first | (with_reducible first | exact HB.out | apply below_alloc | apply pw_below_drewN | apply below_drew1 | refine below_set ?_ GE106.out) | exact HB.out)⟩⟩
          · rw [if_neg c4] at H
            exact absurd H (by simp)
        · rw [if_neg c3] at H
          exact absurd H (by simp)
      · rw [if_neg c2] at H
        have c2b0 : decide (x7_1 < (l0.length : Int)) = false := decide_eq_false c2
        clear c2
        replace H := Option.bind_eq_some_iff.mp H
        obtain ⟨t108, A190, H⟩ := H
        replace H : (some (decide (t108 ≤ 4096))) = some r := H
        have A19 := Aside0.mk A190
        clear A190
        obtain rfl := Option.some.inj H
        go_wp2_with (first | (go_at_call 30; (with_reducible refine (runs_Total.calls k1 _ _ l0 t108 _ ?side1 ?side2 A19.out).mono ?_); (case side1 => repeat (first | exact (Kd.C_below HR0.out HB.out) | (with_reducible refine Kd.C_alloc ?_ _) | (with_reducible refine Kd.C_drewN ?_ _) | (with_reducible refine Kd.C_drew ?_))); (case side2 => exact HC0.out); rintro e w20 ⟨rfl, hb⟩; have n0_ := Aside0.mk (below_step (by repeat (first | (with_reducible first | exact HB.out | apply below_alloc | apply pw_below_drewN | apply below_drew1) | exact HB.out)) hb); clear HB; have HB := n0_; clear n0_; (try clear hb); (try clear hb2); (try clear hk); (try clear hi)))
        repeat (go_quiet (first | (go_at_call 30; (with_reducible refine (runs_Total.calls k1 _ _ l0 t108 _ ?side1 ?side2 A19.out).mono ?_); (case side1 => repeat (first | exact (Kd.C_below HR0.out HB.out) | (with_reducible refine Kd.C_alloc ?_ _) | (with_reducible refine Kd.C_drewN ?_ _) | (with_reducible refine Kd.C_drew ?_))); (case side2 => exact HC0.out); rintro e w20 ⟨rfl, hb⟩; have n0_ := Aside0.mk (below_step (by repeat (first | (with_reducible first | exact HB.out | apply below_alloc | apply pw_below_drewN | apply below_drew1) | exact HB.out)) hb); clear HB; have HB := n0_; clear n0_; (try clear hb); (try clear hb2); (try clear hk); (try clear hi))); try go_wp2_with (first | (go_at_call 30; (with_reducible refine (runs_Total.calls k1 _ _ l0 t108 _ ?side1 ?side2 A19.out).mono ?_); (case side1 => repeat (first | exact (Kd.C_below HR0.out HB.out) | (with_reducible refine Kd.C_alloc ?_ _) | (with_reducible refine Kd.C_drewN ?_ _) | (with_reducible refine Kd.C_drew ?_))); (case side2 => exact HC0.out); rintro e w20 ⟨rfl, hb⟩; have n0_ := Aside0.mk (below_step (by repeat (first | (with_reducible first | exact HB.out | apply below_alloc | apply pw_below_drewN | apply below_drew1) | exact HB.out)) hb); clear HB; have HB := n0_; clear n0_; (try clear hb); (try clear hb2); (try clear hk); (try clear hi))))
        go_ret
        exact ⟨by first | rfl | (simp [errW_none, errW_some] <;> rfl) | (simp [*, errW_none, errW_some] <;> rfl), by repeat (first | (with_reducible first | exact HB.out | apply below_alloc | apply pw_below_drewN | apply below_drew1) | exact HB.out)⟩
end Go.Proofs.Ythpjagblnddjaaa.PB
end

section
namespace Go.Proofs.Ythpjagblnddjaaa.PB
open Go.RowKit Go.Proofs.YthpjagblnddjaaaW.PrintWords Go.Proofs.YthpjagblnddjaaaW.PrintLast Go.Proofs.YthpjagblnddjaaaW.PrintMore
attribute [local go_sem] max2_int min2_int max_two min_two max_three min_three max_four min_four   
set_option linter.unusedVariables false
set_option linter.unusedSimpArgs false
def runs_within.f (k : Nat) (l0 : List (S100)) (a1 : Int) (a2 : Int) : Option (Bool) := (runs_Good.f k l0).bind fun t176 => (if t176 = true then (if a1 ≥ 0 then (if a1 ≤ a2 then ((runs_Total.f k l0).bind fun t177 => (some (decide (a2 ≤ t177)))) else (some false)) else (some false)) else (some false))
theorem runs_within.mono : ∀ a0 a1 a2 k, LeO (runs_within.f k a0 a1 a2) (runs_within.f (k + 1) a0 a1 a2) := by
  intro a0 a1 a2 k
  unfold runs_within.f
  repeat' first
      | (with_reducible exact runs_Good.mono _ _)
      | (with_reducible exact runs_Total.mono _ _)
      | (with_reducible exact LeO.refl _)
      | (with_reducible exact LeO.none _)
      | (with_reducible refine LeO.ite ?_ ?_)
      | (with_reducible refine LeO.bind ?_ (fun _ => ?_))
      | exact runs_Good.mono _ _
      | exact runs_Total.mono _ _
      | exact LeO.none _
      | refine LeO.ite ?_ ?_
      | refine LeO.bind ?_ (fun _ => ?_)
set_option maxHeartbeats 8000000 in
set_option maxRecDepth 100000 in
theorem runs_within.calls (k : Nat) (A0 : Option Addr) (c0 : Nat) (l0 : List (S100)) (a1 : Int) (a2 : Int) (r : Bool) (w : World) (hr0 : Kd.C k100 w A0 l0.length l0) (hc0 : l0.length ≤ c0) (h : runs_within.f k l0 a1 a2 = some r) :
    Calls Try.prog 85 #[.slice A0 l0.length c0, .int .i64 a1, .int .i64 a2] w fun e w' => e = .returned (.bool r) ∧ Below w.heap.size w w' := by
  have HR0 := Aside0.mk hr0
  have HC0 := Aside0.mk hc0
  clear hr0 hc0
  have HB := Aside0.mk (Below.refl w.heap.size w)
  have H : ((runs_Good.f k l0).bind fun t176 => (if t176 = true then (if a1 ≥ 0 then (if a1 ≤ a2 then ((runs_Total.f k l0).bind fun t177 => (some (decide (a2 ≤ t177)))) else (some false)) else (some false)) else (some false))) = some r := h
  clear h
  replace H := Option.bind_eq_some_iff.mp H
  obtain ⟨t176, A40, H⟩ := H
  replace H : (if t176 = true then (if a1 ≥ 0 then (if a1 ≤ a2 then ((runs_Total.f k l0).bind fun t177 => (some (decide (a2 ≤ t177)))) else (some false)) else (some false)) else (some false)) = some r := H
  have A4 := Aside0.mk A40
  clear A40
  by_cases c5 : t176 = true
  · subst c5
    have H1 : (if a1 ≥ 0 then (if a1 ≤ a2 then ((runs_Total.f k l0).bind fun t177 => (some (decide (a2 ≤ t177)))) else (some false)) else (some false)) = some r := by rw [if_pos rfl] at H; exact H
    clear H
    have H := H1
    clear H1
    by_cases c6 : a1 ≥ 0
    · rw [if_pos c6] at H
      have c6b0 : decide (0 ≤ a1) = true := decide_eq_true c6
      clear c6
      by_cases c7 : a1 ≤ a2
      · rw [if_pos c7] at H
        have c7b0 : decide (a1 ≤ a2) = true := decide_eq_true c7
        clear c7
        replace H := Option.bind_eq_some_iff.mp H
        obtain ⟨t177, A80, H⟩ := H
        replace H : (some (decide (a2 ≤ t177))) = some r := H
        have A8 := Aside0.mk A80
        clear A80
        obtain rfl := Option.some.inj H
        go_enter Try.func85, Try.ntmps85
        go_wp2_with (first | ((with_reducible refine gate_callee (f := 28) rfl ?_); refine goesL_ (some 8) rfl rfl Try.func28 (by kernel_rfl) rfl #[.slice A0 l0.length c0] rfl (by (try simp only [List.map_toArray, List.map_cons, List.map_nil]); first | done | rfl | (simp only [List.length_drop, List.length_take]; rfl)) ?_; (with_reducible refine (runs_Good.calls k _ _ l0 true _ ?side1 ?side2 A4.out).mono ?_); (case side1 => repeat (first | exact HR0.out | (with_reducible refine Kd.C_alloc ?_ _) | (with_reducible refine Kd.C_drewN ?_ _) | (with_reducible refine Kd.C_drew ?_))); (case side2 => exact HC0.out); rintro e w9 ⟨rfl, hb⟩; refine ⟨_, rfl, ?_⟩; have n0_ := Aside0.mk (below_step (by repeat (first | (with_reducible first | exact HB.out | apply below_alloc | apply pw_below_drewN | apply below_drew1) | exact HB.out)) hb); clear HB; have HB := n0_; clear n0_; (try clear hb); (try clear hb2); (try clear hk); (try clear hi)) | (go_at_call 30; (with_reducible refine (runs_Total.calls k _ _ l0 t177 _ ?side1 ?side2 A8.out).mono ?_); (case side1 => repeat (first | exact (Kd.C_below HR0.out HB.out) | (with_reducible refine Kd.C_alloc ?_ _) | (with_reducible refine Kd.C_drewN ?_ _) | (with_reducible refine Kd.C_drew ?_))); (case side2 => exact HC0.out); rintro e w10 ⟨rfl, hb⟩; have n0_ := Aside0.mk (below_step (by repeat (first | (with_reducible first | exact HB.out | apply below_alloc | apply pw_below_drewN | apply below_drew1) | exact HB.out)) hb); clear HB; have HB := n0_; clear n0_; (try clear hb); (try clear hb2); (try clear hk); (try clear hi)))
        go_ret
        exact ⟨by first | rfl | (simp [errW_none, errW_some] <;> rfl) | (simp [*, errW_none, errW_some] <;> rfl), by repeat (first | (with_reducible first | exact HB.out | apply below_alloc | apply pw_below_drewN | apply below_drew1) | exact HB.out)⟩
      · rw [if_neg c7] at H
        have c7b0 : decide (a1 ≤ a2) = false := decide_eq_false c7
        clear c7
        obtain rfl := Option.some.inj H
        go_enter Try.func85, Try.ntmps85
        go_wp2_with (first | ((with_reducible refine gate_callee (f := 28) rfl ?_); refine goesL_ (some 8) rfl rfl Try.func28 (by kernel_rfl) rfl #[.slice A0 l0.length c0] rfl (by (try simp only [List.map_toArray, List.map_cons, List.map_nil]); first | done | rfl | (simp only [List.length_drop, List.length_take]; rfl)) ?_; (with_reducible refine (runs_Good.calls k _ _ l0 true _ ?side1 ?side2 A4.out).mono ?_); (case side1 => repeat (first | exact HR0.out | (with_reducible refine Kd.C_alloc ?_ _) | (with_reducible refine Kd.C_drewN ?_ _) | (with_reducible refine Kd.C_drew ?_))); (case side2 => exact HC0.out); rintro e w11 ⟨rfl, hb⟩; refine ⟨_, rfl, ?_⟩; have n0_ := Aside0.mk (below_step (by repeat (first | (with_reducible first | exact HB.out | apply below_alloc | apply pw_below_drewN | apply below_drew1) | exact HB.out)) hb); clear HB; have HB := n0_; clear n0_; (try clear hb); (try clear hb2); (try clear hk); (try clear hi)))
        go_ret
        exact ⟨by first | rfl | (simp [errW_none, errW_some] <;> rfl) | (simp [*, errW_none, errW_some] <;> rfl), by repeat (first | (with_reducible first | exact HB.out | apply below_alloc | apply pw_below_drewN | apply below_drew1) | exact HB.out)⟩
    · rw [if_neg c6] at H
      have c6b0 : decide (0 ≤ a1) = false := decide_eq_false c6
      clear c6
      obtain rfl := Option.some.inj H
      go_enter Try.func85, Try.ntmps85
      go_wp2_with (first | ((with_reducible refine gate_callee (f := 28) rfl ?_); refine goesL_ (some 8) rfl rfl Try.func28 (by kernel_rfl) rfl #[.slice A0 l0.length c0] rfl (by (try simp only [List.map_toArray, List.map_cons, List.map_nil]); first | done | rfl | (simp only [List.length_drop, List.length_take]; rfl)) ?_; (with_reducible refine (runs_Good.calls k _ _ l0 true _ ?side1 ?side2 A4.out).mono ?_); (case side1 => repeat (first | exact HR0.out | (with_reducible refine Kd.C_alloc ?_ _) | (with_reducible refine Kd.C_drewN ?_ _) | (with_reducible refine Kd.C_drew ?_))); (case side2 => exact HC0.out); rintro e w12 ⟨rfl, hb⟩; refine ⟨_, rfl, ?_⟩; have n0_ := Aside0.mk (below_step (by repeat (first | (with_reducible first | exact HB.out | apply below_alloc | apply pw_below_drewN | apply below_drew1) | exact HB.out)) hb); clear HB; have HB := n0_; clear n0_; (try clear hb); (try clear hb2); (try clear hk); (try clear hi)))
      go_ret
      exact ⟨by first | rfl | (simp [errW_none, errW_some] <;> rfl) | (simp [*, errW_none, errW_some] <;> rfl), by repeat (first | (with_reducible first | exact HB.out | apply below_alloc | apply pw_below_drewN | apply below_drew1) | exact HB.out)⟩
  · replace c5 := Bool.eq_false_iff.mpr c5
    subst c5
    have H1 : (some false) = some r := by rw [if_neg (show ¬ (false = true) by decide)] at H; exact H
    clear H
    have H := H1
    clear H1
    obtain rfl := Option.some.inj H
    go_enter Try.func85, Try.ntmps85
    go_wp2_with (first | ((with_reducible refine gate_callee (f := 28) rfl ?_); refine goesL_ (some 8) rfl rfl Try.func28 (by kernel_rfl) rfl #[.slice A0 l0.length c0] rfl (by (try simp only [List.map_toArray, List.map_cons, List.map_nil]); first | done | rfl | (simp only [List.length_drop, List.length_take]; rfl)) ?_; (with_reducible refine (runs_Good.calls k _ _ l0 false _ ?side1 ?side2 A4.out).mono ?_); (case side1 => repeat (first | exact HR0.out | (with_reducible refine Kd.C_alloc ?_ _) | (with_reducible refine Kd.C_drewN ?_ _) | (with_reducible refine Kd.C_drew ?_))); (case side2 => exact HC0.out); rintro e w13 ⟨rfl, hb⟩; refine ⟨_, rfl, ?_⟩; have n0_ := Aside0.mk (below_step (by repeat (first | (with_reducible first | exact HB.out | apply below_alloc | apply pw_below_drewN | apply below_drew1) | exact HB.out)) hb); clear HB; have HB := n0_; clear n0_; (try clear hb); (try clear hb2); (try clear hk); (try clear hi)))
    go_ret
    exact ⟨by first | rfl | (simp [errW_none, errW_some] <;> rfl) | (simp [*, errW_none, errW_some] <;> rfl), by repeat (first | (with_reducible first | exact HB.out | apply below_alloc | apply pw_below_drewN | apply below_drew1) | exact HB.out)⟩
end Go.Proofs.Ythpjagblnddjaaa.PB
end

section
namespace Go.Proofs.Ythpjagblnddjaaa.PB
open Go.RowKit Go.Proofs.YthpjagblnddjaaaW.PrintWords Go.Proofs.YthpjagblnddjaaaW.PrintLast Go.Proofs.YthpjagblnddjaaaW.PrintMore
attribute [local go_sem] max2_int min2_int max_two min_two max_three min_three max_four min_four   
set_option linter.unusedVariables false
set_option linter.unusedSimpArgs false
attribute [local go_sem high] eqA100
def strip_Good.f (k : Nat) (a0_0 : ByteArray) (l0_1 : List (S100)) : Option (Bool) := (runs_Good.f k l0_1).bind fun t373 => (if t373 = true then ((runs_Total.f k l0_1).bind fun t374 => (some (t374 == (a0_0.size : Int)))) else (some false))
theorem strip_Good.mono : ∀ a0 a1 k, LeO (strip_Good.f k a0 a1) (strip_Good.f (k + 1) a0 a1) := by
  intro a0 a1 k
  unfold strip_Good.f
  repeat' first
      | (with_reducible exact runs_Good.mono _ _)
      | (with_reducible exact runs_Total.mono _ _)
      | (with_reducible exact LeO.refl _)
      | (with_reducible exact LeO.none _)
      | (with_reducible refine LeO.ite ?_ ?_)
      | (with_reducible refine LeO.bind ?_ (fun _ => ?_))
      | exact runs_Good.mono _ _
      | exact runs_Total.mono _ _
      | exact LeO.none _
      | refine LeO.ite ?_ ?_
      | refine LeO.bind ?_ (fun _ => ?_)
def strip_Good.T1 : Bool × List (List Nat × List Nat) := (true, [([], []), ([0], [0]), ([1], [1]), ([2, 2], [2]), ([3], [3]), ([4, 3], [3, 4]), ([5, 3, 3], [3, 5]), ([3], [3]), ([7, 3], [3, 7]), ([8, 3], [3, 8]), ([6, 9, 3], [3, 6, 9]), ([3, 10], [3, 10]), ([11, 6, 0, 1, 2, 3, 4, 5, 6, 7, 8, 9, 10, 11], [11])])
def strip_Good.B1 : List Nat := [0, 1, 3, 7, 15, 31, 63, 15, 143, 399, 1023, 2047, 4095]
theorem strip_Good.tab1 : rtab .any (opsOf Try.f49 1) = strip_Good.T1 := by kernel_rfl
theorem strip_Good.bits1 : waitsOk strip_Good.T1.2 strip_Good.B1 = true := by kernel_rfl
set_option maxHeartbeats 8000000 in
set_option maxRecDepth 100000 in
theorem strip_Good.calls (k : Nat) (a0_0 : ByteArray) (A0_1 : Option Addr) (c0_1 : Nat) (l0_1 : List (S100)) (r : Bool) (w : World) (hr0_1 : Kd.C k100 w A0_1 l0_1.length l0_1) (hc0_1 : l0_1.length ≤ c0_1) (h : strip_Good.f k a0_0 l0_1 = some r) :
    Calls Try.prog 49 #[.agg #[.string a0_0, .slice A0_1 l0_1.length c0_1]] w fun e w' => e = .returned (.bool r) ∧ Below w.heap.size w w' := by
  have hu51 := Try.underlying51
  have HR0_1 := Aside0.mk hr0_1
  have HC0_1 := Aside0.mk hc0_1
  clear hr0_1 hc0_1
  have HB := Aside0.mk (Below.refl w.heap.size w)
  have H : ((runs_Good.f k l0_1).bind fun t373 => (if t373 = true then ((runs_Total.f k l0_1).bind fun t374 => (some (t374 == (a0_0.size : Int)))) else (some false))) = some r := h
  clear h
  replace H := Option.bind_eq_some_iff.mp H
  obtain ⟨t373, A20, H⟩ := H
  replace H : (if t373 = true then ((runs_Total.f k l0_1).bind fun t374 => (some (t374 == (a0_0.size : Int)))) else (some false)) = some r := H
  have A2 := Aside0.mk A20
  clear A20
  by_cases c3 : t373 = true
  · subst c3
    have H1 : ((runs_Total.f k l0_1).bind fun t374 => (some (t374 == (a0_0.size : Int)))) = some r := by rw [if_pos rfl] at H; exact H
    clear H
    have H := H1
    clear H1
    replace H := Option.bind_eq_some_iff.mp H
    obtain ⟨t374, A40, H⟩ := H
    replace H : (some (t374 == (a0_0.size : Int))) = some r := H
    have A4 := Aside0.mk A40
    clear A40
    obtain rfl := Option.some.inj H
    go_enter Try.func49, Try.ntmps49
    try go_wp2_with (first | ((with_reducible refine gate_dst (N := 1) rfl ?_); (try (refine gate_guard (by rfl) ?_; dsimp only)); refine box_event ?hg (N := 1) ?hd (cs := #[.string a0_0, .slice A0_1 l0_1.length c0_1]) (t := 51) ?hr ?_; (case hd => rfl); (case hg => rfl); (case hr => first | (go_simp; done) | (go_simp; rfl)); intro gb372 hg w5 hbox hb; have n0_ := Aside0.mk (below_step (by repeat (first | (with_reducible first | exact HB.out | apply below_alloc | apply pw_below_drewN | apply below_drew1) | exact HB.out)) hb); have n1_ := Aside0.mk (hbox); have n2_ := Aside0.mk ((by rw [hg]; exact (below_size (by repeat (first | (with_reducible first | exact HB.out | apply below_alloc | apply pw_below_drewN | apply below_drew1) | exact HB.out))) : w.heap.size ≤ gb372)); have n3_ := Aside0.mk ((by rw [hg]; exact (below_size (by repeat (first | (with_reducible first | exact HB.out | apply below_alloc | apply pw_below_drewN | apply below_drew1) | exact HB.out))) : w.heap.size ≤ gb372)); clear HB; have HB := n0_; have BK372 := n1_; have GW372 := n2_; have GE372 := n3_; clear n0_ n1_ n2_ n3_; clear hb hbox hg))
    have n0_ := Aside0.mk (blk_drew BK372.out)
    have n1_ := Aside0.mk (below_drew1 HB.out)
    clear BK372
    clear HB
    have BK372 := n0_
    have HB := n1_
    clear n0_ n1_
    refine start_ (n := 13) (S := fun w' => w'.cell? ⟨gb372, 0, none⟩ = some (.string a0_0) ∧ w'.cell? ⟨gb372, 1, none⟩ = some (.slice A0_1 l0_1.length c0_1)) (ds := []) #[false, false, false, false, false, false, false, false, false, false, false, false, false] (by kernel_rfl) rfl rfl ⟨(blk_cell BK372.out 0).trans rfl, (blk_cell BK372.out 1).trans rfl⟩ (fun hHeld => ?_); refine with_tabW strip_Good.tab1 strip_Good.bits1 (fun HT_ HW_ => ?_)
    generalize w5.drew = w6 at BK372 HB hHeld ⊢
    refine pure_ (i := 0) (N := some 3) (v := ?_) (a' := ?_) #[true, false, false, false, false, false, false, false, false, false, false, false, false] rfl rfl (any_of HT_.out (by kernel_rfl)) (fun _ _ _ h => h) (Or.inl ⟨by rfl, ?_⟩) ?_ ?_
    rotate_left
    · intro w'
      go_simp
      with_reducible rfl
    rotate_left
    · simp only [Act.put, List.setIfInBounds_toArray, List.set_cons_zero, List.set_cons_succ, i64_w, i32_w]
      rfl
    refine take_ (i := 1) (N := some 4) (v := ?_) (a' := ?_) #[true, true, false, false, false, false, false, false, false, false, false, false, false] rfl rfl (take_ofW HT_.out HW_.out (by kernel_rfl)) (fun _ _ _ h => h) (Or.inl ⟨by rfl, ?_⟩) hHeld ?_ ?_
    rotate_left
    · rintro w' ⟨s0, s1⟩
      go_simp
      with_reducible rfl
    rotate_left
    · simp only [Act.put, List.setIfInBounds_toArray, List.set_cons_zero, List.set_cons_succ, i64_w, i32_w]
      rfl
    refine one_ (i := 2) (N := some 5) #[true, true, true, false, false, false, false, false, false, false, false, false, false] rfl rfl (one_of HT_.out (by kernel_rfl)) (by decide) (fun K hK => ?_)
    refine goes_ Try.func28 (by kernel_rfl) rfl #[.slice A0_1 l0_1.length c0_1] (by rfl) rfl rfl (by (try simp only [List.map_toArray, List.map_cons, List.map_nil]); first | done | rfl | (simp only [List.length_drop, List.length_take]; rfl)) ?_
    with_reducible refine (runs_Good.calls k _ _ l0_1 true _ ?side1 ?side2 A2.out).mono ?_
    (case side1 => repeat (first | exact (Kd.C_below HR0_1.out HB.out) | (with_reducible refine Kd.C_alloc ?_ _) | (with_reducible refine Kd.C_drewN ?_ _) | (with_reducible refine Kd.C_drew ?_)))
    (case side2 => exact HC0_1.out)
    rintro e w7 ⟨rfl, hb⟩
    refine ⟨_, rfl, ?_⟩
    have n0_ := Aside0.mk (blk_below (g := gb372) (o := .cells #[.string a0_0, .slice A0_1 l0_1.length c0_1] 51 (0, 0)) (by (with_reducible repeat (first | refine blk_drewN ?_ _ | refine blk_drew ?_ | refine blk_alloc ?_ _)); exact BK372.out) hb)
    have n1_ := Aside0.mk (below_step (by repeat (first | (with_reducible first | exact HB.out | apply below_alloc | apply pw_below_drewN | apply below_drew1 | refine below_set ?_ GE372.out) | exact HB.out)) hb)
    clear BK372
    clear HB
    have BK372 := n0_
    have HB := n1_
    clear n0_ n1_
    (try clear hb)
    (try clear hb2)
    (try clear hk)
    (try clear hi)
    refine hK.out _ _ ⟨(blk_cell BK372.out 0).trans rfl, (blk_cell BK372.out 1).trans rfl⟩ (fun hHeld => ?_)
    clear hK K
    refine norm_ (a' := ?_) ?_ ?_
    rotate_left
    · show Act.put _ (some 5) _ = _
      simp only [Act.put, List.setIfInBounds_toArray, List.set_cons_zero, List.set_cons_succ, i64_w, i32_w]
      rfl
    refine pure_ (i := 3) (N := some 6) (v := ?_) (a' := ?_) #[true, true, true, true, false, false, false, false, false, false, false, false, false] rfl rfl (any_of HT_.out (by kernel_rfl)) (fun _ _ _ h => h) (Or.inl ⟨by rfl, ?_⟩) ?_ ?_
    rotate_left
    · intro w'
      go_simp
      with_reducible rfl
    rotate_left
    · simp only [Act.put, List.setIfInBounds_toArray, List.set_cons_zero, List.set_cons_succ, i64_w, i32_w]
      rfl
    refine pure_ (i := 4) (N := some 7) (v := ?_) (a' := ?_) #[true, true, true, true, true, false, false, false, false, false, false, false, false] rfl rfl (any_of HT_.out (by kernel_rfl)) (fun _ _ _ h => h) (Or.inl ⟨by rfl, ?_⟩) ?_ ?_
    rotate_left
    · intro w'
      go_simp
      with_reducible rfl
    rotate_left
    · simp only [Act.put, List.setIfInBounds_toArray, List.set_cons_zero, List.set_cons_succ, i64_w, i32_w]
      rfl
    refine pure_ (i := 7) (N := some 10) (v := ?_) (a' := ?_) #[true, true, true, true, true, false, false, true, false, false, false, false, false] rfl rfl (any_of HT_.out (by kernel_rfl)) (fun _ _ _ h => h) (Or.inl ⟨by rfl, ?_⟩) ?_ ?_
    rotate_left
    · intro w'
      go_simp
      with_reducible rfl
    rotate_left
    · simp only [Act.put, List.setIfInBounds_toArray, List.set_cons_zero, List.set_cons_succ, i64_w, i32_w]
      rfl
    refine take_ (i := 5) (N := some 8) (v := ?_) (a' := ?_) #[true, true, true, true, true, true, false, true, false, false, false, false, false] rfl rfl (take_ofW HT_.out HW_.out (by kernel_rfl)) (fun _ _ _ h => h) (Or.inl ⟨by rfl, ?_⟩) hHeld ?_ ?_
    rotate_left
    · rintro w' ⟨s0, s1⟩
      go_simp
      with_reducible rfl
    rotate_left
    · simp only [Act.put, List.setIfInBounds_toArray, List.set_cons_zero, List.set_cons_succ, i64_w, i32_w]
      rfl
    refine take_ (i := 8) (N := some 11) (v := ?_) (a' := ?_) #[true, true, true, true, true, true, false, true, true, false, false, false, false] rfl rfl (take_ofW HT_.out HW_.out (by kernel_rfl)) (fun _ _ _ h => h) (Or.inl ⟨by rfl, ?_⟩) hHeld ?_ ?_
    rotate_left
    · rintro w' ⟨s0, s1⟩
      go_simp
      with_reducible rfl
    rotate_left
    · simp only [Act.put, List.setIfInBounds_toArray, List.set_cons_zero, List.set_cons_succ, i64_w, i32_w]
      rfl
    refine pure_ (i := 9) (N := some 12) (v := ?_) (a' := ?_) #[true, true, true, true, true, true, false, true, true, true, false, false, false] rfl rfl (any_of HT_.out (by kernel_rfl)) (fun _ _ _ h => h) (Or.inl ⟨by rfl, ?_⟩) ?_ ?_
    rotate_left
    · intro w'
      go_simp
      with_reducible rfl
    rotate_left
    · simp only [Act.put, List.setIfInBounds_toArray, List.set_cons_zero, List.set_cons_succ, i64_w, i32_w]
      rfl
    refine one_ (i := 6) (N := some 9) #[true, true, true, true, true, true, true, true, true, true, false, false, false] rfl rfl (one_of HT_.out (by kernel_rfl)) (by decide) (fun K hK => ?_)
    refine goes_ Try.func30 (by kernel_rfl) rfl #[.slice A0_1 l0_1.length c0_1] (by rfl) rfl rfl (by (try simp only [List.map_toArray, List.map_cons, List.map_nil]); first | done | rfl | (simp only [List.length_drop, List.length_take]; rfl)) ?_
    with_reducible refine (runs_Total.calls k _ _ l0_1 t374 _ ?side1 ?side2 A4.out).mono ?_
    (case side1 => repeat (first | exact (Kd.C_below HR0_1.out HB.out) | (with_reducible refine Kd.C_alloc ?_ _) | (with_reducible refine Kd.C_drewN ?_ _) | (with_reducible refine Kd.C_drew ?_)))
    (case side2 => exact HC0_1.out)
    rintro e w8 ⟨rfl, hb⟩
    refine ⟨_, rfl, ?_⟩
    have n0_ := Aside0.mk (blk_below (g := gb372) (o := .cells #[.string a0_0, .slice A0_1 l0_1.length c0_1] 51 (0, 0)) (by (with_reducible repeat (first | refine blk_drewN ?_ _ | refine blk_drew ?_ | refine blk_alloc ?_ _)); exact BK372.out) hb)
    have n1_ := Aside0.mk (below_step (by repeat (first | (with_reducible first | exact HB.out | apply below_alloc | apply pw_below_drewN | apply below_drew1 | refine below_set ?_ GE372.out) | exact HB.out)) hb)
    clear BK372
    clear HB
    have BK372 := n0_
    have HB := n1_
    clear n0_ n1_
    (try clear hb)
    (try clear hb2)
    (try clear hk)
    (try clear hi)
    refine hK.out _ _ ⟨(blk_cell BK372.out 0).trans rfl, (blk_cell BK372.out 1).trans rfl⟩ (fun hHeld => ?_)
    clear hK K
    refine norm_ (a' := ?_) ?_ ?_
    rotate_left
    · show Act.put _ (some 9) _ = _
      simp only [Act.put, List.setIfInBounds_toArray, List.set_cons_zero, List.set_cons_succ, i64_w, i32_w]
      rfl
    refine pure_ (i := 10) (N := some 13) (v := ?_) (a' := ?_) #[true, true, true, true, true, true, true, true, true, true, true, false, false] rfl rfl (any_of HT_.out (by kernel_rfl)) (fun _ _ _ h => h) (Or.inl ⟨by rfl, ?_⟩) ?_ ?_
    rotate_left
    · intro w'
      go_simp
      with_reducible rfl
    rotate_left
    · simp only [Act.put, List.setIfInBounds_toArray, List.set_cons_zero, List.set_cons_succ, i64_w, i32_w]
      rfl
    refine pure_ (i := 11) (N := some 14) (v := ?_) (a' := ?_) #[true, true, true, true, true, true, true, true, true, true, true, true, false] rfl rfl (any_of HT_.out (by kernel_rfl)) (fun _ _ _ h => h) (Or.inl ⟨by rfl, ?_⟩) ?_ ?_
    rotate_left
    · intro w'
      go_simp
      with_reducible rfl
    rotate_left
    · simp only [Act.put, List.setIfInBounds_toArray, List.set_cons_zero, List.set_cons_succ, i64_w, i32_w]
      rfl
    refine pure_ (i := 12) (N := some 2) (v := ?_) (a' := ?_) #[true, true, true, true, true, true, true, true, true, true, true, true, true] rfl rfl (any_of HT_.out (by kernel_rfl)) (fun _ _ _ h => h) (Or.inl ⟨by rfl, ?_⟩) ?_ ?_
    rotate_left
    · intro w'
      go_simp
      with_reducible rfl
    rotate_left
    · simp only [Act.put, List.setIfInBounds_toArray, List.set_cons_zero, List.set_cons_succ, i64_w, i32_w]
      rfl
    refine done_ (done_of HT_.out (by kernel_rfl)) ?_
    try go_wp2
    go_ret
    exact ⟨by first | rfl | (simp [errW_none, errW_some] <;> rfl) | (simp [*, errW_none, errW_some] <;> rfl), by repeat (first | (with_reducible first | exact HB.out | apply below_alloc | apply pw_below_drewN | apply below_drew1 | refine below_set ?_ GE372.out) | exact HB.out)⟩
  · replace c3 := Bool.eq_false_iff.mpr c3
    subst c3
    have H1 : (some false) = some r := by rw [if_neg (show ¬ (false = true) by decide)] at H; exact H
    clear H
    have H := H1
    clear H1
    obtain rfl := Option.some.inj H
    go_enter Try.func49, Try.ntmps49
    try go_wp2_with (first | ((with_reducible refine gate_dst (N := 1) rfl ?_); (try (refine gate_guard (by rfl) ?_; dsimp only)); refine box_event ?hg (N := 1) ?hd (cs := #[.string a0_0, .slice A0_1 l0_1.length c0_1]) (t := 51) ?hr ?_; (case hd => rfl); (case hg => rfl); (case hr => first | (go_simp; done) | (go_simp; rfl)); intro gb372 hg w9 hbox hb; have n0_ := Aside0.mk (below_step (by repeat (first | (with_reducible first | exact HB.out | apply below_alloc | apply pw_below_drewN | apply below_drew1) | exact HB.out)) hb); have n1_ := Aside0.mk (hbox); have n2_ := Aside0.mk ((by rw [hg]; exact (below_size (by repeat (first | (with_reducible first | exact HB.out | apply below_alloc | apply pw_below_drewN | apply below_drew1) | exact HB.out))) : w.heap.size ≤ gb372)); have n3_ := Aside0.mk ((by rw [hg]; exact (below_size (by repeat (first | (with_reducible first | exact HB.out | apply below_alloc | apply pw_below_drewN | apply below_drew1) | exact HB.out))) : w.heap.size ≤ gb372)); clear HB; have HB := n0_; have BK372 := n1_; have GW372 := n2_; have GE372 := n3_; clear n0_ n1_ n2_ n3_; clear hb hbox hg))
    have n0_ := Aside0.mk (blk_drew BK372.out)
    have n1_ := Aside0.mk (below_drew1 HB.out)
    clear BK372
    clear HB
    have BK372 := n0_
    have HB := n1_
    clear n0_ n1_
    refine start_ (n := 13) (S := fun w' => w'.cell? ⟨gb372, 0, none⟩ = some (.string a0_0) ∧ w'.cell? ⟨gb372, 1, none⟩ = some (.slice A0_1 l0_1.length c0_1)) (ds := []) #[false, false, false, false, false, false, false, false, false, false, false, false, false] (by kernel_rfl) rfl rfl ⟨(blk_cell BK372.out 0).trans rfl, (blk_cell BK372.out 1).trans rfl⟩ (fun hHeld => ?_); refine with_tabW strip_Good.tab1 strip_Good.bits1 (fun HT_ HW_ => ?_)
    generalize w9.drew = w10 at BK372 HB hHeld ⊢
    refine pure_ (i := 0) (N := some 3) (v := ?_) (a' := ?_) #[true, false, false, false, false, false, false, false, false, false, false, false, false] rfl rfl (any_of HT_.out (by kernel_rfl)) (fun _ _ _ h => h) (Or.inl ⟨by rfl, ?_⟩) ?_ ?_
    rotate_left
    · intro w'
      go_simp
      with_reducible rfl
    rotate_left
    · simp only [Act.put, List.setIfInBounds_toArray, List.set_cons_zero, List.set_cons_succ, i64_w, i32_w]
      rfl
    refine take_ (i := 1) (N := some 4) (v := ?_) (a' := ?_) #[true, true, false, false, false, false, false, false, false, false, false, false, false] rfl rfl (take_ofW HT_.out HW_.out (by kernel_rfl)) (fun _ _ _ h => h) (Or.inl ⟨by rfl, ?_⟩) hHeld ?_ ?_
    rotate_left
    · rintro w' ⟨s0, s1⟩
      go_simp
      with_reducible rfl
    rotate_left
    · simp only [Act.put, List.setIfInBounds_toArray, List.set_cons_zero, List.set_cons_succ, i64_w, i32_w]
      rfl
    refine one_ (i := 2) (N := some 5) #[true, true, true, false, false, false, false, false, false, false, false, false, false] rfl rfl (one_of HT_.out (by kernel_rfl)) (by decide) (fun K hK => ?_)
    refine goes_ Try.func28 (by kernel_rfl) rfl #[.slice A0_1 l0_1.length c0_1] (by rfl) rfl rfl (by (try simp only [List.map_toArray, List.map_cons, List.map_nil]); first | done | rfl | (simp only [List.length_drop, List.length_take]; rfl)) ?_
    with_reducible refine (runs_Good.calls k _ _ l0_1 false _ ?side1 ?side2 A2.out).mono ?_
    (case side1 => repeat (first | exact (Kd.C_below HR0_1.out HB.out) | (with_reducible refine Kd.C_alloc ?_ _) | (with_reducible refine Kd.C_drewN ?_ _) | (with_reducible refine Kd.C_drew ?_)))
    (case side2 => exact HC0_1.out)
    rintro e w11 ⟨rfl, hb⟩
    refine ⟨_, rfl, ?_⟩
    have n0_ := Aside0.mk (blk_below (g := gb372) (o := .cells #[.string a0_0, .slice A0_1 l0_1.length c0_1] 51 (0, 0)) (by (with_reducible repeat (first | refine blk_drewN ?_ _ | refine blk_drew ?_ | refine blk_alloc ?_ _)); exact BK372.out) hb)
    have n1_ := Aside0.mk (below_step (by repeat (first | (with_reducible first | exact HB.out | apply below_alloc | apply pw_below_drewN | apply below_drew1 | refine below_set ?_ GE372.out) | exact HB.out)) hb)
    clear BK372
    clear HB
    have BK372 := n0_
    have HB := n1_
    clear n0_ n1_
    (try clear hb)
    (try clear hb2)
    (try clear hk)
    (try clear hi)
    refine hK.out _ _ ⟨(blk_cell BK372.out 0).trans rfl, (blk_cell BK372.out 1).trans rfl⟩ (fun hHeld => ?_)
    clear hK K
    refine norm_ (a' := ?_) ?_ ?_
    rotate_left
    · show Act.put _ (some 5) _ = _
      simp only [Act.put, List.setIfInBounds_toArray, List.set_cons_zero, List.set_cons_succ, i64_w, i32_w]
      rfl
    refine pure_ (i := 3) (N := some 6) (v := ?_) (a' := ?_) #[true, true, true, true, false, false, false, false, false, false, false, false, false] rfl rfl (any_of HT_.out (by kernel_rfl)) (fun _ _ _ h => h) (Or.inl ⟨by rfl, ?_⟩) ?_ ?_
    rotate_left
    · intro w'
      go_simp
      with_reducible rfl
    rotate_left
    · simp only [Act.put, List.setIfInBounds_toArray, List.set_cons_zero, List.set_cons_succ, i64_w, i32_w]
      rfl
    refine pure_ (i := 4) (N := some 7) (v := undef) (a' := ?_) #[true, true, true, true, true, false, false, false, false, false, false, false, false] rfl rfl (any_of HT_.out (by kernel_rfl)) (fun _ _ _ h => h) (Or.inr ⟨by rfl, rfl⟩) ?_ ?_
    rotate_left
    · simp only [Act.put, List.setIfInBounds_toArray, List.set_cons_zero, List.set_cons_succ, i64_w, i32_w]
      rfl
    refine pure_ (i := 5) (N := some 8) (v := undef) (a' := ?_) #[true, true, true, true, true, true, false, false, false, false, false, false, false] rfl rfl (any_of HT_.out (by kernel_rfl)) (fun _ _ _ h => h) (Or.inr ⟨by rfl, rfl⟩) ?_ ?_
    rotate_left
    · simp only [Act.put, List.setIfInBounds_toArray, List.set_cons_zero, List.set_cons_succ, i64_w, i32_w]
      rfl
    refine pure_ (i := 6) (N := some 9) (v := undef) (a' := ?_) #[true, true, true, true, true, true, true, false, false, false, false, false, false] rfl rfl (any_of HT_.out (by kernel_rfl)) (fun _ _ _ h => h) (Or.inr ⟨by rfl, rfl⟩) ?_ ?_
    rotate_left
    · simp only [Act.put, List.setIfInBounds_toArray, List.set_cons_zero, List.set_cons_succ, i64_w, i32_w]
      rfl
    refine pure_ (i := 7) (N := some 10) (v := undef) (a' := ?_) #[true, true, true, true, true, true, true, true, false, false, false, false, false] rfl rfl (any_of HT_.out (by kernel_rfl)) (fun _ _ _ h => h) (Or.inr ⟨by rfl, rfl⟩) ?_ ?_
    rotate_left
    · simp only [Act.put, List.setIfInBounds_toArray, List.set_cons_zero, List.set_cons_succ, i64_w, i32_w]
      rfl
    refine pure_ (i := 8) (N := some 11) (v := undef) (a' := ?_) #[true, true, true, true, true, true, true, true, true, false, false, false, false] rfl rfl (any_of HT_.out (by kernel_rfl)) (fun _ _ _ h => h) (Or.inr ⟨by rfl, rfl⟩) ?_ ?_
    rotate_left
    · simp only [Act.put, List.setIfInBounds_toArray, List.set_cons_zero, List.set_cons_succ, i64_w, i32_w]
      rfl
    refine pure_ (i := 9) (N := some 12) (v := undef) (a' := ?_) #[true, true, true, true, true, true, true, true, true, true, false, false, false] rfl rfl (any_of HT_.out (by kernel_rfl)) (fun _ _ _ h => h) (Or.inr ⟨by rfl, rfl⟩) ?_ ?_
    rotate_left
    · simp only [Act.put, List.setIfInBounds_toArray, List.set_cons_zero, List.set_cons_succ, i64_w, i32_w]
      rfl
    refine pure_ (i := 10) (N := some 13) (v := undef) (a' := ?_) #[true, true, true, true, true, true, true, true, true, true, true, false, false] rfl rfl (any_of HT_.out (by kernel_rfl)) (fun _ _ _ h => h) (Or.inr ⟨by rfl, rfl⟩) ?_ ?_
    rotate_left
    · simp only [Act.put, List.setIfInBounds_toArray, List.set_cons_zero, List.set_cons_succ, i64_w, i32_w]
      rfl
    refine pure_ (i := 11) (N := some 14) (v := ?_) (a' := ?_) #[true, true, true, true, true, true, true, true, true, true, true, true, false] rfl rfl (any_of HT_.out (by kernel_rfl)) (fun _ _ _ h => h) (Or.inl ⟨by rfl, ?_⟩) ?_ ?_
    rotate_left
    · intro w'
      go_simp
      with_reducible rfl
    rotate_left
    · simp only [Act.put, List.setIfInBounds_toArray, List.set_cons_zero, List.set_cons_succ, i64_w, i32_w]
      rfl
    refine pure_ (i := 12) (N := some 2) (v := ?_) (a' := ?_) #[true, true, true, true, true, true, true, true, true, true, true, true, true] rfl rfl (any_of HT_.out (by kernel_rfl)) (fun _ _ _ h => h) (Or.inl ⟨by rfl, ?_⟩) ?_ ?_
    rotate_left
    · intro w'
      go_simp
      with_reducible rfl
    rotate_left
    · simp only [Act.put, List.setIfInBounds_toArray, List.set_cons_zero, List.set_cons_succ, i64_w, i32_w]
      rfl
    refine done_ (done_of HT_.out (by kernel_rfl)) ?_
    try go_wp2
    go_ret
    exact ⟨by first | rfl | (simp [errW_none, errW_some] <;> rfl) | (simp [*, errW_none, errW_some] <;> rfl), by repeat (first | (with_reducible first | exact HB.out | apply below_alloc | apply pw_below_drewN | apply below_drew1 | refine below_set ?_ GE372.out) | exact HB.out)⟩
def api_Run.l0 : Nat → List (S100) → List (S100) → Int → Int → Option (Bool)
  | 0, _, _, _, _ => none
  | k + 1, x0, x1, x12, x13 => if x13 < x12 then (if 0 ≤ x13 then (if x13 < (x0.length : Int) then (if x13 < (x1.length : Int) then (if (!(((rd_T100 x0 x13).f0) == ((rd_T100 x1 x13).f0)) || (!(((rd_T100 x0 x13).f1) == ((rd_T100 x1 x13).f1)))) = true then (some false) else (api_Run.l0 k x0 x1 x12 (wrap64 (x13 + 1)))) else (none)) else (none)) else (none)) else (some true)
def api_Run.f (k : Nat) (l0 : List (S100)) (l1 : List (S100)) : Option (Bool) := if (l0.length : Int) = (l1.length : Int) then (api_Run.l0 k l0 l1 (l0.length : Int) 0) else (some false)
theorem api_Run.mono_l : ∀ k, (∀ y0 y1 y2 y3, LeO (api_Run.l0 k y0 y1 y2 y3) (api_Run.l0 (k + 1) y0 y1 y2 y3))
  | 0 => fun _ _ _ _ r h => by simp [api_Run.l0] at h
  | k + 1 => by
    have ih0 := api_Run.mono_l k
    · intro y0 y1 y2 y3
      unfold api_Run.l0
      repeat' first
      | (with_reducible exact ih0 _ _ _ _)
      | (with_reducible exact LeO.refl _)
      | (with_reducible exact LeO.none _)
      | (with_reducible refine LeO.ite ?_ ?_)
      | (with_reducible refine LeO.bind ?_ (fun _ => ?_))
      | exact ih0 _ _ _ _
      | exact LeO.none _
      | refine LeO.ite ?_ ?_
      | refine LeO.bind ?_ (fun _ => ?_)
theorem api_Run.mono : ∀ a0 a1 k, LeO (api_Run.f k a0 a1) (api_Run.f (k + 1) a0 a1) := by
  intro a0 a1 k
  have ih0 := api_Run.mono_l k
  unfold api_Run.f
  repeat' first
      | (with_reducible exact ih0 _ _ _ _)
      | (with_reducible exact LeO.refl _)
      | (with_reducible exact LeO.none _)
      | (with_reducible refine LeO.ite ?_ ?_)
      | (with_reducible refine LeO.bind ?_ (fun _ => ?_))
      | exact ih0 _ _ _ _
      | exact LeO.none _
      | refine LeO.ite ?_ ?_
      | refine LeO.bind ?_ (fun _ => ?_)
set_option maxHeartbeats 8000000 in
set_option maxRecDepth 100000 in
theorem api_Run.calls (k : Nat) (A0 : Option Addr) (c0 : Nat) (l0 : List (S100)) (A1 : Option Addr) (c1 : Nat) (l1 : List (S100)) (r : Bool) (w : World) (hr0 : Kd.C k100 w A0 l0.length l0) (hc0 : l0.length ≤ c0) (hr1 : Kd.C k100 w A1 l1.length l1) (hc1 : l1.length ≤ c1) (h : api_Run.f k l0 l1 = some r) :
    Calls Try.prog 102 #[.slice A0 l0.length c0, .slice A1 l1.length c1] w fun e w' => e = .returned (.bool r) ∧ Drawn0 w w' := by
  have hu100 := Try.underlying100
  have HR0 := Aside0.mk hr0
  have HC0 := Aside0.mk hc0
  clear hr0 hc0
  have HR1 := Aside0.mk hr1
  have HC1 := Aside0.mk hc1
  clear hr1 hc1
  have H : (if (l0.length : Int) = (l1.length : Int) then (api_Run.l0 k l0 l1 (l0.length : Int) 0) else (some false)) = some r := h
  clear h
  by_cases c3 : (l0.length : Int) = (l1.length : Int)
  · rw [if_pos c3] at H
    have c3b0 : ((l0.length : Int) == (l1.length : Int)) = true := beq_iff_eq.mpr c3
    have c3b1 : ((l0.length : Int) != (l1.length : Int)) = false := bne_eq_false_iff_eq.mpr c3
    have c3b2 : (l0.length == l1.length) = true := by first | simpa using c3 | (simp at c3 ⊢; omega)
    clear c3
    have H' := Aside0.mk H
    clear H
    go_enter Try.func102, Try.ntmps102
    go_wp2
    repeat (go_quiet (fail); try go_wp2)
    go_loopg [13] k (fun kq v13 w' => ∃ (x13_1 : Int), v13 = .int .i64 x13_1 ∧ Aside0 (api_Run.l0 kq l0 l1 (l0.length : Int) x13_1 = some r) ∧ Aside0 (kq ≤ k) ∧ Drawn0 w w')
    case atStart => exact ⟨(0), (by first | rfl | (simp; done) | (simp [*]; done)), H', ⟨Nat.le_refl _⟩, by repeat (first | exact Drawn0.refl _ | apply Drawn0.step)⟩
    case round =>
      clear H'
      try clear c1
      try clear p2
      try clear c3
      try clear c3b0
      try clear c3b1
      try clear c3b2
      obtain ⟨x13_1, rfl, HA, HK1, ⟨m1, rfl⟩⟩ := hrel
      cases gk with
      | zero => exact absurd HA.out (by simp [api_Run.l0])
      | succ k1 =>
        have H := HA.out
        clear HA
        simp only [api_Run.l0] at H
        by_cases c4 : x13_1 < (l0.length : Int)
        · rw [if_pos c4] at H
          have c4b0 : decide (x13_1 < (l0.length : Int)) = true := decide_eq_true c4
          clear c4
          by_cases c5 : 0 ≤ x13_1
          · rw [if_pos c5] at H
            have c5b0 : decide (0 ≤ x13_1) = true := decide_eq_true c5
            clear c5
            by_cases c6 : x13_1 < (l0.length : Int)
            · rw [if_pos c6] at H
              have c6b0 : decide (x13_1 < (l0.length : Int)) = true := decide_eq_true c6
              clear c6
              by_cases c7 : x13_1 < (l1.length : Int)
              · rw [if_pos c7] at H
                have c7b0 : decide (x13_1 < (l1.length : Int)) = true := decide_eq_true c7
                clear c7
                by_cases c8 : (!(((rd_T100 l0 x13_1).f0) == ((rd_T100 l1 x13_1).f0)) || (!(((rd_T100 l0 x13_1).f1) == ((rd_T100 l1 x13_1).f1)))) = true
                · rw [if_pos c8] at H
                  have c8b0 : (!(((rd_T100 l0 x13_1).f0) == ((rd_T100 l1 x13_1).f0)) || (!(((rd_T100 l0 x13_1).f1) == ((rd_T100 l1 x13_1).f1)))) = true := c8
                  clear c8
                  obtain rfl := Option.some.inj H
                  have p378 : 0 ≤ (x13_1 : Int) := of_decide_eq_true (by first | (with_reducible assumption) | assumption)
                  have q378 : x13_1 < (l0.length : Int) := of_decide_eq_true (by first | (with_reducible assumption) | assumption)
                  obtain ⟨ad378, e378, hx378_0, hx378_1⟩ := at_T100 HR0.out x13_1 p378 q378
                  cases e378
                  replace p378 := eq_true p378
                  replace q378 := eq_true q378
                  have p379 : 0 ≤ (x13_1 : Int) := of_decide_eq_true (by first | (with_reducible assumption) | assumption)
                  have q379 : x13_1 < (l1.length : Int) := of_decide_eq_true (by first | (with_reducible assumption) | assumption)
                  obtain ⟨ad379, e379, hx379_0, hx379_1⟩ := at_T100 HR1.out x13_1 p379 q379
                  cases e379
                  replace p379 := eq_true p379
                  replace q379 := eq_true q379
                  go_wp2
                  repeat (go_quiet (fail); try go_wp2)
                  go_ret
                  exact ⟨by first | rfl | (simp; done) | (simp [*]; done), by repeat (first | exact Drawn0.refl _ | apply Drawn0.step)⟩
                · rw [if_neg c8] at H
                  have c8b0 : (!(((rd_T100 l0 x13_1).f0) == ((rd_T100 l1 x13_1).f0)) || (!(((rd_T100 l0 x13_1).f1) == ((rd_T100 l1 x13_1).f1)))) = false := by simpa using c8
                  clear c8
                  have H' := Aside0.mk H
                  clear H
                  have p378 : 0 ≤ (x13_1 : Int) := of_decide_eq_true (by first | (with_reducible assumption) | assumption)
                  have q378 : x13_1 < (l0.length : Int) := of_decide_eq_true (by first | (with_reducible assumption) | assumption)
                  obtain ⟨ad378, e378, hx378_0, hx378_1⟩ := at_T100 HR0.out x13_1 p378 q378
                  cases e378
                  replace p378 := eq_true p378
                  replace q378 := eq_true q378
                  have p379 : 0 ≤ (x13_1 : Int) := of_decide_eq_true (by first | (with_reducible assumption) | assumption)
                  have q379 : x13_1 < (l1.length : Int) := of_decide_eq_true (by first | (with_reducible assumption) | assumption)
                  obtain ⟨ad379, e379, hx379_0, hx379_1⟩ := at_T100 HR1.out x13_1 p379 q379
                  cases e379
                  replace p379 := eq_true p379
                  replace q379 := eq_true q379
                  go_wp2
                  repeat (go_quiet (fail); try go_wp2)
                  go_roundg k1
                  case measure => have := HK1.out; omega
                  case rel => exact ⟨(wrap64 (x13_1 + 1)), (by first | rfl | (simp; done) | (simp [*]; done)), H', ⟨by have := HK1.out; omega⟩, by repeat (first | exact Drawn0.refl _ | apply Drawn0.step)⟩
              · rw [if_neg c7] at H
                exact absurd H (by simp)
            · rw [if_neg c6] at H
              exact absurd H (by simp)
          · rw [if_neg c5] at H
            exact absurd H (by simp)
        · rw [if_neg c4] at H
          have c4b0 : decide (x13_1 < (l0.length : Int)) = false := decide_eq_false c4
          clear c4
          obtain rfl := Option.some.inj H
          go_wp2
          repeat (go_quiet (fail); try go_wp2)
          go_ret
          exact ⟨by first | rfl | (simp; done) | (simp [*]; done), by repeat (first | exact Drawn0.refl _ | apply Drawn0.step)⟩
  · rw [if_neg c3] at H
    have c3b0 : ((l0.length : Int) == (l1.length : Int)) = false := beq_eq_false_iff_ne.mpr c3
    have c3b1 : ((l0.length : Int) != (l1.length : Int)) = true := bne_iff_ne.mpr c3
    have c3b2 : (l0.length == l1.length) = false := by first | simpa using c3 | (simp at c3 ⊢; omega)
    obtain rfl := Option.some.inj H
    go_enter Try.func102, Try.ntmps102
    go_wp2
    repeat (go_quiet (fail); try go_wp2)
    go_ret
    exact ⟨by first | rfl | (simp; done) | (simp [*]; done), by repeat (first | exact Drawn0.refl _ | apply Drawn0.step)⟩
end Go.Proofs.Ythpjagblnddjaaa.PB
end

section
namespace Go.Proofs.Ythpjagblnddjaaa.PB
open Go.RowKit Go.Proofs.YthpjagblnddjaaaW.PrintWords Go.Proofs.YthpjagblnddjaaaW.PrintLast Go.Proofs.YthpjagblnddjaaaW.PrintMore
attribute [local go_sem] max2_int min2_int max_two min_two max_three min_three max_four min_four   
set_option linter.unusedVariables false
set_option linter.unusedSimpArgs false
def strip_Same.f (k : Nat) (a0_0 : ByteArray) (l0_1 : List (S100)) (a1_0 : ByteArray) (l1_1 : List (S100)) : Option (Bool) := if a0_0.toList = a1_0.toList then ((api_Run.f k l0_1 l1_1).bind fun t382 => (some t382)) else (some false)
theorem strip_Same.mono : ∀ a0 a1 a2 a3 k, LeO (strip_Same.f k a0 a1 a2 a3) (strip_Same.f (k + 1) a0 a1 a2 a3) := by
  intro a0 a1 a2 a3 k
  unfold strip_Same.f
  repeat' first
      | (with_reducible exact api_Run.mono _ _ _)
      | (with_reducible exact LeO.refl _)
      | (with_reducible exact LeO.none _)
      | (with_reducible refine LeO.ite ?_ ?_)
      | (with_reducible refine LeO.bind ?_ (fun _ => ?_))
      | exact api_Run.mono _ _ _
      | exact LeO.none _
      | refine LeO.ite ?_ ?_
      | refine LeO.bind ?_ (fun _ => ?_)
set_option maxHeartbeats 8000000 in
set_option maxRecDepth 100000 in
theorem strip_Same.calls (k : Nat) (a0_0 : ByteArray) (A0_1 : Option Addr) (c0_1 : Nat) (l0_1 : List (S100)) (a1_0 : ByteArray) (A1_1 : Option Addr) (c1_1 : Nat) (l1_1 : List (S100)) (r : Bool) (w : World) (hr0_1 : Kd.C k100 w A0_1 l0_1.length l0_1) (hc0_1 : l0_1.length ≤ c0_1) (hr1_1 : Kd.C k100 w A1_1 l1_1.length l1_1) (hc1_1 : l1_1.length ≤ c1_1) (h : strip_Same.f k a0_0 l0_1 a1_0 l1_1 = some r) :
    Calls Try.prog 71 #[.agg #[.string a0_0, .slice A0_1 l0_1.length c0_1], .agg #[.string a1_0, .slice A1_1 l1_1.length c1_1]] w fun e w' => e = .returned (.bool r) ∧ Below w.heap.size w w' := by
  have hu51 := Try.underlying51
  have HR0_1 := Aside0.mk hr0_1
  have HC0_1 := Aside0.mk hc0_1
  clear hr0_1 hc0_1
  have HR1_1 := Aside0.mk hr1_1
  have HC1_1 := Aside0.mk hc1_1
  clear hr1_1 hc1_1
  have HB := Aside0.mk (Below.refl w.heap.size w)
  have H : (if a0_0.toList = a1_0.toList then ((api_Run.f k l0_1 l1_1).bind fun t382 => (some t382)) else (some false)) = some r := h
  clear h
  by_cases c3 : a0_0.toList = a1_0.toList
  · rw [if_pos c3] at H
    have c3b0 : (a0_0.toList == a1_0.toList) = true := beq_iff_eq.mpr c3
    have c3b1 : (a0_0.toList != a1_0.toList) = false := bne_eq_false_iff_eq.mpr c3
    clear c3
    replace H := Option.bind_eq_some_iff.mp H
    obtain ⟨t382, A40, H⟩ := H
    replace H : (some t382) = some r := H
    have A4 := Aside0.mk A40
    clear A40
    obtain rfl := Option.some.inj H
    go_enter Try.func71, Try.ntmps71
    go_wp2_with (first | ((with_reducible refine gate_dst (N := 2) rfl ?_); refine box_event ?hg (N := 2) ?hd (cs := #[.string a0_0, .slice A0_1 l0_1.length c0_1]) (t := 51) ?hr ?_; (case hd => rfl); (case hg => rfl); (case hr => first | (go_simp; done) | (go_simp; rfl)); intro gb380 hg w5 hbox hb; have n0_ := Aside0.mk (below_step (by repeat (first | (with_reducible first | exact HB.out | apply below_alloc | apply pw_below_drewN | apply below_drew1) | exact HB.out)) hb); have n1_ := Aside0.mk (hbox); have n2_ := Aside0.mk ((by rw [hg]; exact (below_size (by repeat (first | (with_reducible first | exact HB.out | apply below_alloc | apply pw_below_drewN | apply below_drew1) | exact HB.out))) : w.heap.size ≤ gb380)); have n3_ := Aside0.mk ((by rw [hg]; exact (below_size (by repeat (first | (with_reducible first | exact HB.out | apply below_alloc | apply pw_below_drewN | apply below_drew1) | exact HB.out))) : w.heap.size ≤ gb380)); clear HB; have HB := n0_; have BK380 := n1_; have GW380 := n2_; have GE380 := n3_; clear n0_ n1_ n2_ n3_; clear hb hbox hg) | ((with_reducible refine gate_dst (N := 3) rfl ?_); refine box_event ?hg (N := 3) ?hd (cs := #[.string a1_0, .slice A1_1 l1_1.length c1_1]) (t := 51) ?hr ?_; (case hd => rfl); (case hg => rfl); (case hr => first | (go_simp; done) | (go_simp; rfl)); intro gb381 hg w6 hbox hb; have n0_ := Aside0.mk (blk_below (g := gb380) (o := .cells #[.string a0_0, .slice A0_1 l0_1.length c0_1] 51 (0, 0)) (by (with_reducible repeat (first | refine blk_drewN ?_ _ | refine blk_drew ?_ | refine blk_alloc ?_ _)); exact BK380.out) hb); have n1_ := Aside0.mk (below_step (by repeat (first | (with_reducible first | exact HB.out | apply below_alloc | apply pw_below_drewN | apply below_drew1 | refine below_set ?_ GE380.out) | exact HB.out)) hb); have n2_ := Aside0.mk (hbox); have n3_ := Aside0.mk ((by rw [hg]; exact (below_size (by repeat (first | (with_reducible first | exact HB.out | apply below_alloc | apply pw_below_drewN | apply below_drew1 | refine below_set ?_ GE380.out) | exact HB.out))) : w.heap.size ≤ gb381)); have n4_ := Aside0.mk ((by rw [hg]; exact (below_size (by repeat (first | (with_reducible first | exact HB.out | apply below_alloc | apply pw_below_drewN | apply below_drew1 | refine below_set ?_ GE380.out) | exact HB.out))) : w.heap.size ≤ gb381)); have n5_ := Aside0.mk ((by rw [hg]; exact Nat.ne_of_lt (blk_lt (g := gb380) (o := .cells #[.string a0_0, .slice A0_1 l0_1.length c0_1] 51 (0, 0)) (by (with_reducible repeat (first | refine blk_drewN ?_ _ | refine blk_drew ?_ | refine blk_alloc ?_ _)); exact BK380.out)) : gb380 ≠ gb381)); have n6_ := Aside0.mk ((by rw [hg]; exact Nat.ne_of_gt (blk_lt (g := gb380) (o := .cells #[.string a0_0, .slice A0_1 l0_1.length c0_1] 51 (0, 0)) (by (with_reducible repeat (first | refine blk_drewN ?_ _ | refine blk_drew ?_ | refine blk_alloc ?_ _)); exact BK380.out)) : gb381 ≠ gb380)); clear BK380; clear HB; have BK380 := n0_; have HB := n1_; have BK381 := n2_; have GW381 := n3_; have GE381 := n4_; have NB380_381 := n5_; have NB381_380 := n6_; clear n0_ n1_ n2_ n3_ n4_ n5_ n6_; clear hb hbox hg; have hnb7 := NB380_381.out; have hnc7 := NB381_380.out; have hcz8_0 : w6.cell? ⟨gb380, 0, none⟩ = some (.string a0_0) := (blk_cell BK380.out 0).trans rfl; have hcz8_1 : w6.cell? ⟨gb380, 1, none⟩ = some (.slice A0_1 l0_1.length c0_1) := (blk_cell BK380.out 1).trans rfl; have hfz8_0 := blk_frozen BK380.out 0; have hfz8_1 := blk_frozen BK380.out 1; have hcz9_0 : w6.cell? ⟨gb381, 0, none⟩ = some (.string a1_0) := (blk_cell BK381.out 0).trans rfl; have hcz9_1 : w6.cell? ⟨gb381, 1, none⟩ = some (.slice A1_1 l1_1.length c1_1) := (blk_cell BK381.out 1).trans rfl; have hfz9_0 := blk_frozen BK381.out 0; have hfz9_1 := blk_frozen BK381.out 1) | (go_at_call 102; (with_reducible refine (api_Run.calls k _ _ l0_1 _ _ l1_1 t382 _ ?side1 ?side2 ?side3 ?side4 A4.out).mono ?_); (case side1 => repeat (first | exact (Kd.C_below HR0_1.out HB.out) | (with_reducible refine Kd.C_alloc ?_ _) | (with_reducible refine Kd.C_drewN ?_ _) | (with_reducible refine Kd.C_drew ?_))); (case side2 => exact HC0_1.out); (case side3 => repeat (first | exact (Kd.C_below HR1_1.out HB.out) | (with_reducible refine Kd.C_alloc ?_ _) | (with_reducible refine Kd.C_drewN ?_ _) | (with_reducible refine Kd.C_drew ?_))); (case side4 => exact HC1_1.out); rintro e w' ⟨rfl, ⟨nd, rfl⟩⟩))
    go_ret
    exact ⟨by first | rfl | (simp [errW_none, errW_some] <;> rfl) | (simp [*, errW_none, errW_some] <;> rfl), by repeat (first | (with_reducible first | exact HB.out | apply below_alloc | apply pw_below_drewN | apply below_drew1 | refine below_set ?_ GE380.out | refine below_set ?_ GE381.out) | exact HB.out)⟩
  · rw [if_neg c3] at H
    have c3b0 : (a0_0.toList == a1_0.toList) = false := beq_eq_false_iff_ne.mpr c3
    have c3b1 : (a0_0.toList != a1_0.toList) = true := bne_iff_ne.mpr c3
    obtain rfl := Option.some.inj H
    go_enter Try.func71, Try.ntmps71
    go_wp2_with (first | ((with_reducible refine gate_dst (N := 2) rfl ?_); refine box_event ?hg (N := 2) ?hd (cs := #[.string a0_0, .slice A0_1 l0_1.length c0_1]) (t := 51) ?hr ?_; (case hd => rfl); (case hg => rfl); (case hr => first | (go_simp; done) | (go_simp; rfl)); intro gb380 hg w10 hbox hb; have n0_ := Aside0.mk (below_step (by repeat (first | (with_reducible first | exact HB.out | apply below_alloc | apply pw_below_drewN | apply below_drew1) | exact HB.out)) hb); have n1_ := Aside0.mk (hbox); have n2_ := Aside0.mk ((by rw [hg]; exact (below_size (by repeat (first | (with_reducible first | exact HB.out | apply below_alloc | apply pw_below_drewN | apply below_drew1) | exact HB.out))) : w.heap.size ≤ gb380)); have n3_ := Aside0.mk ((by rw [hg]; exact (below_size (by repeat (first | (with_reducible first | exact HB.out | apply below_alloc | apply pw_below_drewN | apply below_drew1) | exact HB.out))) : w.heap.size ≤ gb380)); clear HB; have HB := n0_; have BK380 := n1_; have GW380 := n2_; have GE380 := n3_; clear n0_ n1_ n2_ n3_; clear hb hbox hg) | ((with_reducible refine gate_dst (N := 3) rfl ?_); refine box_event ?hg (N := 3) ?hd (cs := #[.string a1_0, .slice A1_1 l1_1.length c1_1]) (t := 51) ?hr ?_; (case hd => rfl); (case hg => rfl); (case hr => first | (go_simp; done) | (go_simp; rfl)); intro gb381 hg w11 hbox hb; have n0_ := Aside0.mk (blk_below (g := gb380) (o := .cells #[.string a0_0, .slice A0_1 l0_1.length c0_1] 51 (0, 0)) (by (with_reducible repeat (first | refine blk_drewN ?_ _ | refine blk_drew ?_ | refine blk_alloc ?_ _)); exact BK380.out) hb); have n1_ := Aside0.mk (below_step (by repeat (first | (with_reducible first | exact HB.out | apply below_alloc | apply pw_below_drewN | apply below_drew1 | refine below_set ?_ GE380.out) | exact HB.out)) hb); have n2_ := Aside0.mk (hbox); have n3_ := Aside0.mk ((by rw [hg]; exact (below_size (by repeat (first | (with_reducible first | exact HB.out | apply below_alloc | apply pw_below_drewN | apply below_drew1 | refine below_set ?_ GE380.out) | exact HB.out))) : w.heap.size ≤ gb381)); have n4_ := Aside0.mk ((by rw [hg]; exact (below_size (by repeat (first | (with_reducible first | exact HB.out | apply below_alloc | apply pw_below_drewN | apply below_drew1 | refine below_set ?_ GE380.out) | exact HB.out))) : w.heap.size ≤ gb381)); have n5_ := Aside0.mk ((by rw [hg]; exact Nat.ne_of_lt (blk_lt (g := gb380) (o := .cells #[.string a0_0, .slice A0_1 l0_1.length c0_1] 51 (0, 0)) (by (with_reducible repeat (first | refine blk_drewN ?_ _ | refine blk_drew ?_ | refine blk_alloc ?_ _)); exact BK380.out)) : gb380 ≠ gb381)); have n6_ := Aside0.mk ((by rw [hg]; exact Nat.ne_of_gt (blk_lt (g := gb380) (o := .cells #[.string a0_0, .slice A0_1 l0_1.length c0_1] 51 (0, 0)) (by (with_reducible repeat (first | refine blk_drewN ?_ _ | refine blk_drew ?_ | refine blk_alloc ?_ _)); exact BK380.out)) : gb381 ≠ gb380)); clear BK380; clear HB; have BK380 := n0_; have HB := n1_; have BK381 := n2_; have GW381 := n3_; have GE381 := n4_; have NB380_381 := n5_; have NB381_380 := n6_; clear n0_ n1_ n2_ n3_ n4_ n5_ n6_; clear hb hbox hg; have hnb12 := NB380_381.out; have hnc12 := NB381_380.out; have hcz13_0 : w11.cell? ⟨gb380, 0, none⟩ = some (.string a0_0) := (blk_cell BK380.out 0).trans rfl; have hcz13_1 : w11.cell? ⟨gb380, 1, none⟩ = some (.slice A0_1 l0_1.length c0_1) := (blk_cell BK380.out 1).trans rfl; have hfz13_0 := blk_frozen BK380.out 0; have hfz13_1 := blk_frozen BK380.out 1; have hcz14_0 : w11.cell? ⟨gb381, 0, none⟩ = some (.string a1_0) := (blk_cell BK381.out 0).trans rfl; have hcz14_1 : w11.cell? ⟨gb381, 1, none⟩ = some (.slice A1_1 l1_1.length c1_1) := (blk_cell BK381.out 1).trans rfl; have hfz14_0 := blk_frozen BK381.out 0; have hfz14_1 := blk_frozen BK381.out 1))
    go_ret
    exact ⟨by first | rfl | (simp [errW_none, errW_some] <;> rfl) | (simp [*, errW_none, errW_some] <;> rfl), by repeat (first | (with_reducible first | exact HB.out | apply below_alloc | apply pw_below_drewN | apply below_drew1 | refine below_set ?_ GE380.out | refine below_set ?_ GE381.out) | exact HB.out)⟩
def strip_within.f (k : Nat) (a0_0 : ByteArray) (l0_1 : List (S100)) (a1 : Int) (a2 : Int) : Option (Bool) := (strip_Good.f k a0_0 l0_1).bind fun t384 => (if t384 = true then (if a1 ≥ 0 then (if a1 ≤ a2 then (some (decide (a2 ≤ (a0_0.size : Int)))) else (some false)) else (some false)) else (some false))
theorem strip_within.mono : ∀ a0 a1 a2 a3 k, LeO (strip_within.f k a0 a1 a2 a3) (strip_within.f (k + 1) a0 a1 a2 a3) := by
  intro a0 a1 a2 a3 k
  unfold strip_within.f
  repeat' first
      | (with_reducible exact strip_Good.mono _ _ _)
      | (with_reducible exact LeO.refl _)
      | (with_reducible exact LeO.none _)
      | (with_reducible refine LeO.ite ?_ ?_)
      | (with_reducible refine LeO.bind ?_ (fun _ => ?_))
      | exact strip_Good.mono _ _ _
      | exact LeO.none _
      | refine LeO.ite ?_ ?_
      | refine LeO.bind ?_ (fun _ => ?_)
set_option maxHeartbeats 8000000 in
set_option maxRecDepth 100000 in
theorem strip_within.calls (k : Nat) (a0_0 : ByteArray) (A0_1 : Option Addr) (c0_1 : Nat) (l0_1 : List (S100)) (a1 : Int) (a2 : Int) (r : Bool) (w : World) (hr0_1 : Kd.C k100 w A0_1 l0_1.length l0_1) (hc0_1 : l0_1.length ≤ c0_1) (h : strip_within.f k a0_0 l0_1 a1 a2 = some r) :
    Calls Try.prog 95 #[.agg #[.string a0_0, .slice A0_1 l0_1.length c0_1], .int .i64 a1, .int .i64 a2] w fun e w' => e = .returned (.bool r) ∧ Below w.heap.size w w' := by
  have hu51 := Try.underlying51
  have HR0_1 := Aside0.mk hr0_1
  have HC0_1 := Aside0.mk hc0_1
  clear hr0_1 hc0_1
  have HB := Aside0.mk (Below.refl w.heap.size w)
  have H : ((strip_Good.f k a0_0 l0_1).bind fun t384 => (if t384 = true then (if a1 ≥ 0 then (if a1 ≤ a2 then (some (decide (a2 ≤ (a0_0.size : Int)))) else (some false)) else (some false)) else (some false))) = some r := h
  clear h
  replace H := Option.bind_eq_some_iff.mp H
  obtain ⟨t384, A40, H⟩ := H
  replace H : (if t384 = true then (if a1 ≥ 0 then (if a1 ≤ a2 then (some (decide (a2 ≤ (a0_0.size : Int)))) else (some false)) else (some false)) else (some false)) = some r := H
  have A4 := Aside0.mk A40
  clear A40
  by_cases c5 : t384 = true
  · subst c5
    have H1 : (if a1 ≥ 0 then (if a1 ≤ a2 then (some (decide (a2 ≤ (a0_0.size : Int)))) else (some false)) else (some false)) = some r := by rw [if_pos rfl] at H; exact H
    clear H
    have H := H1
    clear H1
    by_cases c6 : a1 ≥ 0
    · rw [if_pos c6] at H
      have c6b0 : decide (0 ≤ a1) = true := decide_eq_true c6
      clear c6
      by_cases c7 : a1 ≤ a2
      · rw [if_pos c7] at H
        have c7b0 : decide (a1 ≤ a2) = true := decide_eq_true c7
        clear c7
        obtain rfl := Option.some.inj H
        go_enter Try.func95, Try.ntmps95
        go_wp2_with (first | ((with_reducible refine gate_dst (N := 3) rfl ?_); (try (refine gate_guard (by rfl) ?_; dsimp only)); refine box_event ?hg (N := 3) ?hd (cs := #[.string a0_0, .slice A0_1 l0_1.length c0_1]) (t := 51) ?hr ?_; (case hd => rfl); (case hg => rfl); (case hr => first | (go_simp; done) | (go_simp; rfl)); intro gb383 hg w8 hbox hb; have n0_ := Aside0.mk (below_step (by repeat (first | (with_reducible first | exact HB.out | apply below_alloc | apply pw_below_drewN | apply below_drew1) | exact HB.out)) hb); have n1_ := Aside0.mk (hbox); have n2_ := Aside0.mk ((by rw [hg]; exact (below_size (by repeat (first | (with_reducible first | exact HB.out | apply below_alloc | apply pw_below_drewN | apply below_drew1) | exact HB.out))) : w.heap.size ≤ gb383)); have n3_ := Aside0.mk ((by rw [hg]; exact (below_size (by repeat (first | (with_reducible first | exact HB.out | apply below_alloc | apply pw_below_drewN | apply below_drew1) | exact HB.out))) : w.heap.size ≤ gb383)); clear HB; have HB := n0_; have BK383 := n1_; have GW383 := n2_; have GE383 := n3_; clear n0_ n1_ n2_ n3_; clear hb hbox hg; have hcz9_0 : w8.cell? ⟨gb383, 0, none⟩ = some (.string a0_0) := (blk_cell BK383.out 0).trans rfl; have hcz9_1 : w8.cell? ⟨gb383, 1, none⟩ = some (.slice A0_1 l0_1.length c0_1) := (blk_cell BK383.out 1).trans rfl; have hfz9_0 := blk_frozen BK383.out 0; have hfz9_1 := blk_frozen BK383.out 1) | ((with_reducible refine gate_callee (f := 49) rfl ?_); refine goesL_ (some 8) rfl rfl Try.func49 (by kernel_rfl) rfl #[.agg #[.string a0_0, .slice A0_1 l0_1.length c0_1]] rfl (by (try simp only [List.map_toArray, List.map_cons, List.map_nil]); first | done | rfl | (simp only [List.length_drop, List.length_take]; rfl)) ?_; (with_reducible refine (strip_Good.calls k a0_0 _ _ l0_1 true _ ?side1 ?side2 A4.out).mono ?_); (case side1 => repeat (first | exact (Kd.C_below HR0_1.out HB.out) | (with_reducible refine Kd.C_alloc ?_ _) | (with_reducible refine Kd.C_drewN ?_ _) | (with_reducible refine Kd.C_drew ?_))); (case side2 => exact HC0_1.out); rintro e w10 ⟨rfl, hb⟩; refine ⟨_, rfl, ?_⟩; have n0_ := Aside0.mk (blk_below (g := gb383) (o := .cells #[.string a0_0, .slice A0_1 l0_1.length c0_1] 51 (0, 0)) (by (with_reducible repeat (first | refine blk_drewN ?_ _ | refine blk_drew ?_ | refine blk_alloc ?_ _)); exact BK383.out) hb); have n1_ := Aside0.mk (below_step (by repeat (first | (with_reducible first | exact HB.out | apply below_alloc | apply pw_below_drewN | apply below_drew1 | refine below_set ?_ GE383.out) | exact HB.out)) hb); clear BK383; clear HB; have BK383 := n0_; have HB := n1_; clear n0_ n1_; (try clear hb); (try clear hb2); (try clear hk); (try clear hi); have hcz11_0 : w10.cell? ⟨gb383, 0, none⟩ = some (.string a0_0) := (blk_cell BK383.out 0).trans rfl; have hcz11_1 : w10.cell? ⟨gb383, 1, none⟩ = some (.slice A0_1 l0_1.length c0_1) := (blk_cell BK383.out 1).trans rfl; have hfz11_0 := blk_frozen BK383.out 0; have hfz11_1 := blk_frozen BK383.out 1))
        go_ret
        exact ⟨by first | rfl | (simp [errW_none, errW_some] <;> rfl) | (simp [*, errW_none, errW_some] <;> rfl), by repeat (first | (with_reducible first | exact HB.out | apply below_alloc | apply pw_below_drewN | apply below_drew1 | refine below_set ?_ GE383.out) | exact HB.out)⟩
      · rw [if_neg c7] at H
        have c7b0 : decide (a1 ≤ a2) = false := decide_eq_false c7
        clear c7
        obtain rfl := Option.some.inj H
        go_enter Try.func95, Try.ntmps95
        go_wp2_with (first | ((with_reducible refine gate_dst (N := 3) rfl ?_); (try (refine gate_guard (by rfl) ?_; dsimp only)); refine box_event ?hg (N := 3) ?hd (cs := #[.string a0_0, .slice A0_1 l0_1.length c0_1]) (t := 51) ?hr ?_; (case hd => rfl); (case hg => rfl); (case hr => first | (go_simp; done) | (go_simp; rfl)); intro gb383 hg w12 hbox hb; have n0_ := Aside0.mk (below_step (by repeat (first | (with_reducible first | exact HB.out | apply below_alloc | apply pw_below_drewN | apply below_drew1) | exact HB.out)) hb); have n1_ := Aside0.mk (hbox); have n2_ := Aside0.mk ((by rw [hg]; exact (below_size (by repeat (first | (with_reducible first | exact HB.out | apply below_alloc | apply pw_below_drewN | apply below_drew1) | exact HB.out))) : w.heap.size ≤ gb383)); have n3_ := Aside0.mk ((by rw [hg]; exact (below_size (by repeat (first | (with_reducible first | exact HB.out | apply below_alloc | apply pw_below_drewN | apply below_drew1) | exact HB.out))) : w.heap.size ≤ gb383)); clear HB; have HB := n0_; have BK383 := n1_; have GW383 := n2_; have GE383 := n3_; clear n0_ n1_ n2_ n3_; clear hb hbox hg; have hcz13_0 : w12.cell? ⟨gb383, 0, none⟩ = some (.string a0_0) := (blk_cell BK383.out 0).trans rfl; have hcz13_1 : w12.cell? ⟨gb383, 1, none⟩ = some (.slice A0_1 l0_1.length c0_1) := (blk_cell BK383.out 1).trans rfl; have hfz13_0 := blk_frozen BK383.out 0; have hfz13_1 := blk_frozen BK383.out 1) | ((with_reducible refine gate_callee (f := 49) rfl ?_); refine goesL_ (some 8) rfl rfl Try.func49 (by kernel_rfl) rfl #[.agg #[.string a0_0, .slice A0_1 l0_1.length c0_1]] rfl (by (try simp only [List.map_toArray, List.map_cons, List.map_nil]); first | done | rfl | (simp only [List.length_drop, List.length_take]; rfl)) ?_; (with_reducible refine (strip_Good.calls k a0_0 _ _ l0_1 true _ ?side1 ?side2 A4.out).mono ?_); (case side1 => repeat (first | exact (Kd.C_below HR0_1.out HB.out) | (with_reducible refine Kd.C_alloc ?_ _) | (with_reducible refine Kd.C_drewN ?_ _) | (with_reducible refine Kd.C_drew ?_))); (case side2 => exact HC0_1.out); rintro e w14 ⟨rfl, hb⟩; refine ⟨_, rfl, ?_⟩; have n0_ := Aside0.mk (blk_below (g := gb383) (o := .cells #[.string a0_0, .slice A0_1 l0_1.length c0_1] 51 (0, 0)) (by (with_reducible repeat (first | refine blk_drewN ?_ _ | refine blk_drew ?_ | refine blk_alloc ?_ _)); exact BK383.out) hb); have n1_ := Aside0.mk (below_step (by repeat (first | (with_reducible first | exact HB.out | apply below_alloc | apply pw_below_drewN | apply below_drew1 | refine below_set ?_ GE383.out) | exact HB.out)) hb); clear BK383; clear HB; have BK383 := n0_; have HB := n1_; clear n0_ n1_; (try clear hb); (try clear hb2); (try clear hk); (try clear hi)))
        go_ret
        exact ⟨by first | rfl | (simp [errW_none, errW_some] <;> rfl) | (simp [*, errW_none, errW_some] <;> rfl), by repeat (first | (with_reducible first | exact HB.out | apply below_alloc | apply pw_below_drewN | apply below_drew1 | refine below_set ?_ GE383.out) | exact HB.out)⟩
    · rw [if_neg c6] at H
      have c6b0 : decide (0 ≤ a1) = false := decide_eq_false c6
      clear c6
      obtain rfl := Option.some.inj H
      go_enter Try.func95, Try.ntmps95
      go_wp2_with (first | ((with_reducible refine gate_dst (N := 3) rfl ?_); (try (refine gate_guard (by rfl) ?_; dsimp only)); refine box_event ?hg (N := 3) ?hd (cs := #[.string a0_0, .slice A0_1 l0_1.length c0_1]) (t := 51) ?hr ?_; (case hd => rfl); (case hg => rfl); (case hr => first | (go_simp; done) | (go_simp; rfl)); intro gb383 hg w15 hbox hb; have n0_ := Aside0.mk (below_step (by repeat (first | (with_reducible first | exact HB.out | apply below_alloc | apply pw_below_drewN | apply below_drew1) | exact HB.out)) hb); have n1_ := Aside0.mk (hbox); have n2_ := Aside0.mk ((by rw [hg]; exact (below_size (by repeat (first | (with_reducible first | exact HB.out | apply below_alloc | apply pw_below_drewN | apply below_drew1) | exact HB.out))) : w.heap.size ≤ gb383)); have n3_ := Aside0.mk ((by rw [hg]; exact (below_size (by repeat (first | (with_reducible first | exact HB.out | apply below_alloc | apply pw_below_drewN | apply below_drew1) | exact HB.out))) : w.heap.size ≤ gb383)); clear HB; have HB := n0_; have BK383 := n1_; have GW383 := n2_; have GE383 := n3_; clear n0_ n1_ n2_ n3_; clear hb hbox hg; have hcz16_0 : w15.cell? ⟨gb383, 0, none⟩ = some (.string a0_0) := (blk_cell BK383.out 0).trans rfl; have hcz16_1 : w15.cell? ⟨gb383, 1, none⟩ = some (.slice A0_1 l0_1.length c0_1) := (blk_cell BK383.out 1).trans rfl; have hfz16_0 := blk_frozen BK383.out 0; have hfz16_1 := blk_frozen BK383.out 1) | ((with_reducible refine gate_callee (f := 49) rfl ?_); refine goesL_ (some 8) rfl rfl Try.func49 (by kernel_rfl) rfl #[.agg #[.string a0_0, .slice A0_1 l0_1.length c0_1]] rfl (by (try simp only [List.map_toArray, List.map_cons, List.map_nil]); first | done | rfl | (simp only [List.length_drop, List.length_take]; rfl)) ?_; (with_reducible refine (strip_Good.calls k a0_0 _ _ l0_1 true _ ?side1 ?side2 A4.out).mono ?_); (case side1 => repeat (first | exact (Kd.C_below HR0_1.out HB.out) | (with_reducible refine Kd.C_alloc ?_ _) | (with_reducible refine Kd.C_drewN ?_ _) | (with_reducible refine Kd.C_drew ?_))); (case side2 => exact HC0_1.out); rintro e w17 ⟨rfl, hb⟩; refine ⟨_, rfl, ?_⟩; have n0_ := Aside0.mk (blk_below (g := gb383) (o := .cells #[.string a0_0, .slice A0_1 l0_1.length c0_1] 51 (0, 0)) (by (with_reducible repeat (first | refine blk_drewN ?_ _ | refine blk_drew ?_ | refine blk_alloc ?_ _)); exact BK383.out) hb); have n1_ := Aside0.mk (below_step (by repeat (first | (with_reducible first | exact HB.out | apply below_alloc | apply pw_below_drewN | apply below_drew1 | refine below_set ?_ GE383.out) | exact HB.out)) hb); clear BK383; clear HB; have BK383 := n0_; have HB := n1_; clear n0_ n1_; (try clear hb); (try clear hb2); (try clear hk); (try clear hi)))
      go_ret
      exact ⟨by first | rfl | (simp [errW_none, errW_some] <;> rfl) | (simp [*, errW_none, errW_some] <;> rfl), by repeat (first | (with_reducible first | exact HB.out | apply below_alloc | apply pw_below_drewN | apply below_drew1 | refine below_set ?_ GE383.out) | exact HB.out)⟩
  · replace c5 := Bool.eq_false_iff.mpr c5
    subst c5
    have H1 : (some false) = some r := by rw [if_neg (show ¬ (false = true) by decide)] at H; exact H
    clear H
    have H := H1
    clear H1
    obtain rfl := Option.some.inj H
    go_enter Try.func95, Try.ntmps95
    go_wp2_with (first | ((with_reducible refine gate_dst (N := 3) rfl ?_); (try (refine gate_guard (by rfl) ?_; dsimp only)); refine box_event ?hg (N := 3) ?hd (cs := #[.string a0_0, .slice A0_1 l0_1.length c0_1]) (t := 51) ?hr ?_; (case hd => rfl); (case hg => rfl); (case hr => first | (go_simp; done) | (go_simp; rfl)); intro gb383 hg w18 hbox hb; have n0_ := Aside0.mk (below_step (by repeat (first | (with_reducible first | exact HB.out | apply below_alloc | apply pw_below_drewN | apply below_drew1) | exact HB.out)) hb); have n1_ := Aside0.mk (hbox); have n2_ := Aside0.mk ((by rw [hg]; exact (below_size (by repeat (first | (with_reducible first | exact HB.out | apply below_alloc | apply pw_below_drewN | apply below_drew1) | exact HB.out))) : w.heap.size ≤ gb383)); have n3_ := Aside0.mk ((by rw [hg]; exact (below_size (by repeat (first | (with_reducible first | exact HB.out | apply below_alloc | apply pw_below_drewN | apply below_drew1) | exact HB.out))) : w.heap.size ≤ gb383)); clear HB; have HB := n0_; have BK383 := n1_; have GW383 := n2_; have GE383 := n3_; clear n0_ n1_ n2_ n3_; clear hb hbox hg; have hcz19_0 : w18.cell? ⟨gb383, 0, none⟩ = some (.string a0_0) := (blk_cell BK383.out 0).trans rfl; have hcz19_1 : w18.cell? ⟨gb383, 1, none⟩ = some (.slice A0_1 l0_1.length c0_1) := (blk_cell BK383.out 1).trans rfl; have hfz19_0 := blk_frozen BK383.out 0; have hfz19_1 := blk_frozen BK383.out 1) | ((with_reducible refine gate_callee (f := 49) rfl ?_); refine goesL_ (some 8) rfl rfl Try.func49 (by kernel_rfl) rfl #[.agg #[.string a0_0, .slice A0_1 l0_1.length c0_1]] rfl (by (try simp only [List.map_toArray, List.map_cons, List.map_nil]); first | done | rfl | (simp only [List.length_drop, List.length_take]; rfl)) ?_; (with_reducible refine (strip_Good.calls k a0_0 _ _ l0_1 false _ ?side1 ?side2 A4.out).mono ?_); (case side1 => repeat (first | exact (Kd.C_below HR0_1.out HB.out) | (with_reducible refine Kd.C_alloc ?_ _) | (with_reducible refine Kd.C_drewN ?_ _) | (with_reducible refine Kd.C_drew ?_))); (case side2 => exact HC0_1.out); rintro e w20 ⟨rfl, hb⟩; refine ⟨_, rfl, ?_⟩; have n0_ := Aside0.mk (blk_below (g := gb383) (o := .cells #[.string a0_0, .slice A0_1 l0_1.length c0_1] 51 (0, 0)) (by (with_reducible repeat (first | refine blk_drewN ?_ _ | refine blk_drew ?_ | refine blk_alloc ?_ _)); exact BK383.out) hb); have n1_ := Aside0.mk (below_step (by repeat (first | (with_reducible first | exact HB.out | apply below_alloc | apply pw_below_drewN | apply below_drew1 | refine below_set ?_ GE383.out) | exact HB.out)) hb); clear BK383; clear HB; have BK383 := n0_; have HB := n1_; clear n0_ n1_; (try clear hb); (try clear hb2); (try clear hk); (try clear hi)))
    go_ret
    exact ⟨by first | rfl | (simp [errW_none, errW_some] <;> rfl) | (simp [*, errW_none, errW_some] <;> rfl), by repeat (first | (with_reducible first | exact HB.out | apply below_alloc | apply pw_below_drewN | apply below_drew1 | refine below_set ?_ GE383.out) | exact HB.out)⟩
def bureaulaw04_Fits.f (a0_0 : ByteArray) (l0_1 : List (S100)) : Option (Bool) := if (a0_0.size : Int) ≤ 5000 then (some (decide ((l0_1.length : Int) ≤ 5000))) else (some false)
set_option maxHeartbeats 8000000 in
set_option maxRecDepth 100000 in
theorem bureaulaw04_Fits.calls (a0_0 : ByteArray) (A0_1 : Option Addr) (c0_1 : Nat) (l0_1 : List (S100)) (r : Bool) (w : World) (hr0_1 : Kd.C k100 w A0_1 l0_1.length l0_1) (hc0_1 : l0_1.length ≤ c0_1) (h : bureaulaw04_Fits.f a0_0 l0_1 = some r) :
    Calls Try.prog 45 #[.agg #[.string a0_0, .slice A0_1 l0_1.length c0_1]] w fun e w' => e = .returned (.bool r) ∧ Below w.heap.size w w' := by
  have hu51 := Try.underlying51
  have HR0_1 := Aside0.mk hr0_1
  have HC0_1 := Aside0.mk hc0_1
  clear hr0_1 hc0_1
  have HB := Aside0.mk (Below.refl w.heap.size w)
  have H : (if (a0_0.size : Int) ≤ 5000 then (some (decide ((l0_1.length : Int) ≤ 5000))) else (some false)) = some r := h
  clear h
  by_cases c2 : (a0_0.size : Int) ≤ 5000
  · rw [if_pos c2] at H
    have c2b0 : decide ((a0_0.size : Int) ≤ 5000) = true := decide_eq_true c2
    have c2b1 : decide (a0_0.size ≤ 5000) = true := decide_eq_true (by omega)
    clear c2
    obtain rfl := Option.some.inj H
    go_enter Try.func45, Try.ntmps45
    go_wp2_with (first | ((with_reducible refine gate_dst (N := 1) rfl ?_); (try (refine gate_guard (by rfl) ?_; dsimp only)); refine box_event ?hg (N := 1) ?hd (cs := #[.string a0_0, .slice A0_1 l0_1.length c0_1]) (t := 51) ?hr ?_; (case hd => rfl); (case hg => rfl); (case hr => first | (go_simp; done) | (go_simp; rfl)); intro gb425 hg w3 hbox hb; have n0_ := Aside0.mk (below_step (by repeat (first | (with_reducible first | exact HB.out | apply below_alloc | apply pw_below_drewN | apply below_drew1) | exact HB.out)) hb); have n1_ := Aside0.mk (hbox); have n2_ := Aside0.mk ((by rw [hg]; exact (below_size (by repeat (first | (with_reducible first | exact HB.out | apply below_alloc | apply pw_below_drewN | apply below_drew1) | exact HB.out))) : w.heap.size ≤ gb425)); have n3_ := Aside0.mk ((by rw [hg]; exact (below_size (by repeat (first | (with_reducible first | exact HB.out | apply below_alloc | apply pw_below_drewN | apply below_drew1) | exact HB.out))) : w.heap.size ≤ gb425)); clear HB; have HB := n0_; have BK425 := n1_; have GW425 := n2_; have GE425 := n3_; clear n0_ n1_ n2_ n3_; clear hb hbox hg; have hcz4_0 : w3.cell? ⟨gb425, 0, none⟩ = some (.string a0_0) := (blk_cell BK425.out 0).trans rfl; have hcz4_1 : w3.cell? ⟨gb425, 1, none⟩ = some (.slice A0_1 l0_1.length c0_1) := (blk_cell BK425.out 1).trans rfl; have hfz4_0 := blk_frozen BK425.out 0; have hfz4_1 := blk_frozen BK425.out 1))
    go_ret
    exact ⟨by first | rfl | (simp [errW_none, errW_some] <;> rfl) | (simp [*, errW_none, errW_some] <;> rfl), by repeat (first | (with_reducible first | exact HB.out | apply below_alloc | apply pw_below_drewN | apply below_drew1 | refine below_set ?_ GE425.out) | exact HB.out)⟩
  · rw [if_neg c2] at H
    have c2b0 : decide ((a0_0.size : Int) ≤ 5000) = false := decide_eq_false c2
    have c2b1 : decide (a0_0.size ≤ 5000) = false := decide_eq_false (by omega)
    clear c2
    obtain rfl := Option.some.inj H
    go_enter Try.func45, Try.ntmps45
    go_wp2_with (first | ((with_reducible refine gate_dst (N := 1) rfl ?_); (try (refine gate_guard (by rfl) ?_; dsimp only)); refine box_event ?hg (N := 1) ?hd (cs := #[.string a0_0, .slice A0_1 l0_1.length c0_1]) (t := 51) ?hr ?_; (case hd => rfl); (case hg => rfl); (case hr => first | (go_simp; done) | (go_simp; rfl)); intro gb425 hg w5 hbox hb; have n0_ := Aside0.mk (below_step (by repeat (first | (with_reducible first | exact HB.out | apply below_alloc | apply pw_below_drewN | apply below_drew1) | exact HB.out)) hb); have n1_ := Aside0.mk (hbox); have n2_ := Aside0.mk ((by rw [hg]; exact (below_size (by repeat (first | (with_reducible first | exact HB.out | apply below_alloc | apply pw_below_drewN | apply below_drew1) | exact HB.out))) : w.heap.size ≤ gb425)); have n3_ := Aside0.mk ((by rw [hg]; exact (below_size (by repeat (first | (with_reducible first | exact HB.out | apply below_alloc | apply pw_below_drewN | apply below_drew1) | exact HB.out))) : w.heap.size ≤ gb425)); clear HB; have HB := n0_; have BK425 := n1_; have GW425 := n2_; have GE425 := n3_; clear n0_ n1_ n2_ n3_; clear hb hbox hg; have hcz6_0 : w5.cell? ⟨gb425, 0, none⟩ = some (.string a0_0) := (blk_cell BK425.out 0).trans rfl; have hcz6_1 : w5.cell? ⟨gb425, 1, none⟩ = some (.slice A0_1 l0_1.length c0_1) := (blk_cell BK425.out 1).trans rfl; have hfz6_0 := blk_frozen BK425.out 0; have hfz6_1 := blk_frozen BK425.out 1))
    go_ret
    exact ⟨by first | rfl | (simp [errW_none, errW_some] <;> rfl) | (simp [*, errW_none, errW_some] <;> rfl), by repeat (first | (with_reducible first | exact HB.out | apply below_alloc | apply pw_below_drewN | apply below_drew1 | refine below_set ?_ GE425.out) | exact HB.out)⟩
def bureauref04_Same.f (k : Nat) (a0_0 : ByteArray) (l0_1 : List (S100)) (a1_0 : ByteArray) (l1_1 : List (S100)) : Option (Bool) := if a0_0.toList = a1_0.toList then ((bureauref03_Same.f k l0_1 l1_1).bind fun t435 => (some t435)) else (some false)
set_option maxHeartbeats 8000000 in
set_option maxRecDepth 100000 in
theorem bureauref04_Same.calls (k : Nat) (a0_0 : ByteArray) (A0_1 : Option Addr) (c0_1 : Nat) (l0_1 : List (S100)) (a1_0 : ByteArray) (A1_1 : Option Addr) (c1_1 : Nat) (l1_1 : List (S100)) (r : Bool) (w : World) (hr0_1 : Kd.C k100 w A0_1 l0_1.length l0_1) (hc0_1 : l0_1.length ≤ c0_1) (hr1_1 : Kd.C k100 w A1_1 l1_1.length l1_1) (hc1_1 : l1_1.length ≤ c1_1) (h : bureauref04_Same.f k a0_0 l0_1 a1_0 l1_1 = some r) :
    Calls Try.prog 48 #[.agg #[.string a0_0, .slice A0_1 l0_1.length c0_1], .agg #[.string a1_0, .slice A1_1 l1_1.length c1_1]] w fun e w' => e = .returned (.bool r) ∧ Below w.heap.size w w' := by
  have hu51 := Try.underlying51
  have HR0_1 := Aside0.mk hr0_1
  have HC0_1 := Aside0.mk hc0_1
  clear hr0_1 hc0_1
  have HR1_1 := Aside0.mk hr1_1
  have HC1_1 := Aside0.mk hc1_1
  clear hr1_1 hc1_1
  have HB := Aside0.mk (Below.refl w.heap.size w)
  have H : (if a0_0.toList = a1_0.toList then ((bureauref03_Same.f k l0_1 l1_1).bind fun t435 => (some t435)) else (some false)) = some r := h
  clear h
  by_cases c3 : a0_0.toList = a1_0.toList
  · rw [if_pos c3] at H
    have c3b0 : (a0_0.toList == a1_0.toList) = true := beq_iff_eq.mpr c3
    have c3b1 : (a0_0.toList != a1_0.toList) = false := bne_eq_false_iff_eq.mpr c3
    clear c3
    replace H := Option.bind_eq_some_iff.mp H
    obtain ⟨t435, A40, H⟩ := H
    replace H : (some t435) = some r := H
    have A4 := Aside0.mk A40
    clear A40
    obtain rfl := Option.some.inj H
    go_enter Try.func48, Try.ntmps48
    go_wp2_with (first | ((with_reducible refine gate_dst (N := 2) rfl ?_); refine box_event ?hg (N := 2) ?hd (cs := #[.string a0_0, .slice A0_1 l0_1.length c0_1]) (t := 51) ?hr ?_; (case hd => rfl); (case hg => rfl); (case hr => first | (go_simp; done) | (go_simp; rfl)); intro gb433 hg w5 hbox hb; have n0_ := Aside0.mk (below_step (by repeat (first | (with_reducible first | exact HB.out | apply below_alloc | apply pw_below_drewN | apply below_drew1) | exact HB.out)) hb); have n1_ := Aside0.mk (hbox); have n2_ := Aside0.mk ((by rw [hg]; exact (below_size (by repeat (first | (with_reducible first | exact HB.out | apply below_alloc | apply pw_below_drewN | apply below_drew1) | exact HB.out))) : w.heap.size ≤ gb433)); have n3_ := Aside0.mk ((by rw [hg]; exact (below_size (by repeat (first | (with_reducible first | exact HB.out | apply below_alloc | apply pw_below_drewN | apply below_drew1) | exact HB.out))) : w.heap.size ≤ gb433)); clear HB; have HB := n0_; have BK433 := n1_; have GW433 := n2_; have GE433 := n3_; clear n0_ n1_ n2_ n3_; clear hb hbox hg) | ((with_reducible refine gate_dst (N := 3) rfl ?_); refine box_event ?hg (N := 3) ?hd (cs := #[.string a1_0, .slice A1_1 l1_1.length c1_1]) (t := 51) ?hr ?_; (case hd => rfl); (case hg => rfl); (case hr => first | (go_simp; done) | (go_simp; rfl)); intro gb434 hg w6 hbox hb; have n0_ := Aside0.mk (blk_below (g := gb433) (o := .cells #[.string a0_0, .slice A0_1 l0_1.length c0_1] 51 (0, 0)) (by (with_reducible repeat (first | refine blk_drewN ?_ _ | refine blk_drew ?_ | refine blk_alloc ?_ _)); exact BK433.out) hb); have n1_ := Aside0.mk (below_step (by repeat (first | (with_reducible first | exact HB.out | apply below_alloc | apply pw_below_drewN | apply below_drew1 | refine below_set ?_ GE433.out) | exact HB.out)) hb); have n2_ := Aside0.mk (hbox); have n3_ := Aside0.mk ((by rw [hg]; exact (below_size (by repeat (first | (with_reducible first | exact HB.out | apply below_alloc | apply pw_below_drewN | apply below_drew1 | refine below_set ?_ GE433.out) | exact HB.out))) : w.heap.size ≤ gb434)); have n4_ := Aside0.mk ((by rw [hg]; exact (below_size (by repeat (first | (with_reducible first | exact HB.out | apply below_alloc | apply pw_below_drewN | apply below_drew1 | refine below_set ?_ GE433.out) | exact HB.out))) : w.heap.size ≤ gb434)); have n5_ := Aside0.mk ((by rw [hg]; exact Nat.ne_of_lt (blk_lt (g := gb433) (o := .cells #[.string a0_0, .slice A0_1 l0_1.length c0_1] 51 (0, 0)) (by (with_reducible repeat (first | refine blk_drewN ?_ _ | refine blk_drew ?_ | refine blk_alloc ?_ _)); exact BK433.out)) : gb433 ≠ gb434)); have n6_ := Aside0.mk ((by rw [hg]; exact Nat.ne_of_gt (blk_lt (g := gb433) (o := .cells #[.string a0_0, .slice A0_1 l0_1.length c0_1] 51 (0, 0)) (by (with_reducible repeat (first | refine blk_drewN ?_ _ | refine blk_drew ?_ | refine blk_alloc ?_ _)); exact BK433.out)) : gb434 ≠ gb433)); clear BK433; clear HB; have BK433 := n0_; have HB := n1_; have BK434 := n2_; have GW434 := n3_; have GE434 := n4_; have NB433_434 := n5_; have NB434_433 := n6_; clear n0_ n1_ n2_ n3_ n4_ n5_ n6_; clear hb hbox hg; have hnb7 := NB433_434.out; have hnc7 := NB434_433.out; have hcz8_0 : w6.cell? ⟨gb433, 0, none⟩ = some (.string a0_0) := (blk_cell BK433.out 0).trans rfl; have hcz8_1 : w6.cell? ⟨gb433, 1, none⟩ = some (.slice A0_1 l0_1.length c0_1) := (blk_cell BK433.out 1).trans rfl; have hfz8_0 := blk_frozen BK433.out 0; have hfz8_1 := blk_frozen BK433.out 1; have hcz9_0 : w6.cell? ⟨gb434, 0, none⟩ = some (.string a1_0) := (blk_cell BK434.out 0).trans rfl; have hcz9_1 : w6.cell? ⟨gb434, 1, none⟩ = some (.slice A1_1 l1_1.length c1_1) := (blk_cell BK434.out 1).trans rfl; have hfz9_0 := blk_frozen BK434.out 0; have hfz9_1 := blk_frozen BK434.out 1) | (go_at_call 27; (with_reducible refine (bureauref03_Same.calls k _ _ l0_1 _ _ l1_1 t435 _ ?side1 ?side2 ?side3 ?side4 A4.out).mono ?_); (case side1 => repeat (first | exact (Kd.C_below HR0_1.out HB.out) | (with_reducible refine Kd.C_alloc ?_ _) | (with_reducible refine Kd.C_drewN ?_ _) | (with_reducible refine Kd.C_drew ?_))); (case side2 => exact HC0_1.out); (case side3 => repeat (first | exact (Kd.C_below HR1_1.out HB.out) | (with_reducible refine Kd.C_alloc ?_ _) | (with_reducible refine Kd.C_drewN ?_ _) | (with_reducible refine Kd.C_drew ?_))); (case side4 => exact HC1_1.out); rintro e w' ⟨rfl, ⟨nd, rfl⟩⟩))
    go_ret
    exact ⟨by first | rfl | (simp [errW_none, errW_some] <;> rfl) | (simp [*, errW_none, errW_some] <;> rfl), by repeat (first | (with_reducible first | exact HB.out | apply below_alloc | apply pw_below_drewN | apply below_drew1 | refine below_set ?_ GE433.out | refine below_set ?_ GE434.out) | exact HB.out)⟩
  · rw [if_neg c3] at H
    have c3b0 : (a0_0.toList == a1_0.toList) = false := beq_eq_false_iff_ne.mpr c3
    have c3b1 : (a0_0.toList != a1_0.toList) = true := bne_iff_ne.mpr c3
    obtain rfl := Option.some.inj H
    go_enter Try.func48, Try.ntmps48
    go_wp2_with (first | ((with_reducible refine gate_dst (N := 2) rfl ?_); refine box_event ?hg (N := 2) ?hd (cs := #[.string a0_0, .slice A0_1 l0_1.length c0_1]) (t := 51) ?hr ?_; (case hd => rfl); (case hg => rfl); (case hr => first | (go_simp; done) | (go_simp; rfl)); intro gb433 hg w10 hbox hb; have n0_ := Aside0.mk (below_step (by repeat (first | (with_reducible first | exact HB.out | apply below_alloc | apply pw_below_drewN | apply below_drew1) | exact HB.out)) hb); have n1_ := Aside0.mk (hbox); have n2_ := Aside0.mk ((by rw [hg]; exact (below_size (by repeat (first | (with_reducible first | exact HB.out | apply below_alloc | apply pw_below_drewN | apply below_drew1) | exact HB.out))) : w.heap.size ≤ gb433)); have n3_ := Aside0.mk ((by rw [hg]; exact (below_size (by repeat (first | (with_reducible first | exact HB.out | apply below_alloc | apply pw_below_drewN | apply below_drew1) | exact HB.out))) : w.heap.size ≤ gb433)); clear HB; have HB := n0_; have BK433 := n1_; have GW433 := n2_; have GE433 := n3_; clear n0_ n1_ n2_ n3_; clear hb hbox hg) | ((with_reducible refine gate_dst (N := 3) rfl ?_); refine box_event ?hg (N := 3) ?hd (cs := #[.string a1_0, .slice A1_1 l1_1.length c1_1]) (t := 51) ?hr ?_; (case hd => rfl); (case hg => rfl); (case hr => first | (go_simp; done) | (go_simp; rfl)); intro gb434 hg w11 hbox hb; have n0_ := Aside0.mk (blk_below (g := gb433) (o := .cells #[.string a0_0, .slice A0_1 l0_1.length c0_1] 51 (0, 0)) (by (with_reducible repeat (first | refine blk_drewN ?_ _ | refine blk_drew ?_ | refine blk_alloc ?_ _)); exact BK433.out) hb); have n1_ := Aside0.mk (below_step (by repeat (first | (with_reducible first | exact HB.out | apply below_alloc | apply pw_below_drewN | apply below_drew1 | refine below_set ?_ GE433.out) | exact HB.out)) hb); have n2_ := Aside0.mk (hbox); have n3_ := Aside0.mk ((by rw [hg]; exact (below_size (by repeat (first | (with_reducible first | exact HB.out | apply below_alloc | apply pw_below_drewN | apply below_drew1 | refine below_set ?_ GE433.out) | exact HB.out))) : w.heap.size ≤ gb434)); have n4_ := Aside0.mk ((by rw [hg]; exact (below_size (by repeat (first | (with_reducible first | exact HB.out | apply below_alloc | apply pw_below_drewN | apply below_drew1 | refine below_set ?_ GE433.out) | exact HB.out))) : w.heap.size ≤ gb434)); have n5_ := Aside0.mk ((by rw [hg]; exact Nat.ne_of_lt (blk_lt (g := gb433) (o := .cells #[.string a0_0, .slice A0_1 l0_1.length c0_1] 51 (0, 0)) (by (with_reducible repeat (first | refine blk_drewN ?_ _ | refine blk_drew ?_ | refine blk_alloc ?_ _)); exact BK433.out)) : gb433 ≠ gb434)); have n6_ := Aside0.mk ((by rw [hg]; exact Nat.ne_of_gt (blk_lt (g := gb433) (o := .cells #[.string a0_0, .slice A0_1 l0_1.length c0_1] 51 (0, 0)) (by (with_reducible repeat (first | refine blk_drewN ?_ _ | refine blk_drew ?_ | refine blk_alloc ?_ _)); exact BK433.out)) : gb434 ≠ gb433)); clear BK433; clear HB; have BK433 := n0_; have HB := n1_; have BK434 := n2_; have GW434 := n3_; have GE434 := n4_; have NB433_434 := n5_; have NB434_433 := n6_; clear n0_ n1_ n2_ n3_ n4_ n5_ n6_; clear hb hbox hg; have hnb12 := NB433_434.out; have hnc12 := NB434_433.out; have hcz13_0 : w11.cell? ⟨gb433, 0, none⟩ = some (.string a0_0) := (blk_cell BK433.out 0).trans rfl; have hcz13_1 : w11.cell? ⟨gb433, 1, none⟩ = some (.slice A0_1 l0_1.length c0_1) := (blk_cell BK433.out 1).trans rfl; have hfz13_0 := blk_frozen BK433.out 0; have hfz13_1 := blk_frozen BK433.out 1; have hcz14_0 : w11.cell? ⟨gb434, 0, none⟩ = some (.string a1_0) := (blk_cell BK434.out 0).trans rfl; have hcz14_1 : w11.cell? ⟨gb434, 1, none⟩ = some (.slice A1_1 l1_1.length c1_1) := (blk_cell BK434.out 1).trans rfl; have hfz14_0 := blk_frozen BK434.out 0; have hfz14_1 := blk_frozen BK434.out 1))
    go_ret
    exact ⟨by first | rfl | (simp [errW_none, errW_some] <;> rfl) | (simp [*, errW_none, errW_some] <;> rfl), by repeat (first | (with_reducible first | exact HB.out | apply below_alloc | apply pw_below_drewN | apply below_drew1 | refine below_set ?_ GE433.out | refine below_set ?_ GE434.out) | exact HB.out)⟩
end Go.Proofs.Ythpjagblnddjaaa.PB
end

section
namespace Go.Proofs.Ythpjagblnddjaaa.PB
open Go.RowKit Go.Proofs.YthpjagblnddjaaaW.PrintWords Go.Proofs.YthpjagblnddjaaaW.PrintLast Go.Proofs.YthpjagblnddjaaaW.PrintMore
attribute [local go_sem] max2_int min2_int max_two min_two max_three min_three max_four min_four   
set_option linter.unusedVariables false
set_option linter.unusedSimpArgs false
def bureaulaw07_Fits.f (a0_0 : Int) (a0_1 : ByteArray) (l0_2 : List (S100)) (a0_3 : ByteArray) (l0_4 : List (S100)) : Option (Bool) := (bureaulaw04_Fits.f a0_1 l0_2).bind fun t690 => (if t690 = true then ((bureaulaw04_Fits.f a0_3 l0_4).bind fun t691 => (some t691)) else (some false))
set_option maxHeartbeats 8000000 in
set_option maxRecDepth 100000 in
theorem bureaulaw07_Fits.calls (a0_0 : Int) (a0_1 : ByteArray) (A0_2 : Option Addr) (c0_2 : Nat) (l0_2 : List (S100)) (a0_3 : ByteArray) (A0_4 : Option Addr) (c0_4 : Nat) (l0_4 : List (S100)) (r : Bool) (w : World) (hr0_2 : Kd.C k100 w A0_2 l0_2.length l0_2) (hc0_2 : l0_2.length ≤ c0_2) (hr0_4 : Kd.C k100 w A0_4 l0_4.length l0_4) (hc0_4 : l0_4.length ≤ c0_4) (h : bureaulaw07_Fits.f a0_0 a0_1 l0_2 a0_3 l0_4 = some r) :
    Calls Try.prog 61 #[.agg #[.int .i64 a0_0, .string a0_1, .slice A0_2 l0_2.length c0_2, .string a0_3, .slice A0_4 l0_4.length c0_4]] w fun e w' => e = .returned (.bool r) ∧ Below w.heap.size w w' := by
  have hu64 := Try.underlying64
  have hu51 := Try.underlying51
  have HR0_2 := Aside0.mk hr0_2
  have HC0_2 := Aside0.mk hc0_2
  clear hr0_2 hc0_2
  have HR0_4 := Aside0.mk hr0_4
  have HC0_4 := Aside0.mk hc0_4
  clear hr0_4 hc0_4
  have HB := Aside0.mk (Below.refl w.heap.size w)
  have H : ((bureaulaw04_Fits.f a0_1 l0_2).bind fun t690 => (if t690 = true then ((bureaulaw04_Fits.f a0_3 l0_4).bind fun t691 => (some t691)) else (some false))) = some r := h
  clear h
  replace H := Option.bind_eq_some_iff.mp H
  obtain ⟨t690, A20, H⟩ := H
  replace H : (if t690 = true then ((bureaulaw04_Fits.f a0_3 l0_4).bind fun t691 => (some t691)) else (some false)) = some r := H
  have A2 := Aside0.mk A20
  clear A20
  by_cases c3 : t690 = true
  · subst c3
    have H1 : ((bureaulaw04_Fits.f a0_3 l0_4).bind fun t691 => (some t691)) = some r := by rw [if_pos rfl] at H; exact H
    clear H
    have H := H1
    clear H1
    replace H := Option.bind_eq_some_iff.mp H
    obtain ⟨t691, A40, H⟩ := H
    replace H : (some t691) = some r := H
    have A4 := Aside0.mk A40
    clear A40
    obtain rfl := Option.some.inj H
    go_enter Try.func61, Try.ntmps61
    go_wp2_with (first | ((with_reducible refine gate_dst (N := 1) rfl ?_); refine box_event ?hg (N := 1) ?hd (cs := #[.int .i64 a0_0, .string a0_1, .slice A0_2 l0_2.length c0_2, .string a0_3, .slice A0_4 l0_4.length c0_4]) (t := 64) ?hr ?_; (case hd => rfl); (case hg => rfl); (case hr => first | (go_simp; done) | (go_simp; rfl)); intro gb689 hg w5 hbox hb; have n0_ := Aside0.mk (below_step (by repeat (first | (with_reducible first | exact HB.out | apply below_alloc | apply pw_below_drewN | apply below_drew1) | exact HB.out)) hb); have n1_ := Aside0.mk (hbox); have n2_ := Aside0.mk ((by rw [hg]; exact (below_size (by repeat (first | (with_reducible first | exact HB.out | apply below_alloc | apply pw_below_drewN | apply below_drew1) | exact HB.out))) : w.heap.size ≤ gb689)); have n3_ := Aside0.mk ((by rw [hg]; exact (below_size (by repeat (first | (with_reducible first | exact HB.out | apply below_alloc | apply pw_below_drewN | apply below_drew1) | exact HB.out))) : w.heap.size ≤ gb689)); clear HB; have HB := n0_; have BK689 := n1_; have GW689 := n2_; have GE689 := n3_; clear n0_ n1_ n2_ n3_; clear hb hbox hg; have hcz6_0 : w5.cell? ⟨gb689, 0, none⟩ = some (.int .i64 a0_0) := (blk_cell BK689.out 0).trans rfl; have hcz6_1 : w5.cell? ⟨gb689, 1, none⟩ = some (.string a0_1) := (blk_cell BK689.out 1).trans rfl; have hcz6_2 : w5.cell? ⟨gb689, 2, none⟩ = some (.slice A0_2 l0_2.length c0_2) := (blk_cell BK689.out 2).trans rfl; have hcz6_3 : w5.cell? ⟨gb689, 3, none⟩ = some (.string a0_3) := (blk_cell BK689.out 3).trans rfl; have hcz6_4 : w5.cell? ⟨gb689, 4, none⟩ = some (.slice A0_4 l0_4.length c0_4) := (blk_cell BK689.out 4).trans rfl; have hfz6_0 := blk_frozen BK689.out 0; have hfz6_1 := blk_frozen BK689.out 1; have hfz6_2 := blk_frozen BK689.out 2; have hfz6_3 := blk_frozen BK689.out 3; have hfz6_4 := blk_frozen BK689.out 4) | ((with_reducible refine gate_callee (f := 45) rfl ?_); refine goesL_ (some 5) rfl rfl Try.func45 (by kernel_rfl) rfl #[.agg #[.string a0_1, .slice A0_2 l0_2.length c0_2]] rfl (by (try simp only [List.map_toArray, List.map_cons, List.map_nil]); first | done | rfl | (simp only [List.length_drop, List.length_take]; rfl)) ?_; (with_reducible refine (bureaulaw04_Fits.calls a0_1 _ _ l0_2 true _ ?side1 ?side2 A2.out).mono ?_); (case side1 => repeat (first | exact (Kd.C_below HR0_2.out HB.out) | (with_reducible refine Kd.C_alloc ?_ _) | (with_reducible refine Kd.C_drewN ?_ _) | (with_reducible refine Kd.C_drew ?_))); (case side2 => exact HC0_2.out); rintro e w7 ⟨rfl, hb⟩; refine ⟨_, rfl, ?_⟩; have n0_ := Aside0.mk (blk_below (g := gb689) (o := .cells #[.int .i64 a0_0, .string a0_1, .slice A0_2 l0_2.length c0_2, .string a0_3, .slice A0_4 l0_4.length c0_4] 64 (0, 0)) (by (with_reducible repeat (first | refine blk_drewN ?_ _ | refine blk_drew ?_ | refine blk_alloc ?_ _)); exact BK689.out) hb); have n1_ := Aside0.mk (below_step (by repeat (first | (with_reducible first | exact HB.out | apply below_alloc | apply pw_below_drewN | apply below_drew1 | refine below_set ?_ GE689.out) | exact HB.out)) hb); clear BK689; clear HB; have BK689 := n0_; have HB := n1_; clear n0_ n1_; (try clear hb); (try clear hb2); (try clear hk); (try clear hi); have hcz8_0 : w7.cell? ⟨gb689, 0, none⟩ = some (.int .i64 a0_0) := (blk_cell BK689.out 0).trans rfl; have hcz8_1 : w7.cell? ⟨gb689, 1, none⟩ = some (.string a0_1) := (blk_cell BK689.out 1).trans rfl; have hcz8_2 : w7.cell? ⟨gb689, 2, none⟩ = some (.slice A0_2 l0_2.length c0_2) := (blk_cell BK689.out 2).trans rfl; have hcz8_3 : w7.cell? ⟨gb689, 3, none⟩ = some (.string a0_3) := (blk_cell BK689.out 3).trans rfl; have hcz8_4 : w7.cell? ⟨gb689, 4, none⟩ = some (.slice A0_4 l0_4.length c0_4) := (blk_cell BK689.out 4).trans rfl; have hfz8_0 := blk_frozen BK689.out 0; have hfz8_1 := blk_frozen BK689.out 1; have hfz8_2 := blk_frozen BK689.out 2; have hfz8_3 := blk_frozen BK689.out 3; have hfz8_4 := blk_frozen BK689.out 4) | (go_at_call 45; (with_reducible refine (bureaulaw04_Fits.calls a0_3 _ _ l0_4 t691 _ ?side1 ?side2 A4.out).mono ?_); (case side1 => repeat (first | exact (Kd.C_below HR0_4.out HB.out) | (with_reducible refine Kd.C_alloc ?_ _) | (with_reducible refine Kd.C_drewN ?_ _) | (with_reducible refine Kd.C_drew ?_))); (case side2 => exact HC0_4.out); rintro e w9 ⟨rfl, hb⟩; have n0_ := Aside0.mk (blk_below (g := gb689) (o := .cells #[.int .i64 a0_0, .string a0_1, .slice A0_2 l0_2.length c0_2, .string a0_3, .slice A0_4 l0_4.length c0_4] 64 (0, 0)) (by (with_reducible repeat (first | refine blk_drewN ?_ _ | refine blk_drew ?_ | refine blk_alloc ?_ _)); exact BK689.out) hb); have n1_ := Aside0.mk (below_step (by repeat (first | (with_reducible first | exact HB.out | apply below_alloc | apply pw_below_drewN | apply below_drew1 | refine below_set ?_ GE689.out) | exact HB.out)) hb); clear BK689; clear HB; have BK689 := n0_; have HB := n1_; clear n0_ n1_; (try clear hb); (try clear hb2); (try clear hk); (try clear hi)))
    go_ret
    exact ⟨by first | rfl | (simp [errW_none, errW_some] <;> rfl) | (simp [*, errW_none, errW_some] <;> rfl), by repeat (first | (with_reducible first | exact HB.out | apply below_alloc | apply pw_below_drewN | apply below_drew1 | refine below_set ?_ GE689.out) | exact HB.out)⟩
  · replace c3 := Bool.eq_false_iff.mpr c3
    subst c3
    have H1 : (some false) = some r := by rw [if_neg (show ¬ (false = true) by decide)] at H; exact H
    clear H
    have H := H1
    clear H1
    obtain rfl := Option.some.inj H
    go_enter Try.func61, Try.ntmps61
    go_wp2_with (first | ((with_reducible refine gate_dst (N := 1) rfl ?_); refine box_event ?hg (N := 1) ?hd (cs := #[.int .i64 a0_0, .string a0_1, .slice A0_2 l0_2.length c0_2, .string a0_3, .slice A0_4 l0_4.length c0_4]) (t := 64) ?hr ?_; (case hd => rfl); (case hg => rfl); (case hr => first | (go_simp; done) | (go_simp; rfl)); intro gb689 hg w10 hbox hb; have n0_ := Aside0.mk (below_step (by repeat (first | (with_reducible first | exact HB.out | apply below_alloc | apply pw_below_drewN | apply below_drew1) | exact HB.out)) hb); have n1_ := Aside0.mk (hbox); have n2_ := Aside0.mk ((by rw [hg]; exact (below_size (by repeat (first | (with_reducible first | exact HB.out | apply below_alloc | apply pw_below_drewN | apply below_drew1) | exact HB.out))) : w.heap.size ≤ gb689)); have n3_ := Aside0.mk ((by rw [hg]; exact (below_size (by repeat (first | (with_reducible first | exact HB.out | apply below_alloc | apply pw_below_drewN | apply below_drew1) | exact HB.out))) : w.heap.size ≤ gb689)); clear HB; have HB := n0_; have BK689 := n1_; have GW689 := n2_; have GE689 := n3_; clear n0_ n1_ n2_ n3_; clear hb hbox hg; have hcz11_0 : w10.cell? ⟨gb689, 0, none⟩ = some (.int .i64 a0_0) := (blk_cell BK689.out 0).trans rfl; have hcz11_1 : w10.cell? ⟨gb689, 1, none⟩ = some (.string a0_1) := (blk_cell BK689.out 1).trans rfl; have hcz11_2 : w10.cell? ⟨gb689, 2, none⟩ = some (.slice A0_2 l0_2.length c0_2) := (blk_cell BK689.out 2).trans rfl; have hcz11_3 : w10.cell? ⟨gb689, 3, none⟩ = some (.string a0_3) := (blk_cell BK689.out 3).trans rfl; have hcz11_4 : w10.cell? ⟨gb689, 4, none⟩ = some (.slice A0_4 l0_4.length c0_4) := (blk_cell BK689.out 4).trans rfl; have hfz11_0 := blk_frozen BK689.out 0; have hfz11_1 := blk_frozen BK689.out 1; have hfz11_2 := blk_frozen BK689.out 2; have hfz11_3 := blk_frozen BK689.out 3; have hfz11_4 := blk_frozen BK689.out 4) | ((with_reducible refine gate_callee (f := 45) rfl ?_); refine goesL_ (some 5) rfl rfl Try.func45 (by kernel_rfl) rfl #[.agg #[.string a0_1, .slice A0_2 l0_2.length c0_2]] rfl (by (try simp only [List.map_toArray, List.map_cons, List.map_nil]); first | done | rfl | (simp only [List.length_drop, List.length_take]; rfl)) ?_; (with_reducible refine (bureaulaw04_Fits.calls a0_1 _ _ l0_2 false _ ?side1 ?side2 A2.out).mono ?_); (case side1 => repeat (first | exact (Kd.C_below HR0_2.out HB.out) | (with_reducible refine Kd.C_alloc ?_ _) | (with_reducible refine Kd.C_drewN ?_ _) | (with_reducible refine Kd.C_drew ?_))); (case side2 => exact HC0_2.out); rintro e w12 ⟨rfl, hb⟩; refine ⟨_, rfl, ?_⟩; have n0_ := Aside0.mk (blk_below (g := gb689) (o := .cells #[.int .i64 a0_0, .string a0_1, .slice A0_2 l0_2.length c0_2, .string a0_3, .slice A0_4 l0_4.length c0_4] 64 (0, 0)) (by (with_reducible repeat (first | refine blk_drewN ?_ _ | refine blk_drew ?_ | refine blk_alloc ?_ _)); exact BK689.out) hb); have n1_ := Aside0.mk (below_step (by repeat (first | (with_reducible first | exact HB.out | apply below_alloc | apply pw_below_drewN | apply below_drew1 | refine below_set ?_ GE689.out) | exact HB.out)) hb); clear BK689; clear HB; have BK689 := n0_; have HB := n1_; clear n0_ n1_; (try clear hb); (try clear hb2); (try clear hk); (try clear hi)))
    go_ret
    exact ⟨by first | rfl | (simp [errW_none, errW_some] <;> rfl) | (simp [*, errW_none, errW_some] <;> rfl), by repeat (first | (with_reducible first | exact HB.out | apply below_alloc | apply pw_below_drewN | apply below_drew1 | refine below_set ?_ GE689.out) | exact HB.out)⟩
end Go.Proofs.Ythpjagblnddjaaa.PB
end

section
namespace Go.Proofs.Ythpjagblnddjaaa.PB
open Go.RowKit Go.Proofs.YthpjagblnddjaaaW.PrintWords Go.Proofs.YthpjagblnddjaaaW.PrintLast Go.Proofs.YthpjagblnddjaaaW.PrintMore
set_option linter.unusedVariables false
set_option linter.unusedSimpArgs false
def edit_own.f (a0_0 : ByteArray) (l0_1 : List S100) : Option (ByteArray × List S100) := if l0_1.length * 16 ≤ 140737488355328 then some (a0_0, l0_1) else none
set_option maxHeartbeats 4000000 in
set_option maxRecDepth 100000 in
theorem edit_own.calls (a0_0 : ByteArray) (A0_1 : Option Addr) (c0_1 : Nat) (l0_1 : List S100) (r1 : ByteArray) (r2 : List S100) (w : World) (hr0_1 : Kd.C k100 w A0_1 l0_1.length l0_1) (hc0_1 : l0_1.length ≤ c0_1) (h : edit_own.f a0_0 l0_1 = some (r1, r2)) :
    Calls Try.prog 98 #[.agg #[.string a0_0, .slice A0_1 l0_1.length c0_1]] w fun e w' => ∃ v1_ : Value, e = .returned (.agg #[.string r1, v1_]) ∧ Kd.R k100 100 w' w.heap.size (fun _ => True) v1_ r2 ∧ Below w.heap.size w w' := by
  have hu51 := Try.underlying51
  unfold edit_own.f at h
  by_cases hl : l0_1.length * 16 ≤ 140737488355328
  case neg => rw [if_neg hl] at h; cases h
  rw [if_pos hl] at h
  simp only [Option.some.injEq, Prod.mk.injEq] at h
  obtain ⟨rfl, rfl⟩ := h
  have HR := Aside0.mk hr0_1
  have HL := Aside0.mk hl
  clear hr0_1 hl
  have HB := Aside0.mk (Below.refl w.heap.size w)
  go_enter Try.func98, Try.ntmps98
  go_wp2_with fail
  have BK1 := Aside0.mk (blk_drew (blk_alloc (blk_new w (.cells #[.string a0_0, .slice A0_1 l0_1.length c0_1] 51)) (.cells #[.string (⟨#[]⟩ : ByteArray), .slice none 0 0] 51)))
  have BK2 := Aside0.mk (blk_drew (blk_new (w.alloc (.cells #[.string a0_0, .slice A0_1 l0_1.length c0_1] 51)) (.cells #[.string (⟨#[]⟩ : ByteArray), .slice none 0 0] 51)))
  have HB2 := Aside0.mk (((((Below.refl w.heap.size w).alloc (Nat.le_refl _) (.cells #[.string a0_0, .slice A0_1 l0_1.length c0_1] 51)).alloc (by simp) (.cells #[.string (⟨#[]⟩ : ByteArray), .slice none 0 0] 51))).drew)
  rw [show (w.alloc (.cells #[.string a0_0, .slice A0_1 l0_1.length c0_1] 51)).heap.size = w.heap.size + 1 by simp] at BK2
  refine start_ (n := 7) (S := fun w' => w'.cell? ⟨w.heap.size, 0, none⟩ = some (.string a0_0) ∧ w'.cell? ⟨w.heap.size, 1, none⟩ = some (.slice A0_1 l0_1.length c0_1)) (ds := [6]) #[false, false, false, false, false, false, false] (by kernel_rfl) rfl rfl ⟨(blk_cell BK1.out 0).trans rfl, (blk_cell BK1.out 1).trans rfl⟩ (fun hHeld => ?_)
  generalize ((w.alloc (.cells #[.string a0_0, .slice A0_1 l0_1.length c0_1] 51)).alloc (.cells #[.string (⟨#[]⟩ : ByteArray), .slice none 0 0] 51)).drew = w2 at BK1 BK2 HB2 hHeld ⊢
  refine pure_ (i := 0) (N := some 3) (v := ?_) (a' := ?_) #[true, false, false, false, false, false, false] rfl rfl (by kernel_rfl) (fun _ _ _ h => h) (Or.inl ⟨by rfl, ?_⟩) ?_ ?_
  rotate_left
  · intro w'
    go_simp
    with_reducible rfl
  rotate_left
  · simp only [Act.put, List.setIfInBounds_toArray, List.set_cons_zero, List.set_cons_succ]
    rfl
  refine pure_ (i := 2) (N := some 5) (v := ?_) (a' := ?_) #[true, false, true, false, false, false, false] rfl rfl (by kernel_rfl) (fun _ _ _ h => h) (Or.inl ⟨by rfl, ?_⟩) ?_ ?_
  rotate_left
  · intro w'
    go_simp
    with_reducible rfl
  rotate_left
  · simp only [Act.put, List.setIfInBounds_toArray, List.set_cons_zero, List.set_cons_succ]
    rfl
  refine take_ (i := 1) (N := some 4) (v := ?_) (a' := ?_) #[true, true, true, false, false, false, false] rfl rfl (by kernel_rfl) (fun _ _ _ h => h) (Or.inl ⟨by rfl, ?_⟩) hHeld ?_ ?_
  rotate_left
  · rintro w' ⟨s0, s1⟩
    go_simp
    with_reducible rfl
  rotate_left
  · simp only [Act.put, List.setIfInBounds_toArray, List.set_cons_zero, List.set_cons_succ]
    rfl
  refine take_ (i := 3) (N := some 6) (v := ?_) (a' := ?_) #[true, true, true, true, false, false, false] rfl rfl (by kernel_rfl) (fun _ _ _ h => h) (Or.inl ⟨by rfl, ?_⟩) hHeld ?_ ?_
  rotate_left
  · rintro w' ⟨s0, s1⟩
    go_simp
    with_reducible rfl
  rotate_left
  · simp only [Act.put, List.setIfInBounds_toArray, List.set_cons_zero, List.set_cons_succ]
    rfl
  refine one_ (i := 4) (N := some 7) #[true, true, true, true, true, false, false] rfl rfl (by kernel_rfl) (by decide) (fun K hK => ?_)
  refine Kd.R_append_rows_step k100 (w0 := w) w.heap.size (by rfl) (.const (.slice none 0 0)) (.tmp 6) 22 100 (.agg #[(.int .u64 0), (.int .i64 0)]) 16 rfl Try.underlying22 info100 rfl (by decide) (by omega) (.slice none 0 0) [] l0_1 A0_1 l0_1.length c0_1 (fun _ => True) (fun _ => False) rfl rfl (Kd.R_nil _ _ _ _ _) (Kd.C_below HR.out HB2.out) (fun x cs h => by rw [k100_open h]; exact k100_mkM _ _ _ x) (fun _ h => h.elim) (fun _ _ => trivial) HB2.out HB2.out.size (by simpa using HL.out) ?_
  intro v1 w3 ho hb hg1 hat
  rw [List.nil_append] at ho
  have BK3 := Aside0.mk (blk_grown BK1.out hg1 (by simp [Value.ownBlock]))
  have BK4 := Aside0.mk (blk_grown BK2.out hg1 (by simp [Value.ownBlock]))
  have HO := Aside0.mk ho
  have HB3 := Aside0.mk hb
  obtain ⟨A1, c1, rfl⟩ := Kd.R_slice ho
  clear ho hb hg1 hat
  refine hK.out _ _ ⟨(blk_cell BK3.out 0).trans rfl, (blk_cell BK3.out 1).trans rfl⟩ (fun hHeld => ?_)
  clear hK K
  refine norm_ (a' := ?_) ?_ ?_
  rotate_left
  · show Act.put _ (some 7) _ = _
    simp only [Act.put, List.setIfInBounds_toArray, List.set_cons_zero, List.set_cons_succ]
    rfl
  refine pure_ (i := 5) (N := some 8) (v := ?_) (a' := ?_) #[true, true, true, true, true, true, false] rfl rfl (by kernel_rfl) (fun _ _ _ h => h) (Or.inl ⟨by rfl, ?_⟩) ?_ ?_
  rotate_left
  · intro w'
    go_simp
    with_reducible rfl
  rotate_left
  · simp only [Act.put, List.setIfInBounds_toArray, List.set_cons_zero, List.set_cons_succ]
    rfl
  refine last_ (i := 6) (N := none) #[true, true, true, true, true, true, true] rfl rfl (by kernel_rfl) (by decide) (fun K hK => ?_)
  have hs0 : w3.cell? ⟨w.heap.size + 1, 0, none⟩ = some (.string (⟨#[]⟩ : ByteArray)) := (blk_cell BK4.out 0).trans rfl
  have hf0 := blk_frozen BK4.out 0
  have hs1 : w3.cell? ⟨w.heap.size + 1, 1, none⟩ = some (.slice none 0 0) := (blk_cell BK4.out 1).trans rfl
  have hf1 := blk_frozen BK4.out 1
  refine skip_ (w1 := ?_) (by rfl) rfl ?_ ?_
  rotate_left
  · go_simp
    rfl
  refine hK.out _ _ (done_ (by kernel_rfl) ?_)
  clear hK K
  go_wp2
  refine bodyPost_ret (results_cell_row rfl _ _ (w.heap.size + 1) 51 #[.string a0_0, .slice A1 l0_1.length c1] (0, 0) _ rfl (blk_put (cs := #[.string a0_0, .slice none 0 0]) (blk_put (cs := #[.string (⟨#[]⟩ : ByteArray), .slice none 0 0]) BK4.out 0 _ rfl) 1 _ rfl) Try.underlying51 rfl (by kernel_rfl)) rfl ?_
  exact ⟨_, rfl, Kd.R_mono (Kd.R_far (p := ⟨w.heap.size + 1, 1, none⟩) (Kd.R_far (p := ⟨w.heap.size + 1, 0, none⟩) (Kd.R_types HO.out BK4.out (by decide)) (fun _ hk => hk.2) (.string a0_0)) (fun _ hk => hk.2) _) (fun _ hk => hk.1), (HB3.out.setCell (Nat.le_succ _) _).setCell (Nat.le_succ _) _⟩
end Go.Proofs.Ythpjagblnddjaaa.PB
end

section
namespace Go.Proofs.Ythpjagblnddjaaa.PB
open Go.RowKit Go.Proofs.YthpjagblnddjaaaW.PrintWords Go.Proofs.YthpjagblnddjaaaW.PrintLast Go.Proofs.YthpjagblnddjaaaW.PrintMore
attribute [local go_sem] max2_int min2_int max_two min_two max_three min_three max_four min_four   
set_option linter.unusedVariables false
set_option linter.unusedSimpArgs false
def edit_Invert.f (a0_0 : Int) (a0_1 : ByteArray) (l0_2 : List (S100)) (a0_3 : ByteArray) (l0_4 : List (S100)) : Option (Int × ByteArray × (List (S100)) × ByteArray × (List (S100))) := (edit_own.f a0_3 l0_4).bind fun bt540 => ((edit_own.f a0_1 l0_2).bind fun bt544 => (some (a0_0, bt540.1, bt540.2, bt544.1, bt544.2)))
def edit_Invert.T1 : Bool × List (List Nat × List Nat) := (true, [([], []), ([0], [0]), ([], []), ([2], [2]), ([3], [3]), ([], []), ([5], [5]), ([6, 4], [6]), ([1, 4, 7], [1, 4, 7]), ([8, 7, 0, 1, 2, 3, 4, 5, 6, 7, 8], [8])])
def edit_Invert.B1 : List Nat := [0, 1, 0, 4, 12, 0, 32, 124, 255, 511]
theorem edit_Invert.tab1 : rtab .any (opsOf Try.f59 1) = edit_Invert.T1 := by kernel_rfl
theorem edit_Invert.bits1 : waitsOk edit_Invert.T1.2 edit_Invert.B1 = true := by kernel_rfl
set_option maxHeartbeats 8000000 in
set_option maxRecDepth 100000 in
theorem edit_Invert.calls (a0_0 : Int) (a0_1 : ByteArray) (A0_2 : Option Addr) (c0_2 : Nat) (l0_2 : List (S100)) (a0_3 : ByteArray) (A0_4 : Option Addr) (c0_4 : Nat) (l0_4 : List (S100)) (r1 : Int) (r2 : ByteArray) (r3 : List (S100)) (r4 : ByteArray) (r5 : List (S100)) (w : World) (hr0_2 : Kd.C k100 w A0_2 l0_2.length l0_2) (hc0_2 : l0_2.length ≤ c0_2) (hr0_4 : Kd.C k100 w A0_4 l0_4.length l0_4) (hc0_4 : l0_4.length ≤ c0_4) (h : edit_Invert.f a0_0 a0_1 l0_2 a0_3 l0_4 = some (r1, r2, r3, r4, r5)) :
    Calls Try.prog 59 #[.agg #[.int .i64 a0_0, .string a0_1, .slice A0_2 l0_2.length c0_2, .string a0_3, .slice A0_4 l0_4.length c0_4]] w fun e w' => ∃ v2_ v4_ : Value, e = .returned (.agg #[.int .i64 r1, .string r2, v2_, .string r4, v4_]) ∧ Kd.R k100 100 w' w.heap.size (fun k_ => some k_ ≠ (v4_ : Value).ownBlock) v2_ r3 ∧ Kd.R k100 100 w' w.heap.size (fun k_ => some k_ ≠ (v2_ : Value).ownBlock) v4_ r5 ∧ Below w.heap.size w w' := by
  have hu64 := Try.underlying64
  have hu51 := Try.underlying51
  have HR0_2 := Aside0.mk hr0_2
  have HC0_2 := Aside0.mk hc0_2
  clear hr0_2 hc0_2
  have HR0_4 := Aside0.mk hr0_4
  have HC0_4 := Aside0.mk hc0_4
  clear hr0_4 hc0_4
  have HB := Aside0.mk (Below.refl w.heap.size w)
  have H : ((edit_own.f a0_3 l0_4).bind fun bt540 => ((edit_own.f a0_1 l0_2).bind fun bt544 => (some (a0_0, bt540.1, bt540.2, bt544.1, bt544.2)))) = some (r1, r2, r3, r4, r5) := h
  clear h
  replace H := Option.bind_eq_some_iff.mp H
  obtain ⟨⟨t540, t541⟩, A20, H⟩ := H
  replace H : ((edit_own.f a0_1 l0_2).bind fun bt544 => (some (a0_0, t540, t541, bt544.1, bt544.2))) = some (r1, r2, r3, r4, r5) := H
  have A2 := Aside0.mk A20
  clear A20
  replace H := Option.bind_eq_some_iff.mp H
  obtain ⟨⟨t544, t545⟩, A30, H⟩ := H
  replace H : (some (a0_0, t540, t541, t544, t545)) = some (r1, r2, r3, r4, r5) := H
  have A3 := Aside0.mk A30
  clear A30
  simp only [Option.some.injEq, Prod.mk.injEq] at H
  obtain ⟨rfl, rfl, rfl, rfl, rfl⟩ := H
  go_enter Try.func59, Try.ntmps59
  try go_wp2_with (first | ((with_reducible refine gate_dst (N := 1) rfl ?_); refine box_event ?hg (N := 1) ?hd (cs := #[.int .i64 a0_0, .string a0_1, .slice A0_2 l0_2.length c0_2, .string a0_3, .slice A0_4 l0_4.length c0_4]) (t := 64) ?hr ?_; (case hd => rfl); (case hg => rfl); (case hr => first | (go_simp; done) | (go_simp; rfl)); intro gb538 hg w4 hbox hb; have n0_ := Aside0.mk (below_step (by repeat (first | (with_reducible first | exact HB.out | apply below_alloc | apply pw_below_drewN | apply below_drew1) | exact HB.out)) hb); have n1_ := Aside0.mk (hbox); have n2_ := Aside0.mk ((by rw [hg]; exact (below_size (by repeat (first | (with_reducible first | exact HB.out | apply below_alloc | apply pw_below_drewN | apply below_drew1) | exact HB.out))) : w.heap.size ≤ gb538)); have n3_ := Aside0.mk ((by rw [hg]; exact (below_size (by repeat (first | (with_reducible first | exact HB.out | apply below_alloc | apply pw_below_drewN | apply below_drew1) | exact HB.out))) : w.heap.size ≤ gb538)); clear HB; have HB := n0_; have BK538 := n1_; have GW538 := n2_; have GE538 := n3_; clear n0_ n1_ n2_ n3_; clear hb hbox hg) | ((with_reducible refine gate_dst (N := 2) rfl ?_); refine box_event ?hg (N := 2) ?hd (cs := #[.int .i64 0, .string (⟨#[]⟩ : ByteArray), .slice none 0 0, .string (⟨#[]⟩ : ByteArray), .slice none 0 0]) (t := 64) ?hr ?_; (case hd => rfl); (case hg => rfl); (case hr => first | (go_simp; done) | (go_simp; rfl)); intro gb539 hg w5 hbox hb; have n0_ := Aside0.mk (blk_below (g := gb538) (o := .cells #[.int .i64 a0_0, .string a0_1, .slice A0_2 l0_2.length c0_2, .string a0_3, .slice A0_4 l0_4.length c0_4] 64 (0, 0)) (by (with_reducible repeat (first | refine blk_drewN ?_ _ | refine blk_drew ?_ | refine blk_alloc ?_ _)); exact BK538.out) hb); have n1_ := Aside0.mk (below_step (by repeat (first | (with_reducible first | exact HB.out | apply below_alloc | apply pw_below_drewN | apply below_drew1 | refine below_set ?_ GE538.out) | exact HB.out)) hb); have n2_ := Aside0.mk (hbox); have n3_ := Aside0.mk ((by rw [hg]; exact (below_size (by repeat (first | (with_reducible first | exact HB.out | apply below_alloc | apply pw_below_drewN | apply below_drew1 | refine below_set ?_ GE538.out) | exact HB.out))) : w.heap.size ≤ gb539)); have n4_ := Aside0.mk ((by rw [hg]; exact (below_size (by repeat (first | (with_reducible first | exact HB.out | apply below_alloc | apply pw_below_drewN | apply below_drew1 | refine below_set ?_ GE538.out) | exact HB.out))) : w.heap.size ≤ gb539)); have n5_ := Aside0.mk ((by rw [hg]; exact Nat.ne_of_lt (blk_lt (g := gb538) (o := .cells #[.int .i64 a0_0, .string a0_1, .slice A0_2 l0_2.length c0_2, .string a0_3, .slice A0_4 l0_4.length c0_4] 64 (0, 0)) (by (with_reducible repeat (first | refine blk_drewN ?_ _ | refine blk_drew ?_ | refine blk_alloc ?_ _)); exact BK538.out)) : gb538 ≠ gb539)); have n6_ := Aside0.mk ((by rw [hg]; exact Nat.ne_of_gt (blk_lt (g := gb538) (o := .cells #[.int .i64 a0_0, .string a0_1, .slice A0_2 l0_2.length c0_2, .string a0_3, .slice A0_4 l0_4.length c0_4] 64 (0, 0)) (by (with_reducible repeat (first | refine blk_drewN ?_ _ | refine blk_drew ?_ | refine blk_alloc ?_ _)); exact BK538.out)) : gb539 ≠ gb538)); clear BK538; clear HB; have BK538 := n0_; have HB := n1_; have BK539 := n2_; have GW539 := n3_; have GE539 := n4_; have NB538_539 := n5_; have NB539_538 := n6_; clear n0_ n1_ n2_ n3_ n4_ n5_ n6_; clear hb hbox hg))
  have n0_ := Aside0.mk (blk_drew BK538.out)
  have n1_ := Aside0.mk (blk_drew BK539.out)
  have n2_ := Aside0.mk (below_drew1 HB.out)
  clear BK538
  clear BK539
  clear HB
  have BK538 := n0_
  have BK539 := n1_
  have HB := n2_
  clear n0_ n1_ n2_
  refine start_ (n := 10) (S := fun w' => w'.cell? ⟨gb538, 0, none⟩ = some (.int .i64 a0_0) ∧ w'.cell? ⟨gb538, 1, none⟩ = some (.string a0_1) ∧ w'.cell? ⟨gb538, 2, none⟩ = some (.slice A0_2 l0_2.length c0_2) ∧ w'.cell? ⟨gb538, 3, none⟩ = some (.string a0_3) ∧ w'.cell? ⟨gb538, 4, none⟩ = some (.slice A0_4 l0_4.length c0_4)) (ds := []) #[false, false, false, false, false, false, false, false, false, false] (by kernel_rfl) rfl rfl ⟨(blk_cell BK538.out 0).trans rfl, (blk_cell BK538.out 1).trans rfl, (blk_cell BK538.out 2).trans rfl, (blk_cell BK538.out 3).trans rfl, (blk_cell BK538.out 4).trans rfl⟩ (fun hHeld => ?_); refine with_tabW edit_Invert.tab1 edit_Invert.bits1 (fun HT_ HW_ => ?_)
  generalize w5.drew = w6 at BK538 BK539 HB hHeld ⊢
  refine pure_ (i := 0) (N := some 3) (v := ?_) (a' := ?_) #[true, false, false, false, false, false, false, false, false, false] rfl rfl (any_of HT_.out (by kernel_rfl)) (fun _ _ _ h => h) (Or.inl ⟨by rfl, ?_⟩) ?_ ?_
  rotate_left
  · intro w'
    go_simp
    with_reducible rfl
  rotate_left
  · simp only [Act.put, List.setIfInBounds_toArray, List.set_cons_zero, List.set_cons_succ, i64_w, i32_w]
    rfl
  refine pure_ (i := 2) (N := some 5) (v := ?_) (a' := ?_) #[true, false, true, false, false, false, false, false, false, false] rfl rfl (any_of HT_.out (by kernel_rfl)) (fun _ _ _ h => h) (Or.inl ⟨by rfl, ?_⟩) ?_ ?_
  rotate_left
  · intro w'
    go_simp
    with_reducible rfl
  rotate_left
  · simp only [Act.put, List.setIfInBounds_toArray, List.set_cons_zero, List.set_cons_succ, i64_w, i32_w]
    rfl
  refine pure_ (i := 5) (N := some 8) (v := ?_) (a' := ?_) #[true, false, true, false, false, true, false, false, false, false] rfl rfl (any_of HT_.out (by kernel_rfl)) (fun _ _ _ h => h) (Or.inl ⟨by rfl, ?_⟩) ?_ ?_
  rotate_left
  · intro w'
    go_simp
    with_reducible rfl
  rotate_left
  · simp only [Act.put, List.setIfInBounds_toArray, List.set_cons_zero, List.set_cons_succ, i64_w, i32_w]
    rfl
  refine take_ (i := 1) (N := some 4) (v := ?_) (a' := ?_) #[true, true, true, false, false, true, false, false, false, false] rfl rfl (take_ofW HT_.out HW_.out (by kernel_rfl)) (fun _ _ _ h => h) (Or.inl ⟨by rfl, ?_⟩) hHeld ?_ ?_
  rotate_left
  · rintro w' ⟨s0, s1, s2, s3, s4⟩
    go_simp
    with_reducible rfl
  rotate_left
  · simp only [Act.put, List.setIfInBounds_toArray, List.set_cons_zero, List.set_cons_succ, i64_w, i32_w]
    rfl
  refine take_ (i := 3) (N := some 6) (v := ?_) (a' := ?_) #[true, true, true, true, false, true, false, false, false, false] rfl rfl (take_ofW HT_.out HW_.out (by kernel_rfl)) (fun _ _ _ h => h) (Or.inl ⟨by rfl, ?_⟩) hHeld ?_ ?_
  rotate_left
  · rintro w' ⟨s0, s1, s2, s3, s4⟩
    go_simp
    with_reducible rfl
  rotate_left
  · simp only [Act.put, List.setIfInBounds_toArray, List.set_cons_zero, List.set_cons_succ, i64_w, i32_w]
    rfl
  refine take_ (i := 6) (N := some 9) (v := ?_) (a' := ?_) #[true, true, true, true, false, true, true, false, false, false] rfl rfl (take_ofW HT_.out HW_.out (by kernel_rfl)) (fun _ _ _ h => h) (Or.inl ⟨by rfl, ?_⟩) hHeld ?_ ?_
  rotate_left
  · rintro w' ⟨s0, s1, s2, s3, s4⟩
    go_simp
    with_reducible rfl
  rotate_left
  · simp only [Act.put, List.setIfInBounds_toArray, List.set_cons_zero, List.set_cons_succ, i64_w, i32_w]
    rfl
  refine one_ (i := 4) (N := some 7) #[true, true, true, true, true, true, true, false, false, false] rfl rfl (one_of HT_.out (by kernel_rfl)) (by decide) (fun K hK => ?_)
  refine goes_ Try.func98 (by kernel_rfl) rfl #[.agg #[.string a0_3, .slice A0_4 l0_4.length c0_4]] (by rfl) rfl rfl (by (try simp only [List.map_toArray, List.map_cons, List.map_nil]); first | done | rfl | (simp only [List.length_drop, List.length_take]; rfl)) ?_
  with_reducible refine (edit_own.calls a0_3 _ _ l0_4 t540 t541 _ ?side1 ?side2 A2.out).mono ?_
  (case side1 => repeat (first | exact (Kd.C_below HR0_4.out HB.out) | (with_reducible refine Kd.C_alloc ?_ _) | (with_reducible refine Kd.C_drewN ?_ _) | (with_reducible refine Kd.C_drew ?_)))
  (case side2 => exact HC0_4.out)
  rintro e w7 ⟨v542, rfl, ho0, hb⟩
  refine ⟨_, rfl, ?_⟩
  have n0_ := Aside0.mk (Kd.R_lower ho0 (below_size (by repeat (first | (with_reducible first | exact HB.out | apply below_alloc | apply pw_below_drewN | apply below_drew1 | refine below_set ?_ GE538.out | refine below_set ?_ GE539.out) | exact HB.out))))
  have n1_ := Aside0.mk (blk_below (g := gb538) (o := .cells #[.int .i64 a0_0, .string a0_1, .slice A0_2 l0_2.length c0_2, .string a0_3, .slice A0_4 l0_4.length c0_4] 64 (0, 0)) (by (with_reducible repeat (first | refine blk_drewN ?_ _ | refine blk_drew ?_ | refine blk_alloc ?_ _)); exact BK538.out) hb)
  have n2_ := Aside0.mk (blk_below (g := gb539) (o := .cells #[.int .i64 0, .string (⟨#[]⟩ : ByteArray), .slice none 0 0, .string (⟨#[]⟩ : ByteArray), .slice none 0 0] 64 (0, 0)) (by (with_reducible repeat (first | refine blk_drewN ?_ _ | refine blk_drew ?_ | refine blk_alloc ?_ _)); exact BK539.out) hb)
  have n3_ := Aside0.mk (below_step (by repeat (first | (with_reducible first | exact HB.out | apply below_alloc | apply pw_below_drewN | apply below_drew1 | refine below_set ?_ GE538.out | refine below_set ?_ GE539.out) | exact HB.out)) hb)
  clear BK538
  clear BK539
  clear HB
  have HO543 := n0_
  have BK538 := n1_
  have BK539 := n2_
  have HB := n3_
  clear n0_ n1_ n2_ n3_
  (try clear hb)
  (try clear hb2)
  (try clear hk)
  (try clear hi)
  (try clear ho0)
  refine hK.out _ _ ⟨(blk_cell BK538.out 0).trans rfl, (blk_cell BK538.out 1).trans rfl, (blk_cell BK538.out 2).trans rfl, (blk_cell BK538.out 3).trans rfl, (blk_cell BK538.out 4).trans rfl⟩ (fun hHeld => ?_)
  clear hK K
  refine norm_ (a' := ?_) ?_ ?_
  rotate_left
  · show Act.put _ (some 7) _ = _
    simp only [Act.put, List.setIfInBounds_toArray, List.set_cons_zero, List.set_cons_succ, i64_w, i32_w]
    rfl
  refine one_ (i := 7) (N := some 10) #[true, true, true, true, true, true, true, true, false, false] rfl rfl (one_of HT_.out (by kernel_rfl)) (by decide) (fun K hK => ?_)
  refine goes_ Try.func98 (by kernel_rfl) rfl #[.agg #[.string a0_1, .slice A0_2 l0_2.length c0_2]] (by rfl) rfl rfl (by (try simp only [List.map_toArray, List.map_cons, List.map_nil]); first | done | rfl | (simp only [List.length_drop, List.length_take]; rfl)) ?_
  with_reducible refine (edit_own.calls a0_1 _ _ l0_2 t544 t545 _ ?side1 ?side2 A3.out).mono ?_
  (case side1 => repeat (first | exact (Kd.C_below HR0_2.out HB.out) | (with_reducible refine Kd.C_alloc ?_ _) | (with_reducible refine Kd.C_drewN ?_ _) | (with_reducible refine Kd.C_drew ?_)))
  (case side2 => exact HC0_2.out)
  rintro e w8 ⟨v546, rfl, ho0, hb⟩
  refine ⟨_, rfl, ?_⟩
  have n0_ := Aside0.mk (Kd.R_elder' (by (with_reducible repeat (first | apply Kd.R_alloc | apply Kd.R_drewN | apply Kd.R_drew)); exact HO543.out) (Kd.R_base ho0) hb)
  have n1_ := Aside0.mk (Kd.R_lower (Kd.R_new' ho0 (Kd.R_lt (by (with_reducible repeat (first | apply Kd.R_alloc | apply Kd.R_drewN | apply Kd.R_drew)); exact HO543.out))) (below_size (by repeat (first | (with_reducible first | exact HB.out | apply below_alloc | apply pw_below_drewN | apply below_drew1 | refine below_set ?_ GE538.out | refine below_set ?_ GE539.out) | exact HB.out))))
  have n2_ := Aside0.mk (blk_below (g := gb538) (o := .cells #[.int .i64 a0_0, .string a0_1, .slice A0_2 l0_2.length c0_2, .string a0_3, .slice A0_4 l0_4.length c0_4] 64 (0, 0)) (by (with_reducible repeat (first | refine blk_drewN ?_ _ | refine blk_drew ?_ | refine blk_alloc ?_ _)); exact BK538.out) hb)
  have n3_ := Aside0.mk (blk_below (g := gb539) (o := .cells #[.int .i64 0, .string (⟨#[]⟩ : ByteArray), .slice none 0 0, .string (⟨#[]⟩ : ByteArray), .slice none 0 0] 64 (0, 0)) (by (with_reducible repeat (first | refine blk_drewN ?_ _ | refine blk_drew ?_ | refine blk_alloc ?_ _)); exact BK539.out) hb)
  have n4_ := Aside0.mk (below_step (by repeat (first | (with_reducible first | exact HB.out | apply below_alloc | apply pw_below_drewN | apply below_drew1 | refine below_set ?_ GE538.out | refine below_set ?_ GE539.out) | exact HB.out)) hb)
  clear HO543
  clear BK538
  clear BK539
  clear HB
  have HO543 := n0_
  have HO547 := n1_
  have BK538 := n2_
  have BK539 := n3_
  have HB := n4_
  clear n0_ n1_ n2_ n3_ n4_
  (try clear hb)
  (try clear hb2)
  (try clear hk)
  (try clear hi)
  (try clear ho0)
  obtain ⟨Ao9, co9, eo9⟩ := Kd.R_slice HO547.out
  (first | subst eo9 | (injection eo9 with f1_ f2_ f3_; have f4_ := f1_.symm; have f5_ := f3_.symm; clear f1_ f2_ f3_; subst f4_; subst f5_))
  obtain ⟨Ao10, co10, eo10⟩ := Kd.R_slice HO543.out
  (first | subst eo10 | (injection eo10 with f1_ f2_ f3_; have f4_ := f1_.symm; have f5_ := f3_.symm; clear f1_ f2_ f3_; subst f4_; subst f5_))
  refine hK.out _ _ ⟨(blk_cell BK538.out 0).trans rfl, (blk_cell BK538.out 1).trans rfl, (blk_cell BK538.out 2).trans rfl, (blk_cell BK538.out 3).trans rfl, (blk_cell BK538.out 4).trans rfl⟩ (fun hHeld => ?_)
  clear hK K
  refine norm_ (a' := ?_) ?_ ?_
  rotate_left
  · show Act.put _ (some 10) _ = _
    simp only [Act.put, List.setIfInBounds_toArray, List.set_cons_zero, List.set_cons_succ, i64_w, i32_w]
    rfl
  refine pure_ (i := 8) (N := some 11) (v := ?_) (a' := ?_) #[true, true, true, true, true, true, true, true, true, false] rfl rfl (any_of HT_.out (by kernel_rfl)) (fun _ _ _ h => h) (Or.inl ⟨by rfl, ?_⟩) ?_ ?_
  rotate_left
  · intro w'
    go_simp
    with_reducible rfl
  rotate_left
  · simp only [Act.put, List.setIfInBounds_toArray, List.set_cons_zero, List.set_cons_succ, i64_w, i32_w]
    rfl
  refine one_ (i := 9) (N := none) #[true, true, true, true, true, true, true, true, true, true] rfl rfl (one_of HT_.out (by kernel_rfl)) (by decide) (fun K hK => ?_)
  have hs11 : w8.cell? ⟨gb539, 0, none⟩ = some (.int .i64 0) := (blk_cell BK539.out 0).trans rfl
  have hfs11 := blk_frozen BK539.out 0
  have hns11_0 := NB538_539.out
  have hms11_0 := NB539_538.out
  have hs12 : w8.cell? ⟨gb539, 1, none⟩ = some (.string (⟨#[]⟩ : ByteArray)) := (blk_cell BK539.out 1).trans rfl
  have hfs12 := blk_frozen BK539.out 1
  have hns12_0 := NB538_539.out
  have hms12_0 := NB539_538.out
  have hs13 : w8.cell? ⟨gb539, 2, none⟩ = some (.slice none 0 0) := (blk_cell BK539.out 2).trans rfl
  have hfs13 := blk_frozen BK539.out 2
  have hns13_0 := NB538_539.out
  have hms13_0 := NB539_538.out
  have hs14 : w8.cell? ⟨gb539, 3, none⟩ = some (.string (⟨#[]⟩ : ByteArray)) := (blk_cell BK539.out 3).trans rfl
  have hfs14 := blk_frozen BK539.out 3
  have hns14_0 := NB538_539.out
  have hms14_0 := NB539_538.out
  have hs15 : w8.cell? ⟨gb539, 4, none⟩ = some (.slice none 0 0) := (blk_cell BK539.out 4).trans rfl
  have hfs15 := blk_frozen BK539.out 4
  have hns15_0 := NB538_539.out
  have hms15_0 := NB539_538.out
  refine skip_ (w1 := ?_) (by rfl) rfl ?_ ?_
  rotate_left
  · go_simp
    rfl
  refine hK.out _ _ ⟨((cell_far (p := ⟨gb539, _, none⟩) NB538_539.out _).trans (((cell_far (p := ⟨gb539, _, none⟩) NB538_539.out _).trans (((cell_far (p := ⟨gb539, _, none⟩) NB538_539.out _).trans (((cell_far (p := ⟨gb539, _, none⟩) NB538_539.out _).trans (((cell_far (p := ⟨gb539, _, none⟩) NB538_539.out _).trans (hHeld.1)))))))))), ((cell_far (p := ⟨gb539, _, none⟩) NB538_539.out _).trans (((cell_far (p := ⟨gb539, _, none⟩) NB538_539.out _).trans (((cell_far (p := ⟨gb539, _, none⟩) NB538_539.out _).trans (((cell_far (p := ⟨gb539, _, none⟩) NB538_539.out _).trans (((cell_far (p := ⟨gb539, _, none⟩) NB538_539.out _).trans (hHeld.2.1)))))))))), ((cell_far (p := ⟨gb539, _, none⟩) NB538_539.out _).trans (((cell_far (p := ⟨gb539, _, none⟩) NB538_539.out _).trans (((cell_far (p := ⟨gb539, _, none⟩) NB538_539.out _).trans (((cell_far (p := ⟨gb539, _, none⟩) NB538_539.out _).trans (((cell_far (p := ⟨gb539, _, none⟩) NB538_539.out _).trans (hHeld.2.2.1)))))))))), ((cell_far (p := ⟨gb539, _, none⟩) NB538_539.out _).trans (((cell_far (p := ⟨gb539, _, none⟩) NB538_539.out _).trans (((cell_far (p := ⟨gb539, _, none⟩) NB538_539.out _).trans (((cell_far (p := ⟨gb539, _, none⟩) NB538_539.out _).trans (((cell_far (p := ⟨gb539, _, none⟩) NB538_539.out _).trans (hHeld.2.2.2.1)))))))))), ((cell_far (p := ⟨gb539, _, none⟩) NB538_539.out _).trans (((cell_far (p := ⟨gb539, _, none⟩) NB538_539.out _).trans (((cell_far (p := ⟨gb539, _, none⟩) NB538_539.out _).trans (((cell_far (p := ⟨gb539, _, none⟩) NB538_539.out _).trans (((cell_far (p := ⟨gb539, _, none⟩) NB538_539.out _).trans (hHeld.2.2.2.2))))))))))⟩ (fun hHeld => ?_)
  clear hK K
  refine done_ (done_of HT_.out (by kernel_rfl)) ?_
  try go_wp2
  refine bodyPost_ret (results_cell_row rfl _ _ gb539 64 #[.int .i64 a0_0, .string t540, .slice Ao10 t541.length co10, .string t544, .slice Ao9 t545.length co9] (0, 0) _ rfl (by (with_reducible repeat (first | refine blk_drewN ?_ _ | refine blk_drew ?_ | refine blk_alloc ?_ _)); refine blk_put (cs := #[.int .i64 a0_0, .string t540, .slice Ao10 t541.length co10, .string t544, .slice none 0 0]) ?_ 4 _ rfl; (with_reducible repeat (first | refine blk_drewN ?_ _ | refine blk_drew ?_ | refine blk_alloc ?_ _)); refine blk_put (cs := #[.int .i64 a0_0, .string t540, .slice Ao10 t541.length co10, .string (⟨#[]⟩ : ByteArray), .slice none 0 0]) ?_ 3 _ rfl; (with_reducible repeat (first | refine blk_drewN ?_ _ | refine blk_drew ?_ | refine blk_alloc ?_ _)); refine blk_put (cs := #[.int .i64 a0_0, .string t540, .slice none 0 0, .string (⟨#[]⟩ : ByteArray), .slice none 0 0]) ?_ 2 _ rfl; (with_reducible repeat (first | refine blk_drewN ?_ _ | refine blk_drew ?_ | refine blk_alloc ?_ _)); refine blk_put (cs := #[.int .i64 a0_0, .string (⟨#[]⟩ : ByteArray), .slice none 0 0, .string (⟨#[]⟩ : ByteArray), .slice none 0 0]) ?_ 1 _ rfl; (with_reducible repeat (first | refine blk_drewN ?_ _ | refine blk_drew ?_ | refine blk_alloc ?_ _)); refine blk_put (cs := #[.int .i64 0, .string (⟨#[]⟩ : ByteArray), .slice none 0 0, .string (⟨#[]⟩ : ByteArray), .slice none 0 0]) ?_ 0 _ rfl; (with_reducible repeat (first | refine blk_drewN ?_ _ | refine blk_drew ?_ | refine blk_alloc ?_ _)); exact BK539.out) Try.underlying64 rfl (by kernel_rfl)) rfl ?_
  exact ⟨_, _, by first | rfl | (simp [errW_none, errW_some] <;> rfl) | (simp [*, errW_none, errW_some] <;> rfl), by (with_reducible repeat (first | apply Kd.R_alloc | apply Kd.R_drewN | apply Kd.R_drew)); exact Kd.R_mono (Kd.R_far (p := ⟨gb539, 4, none⟩) (Kd.R_far (p := ⟨gb539, 3, none⟩) (Kd.R_far (p := ⟨gb539, 2, none⟩) (Kd.R_far (p := ⟨gb539, 1, none⟩) (Kd.R_far (p := ⟨gb539, 0, none⟩) (Kd.R_types HO543.out BK539.out (by decide)) (fun _ hk => hk.2) (.int .i64 a0_0)) (fun _ hk => hk.2) (.string t540)) (fun _ hk => hk.2) (.slice Ao10 t541.length co10)) (fun _ hk => hk.2) (.string t544)) (fun _ hk => hk.2) (.slice Ao9 t545.length co9)) (fun _ hk => hk.1.2), by (with_reducible repeat (first | apply Kd.R_alloc | apply Kd.R_drewN | apply Kd.R_drew)); exact Kd.R_mono (Kd.R_far (p := ⟨gb539, 4, none⟩) (Kd.R_far (p := ⟨gb539, 3, none⟩) (Kd.R_far (p := ⟨gb539, 2, none⟩) (Kd.R_far (p := ⟨gb539, 1, none⟩) (Kd.R_far (p := ⟨gb539, 0, none⟩) (Kd.R_types HO547.out BK539.out (by decide)) (fun _ hk => hk.2) (.int .i64 a0_0)) (fun _ hk => hk.2) (.string t540)) (fun _ hk => hk.2) (.slice Ao10 t541.length co10)) (fun _ hk => hk.2) (.string t544)) (fun _ hk => hk.2) (.slice Ao9 t545.length co9)) (fun _ hk => hk.1.2), by repeat (first | (with_reducible first | exact HB.out | apply below_alloc | apply pw_below_drewN | apply below_drew1 | refine below_set ?_ GE538.out | refine below_set ?_ GE539.out) | exact HB.out)⟩
end Go.Proofs.Ythpjagblnddjaaa.PB
end

section
namespace Go.Proofs.Ythpjagblnddjaaa.PB
open Go.RowKit Go.Proofs.YthpjagblnddjaaaW.PrintWords Go.Proofs.YthpjagblnddjaaaW.PrintLast Go.Proofs.YthpjagblnddjaaaW.PrintMore
attribute [local go_sem] max2_int min2_int max_two min_two max_three min_three max_four min_four   
set_option linter.unusedVariables false
set_option linter.unusedSimpArgs false
def edit_good.f (k : Nat) (a0_0 : Int) (a0_1 : ByteArray) (l0_2 : List (S100)) (a0_3 : ByteArray) (l0_4 : List (S100)) : Option (Bool) := (strip_Good.f k a0_1 l0_2).bind fun t549 => (if t549 = true then ((strip_Good.f k a0_3 l0_4).bind fun t550 => (if t550 = true then (if a0_0 ≥ 0 then (some (decide (a0_0 ≤ 4096))) else (some false)) else (some false))) else (some false))
theorem edit_good.mono : ∀ a0 a1 a2 a3 a4 k, LeO (edit_good.f k a0 a1 a2 a3 a4) (edit_good.f (k + 1) a0 a1 a2 a3 a4) := by
  intro a0 a1 a2 a3 a4 k
  unfold edit_good.f
  repeat' first
      | (with_reducible exact strip_Good.mono _ _ _)
      | (with_reducible exact LeO.refl _)
      | (with_reducible exact LeO.none _)
      | (with_reducible refine LeO.ite ?_ ?_)
      | (with_reducible refine LeO.bind ?_ (fun _ => ?_))
      | exact strip_Good.mono _ _ _
      | exact LeO.none _
      | refine LeO.ite ?_ ?_
      | refine LeO.bind ?_ (fun _ => ?_)
set_option maxHeartbeats 8000000 in
set_option maxRecDepth 100000 in
theorem edit_good.calls (k : Nat) (a0_0 : Int) (a0_1 : ByteArray) (A0_2 : Option Addr) (c0_2 : Nat) (l0_2 : List (S100)) (a0_3 : ByteArray) (A0_4 : Option Addr) (c0_4 : Nat) (l0_4 : List (S100)) (r : Bool) (w : World) (hr0_2 : Kd.C k100 w A0_2 l0_2.length l0_2) (hc0_2 : l0_2.length ≤ c0_2) (hr0_4 : Kd.C k100 w A0_4 l0_4.length l0_4) (hc0_4 : l0_4.length ≤ c0_4) (h : edit_good.f k a0_0 a0_1 l0_2 a0_3 l0_4 = some r) :
    Calls Try.prog 99 #[.agg #[.int .i64 a0_0, .string a0_1, .slice A0_2 l0_2.length c0_2, .string a0_3, .slice A0_4 l0_4.length c0_4]] w fun e w' => e = .returned (.bool r) ∧ Below w.heap.size w w' := by
  have hu64 := Try.underlying64
  have hu51 := Try.underlying51
  have HR0_2 := Aside0.mk hr0_2
  have HC0_2 := Aside0.mk hc0_2
  clear hr0_2 hc0_2
  have HR0_4 := Aside0.mk hr0_4
  have HC0_4 := Aside0.mk hc0_4
  clear hr0_4 hc0_4
  have HB := Aside0.mk (Below.refl w.heap.size w)
  have H : ((strip_Good.f k a0_1 l0_2).bind fun t549 => (if t549 = true then ((strip_Good.f k a0_3 l0_4).bind fun t550 => (if t550 = true then (if a0_0 ≥ 0 then (some (decide (a0_0 ≤ 4096))) else (some false)) else (some false))) else (some false))) = some r := h
  clear h
  replace H := Option.bind_eq_some_iff.mp H
  obtain ⟨t549, A20, H⟩ := H
  replace H : (if t549 = true then ((strip_Good.f k a0_3 l0_4).bind fun t550 => (if t550 = true then (if a0_0 ≥ 0 then (some (decide (a0_0 ≤ 4096))) else (some false)) else (some false))) else (some false)) = some r := H
  have A2 := Aside0.mk A20
  clear A20
  by_cases c3 : t549 = true
  · subst c3
    have H1 : ((strip_Good.f k a0_3 l0_4).bind fun t550 => (if t550 = true then (if a0_0 ≥ 0 then (some (decide (a0_0 ≤ 4096))) else (some false)) else (some false))) = some r := by rw [if_pos rfl] at H; exact H
    clear H
    have H := H1
    clear H1
    replace H := Option.bind_eq_some_iff.mp H
    obtain ⟨t550, A40, H⟩ := H
    replace H : (if t550 = true then (if a0_0 ≥ 0 then (some (decide (a0_0 ≤ 4096))) else (some false)) else (some false)) = some r := H
    have A4 := Aside0.mk A40
    clear A40
    by_cases c5 : t550 = true
    · subst c5
      have H1 : (if a0_0 ≥ 0 then (some (decide (a0_0 ≤ 4096))) else (some false)) = some r := by rw [if_pos rfl] at H; exact H
      clear H
      have H := H1
      clear H1
      by_cases c6 : a0_0 ≥ 0
      · rw [if_pos c6] at H
        have c6b0 : decide (0 ≤ a0_0) = true := decide_eq_true c6
        clear c6
        obtain rfl := Option.some.inj H
        go_enter Try.func99, Try.ntmps99
        go_wp2_with (first | ((with_reducible refine gate_dst (N := 1) rfl ?_); refine box_event ?hg (N := 1) ?hd (cs := #[.int .i64 a0_0, .string a0_1, .slice A0_2 l0_2.length c0_2, .string a0_3, .slice A0_4 l0_4.length c0_4]) (t := 64) ?hr ?_; (case hd => rfl); (case hg => rfl); (case hr => first | (go_simp; done) | (go_simp; rfl)); intro gb548 hg w7 hbox hb; have n0_ := Aside0.mk (below_step (by repeat (first | (with_reducible first | exact HB.out | apply below_alloc | apply pw_below_drewN | apply below_drew1) | exact HB.out)) hb); have n1_ := Aside0.mk (hbox); have n2_ := Aside0.mk ((by rw [hg]; exact (below_size (by repeat (first | (with_reducible first | exact HB.out | apply below_alloc | apply pw_below_drewN | apply below_drew1) | exact HB.out))) : w.heap.size ≤ gb548)); have n3_ := Aside0.mk ((by rw [hg]; exact (below_size (by repeat (first | (with_reducible first | exact HB.out | apply below_alloc | apply pw_below_drewN | apply below_drew1) | exact HB.out))) : w.heap.size ≤ gb548)); clear HB; have HB := n0_; have BK548 := n1_; have GW548 := n2_; have GE548 := n3_; clear n0_ n1_ n2_ n3_; clear hb hbox hg; have hcz8_0 : w7.cell? ⟨gb548, 0, none⟩ = some (.int .i64 a0_0) := (blk_cell BK548.out 0).trans rfl; have hcz8_1 : w7.cell? ⟨gb548, 1, none⟩ = some (.string a0_1) := (blk_cell BK548.out 1).trans rfl; have hcz8_2 : w7.cell? ⟨gb548, 2, none⟩ = some (.slice A0_2 l0_2.length c0_2) := (blk_cell BK548.out 2).trans rfl; have hcz8_3 : w7.cell? ⟨gb548, 3, none⟩ = some (.string a0_3) := (blk_cell BK548.out 3).trans rfl; have hcz8_4 : w7.cell? ⟨gb548, 4, none⟩ = some (.slice A0_4 l0_4.length c0_4) := (blk_cell BK548.out 4).trans rfl; have hfz8_0 := blk_frozen BK548.out 0; have hfz8_1 := blk_frozen BK548.out 1; have hfz8_2 := blk_frozen BK548.out 2; have hfz8_3 := blk_frozen BK548.out 3; have hfz8_4 := blk_frozen BK548.out 4) | ((with_reducible refine gate_callee (f := 49) rfl ?_); refine goesL_ (some 5) rfl rfl Try.func49 (by kernel_rfl) rfl #[.agg #[.string a0_1, .slice A0_2 l0_2.length c0_2]] rfl (by (try simp only [List.map_toArray, List.map_cons, List.map_nil]); first | done | rfl | (simp only [List.length_drop, List.length_take]; rfl)) ?_; (with_reducible refine (strip_Good.calls k a0_1 _ _ l0_2 true _ ?side1 ?side2 A2.out).mono ?_); (case side1 => repeat (first | exact (Kd.C_below HR0_2.out HB.out) | (with_reducible refine Kd.C_alloc ?_ _) | (with_reducible refine Kd.C_drewN ?_ _) | (with_reducible refine Kd.C_drew ?_))); (case side2 => exact HC0_2.out); rintro e w9 ⟨rfl, hb⟩; refine ⟨_, rfl, ?_⟩; have n0_ := Aside0.mk (blk_below (g := gb548) (o := .cells #[.int .i64 a0_0, .string a0_1, .slice A0_2 l0_2.length c0_2, .string a0_3, .slice A0_4 l0_4.length c0_4] 64 (0, 0)) (by (with_reducible repeat (first | refine blk_drewN ?_ _ | refine blk_drew ?_ | refine blk_alloc ?_ _)); exact BK548.out) hb); have n1_ := Aside0.mk (below_step (by repeat (first | (with_reducible first | exact HB.out | apply below_alloc | apply pw_below_drewN | apply below_drew1 | refine below_set ?_ GE548.out) | exact HB.out)) hb); clear BK548; clear HB; have BK548 := n0_; have HB := n1_; clear n0_ n1_; (try clear hb); (try clear hb2); (try clear hk); (try clear hi); have hcz10_0 : w9.cell? ⟨gb548, 0, none⟩ = some (.int .i64 a0_0) := (blk_cell BK548.out 0).trans rfl; have hcz10_1 : w9.cell? ⟨gb548, 1, none⟩ = some (.string a0_1) := (blk_cell BK548.out 1).trans rfl; have hcz10_2 : w9.cell? ⟨gb548, 2, none⟩ = some (.slice A0_2 l0_2.length c0_2) := (blk_cell BK548.out 2).trans rfl; have hcz10_3 : w9.cell? ⟨gb548, 3, none⟩ = some (.string a0_3) := (blk_cell BK548.out 3).trans rfl; have hcz10_4 : w9.cell? ⟨gb548, 4, none⟩ = some (.slice A0_4 l0_4.length c0_4) := (blk_cell BK548.out 4).trans rfl; have hfz10_0 := blk_frozen BK548.out 0; have hfz10_1 := blk_frozen BK548.out 1; have hfz10_2 := blk_frozen BK548.out 2; have hfz10_3 := blk_frozen BK548.out 3; have hfz10_4 := blk_frozen BK548.out 4) | (go_at_call 49; (with_reducible refine (strip_Good.calls k a0_3 _ _ l0_4 true _ ?side1 ?side2 A4.out).mono ?_); (case side1 => repeat (first | exact (Kd.C_below HR0_4.out HB.out) | (with_reducible refine Kd.C_alloc ?_ _) | (with_reducible refine Kd.C_drewN ?_ _) | (with_reducible refine Kd.C_drew ?_))); (case side2 => exact HC0_4.out); rintro e w11 ⟨rfl, hb⟩; have n0_ := Aside0.mk (blk_below (g := gb548) (o := .cells #[.int .i64 a0_0, .string a0_1, .slice A0_2 l0_2.length c0_2, .string a0_3, .slice A0_4 l0_4.length c0_4] 64 (0, 0)) (by (with_reducible repeat (first | refine blk_drewN ?_ _ | refine blk_drew ?_ | refine blk_alloc ?_ _)); exact BK548.out) hb); have n1_ := Aside0.mk (below_step (by repeat (first | (with_reducible first | exact HB.out | apply below_alloc | apply pw_below_drewN | apply below_drew1 | refine below_set ?_ GE548.out) | exact HB.out)) hb); clear BK548; clear HB; have BK548 := n0_; have HB := n1_; clear n0_ n1_; (try clear hb); (try clear hb2); (try clear hk); (try clear hi); have hcz12_0 : w11.cell? ⟨gb548, 0, none⟩ = some (.int .i64 a0_0) := (blk_cell BK548.out 0).trans rfl; have hcz12_1 : w11.cell? ⟨gb548, 1, none⟩ = some (.string a0_1) := (blk_cell BK548.out 1).trans rfl; have hcz12_2 : w11.cell? ⟨gb548, 2, none⟩ = some (.slice A0_2 l0_2.length c0_2) := (blk_cell BK548.out 2).trans rfl; have hcz12_3 : w11.cell? ⟨gb548, 3, none⟩ = some (.string a0_3) := (blk_cell BK548.out 3).trans rfl; have hcz12_4 : w11.cell? ⟨gb548, 4, none⟩ = some (.slice A0_4 l0_4.length c0_4) := (blk_cell BK548.out 4).trans rfl; have hfz12_0 := blk_frozen BK548.out 0; have hfz12_1 := blk_frozen BK548.out 1; have hfz12_2 := blk_frozen BK548.out 2; have hfz12_3 := blk_frozen BK548.out 3; have hfz12_4 := blk_frozen BK548.out 4))
        go_ret
        exact ⟨by first | rfl | (simp [errW_none, errW_some] <;> rfl) | (simp [*, errW_none, errW_some] <;> rfl), by repeat (first | (with_reducible first | exact HB.out | apply below_alloc | apply pw_below_drewN | apply below_drew1 | refine below_set ?_ GE548.out) | exact HB.out)⟩
      · rw [if_neg c6] at H
        have c6b0 : decide (0 ≤ a0_0) = false := decide_eq_false c6
        clear c6
        obtain rfl := Option.some.inj H
        go_enter Try.func99, Try.ntmps99
        go_wp2_with (first | ((with_reducible refine gate_dst (N := 1) rfl ?_); refine box_event ?hg (N := 1) ?hd (cs := #[.int .i64 a0_0, .string a0_1, .slice A0_2 l0_2.length c0_2, .string a0_3, .slice A0_4 l0_4.length c0_4]) (t := 64) ?hr ?_; (case hd => rfl); (case hg => rfl); (case hr => first | (go_simp; done) | (go_simp; rfl)); intro gb548 hg w13 hbox hb; have n0_ := Aside0.mk (below_step (by repeat (first | (with_reducible first | exact HB.out | apply below_alloc | apply pw_below_drewN | apply below_drew1) | exact HB.out)) hb); have n1_ := Aside0.mk (hbox); have n2_ := Aside0.mk ((by rw [hg]; exact (below_size (by repeat (first | (with_reducible first | exact HB.out | apply below_alloc | apply pw_below_drewN | apply below_drew1) | exact HB.out))) : w.heap.size ≤ gb548)); have n3_ := Aside0.mk ((by rw [hg]; exact (below_size (by repeat (first | (with_reducible first | exact HB.out | apply below_alloc | apply pw_below_drewN | apply below_drew1) | exact HB.out))) : w.heap.size ≤ gb548)); clear HB; have HB := n0_; have BK548 := n1_; have GW548 := n2_; have GE548 := n3_; clear n0_ n1_ n2_ n3_; clear hb hbox hg; have hcz14_0 : w13.cell? ⟨gb548, 0, none⟩ = some (.int .i64 a0_0) := (blk_cell BK548.out 0).trans rfl; have hcz14_1 : w13.cell? ⟨gb548, 1, none⟩ = some (.string a0_1) := (blk_cell BK548.out 1).trans rfl; have hcz14_2 : w13.cell? ⟨gb548, 2, none⟩ = some (.slice A0_2 l0_2.length c0_2) := (blk_cell BK548.out 2).trans rfl; have hcz14_3 : w13.cell? ⟨gb548, 3, none⟩ = some (.string a0_3) := (blk_cell BK548.out 3).trans rfl; have hcz14_4 : w13.cell? ⟨gb548, 4, none⟩ = some (.slice A0_4 l0_4.length c0_4) := (blk_cell BK548.out 4).trans rfl; have hfz14_0 := blk_frozen BK548.out 0; have hfz14_1 := blk_frozen BK548.out 1; have hfz14_2 := blk_frozen BK548.out 2; have hfz14_3 := blk_frozen BK548.out 3; have hfz14_4 := blk_frozen BK548.out 4) | ((with_reducible refine gate_callee (f := 49) rfl ?_); refine goesL_ (some 5) rfl rfl Try.func49 (by kernel_rfl) rfl #[.agg #[.string a0_1, .slice A0_2 l0_2.length c0_2]] rfl (by (try simp only [List.map_toArray, List.map_cons, List.map_nil]); first | done | rfl | (simp only [List.length_drop, List.length_take]; rfl)) ?_; (with_reducible refine (strip_Good.calls k a0_1 _ _ l0_2 true _ ?side1 ?side2 A2.out).mono ?_); (case side1 => repeat (first | exact (Kd.C_below HR0_2.out HB.out) | (with_reducible refine Kd.C_alloc ?_ _) | (with_reducible refine Kd.C_drewN ?_ _) | (with_reducible refine Kd.C_drew ?_))); (case side2 => exact HC0_2.out); rintro e w15 ⟨rfl, hb⟩; refine ⟨_, rfl, ?_⟩; have n0_ := Aside0.mk (blk_below (g := gb548) (o := .cells #[.int .i64 a0_0, .string a0_1, .slice A0_2 l0_2.length c0_2, .string a0_3, .slice A0_4 l0_4.length c0_4] 64 (0, 0)) (by (with_reducible repeat (first | refine blk_drewN ?_ _ | refine blk_drew ?_ | refine blk_alloc ?_ _)); exact BK548.out) hb); have n1_ := Aside0.mk (below_step (by repeat (first | (with_reducible first | exact HB.out | apply below_alloc | apply pw_below_drewN | apply below_drew1 | refine below_set ?_ GE548.out) | exact HB.out)) hb); clear BK548; clear HB; have BK548 := n0_; have HB := n1_; clear n0_ n1_; (try clear hb); (try clear hb2); (try clear hk); (try clear hi); have hcz16_0 : w15.cell? ⟨gb548, 0, none⟩ = some (.int .i64 a0_0) := (blk_cell BK548.out 0).trans rfl; have hcz16_1 : w15.cell? ⟨gb548, 1, none⟩ = some (.string a0_1) := (blk_cell BK548.out 1).trans rfl; have hcz16_2 : w15.cell? ⟨gb548, 2, none⟩ = some (.slice A0_2 l0_2.length c0_2) := (blk_cell BK548.out 2).trans rfl; have hcz16_3 : w15.cell? ⟨gb548, 3, none⟩ = some (.string a0_3) := (blk_cell BK548.out 3).trans rfl; have hcz16_4 : w15.cell? ⟨gb548, 4, none⟩ = some (.slice A0_4 l0_4.length c0_4) := (blk_cell BK548.out 4).trans rfl; have hfz16_0 := blk_frozen BK548.out 0; have hfz16_1 := blk_frozen BK548.out 1; have hfz16_2 := blk_frozen BK548.out 2; have hfz16_3 := blk_frozen BK548.out 3; have hfz16_4 := blk_frozen BK548.out 4) | (go_at_call 49; (with_reducible refine (strip_Good.calls k a0_3 _ _ l0_4 true _ ?side1 ?side2 A4.out).mono ?_); (case side1 => repeat (first | exact (Kd.C_below HR0_4.out HB.out) | (with_reducible refine Kd.C_alloc ?_ _) | (with_reducible refine Kd.C_drewN ?_ _) | (with_reducible refine Kd.C_drew ?_))); (case side2 => exact HC0_4.out); rintro e w17 ⟨rfl, hb⟩; have n0_ := Aside0.mk (blk_below (g := gb548) (o := .cells #[.int .i64 a0_0, .string a0_1, .slice A0_2 l0_2.length c0_2, .string a0_3, .slice A0_4 l0_4.length c0_4] 64 (0, 0)) (by (with_reducible repeat (first | refine blk_drewN ?_ _ | refine blk_drew ?_ | refine blk_alloc ?_ _)); exact BK548.out) hb); have n1_ := Aside0.mk (below_step (by repeat (first | (with_reducible first | exact HB.out | apply below_alloc | apply pw_below_drewN | apply below_drew1 | refine below_set ?_ GE548.out) | exact HB.out)) hb); clear BK548; clear HB; have BK548 := n0_; have HB := n1_; clear n0_ n1_; (try clear hb); (try clear hb2); (try clear hk); (try clear hi); have hcz18_0 : w17.cell? ⟨gb548, 0, none⟩ = some (.int .i64 a0_0) := (blk_cell BK548.out 0).trans rfl; have hcz18_1 : w17.cell? ⟨gb548, 1, none⟩ = some (.string a0_1) := (blk_cell BK548.out 1).trans rfl; have hcz18_2 : w17.cell? ⟨gb548, 2, none⟩ = some (.slice A0_2 l0_2.length c0_2) := (blk_cell BK548.out 2).trans rfl; have hcz18_3 : w17.cell? ⟨gb548, 3, none⟩ = some (.string a0_3) := (blk_cell BK548.out 3).trans rfl; have hcz18_4 : w17.cell? ⟨gb548, 4, none⟩ = some (.slice A0_4 l0_4.length c0_4) := (blk_cell BK548.out 4).trans rfl; have hfz18_0 := blk_frozen BK548.out 0; have hfz18_1 := blk_frozen BK548.out 1; have hfz18_2 := blk_frozen BK548.out 2; have hfz18_3 := blk_frozen BK548.out 3; have hfz18_4 := blk_frozen BK548.out 4))
        go_ret
        exact ⟨by first | rfl | (simp [errW_none, errW_some] <;> rfl) | (simp [*, errW_none, errW_some] <;> rfl), by repeat (first | (with_reducible first | exact HB.out | apply below_alloc | apply pw_below_drewN | apply below_drew1 | refine below_set ?_ GE548.out) | exact HB.out)⟩
    · replace c5 := Bool.eq_false_iff.mpr c5
      subst c5
      have H1 : (some false) = some r := by rw [if_neg (show ¬ (false = true) by decide)] at H; exact H
      clear H
      have H := H1
      clear H1
      obtain rfl := Option.some.inj H
      go_enter Try.func99, Try.ntmps99
      go_wp2_with (first | ((with_reducible refine gate_dst (N := 1) rfl ?_); refine box_event ?hg (N := 1) ?hd (cs := #[.int .i64 a0_0, .string a0_1, .slice A0_2 l0_2.length c0_2, .string a0_3, .slice A0_4 l0_4.length c0_4]) (t := 64) ?hr ?_; (case hd => rfl); (case hg => rfl); (case hr => first | (go_simp; done) | (go_simp; rfl)); intro gb548 hg w19 hbox hb; have n0_ := Aside0.mk (below_step (by repeat (first | (with_reducible first | exact HB.out | apply below_alloc | apply pw_below_drewN | apply below_drew1) | exact HB.out)) hb); have n1_ := Aside0.mk (hbox); have n2_ := Aside0.mk ((by rw [hg]; exact (below_size (by repeat (first | (with_reducible first | exact HB.out | apply below_alloc | apply pw_below_drewN | apply below_drew1) | exact HB.out))) : w.heap.size ≤ gb548)); have n3_ := Aside0.mk ((by rw [hg]; exact (below_size (by repeat (first | (with_reducible first | exact HB.out | apply below_alloc | apply pw_below_drewN | apply below_drew1) | exact HB.out))) : w.heap.size ≤ gb548)); clear HB; have HB := n0_; have BK548 := n1_; have GW548 := n2_; have GE548 := n3_; clear n0_ n1_ n2_ n3_; clear hb hbox hg; have hcz20_0 : w19.cell? ⟨gb548, 0, none⟩ = some (.int .i64 a0_0) := (blk_cell BK548.out 0).trans rfl; have hcz20_1 : w19.cell? ⟨gb548, 1, none⟩ = some (.string a0_1) := (blk_cell BK548.out 1).trans rfl; have hcz20_2 : w19.cell? ⟨gb548, 2, none⟩ = some (.slice A0_2 l0_2.length c0_2) := (blk_cell BK548.out 2).trans rfl; have hcz20_3 : w19.cell? ⟨gb548, 3, none⟩ = some (.string a0_3) := (blk_cell BK548.out 3).trans rfl; have hcz20_4 : w19.cell? ⟨gb548, 4, none⟩ = some (.slice A0_4 l0_4.length c0_4) := (blk_cell BK548.out 4).trans rfl; have hfz20_0 := blk_frozen BK548.out 0; have hfz20_1 := blk_frozen BK548.out 1; have hfz20_2 := blk_frozen BK548.out 2; have hfz20_3 := blk_frozen BK548.out 3; have hfz20_4 := blk_frozen BK548.out 4) | ((with_reducible refine gate_callee (f := 49) rfl ?_); refine goesL_ (some 5) rfl rfl Try.func49 (by kernel_rfl) rfl #[.agg #[.string a0_1, .slice A0_2 l0_2.length c0_2]] rfl (by (try simp only [List.map_toArray, List.map_cons, List.map_nil]); first | done | rfl | (simp only [List.length_drop, List.length_take]; rfl)) ?_; (with_reducible refine (strip_Good.calls k a0_1 _ _ l0_2 true _ ?side1 ?side2 A2.out).mono ?_); (case side1 => repeat (first | exact (Kd.C_below HR0_2.out HB.out) | (with_reducible refine Kd.C_alloc ?_ _) | (with_reducible refine Kd.C_drewN ?_ _) | (with_reducible refine Kd.C_drew ?_))); (case side2 => exact HC0_2.out); rintro e w21 ⟨rfl, hb⟩; refine ⟨_, rfl, ?_⟩; have n0_ := Aside0.mk (blk_below (g := gb548) (o := .cells #[.int .i64 a0_0, .string a0_1, .slice A0_2 l0_2.length c0_2, .string a0_3, .slice A0_4 l0_4.length c0_4] 64 (0, 0)) (by (with_reducible repeat (first | refine blk_drewN ?_ _ | refine blk_drew ?_ | refine blk_alloc ?_ _)); exact BK548.out) hb); have n1_ := Aside0.mk (below_step (by repeat (first | (with_reducible first | exact HB.out | apply below_alloc | apply pw_below_drewN | apply below_drew1 | refine below_set ?_ GE548.out) | exact HB.out)) hb); clear BK548; clear HB; have BK548 := n0_; have HB := n1_; clear n0_ n1_; (try clear hb); (try clear hb2); (try clear hk); (try clear hi); have hcz22_0 : w21.cell? ⟨gb548, 0, none⟩ = some (.int .i64 a0_0) := (blk_cell BK548.out 0).trans rfl; have hcz22_1 : w21.cell? ⟨gb548, 1, none⟩ = some (.string a0_1) := (blk_cell BK548.out 1).trans rfl; have hcz22_2 : w21.cell? ⟨gb548, 2, none⟩ = some (.slice A0_2 l0_2.length c0_2) := (blk_cell BK548.out 2).trans rfl; have hcz22_3 : w21.cell? ⟨gb548, 3, none⟩ = some (.string a0_3) := (blk_cell BK548.out 3).trans rfl; have hcz22_4 : w21.cell? ⟨gb548, 4, none⟩ = some (.slice A0_4 l0_4.length c0_4) := (blk_cell BK548.out 4).trans rfl; have hfz22_0 := blk_frozen BK548.out 0; have hfz22_1 := blk_frozen BK548.out 1; have hfz22_2 := blk_frozen BK548.out 2; have hfz22_3 := blk_frozen BK548.out 3; have hfz22_4 := blk_frozen BK548.out 4) | (go_at_call 49; (with_reducible refine (strip_Good.calls k a0_3 _ _ l0_4 false _ ?side1 ?side2 A4.out).mono ?_); (case side1 => repeat (first | exact (Kd.C_below HR0_4.out HB.out) | (with_reducible refine Kd.C_alloc ?_ _) | (with_reducible refine Kd.C_drewN ?_ _) | (with_reducible refine Kd.C_drew ?_))); (case side2 => exact HC0_4.out); rintro e w23 ⟨rfl, hb⟩; have n0_ := Aside0.mk (blk_below (g := gb548) (o := .cells #[.int .i64 a0_0, .string a0_1, .slice A0_2 l0_2.length c0_2, .string a0_3, .slice A0_4 l0_4.length c0_4] 64 (0, 0)) (by (with_reducible repeat (first | refine blk_drewN ?_ _ | refine blk_drew ?_ | refine blk_alloc ?_ _)); exact BK548.out) hb); have n1_ := Aside0.mk (below_step (by repeat (first | (with_reducible first | exact HB.out | apply below_alloc | apply pw_below_drewN | apply below_drew1 | refine below_set ?_ GE548.out) | exact HB.out)) hb); clear BK548; clear HB; have BK548 := n0_; have HB := n1_; clear n0_ n1_; (try clear hb); (try clear hb2); (try clear hk); (try clear hi)))
      go_ret
      exact ⟨by first | rfl | (simp [errW_none, errW_some] <;> rfl) | (simp [*, errW_none, errW_some] <;> rfl), by repeat (first | (with_reducible first | exact HB.out | apply below_alloc | apply pw_below_drewN | apply below_drew1 | refine below_set ?_ GE548.out) | exact HB.out)⟩
  · replace c3 := Bool.eq_false_iff.mpr c3
    subst c3
    have H1 : (some false) = some r := by rw [if_neg (show ¬ (false = true) by decide)] at H; exact H
    clear H
    have H := H1
    clear H1
    obtain rfl := Option.some.inj H
    go_enter Try.func99, Try.ntmps99
    go_wp2_with (first | ((with_reducible refine gate_dst (N := 1) rfl ?_); refine box_event ?hg (N := 1) ?hd (cs := #[.int .i64 a0_0, .string a0_1, .slice A0_2 l0_2.length c0_2, .string a0_3, .slice A0_4 l0_4.length c0_4]) (t := 64) ?hr ?_; (case hd => rfl); (case hg => rfl); (case hr => first | (go_simp; done) | (go_simp; rfl)); intro gb548 hg w24 hbox hb; have n0_ := Aside0.mk (below_step (by repeat (first | (with_reducible first | exact HB.out | apply below_alloc | apply pw_below_drewN | apply below_drew1) | exact HB.out)) hb); have n1_ := Aside0.mk (hbox); have n2_ := Aside0.mk ((by rw [hg]; exact (below_size (by repeat (first | (with_reducible first | exact HB.out | apply below_alloc | apply pw_below_drewN | apply below_drew1) | exact HB.out))) : w.heap.size ≤ gb548)); have n3_ := Aside0.mk ((by rw [hg]; exact (below_size (by repeat (first | (with_reducible first | exact HB.out | apply below_alloc | apply pw_below_drewN | apply below_drew1) | exact HB.out))) : w.heap.size ≤ gb548)); clear HB; have HB := n0_; have BK548 := n1_; have GW548 := n2_; have GE548 := n3_; clear n0_ n1_ n2_ n3_; clear hb hbox hg; have hcz25_0 : w24.cell? ⟨gb548, 0, none⟩ = some (.int .i64 a0_0) := (blk_cell BK548.out 0).trans rfl; have hcz25_1 : w24.cell? ⟨gb548, 1, none⟩ = some (.string a0_1) := (blk_cell BK548.out 1).trans rfl; have hcz25_2 : w24.cell? ⟨gb548, 2, none⟩ = some (.slice A0_2 l0_2.length c0_2) := (blk_cell BK548.out 2).trans rfl; have hcz25_3 : w24.cell? ⟨gb548, 3, none⟩ = some (.string a0_3) := (blk_cell BK548.out 3).trans rfl; have hcz25_4 : w24.cell? ⟨gb548, 4, none⟩ = some (.slice A0_4 l0_4.length c0_4) := (blk_cell BK548.out 4).trans rfl; have hfz25_0 := blk_frozen BK548.out 0; have hfz25_1 := blk_frozen BK548.out 1; have hfz25_2 := blk_frozen BK548.out 2; have hfz25_3 := blk_frozen BK548.out 3; have hfz25_4 := blk_frozen BK548.out 4) | ((with_reducible refine gate_callee (f := 49) rfl ?_); refine goesL_ (some 5) rfl rfl Try.func49 (by kernel_rfl) rfl #[.agg #[.string a0_1, .slice A0_2 l0_2.length c0_2]] rfl (by (try simp only [List.map_toArray, List.map_cons, List.map_nil]); first | done | rfl | (simp only [List.length_drop, List.length_take]; rfl)) ?_; (with_reducible refine (strip_Good.calls k a0_1 _ _ l0_2 false _ ?side1 ?side2 A2.out).mono ?_); (case side1 => repeat (first | exact (Kd.C_below HR0_2.out HB.out) | (with_reducible refine Kd.C_alloc ?_ _) | (with_reducible refine Kd.C_drewN ?_ _) | (with_reducible refine Kd.C_drew ?_))); (case side2 => exact HC0_2.out); rintro e w26 ⟨rfl, hb⟩; refine ⟨_, rfl, ?_⟩; have n0_ := Aside0.mk (blk_below (g := gb548) (o := .cells #[.int .i64 a0_0, .string a0_1, .slice A0_2 l0_2.length c0_2, .string a0_3, .slice A0_4 l0_4.length c0_4] 64 (0, 0)) (by (with_reducible repeat (first | refine blk_drewN ?_ _ | refine blk_drew ?_ | refine blk_alloc ?_ _)); exact BK548.out) hb); have n1_ := Aside0.mk (below_step (by repeat (first | (with_reducible first | exact HB.out | apply below_alloc | apply pw_below_drewN | apply below_drew1 | refine below_set ?_ GE548.out) | exact HB.out)) hb); clear BK548; clear HB; have BK548 := n0_; have HB := n1_; clear n0_ n1_; (try clear hb); (try clear hb2); (try clear hk); (try clear hi)))
    go_ret
    exact ⟨by first | rfl | (simp [errW_none, errW_some] <;> rfl) | (simp [*, errW_none, errW_some] <;> rfl), by repeat (first | (with_reducible first | exact HB.out | apply below_alloc | apply pw_below_drewN | apply below_drew1 | refine below_set ?_ GE548.out) | exact HB.out)⟩
def edit_Follow.j0 : Nat → Int → Bool → Int → ByteArray → List (S100) → ByteArray → List (S100) → Option (Int)
  | 0, _, _, _, _, _, _, _ => none
  | k + 1, x1, x5, x552000, x552001, x552002, x552003, x552004 => if x5 = true then (some x1) else (if x1 ≥ (wrap64 (x552000 + (x552001.size : Int))) then (some (wrap64 ((wrap64 (x1 + (x552003.size : Int))) - (x552001.size : Int)))) else (some (mn x1 (wrap64 (x552000 + (x552003.size : Int))))))
def edit_Follow.f (k : Nat) (a0_0 : Int) (a0_1 : ByteArray) (l0_2 : List (S100)) (a0_3 : ByteArray) (l0_4 : List (S100)) (a1 : Int) : Option (Int) := (edit_good.f k a0_0 a0_1 l0_2 a0_3 l0_4).bind fun t552 => (if t552 = true then (if a1 > 4096 then (edit_Follow.j0 k a1 true a0_0 a0_1 l0_2 a0_3 l0_4) else (edit_Follow.j0 k a1 (decide (a1 ≤ a0_0)) a0_0 a0_1 l0_2 a0_3 l0_4)) else (edit_Follow.j0 k a1 true a0_0 a0_1 l0_2 a0_3 l0_4))
theorem edit_Follow.mono_l : ∀ k, (∀ y0 y1 y2 y3 y4 y5 y6, LeO (edit_Follow.j0 k y0 y1 y2 y3 y4 y5 y6) (edit_Follow.j0 (k + 1) y0 y1 y2 y3 y4 y5 y6))
  | 0 => fun _ _ _ _ _ _ _ r h => by simp [edit_Follow.j0] at h
  | k + 1 => by
    have ih0 := edit_Follow.mono_l k
    · intro y0 y1 y2 y3 y4 y5 y6
      unfold edit_Follow.j0
      repeat' first
      | (with_reducible exact ih0 _ _ _ _ _ _ _)
      | (with_reducible exact edit_good.mono _ _ _ _ _ _)
      | (with_reducible exact LeO.refl _)
      | (with_reducible exact LeO.none _)
      | (with_reducible refine LeO.ite ?_ ?_)
      | (with_reducible refine LeO.bind ?_ (fun _ => ?_))
      | exact ih0 _ _ _ _ _ _ _
      | exact edit_good.mono _ _ _ _ _ _
      | exact LeO.none _
      | refine LeO.ite ?_ ?_
      | refine LeO.bind ?_ (fun _ => ?_)
theorem edit_Follow.mono : ∀ a0 a1 a2 a3 a4 a5 k, LeO (edit_Follow.f k a0 a1 a2 a3 a4 a5) (edit_Follow.f (k + 1) a0 a1 a2 a3 a4 a5) := by
  intro a0 a1 a2 a3 a4 a5 k
  have ih0 := edit_Follow.mono_l k
  unfold edit_Follow.f
  repeat' first
      | (with_reducible exact ih0 _ _ _ _ _ _ _)
      | (with_reducible exact edit_good.mono _ _ _ _ _ _)
      | (with_reducible exact LeO.refl _)
      | (with_reducible exact LeO.none _)
      | (with_reducible refine LeO.ite ?_ ?_)
      | (with_reducible refine LeO.bind ?_ (fun _ => ?_))
      | exact ih0 _ _ _ _ _ _ _
      | exact edit_good.mono _ _ _ _ _ _
      | exact LeO.none _
      | refine LeO.ite ?_ ?_
      | refine LeO.bind ?_ (fun _ => ?_)
set_option maxHeartbeats 8000000 in
set_option maxRecDepth 100000 in
theorem edit_Follow.calls (k : Nat) (a0_0 : Int) (a0_1 : ByteArray) (A0_2 : Option Addr) (c0_2 : Nat) (l0_2 : List (S100)) (a0_3 : ByteArray) (A0_4 : Option Addr) (c0_4 : Nat) (l0_4 : List (S100)) (a1 : Int) (r : Int) (w : World) (hr0_2 : Kd.C k100 w A0_2 l0_2.length l0_2) (hc0_2 : l0_2.length ≤ c0_2) (hr0_4 : Kd.C k100 w A0_4 l0_4.length l0_4) (hc0_4 : l0_4.length ≤ c0_4) (h : edit_Follow.f k a0_0 a0_1 l0_2 a0_3 l0_4 a1 = some r) :
    Calls Try.prog 62 #[.agg #[.int .i64 a0_0, .string a0_1, .slice A0_2 l0_2.length c0_2, .string a0_3, .slice A0_4 l0_4.length c0_4], .int .i64 a1] w fun e w' => e = .returned (.int .i64 r) ∧ Below w.heap.size w w' := by
  have hu64 := Try.underlying64
  have HR0_2 := Aside0.mk hr0_2
  have HC0_2 := Aside0.mk hc0_2
  clear hr0_2 hc0_2
  have HR0_4 := Aside0.mk hr0_4
  have HC0_4 := Aside0.mk hc0_4
  clear hr0_4 hc0_4
  have HB := Aside0.mk (Below.refl w.heap.size w)
  have H : ((edit_good.f k a0_0 a0_1 l0_2 a0_3 l0_4).bind fun t552 => (if t552 = true then (if a1 > 4096 then (edit_Follow.j0 k a1 true a0_0 a0_1 l0_2 a0_3 l0_4) else (edit_Follow.j0 k a1 (decide (a1 ≤ a0_0)) a0_0 a0_1 l0_2 a0_3 l0_4)) else (edit_Follow.j0 k a1 true a0_0 a0_1 l0_2 a0_3 l0_4))) = some r := h
  clear h
  have HC3 := Aside0.mk H
  clear H
  go_enter Try.func62, Try.ntmps62
  go_upto_region 1 with (first | ((with_reducible refine gate_dst (N := 2) rfl ?_); refine box_event ?hg (N := 2) ?hd (cs := #[.int .i64 a0_0, .string a0_1, .slice A0_2 l0_2.length c0_2, .string a0_3, .slice A0_4 l0_4.length c0_4]) (t := 64) ?hr ?_; (case hd => rfl); (case hg => rfl); (case hr => first | (go_simp; done) | (go_simp; rfl)); intro gb551 hg w4 hbox hb; have n0_ := Aside0.mk (below_step (by repeat (first | (with_reducible first | exact HB.out | apply below_alloc | apply pw_below_drewN | apply below_drew1) | exact HB.out)) hb); have n1_ := Aside0.mk (hbox); have n2_ := Aside0.mk ((by rw [hg]; exact (below_size (by repeat (first | (with_reducible first | exact HB.out | apply below_alloc | apply pw_below_drewN | apply below_drew1) | exact HB.out))) : w.heap.size ≤ gb551)); have n3_ := Aside0.mk ((by rw [hg]; exact (below_size (by repeat (first | (with_reducible first | exact HB.out | apply below_alloc | apply pw_below_drewN | apply below_drew1) | exact HB.out))) : w.heap.size ≤ gb551)); clear HB; have HB := n0_; have BK551 := n1_; have GW551 := n2_; have GE551 := n3_; clear n0_ n1_ n2_ n3_; clear hb hbox hg))
  (try simp only [Act.put, List.setIfInBounds_toArray, List.set_cons_zero, List.set_cons_succ])
  go_cut [5] (fun v5 wc => ∃ (kq : Nat) (x5_2 : Bool), v5 = .bool x5_2 ∧ Aside0 (edit_Follow.j0 kq a1 x5_2 a0_0 a0_1 l0_2 a0_3 l0_4 = some r) ∧ Aside0 (kq ≤ k) ∧ Aside0 (wc.heap[gb551]? = some (.cells #[.int .i64 a0_0, .string a0_1, (.slice A0_2 l0_2.length c0_2), .string a0_3, (.slice A0_4 l0_4.length c0_4)] 64 (0, 0))) ∧ Aside0 (Below w.heap.size w wc))
  case first =>
    have H := HC3.out
    clear HC3
    replace H := Option.bind_eq_some_iff.mp H
    obtain ⟨t552, A50, H⟩ := H
    replace H : (if t552 = true then (if a1 > 4096 then (edit_Follow.j0 k a1 true a0_0 a0_1 l0_2 a0_3 l0_4) else (edit_Follow.j0 k a1 (decide (a1 ≤ a0_0)) a0_0 a0_1 l0_2 a0_3 l0_4)) else (edit_Follow.j0 k a1 true a0_0 a0_1 l0_2 a0_3 l0_4)) = some r := H
    have A5 := Aside0.mk A50
    clear A50
    by_cases c6 : t552 = true
    · subst c6
      have H1 : (if a1 > 4096 then (edit_Follow.j0 k a1 true a0_0 a0_1 l0_2 a0_3 l0_4) else (edit_Follow.j0 k a1 (decide (a1 ≤ a0_0)) a0_0 a0_1 l0_2 a0_3 l0_4)) = some r := by rw [if_pos rfl] at H; exact H
      clear H
      have H := H1
      clear H1
      by_cases c7 : a1 > 4096
      · rw [if_pos c7] at H
        have c7b0 : decide (4096 < a1) = true := decide_eq_true c7
        clear c7
        (first | rw [c7b0] | (simp only [i64_w, i32_w]; rw [c7b0]) | skip)
        have H' := Aside0.mk H
        clear H
        have hcz8_0 : w4.cell? ⟨gb551, 0, none⟩ = some (.int .i64 a0_0) := (blk_cell BK551.out 0).trans rfl
        have hcz8_1 : w4.cell? ⟨gb551, 1, none⟩ = some (.string a0_1) := (blk_cell BK551.out 1).trans rfl
        have hcz8_2 : w4.cell? ⟨gb551, 2, none⟩ = some (.slice A0_2 l0_2.length c0_2) := (blk_cell BK551.out 2).trans rfl
        have hcz8_3 : w4.cell? ⟨gb551, 3, none⟩ = some (.string a0_3) := (blk_cell BK551.out 3).trans rfl
        have hcz8_4 : w4.cell? ⟨gb551, 4, none⟩ = some (.slice A0_4 l0_4.length c0_4) := (blk_cell BK551.out 4).trans rfl
        have hfz8_0 := blk_frozen BK551.out 0
        have hfz8_1 := blk_frozen BK551.out 1
        have hfz8_2 := blk_frozen BK551.out 2
        have hfz8_3 := blk_frozen BK551.out 3
        have hfz8_4 := blk_frozen BK551.out 4
        go_wp2_with (first | ((with_reducible refine gate_callee (f := 99) rfl ?_); refine goesL_ (some 7) rfl rfl Try.func99 (by kernel_rfl) rfl #[.agg #[.int .i64 a0_0, .string a0_1, .slice A0_2 l0_2.length c0_2, .string a0_3, .slice A0_4 l0_4.length c0_4]] rfl (by (try simp only [List.map_toArray, List.map_cons, List.map_nil]); first | done | rfl | (simp only [List.length_drop, List.length_take]; rfl)) ?_; (with_reducible refine (edit_good.calls k a0_0 a0_1 _ _ l0_2 a0_3 _ _ l0_4 true _ ?side1 ?side2 ?side3 ?side4 A5.out).mono ?_); (case side1 => repeat (first | exact (Kd.C_below HR0_2.out HB.out) | (with_reducible refine Kd.C_alloc ?_ _) | (with_reducible refine Kd.C_drewN ?_ _) | (with_reducible refine Kd.C_drew ?_))); (case side2 => exact HC0_2.out); (case side3 => repeat (first | exact (Kd.C_below HR0_4.out HB.out) | (with_reducible refine Kd.C_alloc ?_ _) | (with_reducible refine Kd.C_drewN ?_ _) | (with_reducible refine Kd.C_drew ?_))); (case side4 => exact HC0_4.out); rintro e w9 ⟨rfl, hb⟩; refine ⟨_, rfl, ?_⟩; have n0_ := Aside0.mk (blk_below (g := gb551) (o := .cells #[.int .i64 a0_0, .string a0_1, .slice A0_2 l0_2.length c0_2, .string a0_3, .slice A0_4 l0_4.length c0_4] 64 (0, 0)) (by (with_reducible repeat (first | refine blk_drewN ?_ _ | refine blk_drew ?_ | refine blk_alloc ?_ _)); exact BK551.out) hb); have n1_ := Aside0.mk (below_step (by repeat (first | (with_reducible first | exact HB.out | apply below_alloc | apply pw_below_drewN | apply below_drew1 | refine below_set ?_ GE551.out) | exact HB.out)) hb); clear BK551; clear HB; have BK551 := n0_; have HB := n1_; clear n0_ n1_; (try clear hb); (try clear hb2); (try clear hk); (try clear hi)))
        go_meet
        case rel => exact ⟨_, (true), (by first | rfl | (simp; done) | (simp [*]; done)), H', ⟨by first | omega | exact Nat.le_refl _⟩, ⟨by (with_reducible repeat (first | refine blk_drewN ?_ _ | refine blk_drew ?_ | refine blk_alloc ?_ _)); exact BK551.out⟩, ⟨by repeat (first | (with_reducible first | exact HB.out | apply below_alloc | apply pw_below_drewN | apply below_drew1 | refine below_set ?_ GE551.out) | exact HB.out)⟩⟩
      · rw [if_neg c7] at H
        have c7b0 : decide (4096 < a1) = false := decide_eq_false c7
        clear c7
        (first | rw [c7b0] | (simp only [i64_w, i32_w]; rw [c7b0]) | skip)
        have H' := Aside0.mk H
        clear H
        have hcz10_0 : w4.cell? ⟨gb551, 0, none⟩ = some (.int .i64 a0_0) := (blk_cell BK551.out 0).trans rfl
        have hcz10_1 : w4.cell? ⟨gb551, 1, none⟩ = some (.string a0_1) := (blk_cell BK551.out 1).trans rfl
        have hcz10_2 : w4.cell? ⟨gb551, 2, none⟩ = some (.slice A0_2 l0_2.length c0_2) := (blk_cell BK551.out 2).trans rfl
        have hcz10_3 : w4.cell? ⟨gb551, 3, none⟩ = some (.string a0_3) := (blk_cell BK551.out 3).trans rfl
        have hcz10_4 : w4.cell? ⟨gb551, 4, none⟩ = some (.slice A0_4 l0_4.length c0_4) := (blk_cell BK551.out 4).trans rfl
        have hfz10_0 := blk_frozen BK551.out 0
        have hfz10_1 := blk_frozen BK551.out 1
        have hfz10_2 := blk_frozen BK551.out 2
        have hfz10_3 := blk_frozen BK551.out 3
        have hfz10_4 := blk_frozen BK551.out 4
        go_wp2_with (first | ((with_reducible refine gate_callee (f := 99) rfl ?_); refine goesL_ (some 7) rfl rfl Try.func99 (by kernel_rfl) rfl #[.agg #[.int .i64 a0_0, .string a0_1, .slice A0_2 l0_2.length c0_2, .string a0_3, .slice A0_4 l0_4.length c0_4]] rfl (by (try simp only [List.map_toArray, List.map_cons, List.map_nil]); first | done | rfl | (simp only [List.length_drop, List.length_take]; rfl)) ?_; (with_reducible refine (edit_good.calls k a0_0 a0_1 _ _ l0_2 a0_3 _ _ l0_4 true _ ?side1 ?side2 ?side3 ?side4 A5.out).mono ?_); (case side1 => repeat (first | exact (Kd.C_below HR0_2.out HB.out) | (with_reducible refine Kd.C_alloc ?_ _) | (with_reducible refine Kd.C_drewN ?_ _) | (with_reducible refine Kd.C_drew ?_))); (case side2 => exact HC0_2.out); (case side3 => repeat (first | exact (Kd.C_below HR0_4.out HB.out) | (with_reducible refine Kd.C_alloc ?_ _) | (with_reducible refine Kd.C_drewN ?_ _) | (with_reducible refine Kd.C_drew ?_))); (case side4 => exact HC0_4.out); rintro e w11 ⟨rfl, hb⟩; refine ⟨_, rfl, ?_⟩; have n0_ := Aside0.mk (blk_below (g := gb551) (o := .cells #[.int .i64 a0_0, .string a0_1, .slice A0_2 l0_2.length c0_2, .string a0_3, .slice A0_4 l0_4.length c0_4] 64 (0, 0)) (by (with_reducible repeat (first | refine blk_drewN ?_ _ | refine blk_drew ?_ | refine blk_alloc ?_ _)); exact BK551.out) hb); have n1_ := Aside0.mk (below_step (by repeat (first | (with_reducible first | exact HB.out | apply below_alloc | apply pw_below_drewN | apply below_drew1 | refine below_set ?_ GE551.out) | exact HB.out)) hb); clear BK551; clear HB; have BK551 := n0_; have HB := n1_; clear n0_ n1_; (try clear hb); (try clear hb2); (try clear hk); (try clear hi); have hcz12_0 : w11.cell? ⟨gb551, 0, none⟩ = some (.int .i64 a0_0) := (blk_cell BK551.out 0).trans rfl; have hcz12_1 : w11.cell? ⟨gb551, 1, none⟩ = some (.string a0_1) := (blk_cell BK551.out 1).trans rfl; have hcz12_2 : w11.cell? ⟨gb551, 2, none⟩ = some (.slice A0_2 l0_2.length c0_2) := (blk_cell BK551.out 2).trans rfl; have hcz12_3 : w11.cell? ⟨gb551, 3, none⟩ = some (.string a0_3) := (blk_cell BK551.out 3).trans rfl; have hcz12_4 : w11.cell? ⟨gb551, 4, none⟩ = some (.slice A0_4 l0_4.length c0_4) := (blk_cell BK551.out 4).trans rfl; have hfz12_0 := blk_frozen BK551.out 0; have hfz12_1 := blk_frozen BK551.out 1; have hfz12_2 := blk_frozen BK551.out 2; have hfz12_3 := blk_frozen BK551.out 3; have hfz12_4 := blk_frozen BK551.out 4))
        go_meet
        case rel => exact ⟨_, (decide (a1 ≤ a0_0)), (by first | rfl | (simp; done) | (simp [*]; done)), H', ⟨by first | omega | exact Nat.le_refl _⟩, ⟨by (with_reducible repeat (first | refine blk_drewN ?_ _ | refine blk_drew ?_ | refine blk_alloc ?_ _)); exact BK551.out⟩, ⟨by repeat (first | (with_reducible first | exact HB.out | apply below_alloc | apply pw_below_drewN | apply below_drew1 | refine below_set ?_ GE551.out) | exact HB.out)⟩⟩
    · replace c6 := Bool.eq_false_iff.mpr c6
      subst c6
      have H1 : (edit_Follow.j0 k a1 true a0_0 a0_1 l0_2 a0_3 l0_4) = some r := by rw [if_neg (show ¬ (false = true) by decide)] at H; exact H
      clear H
      have H := H1
      clear H1
      have H' := Aside0.mk H
      clear H
      have hcz13_0 : w4.cell? ⟨gb551, 0, none⟩ = some (.int .i64 a0_0) := (blk_cell BK551.out 0).trans rfl
      have hcz13_1 : w4.cell? ⟨gb551, 1, none⟩ = some (.string a0_1) := (blk_cell BK551.out 1).trans rfl
      have hcz13_2 : w4.cell? ⟨gb551, 2, none⟩ = some (.slice A0_2 l0_2.length c0_2) := (blk_cell BK551.out 2).trans rfl
      have hcz13_3 : w4.cell? ⟨gb551, 3, none⟩ = some (.string a0_3) := (blk_cell BK551.out 3).trans rfl
      have hcz13_4 : w4.cell? ⟨gb551, 4, none⟩ = some (.slice A0_4 l0_4.length c0_4) := (blk_cell BK551.out 4).trans rfl
      have hfz13_0 := blk_frozen BK551.out 0
      have hfz13_1 := blk_frozen BK551.out 1
      have hfz13_2 := blk_frozen BK551.out 2
      have hfz13_3 := blk_frozen BK551.out 3
      have hfz13_4 := blk_frozen BK551.out 4
      go_wp2_with (first | ((with_reducible refine gate_callee (f := 99) rfl ?_); refine goesL_ (some 7) rfl rfl Try.func99 (by kernel_rfl) rfl #[.agg #[.int .i64 a0_0, .string a0_1, .slice A0_2 l0_2.length c0_2, .string a0_3, .slice A0_4 l0_4.length c0_4]] rfl (by (try simp only [List.map_toArray, List.map_cons, List.map_nil]); first | done | rfl | (simp only [List.length_drop, List.length_take]; rfl)) ?_; (with_reducible refine (edit_good.calls k a0_0 a0_1 _ _ l0_2 a0_3 _ _ l0_4 false _ ?side1 ?side2 ?side3 ?side4 A5.out).mono ?_); (case side1 => repeat (first | exact (Kd.C_below HR0_2.out HB.out) | (with_reducible refine Kd.C_alloc ?_ _) | (with_reducible refine Kd.C_drewN ?_ _) | (with_reducible refine Kd.C_drew ?_))); (case side2 => exact HC0_2.out); (case side3 => repeat (first | exact (Kd.C_below HR0_4.out HB.out) | (with_reducible refine Kd.C_alloc ?_ _) | (with_reducible refine Kd.C_drewN ?_ _) | (with_reducible refine Kd.C_drew ?_))); (case side4 => exact HC0_4.out); rintro e w14 ⟨rfl, hb⟩; refine ⟨_, rfl, ?_⟩; have n0_ := Aside0.mk (blk_below (g := gb551) (o := .cells #[.int .i64 a0_0, .string a0_1, .slice A0_2 l0_2.length c0_2, .string a0_3, .slice A0_4 l0_4.length c0_4] 64 (0, 0)) (by (with_reducible repeat (first | refine blk_drewN ?_ _ | refine blk_drew ?_ | refine blk_alloc ?_ _)); exact BK551.out) hb); have n1_ := Aside0.mk (below_step (by repeat (first | (with_reducible first | exact HB.out | apply below_alloc | apply pw_below_drewN | apply below_drew1 | refine below_set ?_ GE551.out) | exact HB.out)) hb); clear BK551; clear HB; have BK551 := n0_; have HB := n1_; clear n0_ n1_; (try clear hb); (try clear hb2); (try clear hk); (try clear hi)))
      go_meet
      case rel => exact ⟨_, (true), (by first | rfl | (simp; done) | (simp [*]; done)), H', ⟨by first | omega | exact Nat.le_refl _⟩, ⟨by (with_reducible repeat (first | refine blk_drewN ?_ _ | refine blk_drew ?_ | refine blk_alloc ?_ _)); exact BK551.out⟩, ⟨by repeat (first | (with_reducible first | exact HB.out | apply below_alloc | apply pw_below_drewN | apply below_drew1 | refine below_set ?_ GE551.out) | exact HB.out)⟩⟩
  case rest =>
    clear HC3
    try clear p2
    try clear c6
    try clear c7
    try clear c7b0
    try clear c9
    try clear hcz10_0
    try clear hcz10_1
    try clear hcz10_2
    try clear hcz10_3
    try clear hcz10_4
    try clear hcz12_0
    try clear hcz12_1
    try clear hcz12_2
    try clear hcz12_3
    try clear hcz12_4
    try clear hcz13_0
    try clear hcz13_1
    try clear hcz13_2
    try clear hcz13_3
    try clear hcz13_4
    try clear hcz8_0
    try clear hcz8_1
    try clear hcz8_2
    try clear hcz8_3
    try clear hcz8_4
    try clear hfz10_0
    try clear hfz10_1
    try clear hfz10_2
    try clear hfz10_3
    try clear hfz10_4
    try clear hfz12_0
    try clear hfz12_1
    try clear hfz12_2
    try clear hfz12_3
    try clear hfz12_4
    try clear hfz13_0
    try clear hfz13_1
    try clear hfz13_2
    try clear hfz13_3
    try clear hfz13_4
    try clear hfz8_0
    try clear hfz8_1
    try clear hfz8_2
    try clear hfz8_3
    try clear hfz8_4
    obtain ⟨kq, x5_2, rfl, HA, HJ2, BK551, HB⟩ := hcut
    cases kq with
    | zero => exact absurd HA.out (by simp [edit_Follow.j0])
    | succ kj2 =>
      have H := HA.out
      clear HA
      simp only [edit_Follow.j0] at H
      by_cases c15 : x5_2 = true
      · subst c15
        have H1 : (some a1) = some r := by rw [if_pos rfl] at H; exact H
        clear H
        have H := H1
        clear H1
        obtain rfl := Option.some.inj H
        go_wp2
        go_ret
        exact ⟨by first | rfl | (simp [errW_none, errW_some] <;> rfl) | (simp [*, errW_none, errW_some] <;> rfl), by repeat (first | (with_reducible first | exact HB.out | apply below_alloc | apply pw_below_drewN | apply below_drew1 | refine below_set ?_ GE551.out) | exact HB.out)⟩
      · replace c15 := Bool.eq_false_iff.mpr c15
        subst c15
        have H1 : (if a1 ≥ (wrap64 (a0_0 + (a0_1.size : Int))) then (some (wrap64 ((wrap64 (a1 + (a0_3.size : Int))) - (a0_1.size : Int)))) else (some (mn a1 (wrap64 (a0_0 + (a0_3.size : Int)))))) = some r := by rw [if_neg (show ¬ (false = true) by decide)] at H; exact H
        clear H
        have H := H1
        clear H1
        by_cases c16 : a1 ≥ (wrap64 (a0_0 + (a0_1.size : Int)))
        · rw [if_pos c16] at H
          have c16b0 : decide ((wrap64 (a0_0 + (a0_1.size : Int))) ≤ a1) = true := decide_eq_true c16
          clear c16
          obtain rfl := Option.some.inj H
          have hcz17_0 : wc.cell? ⟨gb551, 0, none⟩ = some (.int .i64 a0_0) := (blk_cell BK551.out 0).trans rfl
          have hcz17_1 : wc.cell? ⟨gb551, 1, none⟩ = some (.string a0_1) := (blk_cell BK551.out 1).trans rfl
          have hcz17_2 : wc.cell? ⟨gb551, 2, none⟩ = some (.slice A0_2 l0_2.length c0_2) := (blk_cell BK551.out 2).trans rfl
          have hcz17_3 : wc.cell? ⟨gb551, 3, none⟩ = some (.string a0_3) := (blk_cell BK551.out 3).trans rfl
          have hcz17_4 : wc.cell? ⟨gb551, 4, none⟩ = some (.slice A0_4 l0_4.length c0_4) := (blk_cell BK551.out 4).trans rfl
          have hfz17_0 := blk_frozen BK551.out 0
          have hfz17_1 := blk_frozen BK551.out 1
          have hfz17_2 := blk_frozen BK551.out 2
          have hfz17_3 := blk_frozen BK551.out 3
          have hfz17_4 := blk_frozen BK551.out 4
          go_wp2
          go_ret
          exact ⟨by first | rfl | (simp [errW_none, errW_some] <;> rfl) | (simp [*, errW_none, errW_some] <;> rfl), by repeat (first | (with_reducible first | exact HB.out | apply below_alloc | apply pw_below_drewN | apply below_drew1 | refine below_set ?_ GE551.out) | exact HB.out)⟩
        · rw [if_neg c16] at H
          have c16b0 : decide ((wrap64 (a0_0 + (a0_1.size : Int))) ≤ a1) = false := decide_eq_false c16
          clear c16
          obtain ⟨ji18, hji18⟩ : ∃ j_ : Int, (mn a1 (wrap64 (a0_0 + (a0_3.size : Int)))) = j_ := ⟨_, rfl⟩
          replace H : (some ji18) = some r := by first | (rw [hji18] at H; exact H) | (simp only [hji18] at H ⊢; exact H)
          have hji18_ : (if (wrap64 (a0_0 + (a0_3.size : Int))) < a1 then (wrap64 (a0_0 + (a0_3.size : Int))) else a1) = ji18 := hji18
          obtain rfl := Option.some.inj H
          have hcz19_0 : wc.cell? ⟨gb551, 0, none⟩ = some (.int .i64 a0_0) := (blk_cell BK551.out 0).trans rfl
          have hcz19_1 : wc.cell? ⟨gb551, 1, none⟩ = some (.string a0_1) := (blk_cell BK551.out 1).trans rfl
          have hcz19_2 : wc.cell? ⟨gb551, 2, none⟩ = some (.slice A0_2 l0_2.length c0_2) := (blk_cell BK551.out 2).trans rfl
          have hcz19_3 : wc.cell? ⟨gb551, 3, none⟩ = some (.string a0_3) := (blk_cell BK551.out 3).trans rfl
          have hcz19_4 : wc.cell? ⟨gb551, 4, none⟩ = some (.slice A0_4 l0_4.length c0_4) := (blk_cell BK551.out 4).trans rfl
          have hfz19_0 := blk_frozen BK551.out 0
          have hfz19_1 := blk_frozen BK551.out 1
          have hfz19_2 := blk_frozen BK551.out 2
          have hfz19_3 := blk_frozen BK551.out 3
          have hfz19_4 := blk_frozen BK551.out 4
          go_wp2
          go_ret
          exact ⟨by first | rfl | (simp [errW_none, errW_some] <;> rfl) | (simp only [← hji18]; first | rfl | (simp [errW_none, errW_some] <;> rfl)) | (simp [*, errW_none, errW_some] <;> rfl), by repeat (first | (with_reducible first | exact HB.out | apply below_alloc | apply pw_below_drewN | apply below_drew1 | refine below_set ?_ GE551.out) | exact HB.out)⟩
end Go.Proofs.Ythpjagblnddjaaa.PB
end
