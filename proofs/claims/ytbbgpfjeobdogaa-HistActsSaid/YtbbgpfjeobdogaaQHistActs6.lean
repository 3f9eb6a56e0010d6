/- The row of a law out of its contract and its pure theorem. No condition. -/
import Derived.Test.YtbbgpfjeobdogaaRows
import Derived.ProofKit
import Derived.ShutString
import Derived.ChangeOld
import Derived.Carry
import Derived.Test.YtbbgpfjeobdogaaQHistActs5
section
namespace Go.Proofs.Ytbbgpfjeobdogaa.PB
open Go.RowKit Go.Maps Go.Proofs.YtbbgpfjeobdogaaW.PrintWords Go.Proofs.YtbbgpfjeobdogaaW.PrintLast Go.Proofs.YtbbgpfjeobdogaaW.PrintMore
set_option maxRecDepth 100000
set_option linter.unusedVariables false
set_option linter.unusedSimpArgs false
theorem set4 {g : Nat} {w0 w : World} (h : Below w0.heap.size w0 w) (hg : w0.heap.size ≤ g) (v0 v1 v2 v3 : Value) : Below w0.heap.size w0 ((((w.setCell ⟨g, 0, none⟩ v0).setCell ⟨g, 1, none⟩ v1).setCell ⟨g, 2, none⟩ v2).setCell ⟨g, 3, none⟩ v3) := (below_set (below_set (below_set (below_set h hg) hg) hg) hg)
theorem blks4 {g t : Nat} {w : World} {u0 u1 u2 u3 : Value} (h : w.heap[g]? = some (.cells #[u0, u1, u2, u3] t (0, 0))) (v0 v1 v2 v3 : Value) : ((((w.setCell ⟨g, 0, none⟩ v0).setCell ⟨g, 1, none⟩ v1).setCell ⟨g, 2, none⟩ v2).setCell ⟨g, 3, none⟩ v3).heap[g]? = some (.cells #[v0, v1, v2, v3] t (0, 0)) := (bU (cs' := #[v0, v1, v2, v3]) (bU (cs' := #[v0, v1, v2, u3]) (bU (cs' := #[v0, v1, u2, u3]) (bU (cs' := #[v0, u1, u2, u3]) h 0 v0 rfl) 1 v1 rfl) 2 v2 rfl) 3 v3 rfl)
theorem fars4 {g b t : Nat} {cs : Array Value} {w : World} (h : w.heap[b]? = some (.cells cs t (0, 0))) (hne : b ≠ g) (v0 v1 v2 v3 : Value) : ((((w.setCell ⟨g, 0, none⟩ v0).setCell ⟨g, 1, none⟩ v1).setCell ⟨g, 2, none⟩ v2).setCell ⟨g, 3, none⟩ v3).heap[b]? = some (.cells cs t (0, 0)) := (bR (bR (bR (bR h hne _) hne _) hne _) hne _)
theorem blks5 {g t : Nat} {w : World} {u0 u1 u2 u3 u4 : Value} (h : w.heap[g]? = some (.cells #[u0, u1, u2, u3, u4] t (0, 0))) (v0 v1 v2 v3 v4 : Value) : (((((w.setCell ⟨g, 0, none⟩ v0).setCell ⟨g, 1, none⟩ v1).setCell ⟨g, 2, none⟩ v2).setCell ⟨g, 3, none⟩ v3).setCell ⟨g, 4, none⟩ v4).heap[g]? = some (.cells #[v0, v1, v2, v3, v4] t (0, 0)) := (bU (cs' := #[v0, v1, v2, v3, v4]) (bU (cs' := #[v0, v1, v2, v3, u4]) (bU (cs' := #[v0, v1, v2, u3, u4]) (bU (cs' := #[v0, v1, u2, u3, u4]) (bU (cs' := #[v0, u1, u2, u3, u4]) h 0 v0 rfl) 1 v1 rfl) 2 v2 rfl) 3 v3 rfl) 4 v4 rfl)
theorem fars5 {g b t : Nat} {cs : Array Value} {w : World} (h : w.heap[b]? = some (.cells cs t (0, 0))) (hne : b ≠ g) (v0 v1 v2 v3 v4 : Value) : (((((w.setCell ⟨g, 0, none⟩ v0).setCell ⟨g, 1, none⟩ v1).setCell ⟨g, 2, none⟩ v2).setCell ⟨g, 3, none⟩ v3).setCell ⟨g, 4, none⟩ v4).heap[b]? = some (.cells cs t (0, 0)) := (bR (bR (bR (bR (bR h hne _) hne _) hne _) hne _) hne _)
theorem set7 {g : Nat} {w0 w : World} (h : Below w0.heap.size w0 w) (hg : w0.heap.size ≤ g) (v0 v1 v2 v3 v4 v5 v6 : Value) : Below w0.heap.size w0 (((((((w.setCell ⟨g, 0, none⟩ v0).setCell ⟨g, 1, none⟩ v1).setCell ⟨g, 2, none⟩ v2).setCell ⟨g, 3, none⟩ v3).setCell ⟨g, 4, none⟩ v4).setCell ⟨g, 5, none⟩ v5).setCell ⟨g, 6, none⟩ v6) := (below_set (below_set (below_set (below_set (below_set (below_set (below_set h hg) hg) hg) hg) hg) hg) hg)
theorem blks7 {g t : Nat} {w : World} {u0 u1 u2 u3 u4 u5 u6 : Value} (h : w.heap[g]? = some (.cells #[u0, u1, u2, u3, u4, u5, u6] t (0, 0))) (v0 v1 v2 v3 v4 v5 v6 : Value) : (((((((w.setCell ⟨g, 0, none⟩ v0).setCell ⟨g, 1, none⟩ v1).setCell ⟨g, 2, none⟩ v2).setCell ⟨g, 3, none⟩ v3).setCell ⟨g, 4, none⟩ v4).setCell ⟨g, 5, none⟩ v5).setCell ⟨g, 6, none⟩ v6).heap[g]? = some (.cells #[v0, v1, v2, v3, v4, v5, v6] t (0, 0)) := (bU (cs' := #[v0, v1, v2, v3, v4, v5, v6]) (bU (cs' := #[v0, v1, v2, v3, v4, v5, u6]) (bU (cs' := #[v0, v1, v2, v3, v4, u5, u6]) (bU (cs' := #[v0, v1, v2, v3, u4, u5, u6]) (bU (cs' := #[v0, v1, v2, u3, u4, u5, u6]) (bU (cs' := #[v0, v1, u2, u3, u4, u5, u6]) (bU (cs' := #[v0, u1, u2, u3, u4, u5, u6]) h 0 v0 rfl) 1 v1 rfl) 2 v2 rfl) 3 v3 rfl) 4 v4 rfl) 5 v5 rfl) 6 v6 rfl)
theorem okQ_new {g bm g6 N k : Nat} (h1 : g < N) (h2 : bm < N) (h3 : g6 < N) (hk : N ≤ k) : okQ g bm g6 k := fun e => by rcases e with rfl | rfl | rfl <;> omega
theorem turn4 (g6 : Nat) (w : World) (v0 v1 v2 v3 : Value) : Turn 0 (fun k => k = g6) w ((((w.setCell ⟨g6, 0, none⟩ v0).setCell ⟨g6, 1, none⟩ v1).setCell ⟨g6, 2, none⟩ v2).setCell ⟨g6, 3, none⟩ v3) :=
  ((((Turn.refl 0 (fun k => k = g6) w).set (p := ⟨g6, 0, none⟩) (.inl rfl) (Nat.zero_le _) v0).set (p := ⟨g6, 1, none⟩) (.inl rfl) (Nat.zero_le _) v1).set (p := ⟨g6, 2, none⟩) (.inl rfl) (Nat.zero_le _) v2).set (p := ⟨g6, 3, none⟩) (.inl rfl) (Nat.zero_le _) v3
theorem Aq.mk4 {g bm g6 : Nat} {w W : World} {s : Hs} {depth : Int} {A : Option Addr} {c : Nat} {u0 u1 u2 u3 : Value} (hh : HistAt w.heap.size (s6 g bm g6) g bm W s.L s.now s.next depth) (hi : Inv s.L s.now s.next depth) (hx : W.heap[g6]? = some (.cells #[u0, u1, u2, u3] 28 (0, 0))) (hl : Kd.V kL 76 W 0 (okQ g bm g6) (.slice A s.L.length c) s.L) (hb : Below w.heap.size w W) (hg : w.heap.size ≤ g6) (hn : g6 ≠ g ∧ g6 ≠ bm) :
    Aq g bm g6 w s depth A c ((((W.setCell ⟨g6, 0, none⟩ (.slice A s.L.length c)).setCell ⟨g6, 1, none⟩ (.int .i64 s.now)).setCell ⟨g6, 2, none⟩ (.int .i64 s.next)).setCell ⟨g6, 3, none⟩ (.int .i64 depth)) :=
  ⟨hh.turn (turn4 g6 W _ _ _ _) (fun e => hn.1 e.symm) (fun e => hn.2 e.symm) (fun k hk => .inr (.inr hk)), hi, blks4 hx _ _ _ _, Kd.V_map hl (fun _ hf => (turn4 g6 W _ _ _ _).f hf (fun k hk e => hk (.inr (.inr e)))), set4 hb hg _ _ _ _⟩
set_option maxHeartbeats 32000000 in
theorem bureaulaw08_HistActs.calls (k : Nat) (depth : Int) (A1 : Option Addr) (c1 : Nat) (l : List Ac) (r : Bool) (w : World) (hr1 : Kd.C k36 w A1 l.length l) (hc1 : l.length ≤ c1) (h : bureaulaw08_HistActs.f k depth l = some r) :
    Calls Try.prog 3 #[.int .i64 depth, .slice A1 l.length c1] w fun e w' => e = .returned (.bool r) ∧ Below w.heap.size w w' := by
  unfold bureaulaw08_HistActs.f at h
  by_cases hok : ∀ x ∈ l, 0 ≤ x.f0 ∧ x.f0 < 256
  case neg => rw [if_neg hok] at h; cases h
  rw [if_pos hok] at h
  obtain rfl : true = r := Option.some.inj h
  clear h
  have hu36 := Try.underlying36
  have hu34 := Try.underlying34
  have hu28 := Try.underlying28
  have HR1 := aM hr1
  have HC1 := aM hc1
  have HOK := aM hok
  clear hr1 hc1 hok
  by_cases hd : 1 ≤ depth ∧ depth ≤ 64
  case neg =>
    by_cases hd1 : depth < 1
    · have d1 : decide (depth ≥ 1) = false := decide_eq_false (by omega)
      have d2 : decide (1 ≤ depth) = false := decide_eq_false (by omega)
      go_enter Try.func3, Try.ntmps3
      go_wp2_with (first
        | ((with_reducible refine gate_callee (f := 8) rfl ?_); refine goesL_ (some 25) rfl rfl Try.func8 (by kernel_rfl) rfl #[] rfl (by (try simp only [List.map_toArray, List.map_cons, List.map_nil]); first | done | rfl) ?_; (with_reducible refine (bureaulaw08_alive.calls true _ rfl).mono ?_); rintro r1 w1 ⟨rfl, hb⟩; refine ⟨_, rfl, ?_⟩; have HB1 := aM hb; clear hb)
        | ((with_reducible refine gate_callee (f := 9) rfl ?_); refine goesL_ (some 28) rfl rfl Try.func9 (by kernel_rfl) rfl #[.int .i64 depth] rfl (by (try simp only [List.map_toArray, List.map_cons, List.map_nil]); first | done | rfl) ?_; (with_reducible refine (new_no depth hd _).mono ?_); rintro r2 w2 ⟨rfl, hw⟩; refine ⟨_, rfl, ?_⟩; subst hw)
        )
      go_ret
      exact ⟨rfl, HB1.out⟩
    · have d1 : decide (depth ≥ 1) = true := decide_eq_true (by omega)
      have d2 : decide (1 ≤ depth) = true := decide_eq_true (by omega)
      have d3 : decide (depth ≤ 64) = false := decide_eq_false (by omega)
      go_enter Try.func3, Try.ntmps3
      go_wp2_with (first
        | ((with_reducible refine gate_callee (f := 8) rfl ?_); refine goesL_ (some 25) rfl rfl Try.func8 (by kernel_rfl) rfl #[] rfl (by (try simp only [List.map_toArray, List.map_cons, List.map_nil]); first | done | rfl) ?_; (with_reducible refine (bureaulaw08_alive.calls true _ rfl).mono ?_); rintro r1 w1 ⟨rfl, hb⟩; refine ⟨_, rfl, ?_⟩; have HB1 := aM hb; clear hb)
        | ((with_reducible refine gate_callee (f := 9) rfl ?_); refine goesL_ (some 28) rfl rfl Try.func9 (by kernel_rfl) rfl #[.int .i64 depth] rfl (by (try simp only [List.map_toArray, List.map_cons, List.map_nil]); first | done | rfl) ?_; (with_reducible refine (new_no depth hd _).mono ?_); rintro r2 w2 ⟨rfl, hw⟩; refine ⟨_, rfl, ?_⟩; subst hw)
        )
      go_ret
      exact ⟨rfl, HB1.out⟩
  case pos =>
  have HD := aM hd
  have d1 : decide (depth ≥ 1) = true := decide_eq_true hd.1
  have d2 : decide (1 ≤ depth) = true := decide_eq_true hd.1
  have d3 : decide (depth ≤ 64) = true := decide_eq_true hd.2
  clear hd
  go_enter Try.func3, Try.ntmps3
  go_wp2_with (first
    | ((with_reducible refine gate_callee (f := 8) rfl ?_); refine goesL_ (some 25) rfl rfl Try.func8 (by kernel_rfl) rfl #[] rfl (by (try simp only [List.map_toArray, List.map_cons, List.map_nil]); first | done | rfl) ?_; (with_reducible refine (bureaulaw08_alive.calls true _ rfl).mono ?_); rintro r1 w1 ⟨rfl, hb⟩; refine ⟨_, rfl, ?_⟩; have HB1 := aM hb; clear hb)
    | ((with_reducible refine gate_callee (f := 9) rfl ?_); refine goesL_ (some 28) rfl rfl Try.func9 (by kernel_rfl) rfl #[.int .i64 depth] rfl (by (try simp only [List.map_toArray, List.map_cons, List.map_nil]); first | done | rfl) ?_; (with_reducible refine (new_ok depth HD.out.1 HD.out.2 _).mono ?_); rintro r2 w2 ⟨g, bm, rfl, hh, hb⟩; refine ⟨_, rfl, ?_⟩; have HH2 := aM (show HistAt w.heap.size (fun k => k = g ∨ k = bm) g bm w2 [st0] 0 1 depth from hh.lower HB1.out.size); have HB2 := aM (HB1.out.trans (hb.mono HB1.out.size)); clear hh hb)
    | ((with_reducible refine gate_callee (f := 10) rfl ?_); refine goesL_ (some 41) rfl rfl Try.func10 (by kernel_rfl) rfl #[.int .i64 depth] rfl (by (try simp only [List.map_toArray, List.map_cons, List.map_nil]); first | done | rfl) ?_; (with_reducible refine (bureauref08_New.calls depth [st0] 0 1 depth _ rfl).mono ?_); rintro r3 w3 ⟨v3, rfl, hS, hb⟩; obtain ⟨A0, c0, e0⟩ := Kd.R_slice (Kd.S_R hS); subst e0; refine ⟨_, rfl, ?_⟩; have HL3 := aM (show Kd.V kL 76 w3 0 (fun k => w2.heap.size ≤ k) (.slice A0 [st0].length c0) [st0] from Kd.V_mono (Kd.S_V (Kd.S_bound hS)) (fun k hk => hk.2.1)); have HH3 := aM (HH2.out.below hb); have HB3 := aM (HB2.out.trans (hb.mono HB2.out.size)); have HD3 := aM hb; clear hS hb)
    | ((with_reducible refine gate_dst (N := 6) rfl ?_); refine box_event ?hg (N := 6) ?hd (cs := #[.slice none 0 0, .int .i64 0, .int .i64 0, .int .i64 0]) (t := 28) ?hr ?_; (case hd => rfl); (case hg => rfl); (case hr => first | (go_simp; done) | (go_simp; rfl)); intro g6 hg w4 hbox hb; have HD4 := aM hb; have HX4 := aM hbox; have GE4 := aM (Nat.le_of_eq hg.symm); clear hb hbox hg; have hz0 := (bC HX4.out 0).trans (rfl : _ = some (Value.slice none 0 0)); have hz1 := (bC HX4.out 1).trans (rfl : _ = some (Value.int .i64 0)); have hz2 := (bC HX4.out 2).trans (rfl : _ = some (Value.int .i64 0)); have hz3 := (bC HX4.out 3).trans (rfl : _ = some (Value.int .i64 0)); have hfz0 := bF HX4.out 0; have hfz1 := bF HX4.out 1; have hfz2 := bF HX4.out 2; have hfz3 := bF HX4.out 3)
    )
  generalize hw5 : World.setCell _ ⟨g6, 3, none⟩ _ = w5
  have HD5 := aM (show Below w3.heap.size w3 w5 from by subst hw5; exact (below_set (below_set (below_set (below_set HD4.out GE4.out) GE4.out) GE4.out) GE4.out))
  have HQ5 := aM (show Aq g bm g6 w ⟨[st0], 0, 1⟩ depth A0 c0 w5 from by
    have hg := HH2.out.lt
    have hs := HD3.out.size
    refine ⟨(HH3.out.grow (S' := s6 g bm g6) (fun k hk => by rcases hk with rfl | rfl; exact .inl rfl; exact .inr (.inl rfl)) (fun k hk => by rcases hk with rfl | rfl | rfl; exact .inl (.inl rfl); exact .inl (.inr rfl); exact .inr GE4.out)).below HD5.out, inv0 HD.out.1 HD.out.2, by subst hw5; exact ((blk_set (blk_set (blk_set (blk_set HX4.out 0 _) 1 _) 2 _) 3 _).trans rfl), Kd.V_below (Kd.V_mono (Kd.V_map HL3.out (fun _ hf => Kd.F_bound hf)) (fun k hk e => ?_)) HD5.out, HB3.out.trans (HD5.out.mono HB3.out.size)⟩
    have := hk.1
    have := hk.2
    have := GE4.out
    rcases e with rfl | rfl | rfl <;> omega)
  have GE6 := aM (show w.heap.size ≤ g6 from Nat.le_trans HB3.out.size GE4.out)
  have NG6 := aM (show g6 ≠ g ∧ g6 ≠ bm from by have h1 := HH3.out.lt; have h2 := GE4.out; exact ⟨fun e => by omega, fun e => by omega⟩)
  clear hw5 HD5 HX4 HD4 GE4 HD3 HL3 HH3 HB3 HH2 HB2 hz0 hfz0 hz1 hfz1 hz2 hfz2 hz3 hfz3
  go_wp2
  go_loopg [7] l.length (fun kq v7 w' => ∃ (i : Nat) (s : Hs) (A : Option Addr) (c : Nat), v7 = .int .i64 (i : Int) ∧ Aside0 (i + kq = l.length) ∧ Aside0 (i ≤ 80 ∧ s.next ≤ (i : Int) + 1) ∧ Aside0 (Aq g bm g6 w s depth A c w'))
  case atStart => exact ⟨0, ⟨[st0], 0, 1⟩, A0, c0, rfl, ⟨by omega⟩, ⟨by decide⟩, HQ5⟩
  case round =>
    clear HQ5
    obtain ⟨i, s, A, c, rfl, HI, HN, HQ⟩ := hrel
    by_cases b1 : i < l.length
    · by_cases b2 : i < 80
      · cases gk with
        | zero => exact absurd HI.out (by omega)
        | succ k1 =>
          have d1 : decide ((i : Int) < (l.length : Int)) = true := decide_eq_true (by omega)
          have d2 : decide ((i : Int) < 80) = true := decide_eq_true (by omega)
          have p1 : (0 ≤ (i : Int)) = True := eq_true (by omega)
          have q1 : ((i : Int) < (l.length : Int)) = True := eq_true (by omega)
          have HI80 := aM b2
          obtain ⟨ad, A3, c3, A5, c5, eA, hc0, hc1, hc2, hc3, hc4, hc5, hc6, hE, C3, g3, C5, g5⟩ := act_at HR1.out b1
          cases eA
          have HK := aM (HOK.out _ (List.getElem_mem b1))
          generalize l[i] = x at hc0 hc1 hc2 hc3 hc4 hc5 hc6 hE C3 g3 C5 g5 HK
          have HEC := aM (And.intro C3 (And.intro g3 (And.intro C5 g5)))
          have HE := aM hE
          replace hc0 := cellW HQ.out.below hc0
          replace hc1 := cellW HQ.out.below hc1
          replace hc2 := cellW HQ.out.below hc2
          replace hc3 := cellW HQ.out.below hc3
          replace hc4 := cellW HQ.out.below hc4
          replace hc5 := cellW HQ.out.below hc5
          replace hc6 := cellW HQ.out.below hc6
          clear hE C3 g3 C5 g5 b1 b2
          by_cases hf : fitE x.f1.f1.f0 x.f1.f1.f1 x.f1.f2.f0 x.f1.f2.f1
          case neg =>
            have hft : decide (fitE x.f1.f1.f0 x.f1.f1.f1 x.f1.f2.f0 x.f1.f2.f1) = false := decide_eq_false hf
            have HFT := aM (fits7_eq x.f1.f0 x.f1.f1.f0 x.f1.f1.f1 x.f1.f2.f0 x.f1.f2.f1)
            rw [hft] at HFT
            clear hf hft
            have e1 : wrap64 ((i : Int) + 1) = ((i + 1 : Nat) : Int) := by have := HI80.out; unfold wrap64; omega
            go_wp2_with (first
              | ((with_reducible refine gate_dst (N := 8) rfl ?_); refine box_event ?hg (N := 8) ?hd (cs := #[.int .u8 0, .int .i64 0, .string ⟨#[]⟩, .slice none 0 0, .string ⟨#[]⟩, .slice none 0 0, .bool false]) (t := 36) ?hr ?_; (case hd => rfl); (case hg => rfl); (case hr => first | (go_simp; done) | (go_simp; rfl)); intro g8 hg w8 hbox hb; have HD8 := aM hb; have HY8 := aM hbox; have GD8 := aM (Nat.le_of_eq hg.symm); clear hb hbox hg; clear hc0 hc1 hc2 hc3 hc4 hc5 hc6; have hy0 := (bC HY8.out 0).trans (rfl : _ = some (Value.int .u8 0)); have hy1 := (bC HY8.out 1).trans (rfl : _ = some (Value.int .i64 0)); have hy2 := (bC HY8.out 2).trans (rfl : _ = some (Value.string ⟨#[]⟩)); have hy3 := (bC HY8.out 3).trans (rfl : _ = some (Value.slice none 0 0)); have hy4 := (bC HY8.out 4).trans (rfl : _ = some (Value.string ⟨#[]⟩)); have hy5 := (bC HY8.out 5).trans (rfl : _ = some (Value.slice none 0 0)); have hy6 := (bC HY8.out 6).trans (rfl : _ = some (Value.bool false)); have hfy0 := bF HY8.out 0; have hfy1 := bF HY8.out 1; have hfy2 := bF HY8.out 2; have hfy3 := bF HY8.out 3; have hfy4 := bF HY8.out 4; have hfy5 := bF HY8.out 5; have hfy6 := bF HY8.out 6)
              | ((with_reducible refine gate_callee (f := 11) rfl ?_); refine goesL_ (some 58) rfl rfl Try.func11 (by kernel_rfl) rfl #[.agg #[.int .i64 x.f1.f0, .string x.f1.f1.f0, .slice A3 x.f1.f1.f1.length c3, .string x.f1.f2.f0, .slice A5 x.f1.f2.f1.length c5]] rfl (by (try simp only [List.map_toArray, List.map_cons, List.map_nil]); first | done | rfl) ?_; have HD9 := aM (set7 HD8.out GD8.out (.int .u8 x.f0) (.int .i64 x.f1.f0) (.string x.f1.f1.f0) (.slice A3 x.f1.f1.f1.length c3) (.string x.f1.f2.f0) (.slice A5 x.f1.f2.f1.length c5) (.bool x.f2)); have HQ9 := aM (HQ.out.later HD9.out); have HY9 := aM (blks7 HY8.out (.int .u8 x.f0) (.int .i64 x.f1.f0) (.string x.f1.f1.f0) (.slice A3 x.f1.f1.f1.length c3) (.string x.f1.f2.f0) (.slice A5 x.f1.f2.f1.length c5) (.bool x.f2)); (with_reducible refine (bureaulaw07_Fits.calls x.f1.f0 x.f1.f1.f0 A3 c3 x.f1.f1.f1 x.f1.f2.f0 A5 c5 x.f1.f2.f1 false _ (cB_ HEC.out.1 HQ9.out.below) HEC.out.2.1 (cB_ HEC.out.2.2.1 HQ9.out.below) HEC.out.2.2.2 HFT.out).mono ?_); rintro r9 w9 ⟨rfl, hb⟩; refine ⟨_, rfl, ?_⟩; have HQ10 := aM (HQ9.out.later hb); have HY10 := aM (bB HY9.out hb); clear hb; clear hy0 hfy0 hy1 hfy1 hy2 hfy2 hy3 hfy3 hy4 hfy4 hy5 hfy5 hy6 hfy6 HD9 HQ9 HY9 HD8 HY8; have hy0 := (bC HY10.out 0).trans (rfl : _ = some (Value.int .u8 x.f0)); have hy1 := (bC HY10.out 1).trans (rfl : _ = some (Value.int .i64 x.f1.f0)); have hy2 := (bC HY10.out 2).trans (rfl : _ = some (Value.string x.f1.f1.f0)); have hy3 := (bC HY10.out 3).trans (rfl : _ = some (Value.slice A3 x.f1.f1.f1.length c3)); have hy4 := (bC HY10.out 4).trans (rfl : _ = some (Value.string x.f1.f2.f0)); have hy5 := (bC HY10.out 5).trans (rfl : _ = some (Value.slice A5 x.f1.f2.f1.length c5)); have hy6 := (bC HY10.out 6).trans (rfl : _ = some (Value.bool x.f2)))
              )
            first | rw [e1] | rw [show ((i : Int) + 1) = ((i + 1 : Nat) : Int) by omega]
            go_roundg k1
            case measure => exact Nat.lt_succ_self _
            case rel => exact ⟨i + 1, s, A, c, rfl, ⟨by have := HI.out; omega⟩, ⟨by have := HN.out; have := HI80.out; omega⟩, HQ10⟩
          case pos =>
          have hft : decide (fitE x.f1.f1.f0 x.f1.f1.f1 x.f1.f2.f0 x.f1.f2.f1) = true := decide_eq_true hf
          have HFT := aM (fits7_eq x.f1.f0 x.f1.f1.f0 x.f1.f1.f1 x.f1.f2.f0 x.f1.f2.f1)
          rw [hft] at HFT
          have HF := aM hf
          have hm : Int.tmod x.f0 4 = x.f0 % 4 := Int.tmod_eq_emod_of_nonneg HK.out.1
          clear hf hft
          by_cases k2 : x.f0 % 4 = 2
          case pos =>
            have c2b : (x.f0 % 4 == 2) = true := by simpa using k2
            go_wp2_with (first
              | ((with_reducible refine gate_dst (N := 8) rfl ?_); refine box_event ?hg (N := 8) ?hd (cs := #[.int .u8 0, .int .i64 0, .string ⟨#[]⟩, .slice none 0 0, .string ⟨#[]⟩, .slice none 0 0, .bool false]) (t := 36) ?hr ?_; (case hd => rfl); (case hg => rfl); (case hr => first | (go_simp; done) | (go_simp; rfl)); intro g8 hg w8 hbox hb; have HD8 := aM hb; have HY8 := aM hbox; have GD8 := aM (Nat.le_of_eq hg.symm); clear hb hbox hg; clear hc0 hc1 hc2 hc3 hc4 hc5 hc6; have hy0 := (bC HY8.out 0).trans (rfl : _ = some (Value.int .u8 0)); have hy1 := (bC HY8.out 1).trans (rfl : _ = some (Value.int .i64 0)); have hy2 := (bC HY8.out 2).trans (rfl : _ = some (Value.string ⟨#[]⟩)); have hy3 := (bC HY8.out 3).trans (rfl : _ = some (Value.slice none 0 0)); have hy4 := (bC HY8.out 4).trans (rfl : _ = some (Value.string ⟨#[]⟩)); have hy5 := (bC HY8.out 5).trans (rfl : _ = some (Value.slice none 0 0)); have hy6 := (bC HY8.out 6).trans (rfl : _ = some (Value.bool false)); have hfy0 := bF HY8.out 0; have hfy1 := bF HY8.out 1; have hfy2 := bF HY8.out 2; have hfy3 := bF HY8.out 3; have hfy4 := bF HY8.out 4; have hfy5 := bF HY8.out 5; have hfy6 := bF HY8.out 6)
              | ((with_reducible refine gate_callee (f := 11) rfl ?_); refine goesL_ (some 58) rfl rfl Try.func11 (by kernel_rfl) rfl #[.agg #[.int .i64 x.f1.f0, .string x.f1.f1.f0, .slice A3 x.f1.f1.f1.length c3, .string x.f1.f2.f0, .slice A5 x.f1.f2.f1.length c5]] rfl (by (try simp only [List.map_toArray, List.map_cons, List.map_nil]); first | done | rfl) ?_; have HD9 := aM (set7 HD8.out GD8.out (.int .u8 x.f0) (.int .i64 x.f1.f0) (.string x.f1.f1.f0) (.slice A3 x.f1.f1.f1.length c3) (.string x.f1.f2.f0) (.slice A5 x.f1.f2.f1.length c5) (.bool x.f2)); have HQ9 := aM (HQ.out.later HD9.out); have HY9 := aM (blks7 HY8.out (.int .u8 x.f0) (.int .i64 x.f1.f0) (.string x.f1.f1.f0) (.slice A3 x.f1.f1.f1.length c3) (.string x.f1.f2.f0) (.slice A5 x.f1.f2.f1.length c5) (.bool x.f2)); (with_reducible refine (bureaulaw07_Fits.calls x.f1.f0 x.f1.f1.f0 A3 c3 x.f1.f1.f1 x.f1.f2.f0 A5 c5 x.f1.f2.f1 true _ (cB_ HEC.out.1 HQ9.out.below) HEC.out.2.1 (cB_ HEC.out.2.2.1 HQ9.out.below) HEC.out.2.2.2 HFT.out).mono ?_); rintro r9 w9 ⟨rfl, hb⟩; refine ⟨_, rfl, ?_⟩; have HQ10 := aM (HQ9.out.later hb); have HY10 := aM (bB HY9.out hb); clear hb; clear hy0 hfy0 hy1 hfy1 hy2 hfy2 hy3 hfy3 hy4 hfy4 hy5 hfy5 hy6 hfy6 HD9 HQ9 HY9 HD8 HY8; have hy0 := (bC HY10.out 0).trans (rfl : _ = some (Value.int .u8 x.f0)); have hy1 := (bC HY10.out 1).trans (rfl : _ = some (Value.int .i64 x.f1.f0)); have hy2 := (bC HY10.out 2).trans (rfl : _ = some (Value.string x.f1.f1.f0)); have hy3 := (bC HY10.out 3).trans (rfl : _ = some (Value.slice A3 x.f1.f1.f1.length c3)); have hy4 := (bC HY10.out 4).trans (rfl : _ = some (Value.string x.f1.f2.f0)); have hy5 := (bC HY10.out 5).trans (rfl : _ = some (Value.slice A5 x.f1.f2.f1.length c5)); have hy6 := (bC HY10.out 6).trans (rfl : _ = some (Value.bool x.f2)))
              | ((with_reducible refine gate_callee (f := 12) rfl ?_); refine goesL_ (some 91) rfl rfl Try.func12 (by kernel_rfl) rfl #[.pointer (some ⟨g, 0, none⟩)] rfl (by (try simp only [List.map_toArray, List.map_cons, List.map_nil]); first | done | rfl) ?_; obtain ⟨y, code, hfy, hcy, hev⟩ := undo_both HQ10.out.hist HQ10.out.inv.wf; (with_reducible refine hcy.mono ?_); rintro r11 w11 ⟨A2, c2, A4, c4, rfl, he, hh, ht⟩; refine ⟨_, rfl, ?_⟩; have HE11 := aM he; have HH11 := aM hh; have HEV := aM hev; have HFY := aM hfy; have HX11 := aM (ht.blk HQ10.out.box (fun e => by rcases e with e | e; exact NG6.out.1 e; exact NG6.out.2 e)); have HL11 := aM (Kd.V_map (w1 := w11) (base' := 0) (ok' := okQ g bm g6) HQ10.out.list (fun _ hf => ht.f hf (fun k hk e => hk (by rcases e with e | e; exact .inl e; exact .inr (.inl e))))); have HB11 := aM (HQ10.out.below.trans ht.bel); clear he hh ht hev hfy hcy; clear hy0 hy1 hy2 hy3 hy4 hy5 hy6; have hq0 := (bC HX11.out 0).trans (rfl : _ = some (Value.slice A s.L.length c)); have hq1 := (bC HX11.out 1).trans (rfl : _ = some (Value.int .i64 s.now)); have hq2 := (bC HX11.out 2).trans (rfl : _ = some (Value.int .i64 s.next)); have hq3 := (bC HX11.out 3).trans (rfl : _ = some (Value.int .i64 depth)))
              | ((with_reducible refine gate_dst (N := 10) rfl ?_); refine box_event ?hg (N := 10) ?hd (cs := zs5) (t := 34) ?hr ?_; (case hd => rfl); (case hg => rfl); (case hr => first | (go_simp; done) | (go_simp; rfl)); intro g10 hg w12 hbox hb; have HD12 := aM hb; have HY12 := aM hbox; have G12 := aM (Nat.le_of_eq hg.symm); have N610 := aM (show g6 ≠ g10 from fun e => by have := blk_lt HX11.out; omega); have HX12 := aM (bB HX11.out hb); clear hb hbox hg; clear hq0 hq1 hq2 hq3; have hq0 := (bC HX12.out 0).trans (rfl : _ = some (Value.slice A s.L.length c)); have hq1 := (bC HX12.out 1).trans (rfl : _ = some (Value.int .i64 s.now)); have hq2 := (bC HX12.out 2).trans (rfl : _ = some (Value.int .i64 s.next)); have hq3 := (bC HX12.out 3).trans (rfl : _ = some (Value.int .i64 depth)); have hz0 := (bC HY12.out 0).trans (rfl : _ = some (Value.int .i64 0)); have hz1 := (bC HY12.out 1).trans (rfl : _ = some (Value.string ⟨#[]⟩)); have hz2 := (bC HY12.out 2).trans (rfl : _ = some (Value.slice none 0 0)); have hz3 := (bC HY12.out 3).trans (rfl : _ = some (Value.string ⟨#[]⟩)); have hz4 := (bC HY12.out 4).trans (rfl : _ = some (Value.slice none 0 0)); have hfz0 := bF HY12.out 0; have hfz1 := bF HY12.out 1; have hfz2 := bF HY12.out 2; have hfz3 := bF HY12.out 3; have hfz4 := bF HY12.out 4; have hne := N610.out; have hne' : g10 ≠ g6 := fun e => N610.out e.symm)
              | ((with_reducible refine gate_callee (f := 13) rfl ?_); refine goesL_ (some 96) rfl rfl Try.func13 (by kernel_rfl) rfl #[.agg #[.slice A s.L.length c, .int .i64 s.now, .int .i64 s.next, .int .i64 depth]] rfl (by (try simp only [List.map_toArray, List.map_cons, List.map_nil]); first | done | rfl) ?_; have HD13 := aM (set5 HD12.out G12.out (.int .i64 y.f0) (.string y.f1.f0) (.slice A2 y.f1.f1.length c2) (.string y.f2.f0) (.slice A4 y.f2.f1.length c4)); have HL13 := aM (Kd.V_below HL11.out HD13.out); have HLT := aM (And.intro (HH11.out.below HD13.out).lt.2.1 (And.intro (HH11.out.below HD13.out).lt.2.2.1 (blk_lt (bB HX11.out HD13.out)))); (with_reducible refine (Calls.mono (rundo_ok HL13.out HFY.out HEV.out) ?_)); rintro r14 w14 ⟨A14, c14, A2', c2', A4', c4', rfl, hv, he, hb⟩; refine ⟨_, rfl, ?_⟩; have HV14 := aM (Kd.V_mono (ok' := okQ g bm g6) hv (fun k hk => hk.elim id (fun h => okQ_new HLT.out.1 HLT.out.2.1 HLT.out.2.2 h))); have HR14 := aM he; have HDb := aM (HD13.out.trans (hb.mono HD13.out.size)); have HE14 := aM (HE11.out.below HDb.out); have HH14 := aM (HH11.out.below HDb.out); have HX14 := aM (bB HX11.out HDb.out); have HB14 := aM (HB11.out.trans (HDb.out.mono HB11.out.size)); have HY14 := aM (bB (blks5 HY12.out (.int .i64 y.f0) (.string y.f1.f0) (.slice A2 y.f1.f1.length c2) (.string y.f2.f0) (.slice A4 y.f2.f1.length c4)) hb); clear hv he hb; clear hq0 hq1 hq2 hq3 hz0 hfz0 hz1 hfz1 hz2 hfz2 hz3 hfz3 hz4 hfz4 hne hne' HDb HD12 HY12 HX12)
              | ((with_reducible refine gate_dst (N := 12) rfl ?_); refine box_event ?hg (N := 12) ?hd (cs := #[.slice none 0 0, .int .i64 0, .int .i64 0, .int .i64 0]) (t := 28) ?hr ?_; (case hd => rfl); (case hg => rfl); (case hr => first | (go_simp; done) | (go_simp; rfl)); intro g12 hg w15 hbox hb; have HD15 := aM hb; have HY15 := aM hbox; have G15 := aM (Nat.le_of_eq hg.symm); clear hb hbox hg)
              | ((with_reducible refine gate_dst (N := 13) rfl ?_); refine box_event ?hg (N := 13) ?hd (cs := zs5) (t := 34) ?hr ?_; (case hd => rfl); (case hg => rfl); (case hr => first | (go_simp; done) | (go_simp; rfl)); intro g13 hg w16 hbox hb; have HD16 := aM (bP HD15.out hb); have HY16 := aM (bB HY15.out hb); have HZ16 := aM hbox; have G16 := aM (show w14.heap.size ≤ g13 from by have := HD15.out.size; omega); have NES := aM (show g12 ≠ g13 ∧ g10 ≠ g12 ∧ g10 ≠ g13 ∧ g6 ≠ g12 from ⟨fun e => by have := blk_lt HY15.out; omega, fun e => by have := blk_lt HY14.out; have := G15.out; omega, fun e => by have := blk_lt HY14.out; have := HD15.out.size; omega, fun e => by have := blk_lt HX14.out; have := G15.out; omega⟩); have HYA := aM (bB HY14.out HD16.out); clear hb hbox hg; have hy0 := (bC HY16.out 0).trans (rfl : _ = some (Value.slice none 0 0)); have hy1 := (bC HY16.out 1).trans (rfl : _ = some (Value.int .i64 0)); have hy2 := (bC HY16.out 2).trans (rfl : _ = some (Value.int .i64 0)); have hy3 := (bC HY16.out 3).trans (rfl : _ = some (Value.int .i64 0)); have hfy0 := bF HY16.out 0; have hfy1 := bF HY16.out 1; have hfy2 := bF HY16.out 2; have hfy3 := bF HY16.out 3; have hp0 := (bC HZ16.out 0).trans (rfl : _ = some (Value.int .i64 0)); have hp1 := (bC HZ16.out 1).trans (rfl : _ = some (Value.string ⟨#[]⟩)); have hp2 := (bC HZ16.out 2).trans (rfl : _ = some (Value.slice none 0 0)); have hp3 := (bC HZ16.out 3).trans (rfl : _ = some (Value.string ⟨#[]⟩)); have hp4 := (bC HZ16.out 4).trans (rfl : _ = some (Value.slice none 0 0)); have hfp0 := bF HZ16.out 0; have hfp1 := bF HZ16.out 1; have hfp2 := bF HZ16.out 2; have hfp3 := bF HZ16.out 3; have hfp4 := bF HZ16.out 4; have ha0 := (bC HYA.out 0).trans (rfl : _ = some (Value.int .i64 y.f0)); have ha1 := (bC HYA.out 1).trans (rfl : _ = some (Value.string y.f1.f0)); have ha2 := (bC HYA.out 2).trans (rfl : _ = some (Value.slice A2 y.f1.f1.length c2)); have ha3 := (bC HYA.out 3).trans (rfl : _ = some (Value.string y.f2.f0)); have ha4 := (bC HYA.out 4).trans (rfl : _ = some (Value.slice A4 y.f2.f1.length c4)); have hn1 := NES.out.1; have hn1' : g13 ≠ g12 := fun e => NES.out.1 e.symm; have hn2 := NES.out.2.1; have hn2' : g12 ≠ g10 := fun e => NES.out.2.1 e.symm; have hn3 := NES.out.2.2.1; have hn3' : g13 ≠ g10 := fun e => NES.out.2.2.1 e.symm)
              | ((with_reducible refine gate_callee (f := 14) rfl ?_); refine goesL_ (some 102) rfl rfl Try.func14 (by kernel_rfl) rfl #[edV y A2 c2 A4 c4, edV y A2' c2' A4' c4'] rfl (by (try simp only [List.map_toArray, List.map_cons, List.map_nil]); first | done | rfl) ?_; have HD17 := aM (set5 (set4 HD16.out G15.out (.slice A14 s.L.length c14) (.int .i64 (undoNow s.L s.now)) (.int .i64 s.next) (.int .i64 depth)) G16.out (.int .i64 y.f0) (.string y.f1.f0) (.slice A2' y.f1.f1.length c2') (.string y.f2.f0) (.slice A4' y.f2.f1.length c4')); (with_reducible refine (sameE_ok (HE14.out.below HD17.out) (HR14.out.below HD17.out)).mono ?_); rintro r18 w18 ⟨rfl, hb⟩; refine ⟨_, rfl, ?_⟩; have HD18 := aM (HD17.out.trans (hb.mono HD17.out.size)); have HY18 := aM (bB (fars5 (blks4 HY16.out (.slice A14 s.L.length c14) (.int .i64 (undoNow s.L s.now)) (.int .i64 s.next) (.int .i64 depth)) NES.out.1 (.int .i64 y.f0) (.string y.f1.f0) (.slice A2' y.f1.f1.length c2') (.string y.f2.f0) (.slice A4' y.f2.f1.length c4')) hb); have HX18 := aM (bB HX14.out HD18.out); clear hb; clear hy0 hfy0 hy1 hfy1 hy2 hfy2 hy3 hfy3 hp0 hfp0 hp1 hfp1 hp2 hfp2 hp3 hfp3 hp4 hfp4 ha0 ha1 ha2 ha3 ha4 hn1 hn1' hn2 hn2' hn3 hn3'; have hy0 := (bC HY18.out 0).trans (rfl : _ = some (Value.slice A14 s.L.length c14)); have hy1 := (bC HY18.out 1).trans (rfl : _ = some (Value.int .i64 (undoNow s.L s.now))); have hy2 := (bC HY18.out 2).trans (rfl : _ = some (Value.int .i64 s.next)); have hy3 := (bC HY18.out 3).trans (rfl : _ = some (Value.int .i64 depth)); have hq0 := (bC HX18.out 0).trans (rfl : _ = some (Value.slice A s.L.length c)); have hq1 := (bC HX18.out 1).trans (rfl : _ = some (Value.int .i64 s.now)); have hq2 := (bC HX18.out 2).trans (rfl : _ = some (Value.int .i64 s.next)); have hq3 := (bC HX18.out 3).trans (rfl : _ = some (Value.int .i64 depth)); have hfq0 := bF HX18.out 0; have hfq1 := bF HX18.out 1; have hfq2 := bF HX18.out 2; have hfq3 := bF HX18.out 3; have hn4 := NES.out.2.2.2; have hn4' : g12 ≠ g6 := fun e => NES.out.2.2.2 e.symm)
              )
            generalize hw20 : World.setCell _ ⟨g6, 3, none⟩ _ = w20
            obtain ⟨sN, A20, c20, HQ20, HN20⟩ : ∃ (sN : Hs) (A20 : Option Addr) (c20 : Nat), Aside0 (Aq g bm g6 w sN depth A20 c20 w20) ∧ Aside0 (sN.next ≤ (i : Int) + 2) :=
              ⟨⟨s.L, undoNow s.L s.now, s.next⟩, A14, c14, ⟨by subst hw20; exact Aq.mk4 (HH14.out.below HD18.out) HQ10.out.inv.undo HX18.out (Kd.V_below HV14.out HD18.out) (HB14.out.trans (HD18.out.mono HB14.out.size)) GE6.out NG6.out⟩, ⟨by have := HN.out; show s.next ≤ (i : Int) + 2; omega⟩⟩
            clear hw20
            refine start_ (n := 25) (S := fun W => W.cell? ⟨g6, 0, none⟩ = some (.slice A20 sN.L.length c20) ∧ W.cell? ⟨g6, 1, none⟩ = some (.int .i64 sN.now) ∧ W.cell? ⟨g6, 2, none⟩ = some (.int .i64 sN.next) ∧ W.cell? ⟨g6, 3, none⟩ = some (.int .i64 depth)) (ds := []) #[tF,tF,tF,tF,tF,tF,tF,tF,tF,tF,tF,tF,tF,tF,tF,tF,tF,tF,tF,tF,tF,tF,tF,tF,tF] (by kernel_rfl) rfl rfl ⟨(bC (blk_drew HQ20.out.box) 0).trans rfl, (bC (blk_drew HQ20.out.box) 1).trans rfl, (bC (blk_drew HQ20.out.box) 2).trans rfl, (bC (blk_drew HQ20.out.box) 3).trans rfl⟩ (fun hHeld => ?_)
            have HQ21 := aM (HQ20.out.later (below_drew1 (Below.refl _ _)))
            generalize w20.drew = w21 at HQ21 hHeld ⊢
            refine sv 0 131 #[tT,tF,tF,tF,tF,tF,tF,tF,tF,tF,tF,tF,tF,tF,tF,tF,tF,tF,tF,tF,tF,tF,tF,tF,tF] ?_
            refine sv 1 132 #[tT,tT,tF,tF,tF,tF,tF,tF,tF,tF,tF,tF,tF,tF,tF,tF,tF,tF,tF,tF,tF,tF,tF,tF,tF] ?_
            refine sv 2 133 #[tT,tT,tT,tF,tF,tF,tF,tF,tF,tF,tF,tF,tF,tF,tF,tF,tF,tF,tF,tF,tF,tF,tF,tF,tF] ?_
            refine sv 3 134 #[tT,tT,tT,tT,tF,tF,tF,tF,tF,tF,tF,tF,tF,tF,tF,tF,tF,tF,tF,tF,tF,tF,tF,tF,tF] ?_
            refine sv 5 136 #[tT,tT,tT,tT,tF,tT,tF,tF,tF,tF,tF,tF,tF,tF,tF,tF,tF,tF,tF,tF,tF,tF,tF,tF,tF] ?_
            refine st 6 137 #[tT,tT,tT,tT,tF,tT,tT,tF,tF,tF,tF,tF,tF,tF,tF,tF,tF,tF,tF,tF,tF,tF,tF,tF,tF] hHeld ?_
            refine one_ (i := 4) (N := some 135) #[tT,tT,tT,tT,tT,tT,tT,tF,tF,tF,tF,tF,tF,tF,tF,tF,tF,tF,tF,tF,tF,tF,tF,tF,tF] rfl rfl (by kernel_rfl) (by decide) (fun K hK => ?_)
            refine goes_ Try.func19 (by kernel_rfl) rfl #[.pointer (some ⟨g, 0, none⟩)] (by rfl) rfl rfl (by (try simp only [List.map_toArray, List.map_cons, List.map_nil]); first | done | rfl) ?_
            (with_reducible refine (now_ok HQ21.out.hist).mono ?_)
            rintro r22 w22 ⟨rfl, hw⟩
            subst hw
            refine ⟨_, rfl, hK.out _ _ ⟨(bC HQ21.out.box 0).trans rfl, (bC HQ21.out.box 1).trans rfl, (bC HQ21.out.box 2).trans rfl, (bC HQ21.out.box 3).trans rfl⟩ (fun hHeld => ?_)⟩
            clear hK K
            refine norm_ (a' := ?_) ?_ ?_
            rotate_left
            · simp only [Act.put, List.setIfInBounds_toArray, List.set_cons_zero, List.set_cons_succ, i64_w, i32_w]
              rfl
            refine sv 7 138 #[tT,tT,tT,tT,tT,tT,tT,tT,tF,tF,tF,tF,tF,tF,tF,tF,tF,tF,tF,tF,tF,tF,tF,tF,tF] ?_
            refine sv 8 139 #[tT,tT,tT,tT,tT,tT,tT,tT,tT,tF,tF,tF,tF,tF,tF,tF,tF,tF,tF,tF,tF,tF,tF,tF,tF] ?_
            refine sv 9 140 #[tT,tT,tT,tT,tT,tT,tT,tT,tT,tT,tF,tF,tF,tF,tF,tF,tF,tF,tF,tF,tF,tF,tF,tF,tF] ?_
            refine sv 10 141 #[tT,tT,tT,tT,tT,tT,tT,tT,tT,tT,tT,tF,tF,tF,tF,tF,tF,tF,tF,tF,tF,tF,tF,tF,tF] ?_
            refine st 12 143 #[tT,tT,tT,tT,tT,tT,tT,tT,tT,tT,tT,tF,tT,tF,tF,tF,tF,tF,tF,tF,tF,tF,tF,tF,tF] hHeld ?_
            refine one_ (i := 11) (N := some 142) #[tT,tT,tT,tT,tT,tT,tT,tT,tT,tT,tT,tT,tT,tF,tF,tF,tF,tF,tF,tF,tF,tF,tF,tF,tF] rfl rfl (by kernel_rfl) (by decide) (fun K hK => ?_)
            refine goes_ Try.func21 (by kernel_rfl) rfl #[.pointer (some ⟨g, 0, none⟩)] (by rfl) rfl rfl (by (try simp only [List.map_toArray, List.map_cons, List.map_nil]); first | done | rfl) ?_
            (with_reducible refine (states_ok HQ21.out.hist HQ21.out.inv.wf).mono ?_)
            rintro r23 w23 ⟨v23, rfl, ho, hb⟩
            obtain ⟨A23, c23, rfl⟩ := Kd.R_slice ho
            have HQ23 := aM (HQ21.out.later hb)
            have HR23 := aM ho
            clear ho hb
            refine ⟨_, rfl, hK.out _ _ ⟨(bC HQ23.out.box 0).trans rfl, (bC HQ23.out.box 1).trans rfl, (bC HQ23.out.box 2).trans rfl, (bC HQ23.out.box 3).trans rfl⟩ (fun hHeld => ?_)⟩
            clear hK K
            refine norm_ (a' := ?_) ?_ ?_
            rotate_left
            · simp only [Act.put, List.setIfInBounds_toArray, List.set_cons_zero, List.set_cons_succ, i64_w, i32_w]
              rfl
            refine one_ (i := 13) (N := some 144) #[tT,tT,tT,tT,tT,tT,tT,tT,tT,tT,tT,tT,tT,tT,tF,tF,tF,tF,tF,tF,tF,tF,tF,tF,tF] rfl rfl (by kernel_rfl) (by decide) (fun K hK => ?_)
            refine goes_ Try.func22 (by kernel_rfl) rfl #[.agg #[.slice A20 sN.L.length c20, .int .i64 sN.now, .int .i64 sN.next, .int .i64 depth]] (by rfl) rfl rfl (by (try simp only [List.map_toArray, List.map_cons, List.map_nil]); first | done | rfl) ?_
            (with_reducible refine (rstates_ok HQ23.out.list (by have := HQ23.out.inv.wf.len; omega)).mono ?_)
            rintro r24 w24 ⟨A24, c24, rfl, ho, hb⟩
            have HQ24 := aM (HQ23.out.later hb)
            have HR24 := aM ho
            have HR23 := aM (Kd.R_below HR23.out hb)
            clear ho hb
            refine ⟨_, rfl, hK.out _ _ ⟨(bC HQ24.out.box 0).trans rfl, (bC HQ24.out.box 1).trans rfl, (bC HQ24.out.box 2).trans rfl, (bC HQ24.out.box 3).trans rfl⟩ (fun hHeld => ?_)⟩
            clear hK K
            refine norm_ (a' := ?_) ?_ ?_
            rotate_left
            · simp only [Act.put, List.setIfInBounds_toArray, List.set_cons_zero, List.set_cons_succ, i64_w, i32_w]
              rfl
            refine one_ (i := 14) (N := some 145) #[tT,tT,tT,tT,tT,tT,tT,tT,tT,tT,tT,tT,tT,tT,tT,tF,tF,tF,tF,tF,tF,tF,tF,tF,tF] rfl rfl (by kernel_rfl) (by decide) (fun K hK => ?_)
            refine goes_ Try.func20 (by kernel_rfl) rfl #[.slice A23 (statesL sN.L).length c23, .slice A24 (statesL sN.L).length c24] (by rfl) rfl rfl (by (try simp only [List.map_toArray, List.map_cons, List.map_nil]); first | done | rfl) ?_
            (with_reducible refine (intsL (by have := HQ23.out.inv.wf.len; unfold statesL; rw [List.length_map]; omega) HR23.out HR24.out).mono ?_)
            rintro r25 w25 ⟨rfl, nd, rfl⟩
            have HQ25 := aM (HQ24.out.later (pw_below_drewN (Below.refl _ _) nd))
            generalize w24.drewN nd = w25 at HQ25 ⊢
            refine ⟨_, rfl, hK.out _ _ ⟨(bC HQ25.out.box 0).trans rfl, (bC HQ25.out.box 1).trans rfl, (bC HQ25.out.box 2).trans rfl, (bC HQ25.out.box 3).trans rfl⟩ (fun hHeld => ?_)⟩
            clear hK K
            refine norm_ (a' := ?_) ?_ ?_
            rotate_left
            · simp only [Act.put, List.setIfInBounds_toArray, List.set_cons_zero, List.set_cons_succ, i64_w, i32_w]
              rfl
            refine sv 15 146 #[tT,tT,tT,tT,tT,tT,tT,tT,tT,tT,tT,tT,tT,tT,tT,tT,tF,tF,tF,tF,tF,tF,tF,tF,tF] ?_
            refine sv 16 147 #[tT,tT,tT,tT,tT,tT,tT,tT,tT,tT,tT,tT,tT,tT,tT,tT,tT,tF,tF,tF,tF,tF,tF,tF,tF] ?_
            refine sv 17 148 #[tT,tT,tT,tT,tT,tT,tT,tT,tT,tT,tT,tT,tT,tT,tT,tT,tT,tT,tF,tF,tF,tF,tF,tF,tF] ?_
            refine sv 18 149 #[tT,tT,tT,tT,tT,tT,tT,tT,tT,tT,tT,tT,tT,tT,tT,tT,tT,tT,tT,tF,tF,tF,tF,tF,tF] ?_
            refine st 20 151 #[tT,tT,tT,tT,tT,tT,tT,tT,tT,tT,tT,tT,tT,tT,tT,tT,tT,tT,tT,tF,tT,tF,tF,tF,tF] hHeld ?_
            refine one_ (i := 19) (N := some 150) #[tT,tT,tT,tT,tT,tT,tT,tT,tT,tT,tT,tT,tT,tT,tT,tT,tT,tT,tT,tT,tT,tF,tF,tF,tF] rfl rfl (by kernel_rfl) (by decide) (fun K hK => ?_)
            refine goes_ Try.func23 (by kernel_rfl) rfl #[.pointer (some ⟨g, 0, none⟩)] (by rfl) rfl rfl (by (try simp only [List.map_toArray, List.map_cons, List.map_nil]); first | done | rfl) ?_
            (with_reducible refine (path_ok HQ25.out.hist HQ25.out.inv.wf).mono ?_)
            rintro r26 w26 ⟨v26, rfl, ho, hb⟩
            obtain ⟨A26, c26, rfl⟩ := Kd.R_slice ho
            have HQ26 := aM (HQ25.out.later hb)
            have HR26 := aM ho
            clear ho hb
            refine ⟨_, rfl, hK.out _ _ ⟨(bC HQ26.out.box 0).trans rfl, (bC HQ26.out.box 1).trans rfl, (bC HQ26.out.box 2).trans rfl, (bC HQ26.out.box 3).trans rfl⟩ (fun hHeld => ?_)⟩
            clear hK K
            refine norm_ (a' := ?_) ?_ ?_
            rotate_left
            · simp only [Act.put, List.setIfInBounds_toArray, List.set_cons_zero, List.set_cons_succ, i64_w, i32_w]
              rfl
            refine one_ (i := 21) (N := some 152) #[tT,tT,tT,tT,tT,tT,tT,tT,tT,tT,tT,tT,tT,tT,tT,tT,tT,tT,tT,tT,tT,tT,tF,tF,tF] rfl rfl (by kernel_rfl) (by decide) (fun K hK => ?_)
            refine goes_ Try.func24 (by kernel_rfl) rfl #[.agg #[.slice A20 sN.L.length c20, .int .i64 sN.now, .int .i64 sN.next, .int .i64 depth]] (by rfl) rfl rfl (by (try simp only [List.map_toArray, List.map_cons, List.map_nil]); first | done | rfl) ?_
            (with_reducible refine (rpath_ok HQ26.out.list HQ26.out.inv.wf).mono ?_)
            rintro r27 w27 ⟨A27, c27, rfl, ho, hb⟩
            have HQ27 := aM (HQ26.out.later hb)
            have HR27 := aM ho
            have HR26 := aM (Kd.R_below HR26.out hb)
            clear ho hb
            refine ⟨_, rfl, hK.out _ _ ⟨(bC HQ27.out.box 0).trans rfl, (bC HQ27.out.box 1).trans rfl, (bC HQ27.out.box 2).trans rfl, (bC HQ27.out.box 3).trans rfl⟩ (fun hHeld => ?_)⟩
            clear hK K
            refine norm_ (a' := ?_) ?_ ?_
            rotate_left
            · simp only [Act.put, List.setIfInBounds_toArray, List.set_cons_zero, List.set_cons_succ, i64_w, i32_w]
              rfl
            refine one_ (i := 22) (N := some 153) #[tT,tT,tT,tT,tT,tT,tT,tT,tT,tT,tT,tT,tT,tT,tT,tT,tT,tT,tT,tT,tT,tT,tT,tF,tF] rfl rfl (by kernel_rfl) (by decide) (fun K hK => ?_)
            refine goes_ Try.func20 (by kernel_rfl) rfl #[.slice A26 (pathL sN.L sN.now).length c26, .slice A27 (pathL sN.L sN.now).length c27] (by rfl) rfl rfl (by (try simp only [List.map_toArray, List.map_cons, List.map_nil]); first | done | rfl) ?_
            (with_reducible refine (intsL (by have := (path_okay HQ27.out.inv).p2; omega) HR26.out HR27.out).mono ?_)
            rintro r28 w28 ⟨rfl, nd, rfl⟩
            have HQ28 := aM (HQ27.out.later (pw_below_drewN (Below.refl _ _) nd))
            generalize w27.drewN nd = w28 at HQ28 ⊢
            refine ⟨_, rfl, hK.out _ _ ⟨(bC HQ28.out.box 0).trans rfl, (bC HQ28.out.box 1).trans rfl, (bC HQ28.out.box 2).trans rfl, (bC HQ28.out.box 3).trans rfl⟩ (fun hHeld => ?_)⟩
            clear hK K
            refine norm_ (a' := ?_) ?_ ?_
            rotate_left
            · simp only [Act.put, List.setIfInBounds_toArray, List.set_cons_zero, List.set_cons_succ, i64_w, i32_w]
              rfl
            refine sv 23 154 #[tT,tT,tT,tT,tT,tT,tT,tT,tT,tT,tT,tT,tT,tT,tT,tT,tT,tT,tT,tT,tT,tT,tT,tT,tF] ?_
            refine sv 24 155 #[tT,tT,tT,tT,tT,tT,tT,tT,tT,tT,tT,tT,tT,tT,tT,tT,tT,tT,tT,tT,tT,tT,tT,tT,tT] ?_
            refine done_ (by kernel_rfl) ?_
            clear hHeld
            have e1 : wrap64 ((i : Int) + 1) = ((i + 1 : Nat) : Int) := by have := HI80.out; unfold wrap64; omega
            go_wp2
            first | rw [e1] | rw [show ((i : Int) + 1) = ((i + 1 : Nat) : Int) by omega]
            go_roundg k1
            case measure => exact Nat.lt_succ_self _
            case rel => exact ⟨i + 1, sN, A20, c20, rfl, ⟨by have := HI.out; omega⟩, ⟨by have := HN20.out; have := HI80.out; omega⟩, HQ28⟩
          case neg =>
          have c2b : (x.f0 % 4 == 2) = false := by simpa using k2
          by_cases k3 : x.f0 % 4 = 3
          case pos =>
            have c3b : (x.f0 % 4 == 3) = true := by simpa using k3
            go_wp2_with (first
              | ((with_reducible refine gate_dst (N := 8) rfl ?_); refine box_event ?hg (N := 8) ?hd (cs := #[.int .u8 0, .int .i64 0, .string ⟨#[]⟩, .slice none 0 0, .string ⟨#[]⟩, .slice none 0 0, .bool false]) (t := 36) ?hr ?_; (case hd => rfl); (case hg => rfl); (case hr => first | (go_simp; done) | (go_simp; rfl)); intro g8 hg w8 hbox hb; have HD8 := aM hb; have HY8 := aM hbox; have GD8 := aM (Nat.le_of_eq hg.symm); clear hb hbox hg; clear hc0 hc1 hc2 hc3 hc4 hc5 hc6; have hy0 := (bC HY8.out 0).trans (rfl : _ = some (Value.int .u8 0)); have hy1 := (bC HY8.out 1).trans (rfl : _ = some (Value.int .i64 0)); have hy2 := (bC HY8.out 2).trans (rfl : _ = some (Value.string ⟨#[]⟩)); have hy3 := (bC HY8.out 3).trans (rfl : _ = some (Value.slice none 0 0)); have hy4 := (bC HY8.out 4).trans (rfl : _ = some (Value.string ⟨#[]⟩)); have hy5 := (bC HY8.out 5).trans (rfl : _ = some (Value.slice none 0 0)); have hy6 := (bC HY8.out 6).trans (rfl : _ = some (Value.bool false)); have hfy0 := bF HY8.out 0; have hfy1 := bF HY8.out 1; have hfy2 := bF HY8.out 2; have hfy3 := bF HY8.out 3; have hfy4 := bF HY8.out 4; have hfy5 := bF HY8.out 5; have hfy6 := bF HY8.out 6)
              | ((with_reducible refine gate_callee (f := 11) rfl ?_); refine goesL_ (some 58) rfl rfl Try.func11 (by kernel_rfl) rfl #[.agg #[.int .i64 x.f1.f0, .string x.f1.f1.f0, .slice A3 x.f1.f1.f1.length c3, .string x.f1.f2.f0, .slice A5 x.f1.f2.f1.length c5]] rfl (by (try simp only [List.map_toArray, List.map_cons, List.map_nil]); first | done | rfl) ?_; have HD9 := aM (set7 HD8.out GD8.out (.int .u8 x.f0) (.int .i64 x.f1.f0) (.string x.f1.f1.f0) (.slice A3 x.f1.f1.f1.length c3) (.string x.f1.f2.f0) (.slice A5 x.f1.f2.f1.length c5) (.bool x.f2)); have HQ9 := aM (HQ.out.later HD9.out); have HY9 := aM (blks7 HY8.out (.int .u8 x.f0) (.int .i64 x.f1.f0) (.string x.f1.f1.f0) (.slice A3 x.f1.f1.f1.length c3) (.string x.f1.f2.f0) (.slice A5 x.f1.f2.f1.length c5) (.bool x.f2)); (with_reducible refine (bureaulaw07_Fits.calls x.f1.f0 x.f1.f1.f0 A3 c3 x.f1.f1.f1 x.f1.f2.f0 A5 c5 x.f1.f2.f1 true _ (cB_ HEC.out.1 HQ9.out.below) HEC.out.2.1 (cB_ HEC.out.2.2.1 HQ9.out.below) HEC.out.2.2.2 HFT.out).mono ?_); rintro r9 w9 ⟨rfl, hb⟩; refine ⟨_, rfl, ?_⟩; have HQ10 := aM (HQ9.out.later hb); have HY10 := aM (bB HY9.out hb); clear hb; clear hy0 hfy0 hy1 hfy1 hy2 hfy2 hy3 hfy3 hy4 hfy4 hy5 hfy5 hy6 hfy6 HD9 HQ9 HY9 HD8 HY8; have hy0 := (bC HY10.out 0).trans (rfl : _ = some (Value.int .u8 x.f0)); have hy1 := (bC HY10.out 1).trans (rfl : _ = some (Value.int .i64 x.f1.f0)); have hy2 := (bC HY10.out 2).trans (rfl : _ = some (Value.string x.f1.f1.f0)); have hy3 := (bC HY10.out 3).trans (rfl : _ = some (Value.slice A3 x.f1.f1.f1.length c3)); have hy4 := (bC HY10.out 4).trans (rfl : _ = some (Value.string x.f1.f2.f0)); have hy5 := (bC HY10.out 5).trans (rfl : _ = some (Value.slice A5 x.f1.f2.f1.length c5)); have hy6 := (bC HY10.out 6).trans (rfl : _ = some (Value.bool x.f2)))
              | ((with_reducible refine gate_callee (f := 15) rfl ?_); refine goesL_ (some 113) rfl rfl Try.func15 (by kernel_rfl) rfl #[.pointer (some ⟨g, 0, none⟩)] rfl (by (try simp only [List.map_toArray, List.map_cons, List.map_nil]); first | done | rfl) ?_; have hfy := redo_fit HQ10.out.inv.wf; have hcy := redo_both HQ10.out.hist HQ10.out.inv.wf; generalize hyg : redoEd s.L s.now = y at hfy hcy; generalize hcg : redoCode s.L s.now = code at hcy; have hev := And.intro hyg hcg; (with_reducible refine hcy.mono ?_); rintro r11 w11 ⟨A2, c2, A4, c4, rfl, he, hh, ht⟩; refine ⟨_, rfl, ?_⟩; have HE11 := aM he; have HH11 := aM hh; have HEV := aM hev; have HFY := aM hfy; have HX11 := aM (ht.blk HQ10.out.box (fun e => by rcases e with e | e; exact NG6.out.1 e; exact NG6.out.2 e)); have HL11 := aM (Kd.V_map (w1 := w11) (base' := 0) (ok' := okQ g bm g6) HQ10.out.list (fun _ hf => ht.f hf (fun k hk e => hk (by rcases e with e | e; exact .inl e; exact .inr (.inl e))))); have HB11 := aM (HQ10.out.below.trans ht.bel); clear he hh ht hev hfy hcy hyg hcg; clear hy0 hy1 hy2 hy3 hy4 hy5 hy6; have hq0 := (bC HX11.out 0).trans (rfl : _ = some (Value.slice A s.L.length c)); have hq1 := (bC HX11.out 1).trans (rfl : _ = some (Value.int .i64 s.now)); have hq2 := (bC HX11.out 2).trans (rfl : _ = some (Value.int .i64 s.next)); have hq3 := (bC HX11.out 3).trans (rfl : _ = some (Value.int .i64 depth)))
              | ((with_reducible refine gate_dst (N := 15) rfl ?_); refine box_event ?hg (N := 15) ?hd (cs := zs5) (t := 34) ?hr ?_; (case hd => rfl); (case hg => rfl); (case hr => first | (go_simp; done) | (go_simp; rfl)); intro g10 hg w12 hbox hb; have HD12 := aM hb; have HY12 := aM hbox; have G12 := aM (Nat.le_of_eq hg.symm); have N610 := aM (show g6 ≠ g10 from fun e => by have := blk_lt HX11.out; omega); have HX12 := aM (bB HX11.out hb); clear hb hbox hg; clear hq0 hq1 hq2 hq3; have hq0 := (bC HX12.out 0).trans (rfl : _ = some (Value.slice A s.L.length c)); have hq1 := (bC HX12.out 1).trans (rfl : _ = some (Value.int .i64 s.now)); have hq2 := (bC HX12.out 2).trans (rfl : _ = some (Value.int .i64 s.next)); have hq3 := (bC HX12.out 3).trans (rfl : _ = some (Value.int .i64 depth)); have hz0 := (bC HY12.out 0).trans (rfl : _ = some (Value.int .i64 0)); have hz1 := (bC HY12.out 1).trans (rfl : _ = some (Value.string ⟨#[]⟩)); have hz2 := (bC HY12.out 2).trans (rfl : _ = some (Value.slice none 0 0)); have hz3 := (bC HY12.out 3).trans (rfl : _ = some (Value.string ⟨#[]⟩)); have hz4 := (bC HY12.out 4).trans (rfl : _ = some (Value.slice none 0 0)); have hfz0 := bF HY12.out 0; have hfz1 := bF HY12.out 1; have hfz2 := bF HY12.out 2; have hfz3 := bF HY12.out 3; have hfz4 := bF HY12.out 4; have hne := N610.out; have hne' : g10 ≠ g6 := fun e => N610.out e.symm)
              | ((with_reducible refine gate_callee (f := 16) rfl ?_); refine goesL_ (some 118) rfl rfl Try.func16 (by kernel_rfl) rfl #[.agg #[.slice A s.L.length c, .int .i64 s.now, .int .i64 s.next, .int .i64 depth]] rfl (by (try simp only [List.map_toArray, List.map_cons, List.map_nil]); first | done | rfl) ?_; have HD13 := aM (set5 HD12.out G12.out (.int .i64 y.f0) (.string y.f1.f0) (.slice A2 y.f1.f1.length c2) (.string y.f2.f0) (.slice A4 y.f2.f1.length c4)); have HL13 := aM (Kd.V_below HL11.out HD13.out); have HLT := aM (And.intro (HH11.out.below HD13.out).lt.2.1 (And.intro (HH11.out.below HD13.out).lt.2.2.1 (blk_lt (bB HX11.out HD13.out)))); (with_reducible refine (Calls.mono (HEV.out.1 ▸ HEV.out.2 ▸ rredo_in HL13.out HQ10.out.inv.wf) ?_)); rintro r14 w14 ⟨A14, c14, A2', c2', A4', c4', rfl, hv, he, hb⟩; refine ⟨_, rfl, ?_⟩; have HV14 := aM (Kd.V_mono (ok' := okQ g bm g6) hv (fun k hk => hk.elim id (fun h => okQ_new HLT.out.1 HLT.out.2.1 HLT.out.2.2 h))); have HR14 := aM he; have HDb := aM (HD13.out.trans (hb.mono HD13.out.size)); have HE14 := aM (HE11.out.below HDb.out); have HH14 := aM (HH11.out.below HDb.out); have HX14 := aM (bB HX11.out HDb.out); have HB14 := aM (HB11.out.trans (HDb.out.mono HB11.out.size)); have HY14 := aM (bB (blks5 HY12.out (.int .i64 y.f0) (.string y.f1.f0) (.slice A2 y.f1.f1.length c2) (.string y.f2.f0) (.slice A4 y.f2.f1.length c4)) hb); clear hv he hb; clear hq0 hq1 hq2 hq3 hz0 hfz0 hz1 hfz1 hz2 hfz2 hz3 hfz3 hz4 hfz4 hne hne' HDb HD12 HY12 HX12)
              | ((with_reducible refine gate_dst (N := 17) rfl ?_); refine box_event ?hg (N := 17) ?hd (cs := #[.slice none 0 0, .int .i64 0, .int .i64 0, .int .i64 0]) (t := 28) ?hr ?_; (case hd => rfl); (case hg => rfl); (case hr => first | (go_simp; done) | (go_simp; rfl)); intro g12 hg w15 hbox hb; have HD15 := aM hb; have HY15 := aM hbox; have G15 := aM (Nat.le_of_eq hg.symm); clear hb hbox hg)
              | ((with_reducible refine gate_dst (N := 18) rfl ?_); refine box_event ?hg (N := 18) ?hd (cs := zs5) (t := 34) ?hr ?_; (case hd => rfl); (case hg => rfl); (case hr => first | (go_simp; done) | (go_simp; rfl)); intro g13 hg w16 hbox hb; have HD16 := aM (bP HD15.out hb); have HY16 := aM (bB HY15.out hb); have HZ16 := aM hbox; have G16 := aM (show w14.heap.size ≤ g13 from by have := HD15.out.size; omega); have NES := aM (show g12 ≠ g13 ∧ g10 ≠ g12 ∧ g10 ≠ g13 ∧ g6 ≠ g12 from ⟨fun e => by have := blk_lt HY15.out; omega, fun e => by have := blk_lt HY14.out; have := G15.out; omega, fun e => by have := blk_lt HY14.out; have := HD15.out.size; omega, fun e => by have := blk_lt HX14.out; have := G15.out; omega⟩); have HYA := aM (bB HY14.out HD16.out); clear hb hbox hg; have hy0 := (bC HY16.out 0).trans (rfl : _ = some (Value.slice none 0 0)); have hy1 := (bC HY16.out 1).trans (rfl : _ = some (Value.int .i64 0)); have hy2 := (bC HY16.out 2).trans (rfl : _ = some (Value.int .i64 0)); have hy3 := (bC HY16.out 3).trans (rfl : _ = some (Value.int .i64 0)); have hfy0 := bF HY16.out 0; have hfy1 := bF HY16.out 1; have hfy2 := bF HY16.out 2; have hfy3 := bF HY16.out 3; have hp0 := (bC HZ16.out 0).trans (rfl : _ = some (Value.int .i64 0)); have hp1 := (bC HZ16.out 1).trans (rfl : _ = some (Value.string ⟨#[]⟩)); have hp2 := (bC HZ16.out 2).trans (rfl : _ = some (Value.slice none 0 0)); have hp3 := (bC HZ16.out 3).trans (rfl : _ = some (Value.string ⟨#[]⟩)); have hp4 := (bC HZ16.out 4).trans (rfl : _ = some (Value.slice none 0 0)); have hfp0 := bF HZ16.out 0; have hfp1 := bF HZ16.out 1; have hfp2 := bF HZ16.out 2; have hfp3 := bF HZ16.out 3; have hfp4 := bF HZ16.out 4; have ha0 := (bC HYA.out 0).trans (rfl : _ = some (Value.int .i64 y.f0)); have ha1 := (bC HYA.out 1).trans (rfl : _ = some (Value.string y.f1.f0)); have ha2 := (bC HYA.out 2).trans (rfl : _ = some (Value.slice A2 y.f1.f1.length c2)); have ha3 := (bC HYA.out 3).trans (rfl : _ = some (Value.string y.f2.f0)); have ha4 := (bC HYA.out 4).trans (rfl : _ = some (Value.slice A4 y.f2.f1.length c4)); have hn1 := NES.out.1; have hn1' : g13 ≠ g12 := fun e => NES.out.1 e.symm; have hn2 := NES.out.2.1; have hn2' : g12 ≠ g10 := fun e => NES.out.2.1 e.symm; have hn3 := NES.out.2.2.1; have hn3' : g13 ≠ g10 := fun e => NES.out.2.2.1 e.symm)
              | ((with_reducible refine gate_callee (f := 14) rfl ?_); refine goesL_ (some 124) rfl rfl Try.func14 (by kernel_rfl) rfl #[edV y A2 c2 A4 c4, edV y A2' c2' A4' c4'] rfl (by (try simp only [List.map_toArray, List.map_cons, List.map_nil]); first | done | rfl) ?_; have HD17 := aM (set5 (set4 HD16.out G15.out (.slice A14 s.L.length c14) (.int .i64 (redoNow s.L s.now)) (.int .i64 s.next) (.int .i64 depth)) G16.out (.int .i64 y.f0) (.string y.f1.f0) (.slice A2' y.f1.f1.length c2') (.string y.f2.f0) (.slice A4' y.f2.f1.length c4')); (with_reducible refine (sameE_ok (HE14.out.below HD17.out) (HR14.out.below HD17.out)).mono ?_); rintro r18 w18 ⟨rfl, hb⟩; refine ⟨_, rfl, ?_⟩; have HD18 := aM (HD17.out.trans (hb.mono HD17.out.size)); have HY18 := aM (bB (fars5 (blks4 HY16.out (.slice A14 s.L.length c14) (.int .i64 (redoNow s.L s.now)) (.int .i64 s.next) (.int .i64 depth)) NES.out.1 (.int .i64 y.f0) (.string y.f1.f0) (.slice A2' y.f1.f1.length c2') (.string y.f2.f0) (.slice A4' y.f2.f1.length c4')) hb); have HX18 := aM (bB HX14.out HD18.out); clear hb; clear hy0 hfy0 hy1 hfy1 hy2 hfy2 hy3 hfy3 hp0 hfp0 hp1 hfp1 hp2 hfp2 hp3 hfp3 hp4 hfp4 ha0 ha1 ha2 ha3 ha4 hn1 hn1' hn2 hn2' hn3 hn3'; have hy0 := (bC HY18.out 0).trans (rfl : _ = some (Value.slice A14 s.L.length c14)); have hy1 := (bC HY18.out 1).trans (rfl : _ = some (Value.int .i64 (redoNow s.L s.now))); have hy2 := (bC HY18.out 2).trans (rfl : _ = some (Value.int .i64 s.next)); have hy3 := (bC HY18.out 3).trans (rfl : _ = some (Value.int .i64 depth)); have hq0 := (bC HX18.out 0).trans (rfl : _ = some (Value.slice A s.L.length c)); have hq1 := (bC HX18.out 1).trans (rfl : _ = some (Value.int .i64 s.now)); have hq2 := (bC HX18.out 2).trans (rfl : _ = some (Value.int .i64 s.next)); have hq3 := (bC HX18.out 3).trans (rfl : _ = some (Value.int .i64 depth)); have hfq0 := bF HX18.out 0; have hfq1 := bF HX18.out 1; have hfq2 := bF HX18.out 2; have hfq3 := bF HX18.out 3; have hn4 := NES.out.2.2.2; have hn4' : g12 ≠ g6 := fun e => NES.out.2.2.2 e.symm)
              )
            generalize hw20 : World.setCell _ ⟨g6, 3, none⟩ _ = w20
            obtain ⟨sN, A20, c20, HQ20, HN20⟩ : ∃ (sN : Hs) (A20 : Option Addr) (c20 : Nat), Aside0 (Aq g bm g6 w sN depth A20 c20 w20) ∧ Aside0 (sN.next ≤ (i : Int) + 2) :=
              ⟨⟨s.L, redoNow s.L s.now, s.next⟩, A14, c14, ⟨by subst hw20; exact Aq.mk4 (HH14.out.below HD18.out) HQ10.out.inv.redo HX18.out (Kd.V_below HV14.out HD18.out) (HB14.out.trans (HD18.out.mono HB14.out.size)) GE6.out NG6.out⟩, ⟨by have := HN.out; show s.next ≤ (i : Int) + 2; omega⟩⟩
            clear hw20
            refine start_ (n := 25) (S := fun W => W.cell? ⟨g6, 0, none⟩ = some (.slice A20 sN.L.length c20) ∧ W.cell? ⟨g6, 1, none⟩ = some (.int .i64 sN.now) ∧ W.cell? ⟨g6, 2, none⟩ = some (.int .i64 sN.next) ∧ W.cell? ⟨g6, 3, none⟩ = some (.int .i64 depth)) (ds := []) #[tF,tF,tF,tF,tF,tF,tF,tF,tF,tF,tF,tF,tF,tF,tF,tF,tF,tF,tF,tF,tF,tF,tF,tF,tF] (by kernel_rfl) rfl rfl ⟨(bC (blk_drew HQ20.out.box) 0).trans rfl, (bC (blk_drew HQ20.out.box) 1).trans rfl, (bC (blk_drew HQ20.out.box) 2).trans rfl, (bC (blk_drew HQ20.out.box) 3).trans rfl⟩ (fun hHeld => ?_)
            have HQ21 := aM (HQ20.out.later (below_drew1 (Below.refl _ _)))
            generalize w20.drew = w21 at HQ21 hHeld ⊢
            refine sv 0 131 #[tT,tF,tF,tF,tF,tF,tF,tF,tF,tF,tF,tF,tF,tF,tF,tF,tF,tF,tF,tF,tF,tF,tF,tF,tF] ?_
            refine sv 1 132 #[tT,tT,tF,tF,tF,tF,tF,tF,tF,tF,tF,tF,tF,tF,tF,tF,tF,tF,tF,tF,tF,tF,tF,tF,tF] ?_
            refine sv 2 133 #[tT,tT,tT,tF,tF,tF,tF,tF,tF,tF,tF,tF,tF,tF,tF,tF,tF,tF,tF,tF,tF,tF,tF,tF,tF] ?_
            refine sv 3 134 #[tT,tT,tT,tT,tF,tF,tF,tF,tF,tF,tF,tF,tF,tF,tF,tF,tF,tF,tF,tF,tF,tF,tF,tF,tF] ?_
            refine sv 5 136 #[tT,tT,tT,tT,tF,tT,tF,tF,tF,tF,tF,tF,tF,tF,tF,tF,tF,tF,tF,tF,tF,tF,tF,tF,tF] ?_
            refine st 6 137 #[tT,tT,tT,tT,tF,tT,tT,tF,tF,tF,tF,tF,tF,tF,tF,tF,tF,tF,tF,tF,tF,tF,tF,tF,tF] hHeld ?_
            refine one_ (i := 4) (N := some 135) #[tT,tT,tT,tT,tT,tT,tT,tF,tF,tF,tF,tF,tF,tF,tF,tF,tF,tF,tF,tF,tF,tF,tF,tF,tF] rfl rfl (by kernel_rfl) (by decide) (fun K hK => ?_)
            refine goes_ Try.func19 (by kernel_rfl) rfl #[.pointer (some ⟨g, 0, none⟩)] (by rfl) rfl rfl (by (try simp only [List.map_toArray, List.map_cons, List.map_nil]); first | done | rfl) ?_
            (with_reducible refine (now_ok HQ21.out.hist).mono ?_)
            rintro r22 w22 ⟨rfl, hw⟩
            subst hw
            refine ⟨_, rfl, hK.out _ _ ⟨(bC HQ21.out.box 0).trans rfl, (bC HQ21.out.box 1).trans rfl, (bC HQ21.out.box 2).trans rfl, (bC HQ21.out.box 3).trans rfl⟩ (fun hHeld => ?_)⟩
            clear hK K
            refine norm_ (a' := ?_) ?_ ?_
            rotate_left
            · simp only [Act.put, List.setIfInBounds_toArray, List.set_cons_zero, List.set_cons_succ, i64_w, i32_w]
              rfl
            refine sv 7 138 #[tT,tT,tT,tT,tT,tT,tT,tT,tF,tF,tF,tF,tF,tF,tF,tF,tF,tF,tF,tF,tF,tF,tF,tF,tF] ?_
            refine sv 8 139 #[tT,tT,tT,tT,tT,tT,tT,tT,tT,tF,tF,tF,tF,tF,tF,tF,tF,tF,tF,tF,tF,tF,tF,tF,tF] ?_
            refine sv 9 140 #[tT,tT,tT,tT,tT,tT,tT,tT,tT,tT,tF,tF,tF,tF,tF,tF,tF,tF,tF,tF,tF,tF,tF,tF,tF] ?_
            refine sv 10 141 #[tT,tT,tT,tT,tT,tT,tT,tT,tT,tT,tT,tF,tF,tF,tF,tF,tF,tF,tF,tF,tF,tF,tF,tF,tF] ?_
            refine st 12 143 #[tT,tT,tT,tT,tT,tT,tT,tT,tT,tT,tT,tF,tT,tF,tF,tF,tF,tF,tF,tF,tF,tF,tF,tF,tF] hHeld ?_
            refine one_ (i := 11) (N := some 142) #[tT,tT,tT,tT,tT,tT,tT,tT,tT,tT,tT,tT,tT,tF,tF,tF,tF,tF,tF,tF,tF,tF,tF,tF,tF] rfl rfl (by kernel_rfl) (by decide) (fun K hK => ?_)
            refine goes_ Try.func21 (by kernel_rfl) rfl #[.pointer (some ⟨g, 0, none⟩)] (by rfl) rfl rfl (by (try simp only [List.map_toArray, List.map_cons, List.map_nil]); first | done | rfl) ?_
            (with_reducible refine (states_ok HQ21.out.hist HQ21.out.inv.wf).mono ?_)
            rintro r23 w23 ⟨v23, rfl, ho, hb⟩
            obtain ⟨A23, c23, rfl⟩ := Kd.R_slice ho
            have HQ23 := aM (HQ21.out.later hb)
            have HR23 := aM ho
            clear ho hb
            refine ⟨_, rfl, hK.out _ _ ⟨(bC HQ23.out.box 0).trans rfl, (bC HQ23.out.box 1).trans rfl, (bC HQ23.out.box 2).trans rfl, (bC HQ23.out.box 3).trans rfl⟩ (fun hHeld => ?_)⟩
            clear hK K
            refine norm_ (a' := ?_) ?_ ?_
            rotate_left
            · simp only [Act.put, List.setIfInBounds_toArray, List.set_cons_zero, List.set_cons_succ, i64_w, i32_w]
              rfl
            refine one_ (i := 13) (N := some 144) #[tT,tT,tT,tT,tT,tT,tT,tT,tT,tT,tT,tT,tT,tT,tF,tF,tF,tF,tF,tF,tF,tF,tF,tF,tF] rfl rfl (by kernel_rfl) (by decide) (fun K hK => ?_)
            refine goes_ Try.func22 (by kernel_rfl) rfl #[.agg #[.slice A20 sN.L.length c20, .int .i64 sN.now, .int .i64 sN.next, .int .i64 depth]] (by rfl) rfl rfl (by (try simp only [List.map_toArray, List.map_cons, List.map_nil]); first | done | rfl) ?_
            (with_reducible refine (rstates_ok HQ23.out.list (by have := HQ23.out.inv.wf.len; omega)).mono ?_)
            rintro r24 w24 ⟨A24, c24, rfl, ho, hb⟩
            have HQ24 := aM (HQ23.out.later hb)
            have HR24 := aM ho
            have HR23 := aM (Kd.R_below HR23.out hb)
            clear ho hb
            refine ⟨_, rfl, hK.out _ _ ⟨(bC HQ24.out.box 0).trans rfl, (bC HQ24.out.box 1).trans rfl, (bC HQ24.out.box 2).trans rfl, (bC HQ24.out.box 3).trans rfl⟩ (fun hHeld => ?_)⟩
            clear hK K
            refine norm_ (a' := ?_) ?_ ?_
            rotate_left
            · simp only [Act.put, List.setIfInBounds_toArray, List.set_cons_zero, List.set_cons_succ, i64_w, i32_w]
              rfl
            refine one_ (i := 14) (N := some 145) #[tT,tT,tT,tT,tT,tT,tT,tT,tT,tT,tT,tT,tT,tT,tT,tF,tF,tF,tF,tF,tF,tF,tF,tF,tF] rfl rfl (by kernel_rfl) (by decide) (fun K hK => ?_)
            refine goes_ Try.func20 (by kernel_rfl) rfl #[.slice A23 (statesL sN.L).length c23, .slice A24 (statesL sN.L).length c24] (by rfl) rfl rfl (by (try simp only [List.map_toArray, List.map_cons, List.map_nil]); first | done | rfl) ?_
            (with_reducible refine (intsL (by have := HQ23.out.inv.wf.len; unfold statesL; rw [List.length_map]; omega) HR23.out HR24.out).mono ?_)
            rintro r25 w25 ⟨rfl, nd, rfl⟩
            have HQ25 := aM (HQ24.out.later (pw_below_drewN (Below.refl _ _) nd))
            generalize w24.drewN nd = w25 at HQ25 ⊢
            refine ⟨_, rfl, hK.out _ _ ⟨(bC HQ25.out.box 0).trans rfl, (bC HQ25.out.box 1).trans rfl, (bC HQ25.out.box 2).trans rfl, (bC HQ25.out.box 3).trans rfl⟩ (fun hHeld => ?_)⟩
            clear hK K
            refine norm_ (a' := ?_) ?_ ?_
            rotate_left
            · simp only [Act.put, List.setIfInBounds_toArray, List.set_cons_zero, List.set_cons_succ, i64_w, i32_w]
              rfl
            refine sv 15 146 #[tT,tT,tT,tT,tT,tT,tT,tT,tT,tT,tT,tT,tT,tT,tT,tT,tF,tF,tF,tF,tF,tF,tF,tF,tF] ?_
            refine sv 16 147 #[tT,tT,tT,tT,tT,tT,tT,tT,tT,tT,tT,tT,tT,tT,tT,tT,tT,tF,tF,tF,tF,tF,tF,tF,tF] ?_
            refine sv 17 148 #[tT,tT,tT,tT,tT,tT,tT,tT,tT,tT,tT,tT,tT,tT,tT,tT,tT,tT,tF,tF,tF,tF,tF,tF,tF] ?_
            refine sv 18 149 #[tT,tT,tT,tT,tT,tT,tT,tT,tT,tT,tT,tT,tT,tT,tT,tT,tT,tT,tT,tF,tF,tF,tF,tF,tF] ?_
            refine st 20 151 #[tT,tT,tT,tT,tT,tT,tT,tT,tT,tT,tT,tT,tT,tT,tT,tT,tT,tT,tT,tF,tT,tF,tF,tF,tF] hHeld ?_
            refine one_ (i := 19) (N := some 150) #[tT,tT,tT,tT,tT,tT,tT,tT,tT,tT,tT,tT,tT,tT,tT,tT,tT,tT,tT,tT,tT,tF,tF,tF,tF] rfl rfl (by kernel_rfl) (by decide) (fun K hK => ?_)
            refine goes_ Try.func23 (by kernel_rfl) rfl #[.pointer (some ⟨g, 0, none⟩)] (by rfl) rfl rfl (by (try simp only [List.map_toArray, List.map_cons, List.map_nil]); first | done | rfl) ?_
            (with_reducible refine (path_ok HQ25.out.hist HQ25.out.inv.wf).mono ?_)
            rintro r26 w26 ⟨v26, rfl, ho, hb⟩
            obtain ⟨A26, c26, rfl⟩ := Kd.R_slice ho
            have HQ26 := aM (HQ25.out.later hb)
            have HR26 := aM ho
            clear ho hb
            refine ⟨_, rfl, hK.out _ _ ⟨(bC HQ26.out.box 0).trans rfl, (bC HQ26.out.box 1).trans rfl, (bC HQ26.out.box 2).trans rfl, (bC HQ26.out.box 3).trans rfl⟩ (fun hHeld => ?_)⟩
            clear hK K
            refine norm_ (a' := ?_) ?_ ?_
            rotate_left
            · simp only [Act.put, List.setIfInBounds_toArray, List.set_cons_zero, List.set_cons_succ, i64_w, i32_w]
              rfl
            refine one_ (i := 21) (N := some 152) #[tT,tT,tT,tT,tT,tT,tT,tT,tT,tT,tT,tT,tT,tT,tT,tT,tT,tT,tT,tT,tT,tT,tF,tF,tF] rfl rfl (by kernel_rfl) (by decide) (fun K hK => ?_)
            refine goes_ Try.func24 (by kernel_rfl) rfl #[.agg #[.slice A20 sN.L.length c20, .int .i64 sN.now, .int .i64 sN.next, .int .i64 depth]] (by rfl) rfl rfl (by (try simp only [List.map_toArray, List.map_cons, List.map_nil]); first | done | rfl) ?_
            (with_reducible refine (rpath_ok HQ26.out.list HQ26.out.inv.wf).mono ?_)
            rintro r27 w27 ⟨A27, c27, rfl, ho, hb⟩
            have HQ27 := aM (HQ26.out.later hb)
            have HR27 := aM ho
            have HR26 := aM (Kd.R_below HR26.out hb)
            clear ho hb
            refine ⟨_, rfl, hK.out _ _ ⟨(bC HQ27.out.box 0).trans rfl, (bC HQ27.out.box 1).trans rfl, (bC HQ27.out.box 2).trans rfl, (bC HQ27.out.box 3).trans rfl⟩ (fun hHeld => ?_)⟩
            clear hK K
            refine norm_ (a' := ?_) ?_ ?_
            rotate_left
            · simp only [Act.put, List.setIfInBounds_toArray, List.set_cons_zero, List.set_cons_succ, i64_w, i32_w]
              rfl
            refine one_ (i := 22) (N := some 153) #[tT,tT,tT,tT,tT,tT,tT,tT,tT,tT,tT,tT,tT,tT,tT,tT,tT,tT,tT,tT,tT,tT,tT,tF,tF] rfl rfl (by kernel_rfl) (by decide) (fun K hK => ?_)
            refine goes_ Try.func20 (by kernel_rfl) rfl #[.slice A26 (pathL sN.L sN.now).length c26, .slice A27 (pathL sN.L sN.now).length c27] (by rfl) rfl rfl (by (try simp only [List.map_toArray, List.map_cons, List.map_nil]); first | done | rfl) ?_
            (with_reducible refine (intsL (by have := (path_okay HQ27.out.inv).p2; omega) HR26.out HR27.out).mono ?_)
            rintro r28 w28 ⟨rfl, nd, rfl⟩
            have HQ28 := aM (HQ27.out.later (pw_below_drewN (Below.refl _ _) nd))
            generalize w27.drewN nd = w28 at HQ28 ⊢
            refine ⟨_, rfl, hK.out _ _ ⟨(bC HQ28.out.box 0).trans rfl, (bC HQ28.out.box 1).trans rfl, (bC HQ28.out.box 2).trans rfl, (bC HQ28.out.box 3).trans rfl⟩ (fun hHeld => ?_)⟩
            clear hK K
            refine norm_ (a' := ?_) ?_ ?_
            rotate_left
            · simp only [Act.put, List.setIfInBounds_toArray, List.set_cons_zero, List.set_cons_succ, i64_w, i32_w]
              rfl
            refine sv 23 154 #[tT,tT,tT,tT,tT,tT,tT,tT,tT,tT,tT,tT,tT,tT,tT,tT,tT,tT,tT,tT,tT,tT,tT,tT,tF] ?_
            refine sv 24 155 #[tT,tT,tT,tT,tT,tT,tT,tT,tT,tT,tT,tT,tT,tT,tT,tT,tT,tT,tT,tT,tT,tT,tT,tT,tT] ?_
            refine done_ (by kernel_rfl) ?_
            clear hHeld
            have e1 : wrap64 ((i : Int) + 1) = ((i + 1 : Nat) : Int) := by have := HI80.out; unfold wrap64; omega
            go_wp2
            first | rw [e1] | rw [show ((i : Int) + 1) = ((i + 1 : Nat) : Int) by omega]
            go_roundg k1
            case measure => exact Nat.lt_succ_self _
            case rel => exact ⟨i + 1, sN, A20, c20, rfl, ⟨by have := HI.out; omega⟩, ⟨by have := HN20.out; have := HI80.out; omega⟩, HQ28⟩
          case neg =>
          have c3b : (x.f0 % 4 == 3) = false := by simpa using k3
          by_cases hgu : goodEd x.f1 = true
          case pos =>
            have hgu := aM hgu
            go_wp2_with (first
              | ((with_reducible refine gate_dst (N := 8) rfl ?_); refine box_event ?hg (N := 8) ?hd (cs := #[.int .u8 0, .int .i64 0, .string ⟨#[]⟩, .slice none 0 0, .string ⟨#[]⟩, .slice none 0 0, .bool false]) (t := 36) ?hr ?_; (case hd => rfl); (case hg => rfl); (case hr => first | (go_simp; done) | (go_simp; rfl)); intro g8 hg w8 hbox hb; have HD8 := aM hb; have HY8 := aM hbox; have GD8 := aM (Nat.le_of_eq hg.symm); clear hb hbox hg; clear hc0 hc1 hc2 hc3 hc4 hc5 hc6; have hy0 := (bC HY8.out 0).trans (rfl : _ = some (Value.int .u8 0)); have hy1 := (bC HY8.out 1).trans (rfl : _ = some (Value.int .i64 0)); have hy2 := (bC HY8.out 2).trans (rfl : _ = some (Value.string ⟨#[]⟩)); have hy3 := (bC HY8.out 3).trans (rfl : _ = some (Value.slice none 0 0)); have hy4 := (bC HY8.out 4).trans (rfl : _ = some (Value.string ⟨#[]⟩)); have hy5 := (bC HY8.out 5).trans (rfl : _ = some (Value.slice none 0 0)); have hy6 := (bC HY8.out 6).trans (rfl : _ = some (Value.bool false)); have hfy0 := bF HY8.out 0; have hfy1 := bF HY8.out 1; have hfy2 := bF HY8.out 2; have hfy3 := bF HY8.out 3; have hfy4 := bF HY8.out 4; have hfy5 := bF HY8.out 5; have hfy6 := bF HY8.out 6)
              | ((with_reducible refine gate_callee (f := 11) rfl ?_); refine goesL_ (some 58) rfl rfl Try.func11 (by kernel_rfl) rfl #[.agg #[.int .i64 x.f1.f0, .string x.f1.f1.f0, .slice A3 x.f1.f1.f1.length c3, .string x.f1.f2.f0, .slice A5 x.f1.f2.f1.length c5]] rfl (by (try simp only [List.map_toArray, List.map_cons, List.map_nil]); first | done | rfl) ?_; have HD9 := aM (set7 HD8.out GD8.out (.int .u8 x.f0) (.int .i64 x.f1.f0) (.string x.f1.f1.f0) (.slice A3 x.f1.f1.f1.length c3) (.string x.f1.f2.f0) (.slice A5 x.f1.f2.f1.length c5) (.bool x.f2)); have HQ9 := aM (HQ.out.later HD9.out); have HY9 := aM (blks7 HY8.out (.int .u8 x.f0) (.int .i64 x.f1.f0) (.string x.f1.f1.f0) (.slice A3 x.f1.f1.f1.length c3) (.string x.f1.f2.f0) (.slice A5 x.f1.f2.f1.length c5) (.bool x.f2)); (with_reducible refine (bureaulaw07_Fits.calls x.f1.f0 x.f1.f1.f0 A3 c3 x.f1.f1.f1 x.f1.f2.f0 A5 c5 x.f1.f2.f1 true _ (cB_ HEC.out.1 HQ9.out.below) HEC.out.2.1 (cB_ HEC.out.2.2.1 HQ9.out.below) HEC.out.2.2.2 HFT.out).mono ?_); rintro r9 w9 ⟨rfl, hb⟩; refine ⟨_, rfl, ?_⟩; have HQ10 := aM (HQ9.out.later hb); have HY10 := aM (bB HY9.out hb); clear hb; clear hy0 hfy0 hy1 hfy1 hy2 hfy2 hy3 hfy3 hy4 hfy4 hy5 hfy5 hy6 hfy6 HD9 HQ9 HY9 HD8 HY8; have hy0 := (bC HY10.out 0).trans (rfl : _ = some (Value.int .u8 x.f0)); have hy1 := (bC HY10.out 1).trans (rfl : _ = some (Value.int .i64 x.f1.f0)); have hy2 := (bC HY10.out 2).trans (rfl : _ = some (Value.string x.f1.f1.f0)); have hy3 := (bC HY10.out 3).trans (rfl : _ = some (Value.slice A3 x.f1.f1.f1.length c3)); have hy4 := (bC HY10.out 4).trans (rfl : _ = some (Value.string x.f1.f2.f0)); have hy5 := (bC HY10.out 5).trans (rfl : _ = some (Value.slice A5 x.f1.f2.f1.length c5)); have hy6 := (bC HY10.out 6).trans (rfl : _ = some (Value.bool x.f2)))
              | ((with_reducible refine gate_callee (f := 17) rfl ?_); refine goesL_ (some 67) rfl rfl Try.func17 (by kernel_rfl) rfl #[.pointer (some ⟨g, 0, none⟩), edV x.f1 A3 c3 A5 c5] rfl (by (try simp only [List.map_toArray, List.map_cons, List.map_nil]); first | done | rfl) ?_; have hEd := EdIn.old (S := s6 g bm g6) (HE.out (fit_le HF.out)) HQ10.out.below (fun k hk hs => by rcases hs with rfl | rfl | rfl; exact absurd hk (Nat.not_lt.2 HQ10.out.hist.bg); exact absurd hk (Nat.not_lt.2 HQ10.out.hist.bb); exact absurd hk (Nat.not_lt.2 GE6.out)); (with_reducible refine (add_good HQ10.out.hist hEd HQ10.out.inv (by have := HN.out; have := HI80.out; omega) HQ10.out.hS hgu.out).mono ?_); rintro r11 w11 ⟨rfl, hh, ht⟩; refine ⟨_, rfl, ?_⟩; have HH11 := aM hh; have HX11 := aM (ht.blk HQ10.out.box (fun e => by rcases e with e | e; exact NG6.out.1 e; exact NG6.out.2 e)); have HL11 := aM (Kd.V_map (w1 := w11) (base' := 0) (ok' := okQ g bm g6) HQ10.out.list (fun _ hf => ht.f hf (fun k hk e => hk (by rcases e with e | e; exact .inl e; exact .inr (.inl e))))); have HB11 := aM (HQ10.out.below.trans ht.bel); have HY11 := aM (ht.blk HY10.out (fun e => by have h1 := HQ.out.hist.lt; have h2 := GD8.out; rcases e with e | e <;> omega)); have HE11 := aM (hEd.turn ht (fun k hk e => hk (by rcases e with e | e; exact .inl e; exact .inr (.inl e)))); clear hh ht hEd; clear hy0 hy1 hy2 hy3 hy4 hy5 hy6; have hq0 := (bC HX11.out 0).trans (rfl : _ = some (Value.slice A s.L.length c)); have hq1 := (bC HX11.out 1).trans (rfl : _ = some (Value.int .i64 s.now)); have hq2 := (bC HX11.out 2).trans (rfl : _ = some (Value.int .i64 s.next)); have hq3 := (bC HX11.out 3).trans (rfl : _ = some (Value.int .i64 depth)); have hy0 := (bC HY11.out 0).trans (rfl : _ = some (Value.int .u8 x.f0)); have hy1 := (bC HY11.out 1).trans (rfl : _ = some (Value.int .i64 x.f1.f0)); have hy2 := (bC HY11.out 2).trans (rfl : _ = some (Value.string x.f1.f1.f0)); have hy3 := (bC HY11.out 3).trans (rfl : _ = some (Value.slice A3 x.f1.f1.f1.length c3)); have hy4 := (bC HY11.out 4).trans (rfl : _ = some (Value.string x.f1.f2.f0)); have hy5 := (bC HY11.out 5).trans (rfl : _ = some (Value.slice A5 x.f1.f2.f1.length c5)); have hy6 := (bC HY11.out 6).trans (rfl : _ = some (Value.bool x.f2)))
              | ((with_reducible refine gate_callee (f := 18) rfl ?_); refine goesL_ (some 74) rfl rfl Try.func18 (by kernel_rfl) rfl #[.agg #[.slice A s.L.length c, .int .i64 s.now, .int .i64 s.next, .int .i64 depth], edV x.f1 A3 c3 A5 c5] rfl (by (try simp only [List.map_toArray, List.map_cons, List.map_nil]); first | done | rfl) ?_; (with_reducible refine (radd_good HL11.out HQ10.out.inv (by have := HN.out; have := HI80.out; omega) HE11.out hgu.out).mono ?_); rintro r14 w14 ⟨v14, rfl, hv, hb⟩; obtain ⟨A14, c14, rfl, hl14, hF14⟩ := hv; refine ⟨_, rfl, ?_⟩; have HV14 := aM (show Kd.V kL 76 w14 0 (okQ g bm g6) (.slice A14 (addL x.f1 s.L s.now s.next depth).length c14) (addL x.f1 s.L s.now s.next depth) from ⟨A14, c14, rfl, hl14, Kd.F_mono hF14 (fun k hk => hk.elim id (fun h => okQ_new HH11.out.lt.2.1 HH11.out.lt.2.2.1 (blk_lt HX11.out) h))⟩); have HH14 := aM (HH11.out.below hb); have HX14 := aM (bB HX11.out hb); have HB14 := aM (HB11.out.trans (hb.mono HB11.out.size)); clear hl14 hF14 hb; clear hq0 hq1 hq2 hq3 hy0 hy1 hy2 hy3 hy4 hy5 hy6)
              | ((with_reducible refine gate_dst (N := 22) rfl ?_); refine box_event ?hg (N := 22) ?hd (cs := #[.slice none 0 0, .int .i64 0, .int .i64 0, .int .i64 0]) (t := 28) ?hr ?_; (case hd => rfl); (case hg => rfl); (case hr => first | (go_simp; done) | (go_simp; rfl)); intro g22 hg w15 hbox hb; have HD15 := aM hb; have HY15 := aM hbox; have G15 := aM (Nat.le_of_eq hg.symm); have HX15 := aM (bB HX14.out hb); have N622 := aM (show g6 ≠ g22 from fun e => by have := blk_lt HX14.out; omega); clear hb hbox hg; have hz0 := (bC HY15.out 0).trans (rfl : _ = some (Value.slice none 0 0)); have hz1 := (bC HY15.out 1).trans (rfl : _ = some (Value.int .i64 0)); have hz2 := (bC HY15.out 2).trans (rfl : _ = some (Value.int .i64 0)); have hz3 := (bC HY15.out 3).trans (rfl : _ = some (Value.int .i64 0)); have hfz0 := bF HY15.out 0; have hfz1 := bF HY15.out 1; have hfz2 := bF HY15.out 2; have hfz3 := bF HY15.out 3; have hq0 := (bC HX15.out 0).trans (rfl : _ = some (Value.slice A s.L.length c)); have hq1 := (bC HX15.out 1).trans (rfl : _ = some (Value.int .i64 s.now)); have hq2 := (bC HX15.out 2).trans (rfl : _ = some (Value.int .i64 s.next)); have hq3 := (bC HX15.out 3).trans (rfl : _ = some (Value.int .i64 depth)); have hfq0 := bF HX15.out 0; have hfq1 := bF HX15.out 1; have hfq2 := bF HX15.out 2; have hfq3 := bF HX15.out 3; have hne := N622.out; have hne' : g22 ≠ g6 := fun e => N622.out e.symm)
              )
            generalize hw20 : World.setCell _ ⟨g6, 3, none⟩ _ = w20
            have HS15 := aM (set4 HD15.out G15.out (.slice A14 (addL x.f1 s.L s.now s.next depth).length c14) (.int .i64 s.next) (.int .i64 (s.next + 1)) (.int .i64 depth))
            obtain ⟨sN, A20, c20, HQ20, HN20⟩ : ∃ (sN : Hs) (A20 : Option Addr) (c20 : Nat), Aside0 (Aq g bm g6 w sN depth A20 c20 w20) ∧ Aside0 (sN.next ≤ (i : Int) + 2) :=
              ⟨⟨(addL x.f1 s.L s.now s.next depth), s.next, s.next + 1⟩, A14, c14, ⟨by subst hw20; exact Aq.mk4 (HH14.out.below HS15.out) (add_inv HQ10.out.inv (by have := HN.out; have := HI80.out; omega) (fit_le HF.out)) (fars4 HX15.out N622.out _ _ _ _) (Kd.V_below HV14.out HS15.out) (HB14.out.trans (HS15.out.mono HB14.out.size)) GE6.out NG6.out⟩, ⟨by have := HN.out; show s.next + 1 ≤ (i : Int) + 2; omega⟩⟩
            clear hw20
            refine start_ (n := 25) (S := fun W => W.cell? ⟨g6, 0, none⟩ = some (.slice A20 sN.L.length c20) ∧ W.cell? ⟨g6, 1, none⟩ = some (.int .i64 sN.now) ∧ W.cell? ⟨g6, 2, none⟩ = some (.int .i64 sN.next) ∧ W.cell? ⟨g6, 3, none⟩ = some (.int .i64 depth)) (ds := []) #[tF,tF,tF,tF,tF,tF,tF,tF,tF,tF,tF,tF,tF,tF,tF,tF,tF,tF,tF,tF,tF,tF,tF,tF,tF] (by kernel_rfl) rfl rfl ⟨(bC (blk_drew HQ20.out.box) 0).trans rfl, (bC (blk_drew HQ20.out.box) 1).trans rfl, (bC (blk_drew HQ20.out.box) 2).trans rfl, (bC (blk_drew HQ20.out.box) 3).trans rfl⟩ (fun hHeld => ?_)
            have HQ21 := aM (HQ20.out.later (below_drew1 (Below.refl _ _)))
            generalize w20.drew = w21 at HQ21 hHeld ⊢
            refine sv 0 131 #[tT,tF,tF,tF,tF,tF,tF,tF,tF,tF,tF,tF,tF,tF,tF,tF,tF,tF,tF,tF,tF,tF,tF,tF,tF] ?_
            refine sv 1 132 #[tT,tT,tF,tF,tF,tF,tF,tF,tF,tF,tF,tF,tF,tF,tF,tF,tF,tF,tF,tF,tF,tF,tF,tF,tF] ?_
            refine sv 2 133 #[tT,tT,tT,tF,tF,tF,tF,tF,tF,tF,tF,tF,tF,tF,tF,tF,tF,tF,tF,tF,tF,tF,tF,tF,tF] ?_
            refine sv 3 134 #[tT,tT,tT,tT,tF,tF,tF,tF,tF,tF,tF,tF,tF,tF,tF,tF,tF,tF,tF,tF,tF,tF,tF,tF,tF] ?_
            refine sv 5 136 #[tT,tT,tT,tT,tF,tT,tF,tF,tF,tF,tF,tF,tF,tF,tF,tF,tF,tF,tF,tF,tF,tF,tF,tF,tF] ?_
            refine st 6 137 #[tT,tT,tT,tT,tF,tT,tT,tF,tF,tF,tF,tF,tF,tF,tF,tF,tF,tF,tF,tF,tF,tF,tF,tF,tF] hHeld ?_
            refine one_ (i := 4) (N := some 135) #[tT,tT,tT,tT,tT,tT,tT,tF,tF,tF,tF,tF,tF,tF,tF,tF,tF,tF,tF,tF,tF,tF,tF,tF,tF] rfl rfl (by kernel_rfl) (by decide) (fun K hK => ?_)
            refine goes_ Try.func19 (by kernel_rfl) rfl #[.pointer (some ⟨g, 0, none⟩)] (by rfl) rfl rfl (by (try simp only [List.map_toArray, List.map_cons, List.map_nil]); first | done | rfl) ?_
            (with_reducible refine (now_ok HQ21.out.hist).mono ?_)
            rintro r22 w22 ⟨rfl, hw⟩
            subst hw
            refine ⟨_, rfl, hK.out _ _ ⟨(bC HQ21.out.box 0).trans rfl, (bC HQ21.out.box 1).trans rfl, (bC HQ21.out.box 2).trans rfl, (bC HQ21.out.box 3).trans rfl⟩ (fun hHeld => ?_)⟩
            clear hK K
            refine norm_ (a' := ?_) ?_ ?_
            rotate_left
            · simp only [Act.put, List.setIfInBounds_toArray, List.set_cons_zero, List.set_cons_succ, i64_w, i32_w]
              rfl
            refine sv 7 138 #[tT,tT,tT,tT,tT,tT,tT,tT,tF,tF,tF,tF,tF,tF,tF,tF,tF,tF,tF,tF,tF,tF,tF,tF,tF] ?_
            refine sv 8 139 #[tT,tT,tT,tT,tT,tT,tT,tT,tT,tF,tF,tF,tF,tF,tF,tF,tF,tF,tF,tF,tF,tF,tF,tF,tF] ?_
            refine sv 9 140 #[tT,tT,tT,tT,tT,tT,tT,tT,tT,tT,tF,tF,tF,tF,tF,tF,tF,tF,tF,tF,tF,tF,tF,tF,tF] ?_
            refine sv 10 141 #[tT,tT,tT,tT,tT,tT,tT,tT,tT,tT,tT,tF,tF,tF,tF,tF,tF,tF,tF,tF,tF,tF,tF,tF,tF] ?_
            refine st 12 143 #[tT,tT,tT,tT,tT,tT,tT,tT,tT,tT,tT,tF,tT,tF,tF,tF,tF,tF,tF,tF,tF,tF,tF,tF,tF] hHeld ?_
            refine one_ (i := 11) (N := some 142) #[tT,tT,tT,tT,tT,tT,tT,tT,tT,tT,tT,tT,tT,tF,tF,tF,tF,tF,tF,tF,tF,tF,tF,tF,tF] rfl rfl (by kernel_rfl) (by decide) (fun K hK => ?_)
            refine goes_ Try.func21 (by kernel_rfl) rfl #[.pointer (some ⟨g, 0, none⟩)] (by rfl) rfl rfl (by (try simp only [List.map_toArray, List.map_cons, List.map_nil]); first | done | rfl) ?_
            (with_reducible refine (states_ok HQ21.out.hist HQ21.out.inv.wf).mono ?_)
            rintro r23 w23 ⟨v23, rfl, ho, hb⟩
            obtain ⟨A23, c23, rfl⟩ := Kd.R_slice ho
            have HQ23 := aM (HQ21.out.later hb)
            have HR23 := aM ho
            clear ho hb
            refine ⟨_, rfl, hK.out _ _ ⟨(bC HQ23.out.box 0).trans rfl, (bC HQ23.out.box 1).trans rfl, (bC HQ23.out.box 2).trans rfl, (bC HQ23.out.box 3).trans rfl⟩ (fun hHeld => ?_)⟩
            clear hK K
            refine norm_ (a' := ?_) ?_ ?_
            rotate_left
            · simp only [Act.put, List.setIfInBounds_toArray, List.set_cons_zero, List.set_cons_succ, i64_w, i32_w]
              rfl
            refine one_ (i := 13) (N := some 144) #[tT,tT,tT,tT,tT,tT,tT,tT,tT,tT,tT,tT,tT,tT,tF,tF,tF,tF,tF,tF,tF,tF,tF,tF,tF] rfl rfl (by kernel_rfl) (by decide) (fun K hK => ?_)
            refine goes_ Try.func22 (by kernel_rfl) rfl #[.agg #[.slice A20 sN.L.length c20, .int .i64 sN.now, .int .i64 sN.next, .int .i64 depth]] (by rfl) rfl rfl (by (try simp only [List.map_toArray, List.map_cons, List.map_nil]); first | done | rfl) ?_
            (with_reducible refine (rstates_ok HQ23.out.list (by have := HQ23.out.inv.wf.len; omega)).mono ?_)
            rintro r24 w24 ⟨A24, c24, rfl, ho, hb⟩
            have HQ24 := aM (HQ23.out.later hb)
            have HR24 := aM ho
            have HR23 := aM (Kd.R_below HR23.out hb)
            clear ho hb
            refine ⟨_, rfl, hK.out _ _ ⟨(bC HQ24.out.box 0).trans rfl, (bC HQ24.out.box 1).trans rfl, (bC HQ24.out.box 2).trans rfl, (bC HQ24.out.box 3).trans rfl⟩ (fun hHeld => ?_)⟩
            clear hK K
            refine norm_ (a' := ?_) ?_ ?_
            rotate_left
            · simp only [Act.put, List.setIfInBounds_toArray, List.set_cons_zero, List.set_cons_succ, i64_w, i32_w]
              rfl
            refine one_ (i := 14) (N := some 145) #[tT,tT,tT,tT,tT,tT,tT,tT,tT,tT,tT,tT,tT,tT,tT,tF,tF,tF,tF,tF,tF,tF,tF,tF,tF] rfl rfl (by kernel_rfl) (by decide) (fun K hK => ?_)
            refine goes_ Try.func20 (by kernel_rfl) rfl #[.slice A23 (statesL sN.L).length c23, .slice A24 (statesL sN.L).length c24] (by rfl) rfl rfl (by (try simp only [List.map_toArray, List.map_cons, List.map_nil]); first | done | rfl) ?_
            (with_reducible refine (intsL (by have := HQ23.out.inv.wf.len; unfold statesL; rw [List.length_map]; omega) HR23.out HR24.out).mono ?_)
            rintro r25 w25 ⟨rfl, nd, rfl⟩
            have HQ25 := aM (HQ24.out.later (pw_below_drewN (Below.refl _ _) nd))
            generalize w24.drewN nd = w25 at HQ25 ⊢
            refine ⟨_, rfl, hK.out _ _ ⟨(bC HQ25.out.box 0).trans rfl, (bC HQ25.out.box 1).trans rfl, (bC HQ25.out.box 2).trans rfl, (bC HQ25.out.box 3).trans rfl⟩ (fun hHeld => ?_)⟩
            clear hK K
            refine norm_ (a' := ?_) ?_ ?_
            rotate_left
            · simp only [Act.put, List.setIfInBounds_toArray, List.set_cons_zero, List.set_cons_succ, i64_w, i32_w]
              rfl
            refine sv 15 146 #[tT,tT,tT,tT,tT,tT,tT,tT,tT,tT,tT,tT,tT,tT,tT,tT,tF,tF,tF,tF,tF,tF,tF,tF,tF] ?_
            refine sv 16 147 #[tT,tT,tT,tT,tT,tT,tT,tT,tT,tT,tT,tT,tT,tT,tT,tT,tT,tF,tF,tF,tF,tF,tF,tF,tF] ?_
            refine sv 17 148 #[tT,tT,tT,tT,tT,tT,tT,tT,tT,tT,tT,tT,tT,tT,tT,tT,tT,tT,tF,tF,tF,tF,tF,tF,tF] ?_
            refine sv 18 149 #[tT,tT,tT,tT,tT,tT,tT,tT,tT,tT,tT,tT,tT,tT,tT,tT,tT,tT,tT,tF,tF,tF,tF,tF,tF] ?_
            refine st 20 151 #[tT,tT,tT,tT,tT,tT,tT,tT,tT,tT,tT,tT,tT,tT,tT,tT,tT,tT,tT,tF,tT,tF,tF,tF,tF] hHeld ?_
            refine one_ (i := 19) (N := some 150) #[tT,tT,tT,tT,tT,tT,tT,tT,tT,tT,tT,tT,tT,tT,tT,tT,tT,tT,tT,tT,tT,tF,tF,tF,tF] rfl rfl (by kernel_rfl) (by decide) (fun K hK => ?_)
            refine goes_ Try.func23 (by kernel_rfl) rfl #[.pointer (some ⟨g, 0, none⟩)] (by rfl) rfl rfl (by (try simp only [List.map_toArray, List.map_cons, List.map_nil]); first | done | rfl) ?_
            (with_reducible refine (path_ok HQ25.out.hist HQ25.out.inv.wf).mono ?_)
            rintro r26 w26 ⟨v26, rfl, ho, hb⟩
            obtain ⟨A26, c26, rfl⟩ := Kd.R_slice ho
            have HQ26 := aM (HQ25.out.later hb)
            have HR26 := aM ho
            clear ho hb
            refine ⟨_, rfl, hK.out _ _ ⟨(bC HQ26.out.box 0).trans rfl, (bC HQ26.out.box 1).trans rfl, (bC HQ26.out.box 2).trans rfl, (bC HQ26.out.box 3).trans rfl⟩ (fun hHeld => ?_)⟩
            clear hK K
            refine norm_ (a' := ?_) ?_ ?_
            rotate_left
            · simp only [Act.put, List.setIfInBounds_toArray, List.set_cons_zero, List.set_cons_succ, i64_w, i32_w]
              rfl
            refine one_ (i := 21) (N := some 152) #[tT,tT,tT,tT,tT,tT,tT,tT,tT,tT,tT,tT,tT,tT,tT,tT,tT,tT,tT,tT,tT,tT,tF,tF,tF] rfl rfl (by kernel_rfl) (by decide) (fun K hK => ?_)
            refine goes_ Try.func24 (by kernel_rfl) rfl #[.agg #[.slice A20 sN.L.length c20, .int .i64 sN.now, .int .i64 sN.next, .int .i64 depth]] (by rfl) rfl rfl (by (try simp only [List.map_toArray, List.map_cons, List.map_nil]); first | done | rfl) ?_
            (with_reducible refine (rpath_ok HQ26.out.list HQ26.out.inv.wf).mono ?_)
            rintro r27 w27 ⟨A27, c27, rfl, ho, hb⟩
            have HQ27 := aM (HQ26.out.later hb)
            have HR27 := aM ho
            have HR26 := aM (Kd.R_below HR26.out hb)
            clear ho hb
            refine ⟨_, rfl, hK.out _ _ ⟨(bC HQ27.out.box 0).trans rfl, (bC HQ27.out.box 1).trans rfl, (bC HQ27.out.box 2).trans rfl, (bC HQ27.out.box 3).trans rfl⟩ (fun hHeld => ?_)⟩
            clear hK K
            refine norm_ (a' := ?_) ?_ ?_
            rotate_left
            · simp only [Act.put, List.setIfInBounds_toArray, List.set_cons_zero, List.set_cons_succ, i64_w, i32_w]
              rfl
            refine one_ (i := 22) (N := some 153) #[tT,tT,tT,tT,tT,tT,tT,tT,tT,tT,tT,tT,tT,tT,tT,tT,tT,tT,tT,tT,tT,tT,tT,tF,tF] rfl rfl (by kernel_rfl) (by decide) (fun K hK => ?_)
            refine goes_ Try.func20 (by kernel_rfl) rfl #[.slice A26 (pathL sN.L sN.now).length c26, .slice A27 (pathL sN.L sN.now).length c27] (by rfl) rfl rfl (by (try simp only [List.map_toArray, List.map_cons, List.map_nil]); first | done | rfl) ?_
            (with_reducible refine (intsL (by have := (path_okay HQ27.out.inv).p2; omega) HR26.out HR27.out).mono ?_)
            rintro r28 w28 ⟨rfl, nd, rfl⟩
            have HQ28 := aM (HQ27.out.later (pw_below_drewN (Below.refl _ _) nd))
            generalize w27.drewN nd = w28 at HQ28 ⊢
            refine ⟨_, rfl, hK.out _ _ ⟨(bC HQ28.out.box 0).trans rfl, (bC HQ28.out.box 1).trans rfl, (bC HQ28.out.box 2).trans rfl, (bC HQ28.out.box 3).trans rfl⟩ (fun hHeld => ?_)⟩
            clear hK K
            refine norm_ (a' := ?_) ?_ ?_
            rotate_left
            · simp only [Act.put, List.setIfInBounds_toArray, List.set_cons_zero, List.set_cons_succ, i64_w, i32_w]
              rfl
            refine sv 23 154 #[tT,tT,tT,tT,tT,tT,tT,tT,tT,tT,tT,tT,tT,tT,tT,tT,tT,tT,tT,tT,tT,tT,tT,tT,tF] ?_
            refine sv 24 155 #[tT,tT,tT,tT,tT,tT,tT,tT,tT,tT,tT,tT,tT,tT,tT,tT,tT,tT,tT,tT,tT,tT,tT,tT,tT] ?_
            refine done_ (by kernel_rfl) ?_
            clear hHeld
            have e1 : wrap64 ((i : Int) + 1) = ((i + 1 : Nat) : Int) := by have := HI80.out; unfold wrap64; omega
            go_wp2
            first | rw [e1] | rw [show ((i : Int) + 1) = ((i + 1 : Nat) : Int) by omega]
            go_roundg k1
            case measure => exact Nat.lt_succ_self _
            case rel => exact ⟨i + 1, sN, A20, c20, rfl, ⟨by have := HI.out; omega⟩, ⟨by have := HN20.out; have := HI80.out; omega⟩, HQ28⟩
          case neg =>
            have hgu := aM (show goodEd x.f1 = false from by simpa using hgu)
            go_wp2_with (first
              | ((with_reducible refine gate_dst (N := 8) rfl ?_); refine box_event ?hg (N := 8) ?hd (cs := #[.int .u8 0, .int .i64 0, .string ⟨#[]⟩, .slice none 0 0, .string ⟨#[]⟩, .slice none 0 0, .bool false]) (t := 36) ?hr ?_; (case hd => rfl); (case hg => rfl); (case hr => first | (go_simp; done) | (go_simp; rfl)); intro g8 hg w8 hbox hb; have HD8 := aM hb; have HY8 := aM hbox; have GD8 := aM (Nat.le_of_eq hg.symm); clear hb hbox hg; clear hc0 hc1 hc2 hc3 hc4 hc5 hc6; have hy0 := (bC HY8.out 0).trans (rfl : _ = some (Value.int .u8 0)); have hy1 := (bC HY8.out 1).trans (rfl : _ = some (Value.int .i64 0)); have hy2 := (bC HY8.out 2).trans (rfl : _ = some (Value.string ⟨#[]⟩)); have hy3 := (bC HY8.out 3).trans (rfl : _ = some (Value.slice none 0 0)); have hy4 := (bC HY8.out 4).trans (rfl : _ = some (Value.string ⟨#[]⟩)); have hy5 := (bC HY8.out 5).trans (rfl : _ = some (Value.slice none 0 0)); have hy6 := (bC HY8.out 6).trans (rfl : _ = some (Value.bool false)); have hfy0 := bF HY8.out 0; have hfy1 := bF HY8.out 1; have hfy2 := bF HY8.out 2; have hfy3 := bF HY8.out 3; have hfy4 := bF HY8.out 4; have hfy5 := bF HY8.out 5; have hfy6 := bF HY8.out 6)
              | ((with_reducible refine gate_callee (f := 11) rfl ?_); refine goesL_ (some 58) rfl rfl Try.func11 (by kernel_rfl) rfl #[.agg #[.int .i64 x.f1.f0, .string x.f1.f1.f0, .slice A3 x.f1.f1.f1.length c3, .string x.f1.f2.f0, .slice A5 x.f1.f2.f1.length c5]] rfl (by (try simp only [List.map_toArray, List.map_cons, List.map_nil]); first | done | rfl) ?_; have HD9 := aM (set7 HD8.out GD8.out (.int .u8 x.f0) (.int .i64 x.f1.f0) (.string x.f1.f1.f0) (.slice A3 x.f1.f1.f1.length c3) (.string x.f1.f2.f0) (.slice A5 x.f1.f2.f1.length c5) (.bool x.f2)); have HQ9 := aM (HQ.out.later HD9.out); have HY9 := aM (blks7 HY8.out (.int .u8 x.f0) (.int .i64 x.f1.f0) (.string x.f1.f1.f0) (.slice A3 x.f1.f1.f1.length c3) (.string x.f1.f2.f0) (.slice A5 x.f1.f2.f1.length c5) (.bool x.f2)); (with_reducible refine (bureaulaw07_Fits.calls x.f1.f0 x.f1.f1.f0 A3 c3 x.f1.f1.f1 x.f1.f2.f0 A5 c5 x.f1.f2.f1 true _ (cB_ HEC.out.1 HQ9.out.below) HEC.out.2.1 (cB_ HEC.out.2.2.1 HQ9.out.below) HEC.out.2.2.2 HFT.out).mono ?_); rintro r9 w9 ⟨rfl, hb⟩; refine ⟨_, rfl, ?_⟩; have HQ10 := aM (HQ9.out.later hb); have HY10 := aM (bB HY9.out hb); clear hb; clear hy0 hfy0 hy1 hfy1 hy2 hfy2 hy3 hfy3 hy4 hfy4 hy5 hfy5 hy6 hfy6 HD9 HQ9 HY9 HD8 HY8; have hy0 := (bC HY10.out 0).trans (rfl : _ = some (Value.int .u8 x.f0)); have hy1 := (bC HY10.out 1).trans (rfl : _ = some (Value.int .i64 x.f1.f0)); have hy2 := (bC HY10.out 2).trans (rfl : _ = some (Value.string x.f1.f1.f0)); have hy3 := (bC HY10.out 3).trans (rfl : _ = some (Value.slice A3 x.f1.f1.f1.length c3)); have hy4 := (bC HY10.out 4).trans (rfl : _ = some (Value.string x.f1.f2.f0)); have hy5 := (bC HY10.out 5).trans (rfl : _ = some (Value.slice A5 x.f1.f2.f1.length c5)); have hy6 := (bC HY10.out 6).trans (rfl : _ = some (Value.bool x.f2)))
              | ((with_reducible refine gate_callee (f := 17) rfl ?_); refine goesL_ (some 67) rfl rfl Try.func17 (by kernel_rfl) rfl #[.pointer (some ⟨g, 0, none⟩), edV x.f1 A3 c3 A5 c5] rfl (by (try simp only [List.map_toArray, List.map_cons, List.map_nil]); first | done | rfl) ?_; have hEd := EdIn.old (S := s6 g bm g6) (HE.out (fit_le HF.out)) HQ10.out.below (fun k hk hs => by rcases hs with rfl | rfl | rfl; exact absurd hk (Nat.not_lt.2 HQ10.out.hist.bg); exact absurd hk (Nat.not_lt.2 HQ10.out.hist.bb); exact absurd hk (Nat.not_lt.2 GE6.out)); (with_reducible refine (add_bad HQ10.out.hist hEd hgu.out).mono ?_); rintro r11 w11 ⟨rfl, hb⟩; refine ⟨_, rfl, ?_⟩; have HQ11 := aM (HQ10.out.later hb); have HX11 := aM HQ11.out.box; have HY11 := aM (bB HY10.out hb); have HE11 := aM (hEd.below hb); clear hb hEd; clear hy0 hy1 hy2 hy3 hy4 hy5 hy6; have hq0 := (bC HX11.out 0).trans (rfl : _ = some (Value.slice A s.L.length c)); have hq1 := (bC HX11.out 1).trans (rfl : _ = some (Value.int .i64 s.now)); have hq2 := (bC HX11.out 2).trans (rfl : _ = some (Value.int .i64 s.next)); have hq3 := (bC HX11.out 3).trans (rfl : _ = some (Value.int .i64 depth)); have hy0 := (bC HY11.out 0).trans (rfl : _ = some (Value.int .u8 x.f0)); have hy1 := (bC HY11.out 1).trans (rfl : _ = some (Value.int .i64 x.f1.f0)); have hy2 := (bC HY11.out 2).trans (rfl : _ = some (Value.string x.f1.f1.f0)); have hy3 := (bC HY11.out 3).trans (rfl : _ = some (Value.slice A3 x.f1.f1.f1.length c3)); have hy4 := (bC HY11.out 4).trans (rfl : _ = some (Value.string x.f1.f2.f0)); have hy5 := (bC HY11.out 5).trans (rfl : _ = some (Value.slice A5 x.f1.f2.f1.length c5)); have hy6 := (bC HY11.out 6).trans (rfl : _ = some (Value.bool x.f2)))
              | ((with_reducible refine gate_callee (f := 18) rfl ?_); refine goesL_ (some 74) rfl rfl Try.func18 (by kernel_rfl) rfl #[.agg #[.slice A s.L.length c, .int .i64 s.now, .int .i64 s.next, .int .i64 depth], edV x.f1 A3 c3 A5 c5] rfl (by (try simp only [List.map_toArray, List.map_cons, List.map_nil]); first | done | rfl) ?_; (with_reducible refine (radd_bad HE11.out hgu.out).mono ?_); rintro r14 w14 ⟨rfl, hb⟩; refine ⟨_, rfl, ?_⟩; have HQ14 := aM (HQ11.out.later hb); have HV14 := aM HQ14.out.list; have HH14 := aM HQ14.out.hist; have HX14 := aM HQ14.out.box; have HB14 := aM HQ14.out.below; clear hb; clear hq0 hq1 hq2 hq3 hy0 hy1 hy2 hy3 hy4 hy5 hy6)
              | ((with_reducible refine gate_dst (N := 22) rfl ?_); refine box_event ?hg (N := 22) ?hd (cs := #[.slice none 0 0, .int .i64 0, .int .i64 0, .int .i64 0]) (t := 28) ?hr ?_; (case hd => rfl); (case hg => rfl); (case hr => first | (go_simp; done) | (go_simp; rfl)); intro g22 hg w15 hbox hb; have HD15 := aM hb; have HY15 := aM hbox; have G15 := aM (Nat.le_of_eq hg.symm); have HX15 := aM (bB HX14.out hb); have N622 := aM (show g6 ≠ g22 from fun e => by have := blk_lt HX14.out; omega); clear hb hbox hg; have hz0 := (bC HY15.out 0).trans (rfl : _ = some (Value.slice none 0 0)); have hz1 := (bC HY15.out 1).trans (rfl : _ = some (Value.int .i64 0)); have hz2 := (bC HY15.out 2).trans (rfl : _ = some (Value.int .i64 0)); have hz3 := (bC HY15.out 3).trans (rfl : _ = some (Value.int .i64 0)); have hfz0 := bF HY15.out 0; have hfz1 := bF HY15.out 1; have hfz2 := bF HY15.out 2; have hfz3 := bF HY15.out 3; have hq0 := (bC HX15.out 0).trans (rfl : _ = some (Value.slice A s.L.length c)); have hq1 := (bC HX15.out 1).trans (rfl : _ = some (Value.int .i64 s.now)); have hq2 := (bC HX15.out 2).trans (rfl : _ = some (Value.int .i64 s.next)); have hq3 := (bC HX15.out 3).trans (rfl : _ = some (Value.int .i64 depth)); have hfq0 := bF HX15.out 0; have hfq1 := bF HX15.out 1; have hfq2 := bF HX15.out 2; have hfq3 := bF HX15.out 3; have hne := N622.out; have hne' : g22 ≠ g6 := fun e => N622.out e.symm)
              )
            generalize hw20 : World.setCell _ ⟨g6, 3, none⟩ _ = w20
            have HS15 := aM (set4 HD15.out G15.out (.slice A s.L.length c) (.int .i64 s.now) (.int .i64 s.next) (.int .i64 depth))
            obtain ⟨sN, A20, c20, HQ20, HN20⟩ : ∃ (sN : Hs) (A20 : Option Addr) (c20 : Nat), Aside0 (Aq g bm g6 w sN depth A20 c20 w20) ∧ Aside0 (sN.next ≤ (i : Int) + 2) :=
              ⟨s, A, c, ⟨by subst hw20; exact Aq.mk4 (HH14.out.below HS15.out) HQ10.out.inv (fars4 HX15.out N622.out _ _ _ _) (Kd.V_below HV14.out HS15.out) (HB14.out.trans (HS15.out.mono HB14.out.size)) GE6.out NG6.out⟩, ⟨by have := HN.out; omega⟩⟩
            clear hw20
            refine start_ (n := 25) (S := fun W => W.cell? ⟨g6, 0, none⟩ = some (.slice A20 sN.L.length c20) ∧ W.cell? ⟨g6, 1, none⟩ = some (.int .i64 sN.now) ∧ W.cell? ⟨g6, 2, none⟩ = some (.int .i64 sN.next) ∧ W.cell? ⟨g6, 3, none⟩ = some (.int .i64 depth)) (ds := []) #[tF,tF,tF,tF,tF,tF,tF,tF,tF,tF,tF,tF,tF,tF,tF,tF,tF,tF,tF,tF,tF,tF,tF,tF,tF] (by kernel_rfl) rfl rfl ⟨(bC (blk_drew HQ20.out.box) 0).trans rfl, (bC (blk_drew HQ20.out.box) 1).trans rfl, (bC (blk_drew HQ20.out.box) 2).trans rfl, (bC (blk_drew HQ20.out.box) 3).trans rfl⟩ (fun hHeld => ?_)
            have HQ21 := aM (HQ20.out.later (below_drew1 (Below.refl _ _)))
            generalize w20.drew = w21 at HQ21 hHeld ⊢
            refine sv 0 131 #[tT,tF,tF,tF,tF,tF,tF,tF,tF,tF,tF,tF,tF,tF,tF,tF,tF,tF,tF,tF,tF,tF,tF,tF,tF] ?_
            refine sv 1 132 #[tT,tT,tF,tF,tF,tF,tF,tF,tF,tF,tF,tF,tF,tF,tF,tF,tF,tF,tF,tF,tF,tF,tF,tF,tF] ?_
            refine sv 2 133 #[tT,tT,tT,tF,tF,tF,tF,tF,tF,tF,tF,tF,tF,tF,tF,tF,tF,tF,tF,tF,tF,tF,tF,tF,tF] ?_
            refine sv 3 134 #[tT,tT,tT,tT,tF,tF,tF,tF,tF,tF,tF,tF,tF,tF,tF,tF,tF,tF,tF,tF,tF,tF,tF,tF,tF] ?_
            refine sv 5 136 #[tT,tT,tT,tT,tF,tT,tF,tF,tF,tF,tF,tF,tF,tF,tF,tF,tF,tF,tF,tF,tF,tF,tF,tF,tF] ?_
            refine st 6 137 #[tT,tT,tT,tT,tF,tT,tT,tF,tF,tF,tF,tF,tF,tF,tF,tF,tF,tF,tF,tF,tF,tF,tF,tF,tF] hHeld ?_
            refine one_ (i := 4) (N := some 135) #[tT,tT,tT,tT,tT,tT,tT,tF,tF,tF,tF,tF,tF,tF,tF,tF,tF,tF,tF,tF,tF,tF,tF,tF,tF] rfl rfl (by kernel_rfl) (by decide) (fun K hK => ?_)
            refine goes_ Try.func19 (by kernel_rfl) rfl #[.pointer (some ⟨g, 0, none⟩)] (by rfl) rfl rfl (by (try simp only [List.map_toArray, List.map_cons, List.map_nil]); first | done | rfl) ?_
            (with_reducible refine (now_ok HQ21.out.hist).mono ?_)
            rintro r22 w22 ⟨rfl, hw⟩
            subst hw
            refine ⟨_, rfl, hK.out _ _ ⟨(bC HQ21.out.box 0).trans rfl, (bC HQ21.out.box 1).trans rfl, (bC HQ21.out.box 2).trans rfl, (bC HQ21.out.box 3).trans rfl⟩ (fun hHeld => ?_)⟩
            clear hK K
            refine norm_ (a' := ?_) ?_ ?_
            rotate_left
            · simp only [Act.put, List.setIfInBounds_toArray, List.set_cons_zero, List.set_cons_succ, i64_w, i32_w]
              rfl
            refine sv 7 138 #[tT,tT,tT,tT,tT,tT,tT,tT,tF,tF,tF,tF,tF,tF,tF,tF,tF,tF,tF,tF,tF,tF,tF,tF,tF] ?_
            refine sv 8 139 #[tT,tT,tT,tT,tT,tT,tT,tT,tT,tF,tF,tF,tF,tF,tF,tF,tF,tF,tF,tF,tF,tF,tF,tF,tF] ?_
            refine sv 9 140 #[tT,tT,tT,tT,tT,tT,tT,tT,tT,tT,tF,tF,tF,tF,tF,tF,tF,tF,tF,tF,tF,tF,tF,tF,tF] ?_
            refine sv 10 141 #[tT,tT,tT,tT,tT,tT,tT,tT,tT,tT,tT,tF,tF,tF,tF,tF,tF,tF,tF,tF,tF,tF,tF,tF,tF] ?_
            refine st 12 143 #[tT,tT,tT,tT,tT,tT,tT,tT,tT,tT,tT,tF,tT,tF,tF,tF,tF,tF,tF,tF,tF,tF,tF,tF,tF] hHeld ?_
            refine one_ (i := 11) (N := some 142) #[tT,tT,tT,tT,tT,tT,tT,tT,tT,tT,tT,tT,tT,tF,tF,tF,tF,tF,tF,tF,tF,tF,tF,tF,tF] rfl rfl (by kernel_rfl) (by decide) (fun K hK => ?_)
            refine goes_ Try.func21 (by kernel_rfl) rfl #[.pointer (some ⟨g, 0, none⟩)] (by rfl) rfl rfl (by (try simp only [List.map_toArray, List.map_cons, List.map_nil]); first | done | rfl) ?_
            (with_reducible refine (states_ok HQ21.out.hist HQ21.out.inv.wf).mono ?_)
            rintro r23 w23 ⟨v23, rfl, ho, hb⟩
            obtain ⟨A23, c23, rfl⟩ := Kd.R_slice ho
            have HQ23 := aM (HQ21.out.later hb)
            have HR23 := aM ho
            clear ho hb
            refine ⟨_, rfl, hK.out _ _ ⟨(bC HQ23.out.box 0).trans rfl, (bC HQ23.out.box 1).trans rfl, (bC HQ23.out.box 2).trans rfl, (bC HQ23.out.box 3).trans rfl⟩ (fun hHeld => ?_)⟩
            clear hK K
            refine norm_ (a' := ?_) ?_ ?_
            rotate_left
            · simp only [Act.put, List.setIfInBounds_toArray, List.set_cons_zero, List.set_cons_succ, i64_w, i32_w]
              rfl
            refine one_ (i := 13) (N := some 144) #[tT,tT,tT,tT,tT,tT,tT,tT,tT,tT,tT,tT,tT,tT,tF,tF,tF,tF,tF,tF,tF,tF,tF,tF,tF] rfl rfl (by kernel_rfl) (by decide) (fun K hK => ?_)
            refine goes_ Try.func22 (by kernel_rfl) rfl #[.agg #[.slice A20 sN.L.length c20, .int .i64 sN.now, .int .i64 sN.next, .int .i64 depth]] (by rfl) rfl rfl (by (try simp only [List.map_toArray, List.map_cons, List.map_nil]); first | done | rfl) ?_
            (with_reducible refine (rstates_ok HQ23.out.list (by have := HQ23.out.inv.wf.len; omega)).mono ?_)
            rintro r24 w24 ⟨A24, c24, rfl, ho, hb⟩
            have HQ24 := aM (HQ23.out.later hb)
            have HR24 := aM ho
            have HR23 := aM (Kd.R_below HR23.out hb)
            clear ho hb
            refine ⟨_, rfl, hK.out _ _ ⟨(bC HQ24.out.box 0).trans rfl, (bC HQ24.out.box 1).trans rfl, (bC HQ24.out.box 2).trans rfl, (bC HQ24.out.box 3).trans rfl⟩ (fun hHeld => ?_)⟩
            clear hK K
            refine norm_ (a' := ?_) ?_ ?_
            rotate_left
            · simp only [Act.put, List.setIfInBounds_toArray, List.set_cons_zero, List.set_cons_succ, i64_w, i32_w]
              rfl
            refine one_ (i := 14) (N := some 145) #[tT,tT,tT,tT,tT,tT,tT,tT,tT,tT,tT,tT,tT,tT,tT,tF,tF,tF,tF,tF,tF,tF,tF,tF,tF] rfl rfl (by kernel_rfl) (by decide) (fun K hK => ?_)
            refine goes_ Try.func20 (by kernel_rfl) rfl #[.slice A23 (statesL sN.L).length c23, .slice A24 (statesL sN.L).length c24] (by rfl) rfl rfl (by (try simp only [List.map_toArray, List.map_cons, List.map_nil]); first | done | rfl) ?_
            (with_reducible refine (intsL (by have := HQ23.out.inv.wf.len; unfold statesL; rw [List.length_map]; omega) HR23.out HR24.out).mono ?_)
            rintro r25 w25 ⟨rfl, nd, rfl⟩
            have HQ25 := aM (HQ24.out.later (pw_below_drewN (Below.refl _ _) nd))
            generalize w24.drewN nd = w25 at HQ25 ⊢
            refine ⟨_, rfl, hK.out _ _ ⟨(bC HQ25.out.box 0).trans rfl, (bC HQ25.out.box 1).trans rfl, (bC HQ25.out.box 2).trans rfl, (bC HQ25.out.box 3).trans rfl⟩ (fun hHeld => ?_)⟩
            clear hK K
            refine norm_ (a' := ?_) ?_ ?_
            rotate_left
            · simp only [Act.put, List.setIfInBounds_toArray, List.set_cons_zero, List.set_cons_succ, i64_w, i32_w]
              rfl
            refine sv 15 146 #[tT,tT,tT,tT,tT,tT,tT,tT,tT,tT,tT,tT,tT,tT,tT,tT,tF,tF,tF,tF,tF,tF,tF,tF,tF] ?_
            refine sv 16 147 #[tT,tT,tT,tT,tT,tT,tT,tT,tT,tT,tT,tT,tT,tT,tT,tT,tT,tF,tF,tF,tF,tF,tF,tF,tF] ?_
            refine sv 17 148 #[tT,tT,tT,tT,tT,tT,tT,tT,tT,tT,tT,tT,tT,tT,tT,tT,tT,tT,tF,tF,tF,tF,tF,tF,tF] ?_
            refine sv 18 149 #[tT,tT,tT,tT,tT,tT,tT,tT,tT,tT,tT,tT,tT,tT,tT,tT,tT,tT,tT,tF,tF,tF,tF,tF,tF] ?_
            refine st 20 151 #[tT,tT,tT,tT,tT,tT,tT,tT,tT,tT,tT,tT,tT,tT,tT,tT,tT,tT,tT,tF,tT,tF,tF,tF,tF] hHeld ?_
            refine one_ (i := 19) (N := some 150) #[tT,tT,tT,tT,tT,tT,tT,tT,tT,tT,tT,tT,tT,tT,tT,tT,tT,tT,tT,tT,tT,tF,tF,tF,tF] rfl rfl (by kernel_rfl) (by decide) (fun K hK => ?_)
            refine goes_ Try.func23 (by kernel_rfl) rfl #[.pointer (some ⟨g, 0, none⟩)] (by rfl) rfl rfl (by (try simp only [List.map_toArray, List.map_cons, List.map_nil]); first | done | rfl) ?_
            (with_reducible refine (path_ok HQ25.out.hist HQ25.out.inv.wf).mono ?_)
            rintro r26 w26 ⟨v26, rfl, ho, hb⟩
            obtain ⟨A26, c26, rfl⟩ := Kd.R_slice ho
            have HQ26 := aM (HQ25.out.later hb)
            have HR26 := aM ho
            clear ho hb
            refine ⟨_, rfl, hK.out _ _ ⟨(bC HQ26.out.box 0).trans rfl, (bC HQ26.out.box 1).trans rfl, (bC HQ26.out.box 2).trans rfl, (bC HQ26.out.box 3).trans rfl⟩ (fun hHeld => ?_)⟩
            clear hK K
            refine norm_ (a' := ?_) ?_ ?_
            rotate_left
            · simp only [Act.put, List.setIfInBounds_toArray, List.set_cons_zero, List.set_cons_succ, i64_w, i32_w]
              rfl
            refine one_ (i := 21) (N := some 152) #[tT,tT,tT,tT,tT,tT,tT,tT,tT,tT,tT,tT,tT,tT,tT,tT,tT,tT,tT,tT,tT,tT,tF,tF,tF] rfl rfl (by kernel_rfl) (by decide) (fun K hK => ?_)
            refine goes_ Try.func24 (by kernel_rfl) rfl #[.agg #[.slice A20 sN.L.length c20, .int .i64 sN.now, .int .i64 sN.next, .int .i64 depth]] (by rfl) rfl rfl (by (try simp only [List.map_toArray, List.map_cons, List.map_nil]); first | done | rfl) ?_
            (with_reducible refine (rpath_ok HQ26.out.list HQ26.out.inv.wf).mono ?_)
            rintro r27 w27 ⟨A27, c27, rfl, ho, hb⟩
            have HQ27 := aM (HQ26.out.later hb)
            have HR27 := aM ho
            have HR26 := aM (Kd.R_below HR26.out hb)
            clear ho hb
            refine ⟨_, rfl, hK.out _ _ ⟨(bC HQ27.out.box 0).trans rfl, (bC HQ27.out.box 1).trans rfl, (bC HQ27.out.box 2).trans rfl, (bC HQ27.out.box 3).trans rfl⟩ (fun hHeld => ?_)⟩
            clear hK K
            refine norm_ (a' := ?_) ?_ ?_
            rotate_left
            · simp only [Act.put, List.setIfInBounds_toArray, List.set_cons_zero, List.set_cons_succ, i64_w, i32_w]
              rfl
            refine one_ (i := 22) (N := some 153) #[tT,tT,tT,tT,tT,tT,tT,tT,tT,tT,tT,tT,tT,tT,tT,tT,tT,tT,tT,tT,tT,tT,tT,tF,tF] rfl rfl (by kernel_rfl) (by decide) (fun K hK => ?_)
            refine goes_ Try.func20 (by kernel_rfl) rfl #[.slice A26 (pathL sN.L sN.now).length c26, .slice A27 (pathL sN.L sN.now).length c27] (by rfl) rfl rfl (by (try simp only [List.map_toArray, List.map_cons, List.map_nil]); first | done | rfl) ?_
            (with_reducible refine (intsL (by have := (path_okay HQ27.out.inv).p2; omega) HR26.out HR27.out).mono ?_)
            rintro r28 w28 ⟨rfl, nd, rfl⟩
            have HQ28 := aM (HQ27.out.later (pw_below_drewN (Below.refl _ _) nd))
            generalize w27.drewN nd = w28 at HQ28 ⊢
            refine ⟨_, rfl, hK.out _ _ ⟨(bC HQ28.out.box 0).trans rfl, (bC HQ28.out.box 1).trans rfl, (bC HQ28.out.box 2).trans rfl, (bC HQ28.out.box 3).trans rfl⟩ (fun hHeld => ?_)⟩
            clear hK K
            refine norm_ (a' := ?_) ?_ ?_
            rotate_left
            · simp only [Act.put, List.setIfInBounds_toArray, List.set_cons_zero, List.set_cons_succ, i64_w, i32_w]
              rfl
            refine sv 23 154 #[tT,tT,tT,tT,tT,tT,tT,tT,tT,tT,tT,tT,tT,tT,tT,tT,tT,tT,tT,tT,tT,tT,tT,tT,tF] ?_
            refine sv 24 155 #[tT,tT,tT,tT,tT,tT,tT,tT,tT,tT,tT,tT,tT,tT,tT,tT,tT,tT,tT,tT,tT,tT,tT,tT,tT] ?_
            refine done_ (by kernel_rfl) ?_
            clear hHeld
            have e1 : wrap64 ((i : Int) + 1) = ((i + 1 : Nat) : Int) := by have := HI80.out; unfold wrap64; omega
            go_wp2
            first | rw [e1] | rw [show ((i : Int) + 1) = ((i + 1 : Nat) : Int) by omega]
            go_roundg k1
            case measure => exact Nat.lt_succ_self _
            case rel => exact ⟨i + 1, sN, A20, c20, rfl, ⟨by have := HI.out; omega⟩, ⟨by have := HN20.out; have := HI80.out; omega⟩, HQ28⟩
      · have d1 : decide ((i : Int) < (l.length : Int)) = true := decide_eq_true (by omega)
        have d2 : decide ((i : Int) < 80) = false := decide_eq_false (by omega)
        have d3 : ((i : Int) < 80) = False := eq_false (by omega)
        have d3n : (i < 80) = False := eq_false b2
        go_wp2
        go_ret
        exact ⟨rfl, HQ.out.below⟩
    · have d1 : decide ((i : Int) < (l.length : Int)) = false := decide_eq_false (by omega)
      have d2 : ((i : Int) < (l.length : Int)) = False := eq_false (by omega)
      have d2n : (i < l.length) = False := eq_false b1
      go_wp2
      go_ret
      exact ⟨rfl, HQ.out.below⟩
end Go.Proofs.Ytbbgpfjeobdogaa.PB
end

section
namespace Go.Proofs.Ytbbgpfjeobdogaa.PB
open Go.RowKit Go.Proofs.YtbbgpfjeobdogaaW.PrintWords
set_option linter.unusedVariables false
theorem u8_wf {n : Int} (h : (Lit.int .u8 n).wf = true) : 0 ≤ n ∧ n < 256 := by
  simp only [Lit.wf, Bool.and_eq_true, decide_eq_true_eq, show IntKind.u8.min = 0 from rfl, show IntKind.u8.max = 255 from rfl] at h
  omega
end Go.Proofs.Ytbbgpfjeobdogaa.PB
end

section
namespace Go.Proofs.Ytbbgpfjeobdogaa.PB
open Go.RowKit Go.Proofs.YtbbgpfjeobdogaaW.PrintWords
set_option linter.unusedVariables false
theorem HistActs_pure (a0 : Int) (l1 : List S36) (w0 : (Lit.int .i64 a0).wf = true) (w1 : l1.length * 104 ≤ 140737488351232 ∧ ∀ x_ ∈ l1, wf36 x_) : ∃ k, bureaulaw08_HistActs.f k a0 l1 = some true :=
  ⟨0, if_pos (fun x hx => u8_wf (w1.2 x hx).1)⟩
end Go.Proofs.Ytbbgpfjeobdogaa.PB
end

section
namespace Go.Proofs.Ytbbgpfjeobdogaa.PB
open Go.ChangeShapes Go.WideShapes Go.ChangeAt Go.RowKit Go.Proofs.YtbbgpfjeobdogaaW.PrintWords
open Go.ChangeMaps (open_string shut_string)
set_option linter.unusedVariables false
namespace histActs
open Go.Proofs.Ytbbgpfjeobdogaa
theorem own : ownKnob Try.prog.godebug = none := by kernel_rfl
theorem laidOut : laidOutB Try.prog = true := by kernel_rfl
set_option maxRecDepth 100000 in
theorem lifted (os : Os) (started : os.Started) (H : Type) (enc : TypeId × Value → H) :
    ReturnsInHanded {} Try.checked os 3 .any (Rows.histActsSpec.pre6 enc Try.prog Try.f3 Rows.histActsRow.domain false) (Rows.histActsSpec.post enc Try.prog Try.f3 false true false false) := by
  refine returnsInHanded_of_change_sized (C := Try.checked) own started (by kernel_rfl) Try.func3
    (ChangeSpec.witness6 (enc := enc) (C := Try.checked) false ⟨#[], #[.int .i64 0, .slice none 0 0], []⟩ 8 (by kernel_rfl) (by kernel_rfl) (by kernel_rfl) (by kernel_rfl)) ?_
  intro W base args ds gs before hval0 hW hcnd hsz0 _
  have hsz : (DataW.weightsEach Try.prog (Try.f3.params.toList ++ Rows.histActsSpec.plain.varTypes Try.prog) (ds ++ gs)).all (· ≤ reachBytes) = true := hsz0
  have hval : ∀ (j : Nat) t v, Try.f3.params[j]? = some t → args[j]? = some v → Value.okWide Try.prog W .any base t v := hval0
  have hW' := hW
  obtain ⟨p, q, hA0, hV, rfl, hfz, hnd⟩ := hW
  have hA : DataW.TrodAll enc Try.prog W 0 (fun _ => true) true Try.f3.params.toList args.toList ds p := hA0
  rw [Try.params3] at hA hval hsz
  obtain ⟨v0, vs0, d0, ds0, p0, q0, hargs, rfl, rfl, h0, r0⟩ := trodAll_cons hA
  obtain ⟨v1, vs1, d1, ds1, p1, q1, rfl, rfl, rfl, h1, r1⟩ := trodAll_cons r0
  obtain ⟨rfl, rfl, rfl⟩ := trodAll_nil r1
  obtain rfl : args = #[v0, v1] := by cases args; simp_all
  obtain ⟨rfl, rfl⟩ := trodVars_none hV
  obtain ⟨a0, rfl, rfl, rfl, w0⟩ := open_int Try.underlying3 (hval 0 3 v0 rfl rfl) h0
  have hz1 : ∀ n ∈ d1.weights Try.prog 22, n ≤ reachBytes := fun n hn => by have z := List.all_eq_true.1 hsz n (DataW.weights_mem_each (j := 1) rfl rfl n hn); simpa using z
  have kk1 := h1
  have lt1 : ∀ x ∈ p1, x.block < W.heap.size := by obtain ⟨m, hm⟩ := kk1; exact DataW.trod_lt m _ _ _ hm
  obtain ⟨A1, len1, c1, rfl⟩ := okWide_slice Try.underlying22 (hval 1 22 v1 rfl rfl)
  obtain ⟨l1, A1', c1', hcs1, hc1, hr1, w1⟩ : ∃ (l : List S36) (A' : Option Addr) (c' : Nat), (Value.slice A1 len1 c1).cells.toList = [.slice A' l.length c'] ∧ l.length ≤ c' ∧ Kd.C k36 W A' l.length l ∧ (l.length * 104 ≤ 140737488351232 ∧ ∀ x_ ∈ l, wf36 x_) := by
    obtain ⟨fuel, hf⟩ := h1
    obtain ⟨l, ⟨A', c', h1, h2, h3⟩, h4⟩ := (Opn.slice Try.underlying22 (by kernel_rfl) (by kernel_rfl : Try.prog.bytesOf 36 = 104) opn36) H enc _ _ _ fuel _ _ hf hz1
    exact ⟨l, A', c', h1, h2, h3, h4⟩
  simp only [Value.cells, List.cons.injEq, Value.slice.injEq, and_true] at hcs1
  obtain ⟨rfl, rfl, rfl⟩ := hcs1
  clear hA0 hval0 hsz0 hsz
  obtain ⟨k, hk⟩ := HistActs_pure a0 l1 w0 w1
  refine (bureaulaw08_HistActs.calls k a0 _ _ l1 true W hr1 hc1 hk).mono fun e W' ⟨he, bel⟩ => ?_
  subst he
  exact ⟨_, rfl, _, _, _, [], _, [], hW', trodAll_mk1 (shut_bool Try.underlying4 _), (trodAll_cons_mk (shut_int Try.underlying3 w0) (trodAll_cons_mk (Below.trod laidOut (by kernel_rfl) (of_decide_eq_true (by kernel_rfl)) kk1 bel lt1) trodAll_mk0)), rfl, bel.frame _, fun h => by cases h⟩
theorem over : Rows.histActsRow.holds Try.pinned (OpenSpec.ofChange Rows.histActsSpec) :=
  OpenClaim.holds_of_wide 3 Try.f3 rfl rfl rfl rfl rfl rfl rfl ⟨rfl, rfl, rfl, rfl, rfl⟩ rfl rfl rfl rfl rfl (by kernel_rfl) Try.func3 (by kernel_rfl)
    (of_decide_eq_true (by kernel_rfl)) (by unfold Func.isWrapper; first | (rw [if_pos (by decide +kernel)]; kernel_rfl) | (rw [if_neg (by decide +kernel)]; exact ⟨rfl, rfl⟩))
    (fun os started H enc _ => lifted os started H enc)
theorem proved : Rows.HistActsSaid := over
end histActs
end Go.Proofs.Ytbbgpfjeobdogaa.PB
namespace Go.Proofs.Ytbbgpfjeobdogaa
theorem histActs_holds : Rows.HistActsSaid := PB.histActs.proved
#print axioms histActs_holds
end Go.Proofs.Ytbbgpfjeobdogaa
end
